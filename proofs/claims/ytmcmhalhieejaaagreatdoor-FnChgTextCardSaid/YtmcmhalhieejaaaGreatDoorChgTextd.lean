/- Walks. -/
import Derived.Test.YtmcmhalhieejaaaGreatDoorChgTextc
set_option maxRecDepth 100000
set_option maxHeartbeats 4000000
set_option linter.unusedSimpArgs false
set_option linter.unusedVariables false
namespace Go.Proofs.YtmcmhalhieejaaaGreatDoor
open Go Go.RowKit
def pY(m:Nat)(e:Ending):Prop:=∃t:ByteArray,e=.returned (.string t)∧t.size≤m
theorem BG(w:World)(rb p:Nat)(v:Value)(zs:List Int)(s:ByteArray)(h:gy w rb v zs p)(hp:p≤900000)(hs:s.size≤100000000):
    Calls Tryz.prog 17 #[.pointer (some ⟨rb,0,none⟩),.string s] w fun e w'=>pY (s.size+1) e∧(∃q,q≤p+4∧gy w' rb v zs q)∧Kp (·=rb) w w':=by
 have Ar:=Zy (bQ w rb p v zs (s.size+1) h (by omega) (by omega));clear h;go_enter Tryz.func17,Tryz.ntmps17;go_wp2_with fail;refine Ar.o.mono ?_;rintro e w1 ⟨⟨k,rfl,hk⟩,Lf,Lb⟩;have Bo:k≤s.size:=by omega
 have KF:=Zy (bQ w1 rb (p+1) v zs 256 Lf (by omega) (by omega));have AZ:=Zy Lb;clear Lf Lb hk;go_wp2_with fail;refine KF.o.mono ?_;rintro e w2 ⟨⟨c,rfl,hc⟩,AJ,au⟩;obtain⟨w3,gm⟩:∃w3,w3=w2.alloc (.cells #[.int .i64 32,.int .i64 48,.int .i64 49,.int .i64 57,.int .i64 45,.int .i64 97,.int .i64 35,.int .i64 63,.int .i64 33,.int .i64 47,.int .i64 c] 3):=⟨_,rfl⟩;have dX:Ext w2 w3:=by rw[gm];exact kx
 have eQ:Zz (az w3 w2.heap.size 3 #[.int .i64 32,.int .i64 48,.int .i64 49,.int .i64 57,.int .i64 45,.int .i64 97,.int .i64 35,.int .i64 63,.int .i64 33,.int .i64 47,.int .i64 c]):=Zy (by rw[gm];exact az.new _ _ _);have EW:=Zy (bQ w3 rb (p+1+1) v zs 11 (AJ.ext dX) (by omega) (by omega));have EN:=Zy ((AZ.o.trans au).trans dX.any);have HZ:Zz (rb<w2.heap.size):=Zy AJ.blk.lt;have mY:=Zy gm;clear AJ au dX gm;go_wp2_with fail;rw[←mY.o];refine EW.o.mono ?_;rintro e w4 ⟨⟨j,rfl,hj⟩,FJ,Cm⟩;have FW:j<11:=by omega
 have uU:=eQ.o.kp Cm (by have:=HZ.o;omega);obtain⟨d,hd,LG,LH⟩:∃d:Int,w4.cell? ⟨w2.heap.size,j,none⟩=some (.int .i64 d)∧0≤d∧d<256:=by
  have zx:=uU.cell j;have:j=0∨j=1∨j=2∨j=3∨j=4∨j=5∨j=6∨j=7∨j=8∨j=9∨j=10:=by omega
  rcases this with rfl|rfl|rfl|rfl|rfl|rfl|rfl|rfl|rfl|rfl|rfl
  all_goals first|exact⟨_,zx,by omega,by omega⟩|skip
 have IJ:=Zy FJ;have Iw:=Zy (EN.o.trans Cm);have NU:=ax hd;clear FJ Cm uU hj hc;have sw:=ll w4 d LG LH;obtain⟨w5,dA⟩:∃w5,w5=w4.alloc (.cells #[.int .u8 d] 5):=⟨_,rfl⟩;have bg:Ext w4 w5:=by rw[dA];exact kx
 have EX:=Zy (bQ w5 rb (p+1+1+1) v zs 3 (IJ.o.ext bg) (by omega) (by omega));have Ap:=Zy (Iw.o.trans bg.any);have kV:=Zy dA;clear bg dA;go_wp2_with fail;rw[←kV.o];refine EX.o.mono ?_;rintro e w6 ⟨⟨m,rfl,hm⟩,Li,Cn⟩;have C9:Zz (∃q,q≤p+4∧gy w6 rb v zs q):=Zy ⟨_,by omega,Li⟩;have Cb:=Zy (Ap.o.trans Cn);clear Li Cn NU hd Ar KF EW EX sw;obtain⟨u,hu⟩:∃u,M.bs [UInt8.ofNat d.toNat]=u:=⟨_,rfl⟩;have J4:u.size=1:=by rw[←hu];rfl
 rw[hu];have z1:(s.extract 0 k).size=k:=by rw[ByteArray.size_extract];omega
 have z2:(s.extract k s.size).size=s.size - k:=by rw[ByteArray.size_extract];omega
 have z3:(s.extract (k+1) s.size).size=s.size - (k+1):=by rw[ByteArray.size_extract];omega
 have Od:m=0∨m=1∨m=2:=by omega
 clear hm hu LG LH;rcases Od with rfl|rfl|rfl
 · go_wp2_with fail;go_quiet (fail);go_wp2_with fail;go_ret;refine⟨⟨_,rfl,?_⟩,?_,Cb.o.drewN _⟩
   · simp only[ByteArray.size_append,J4,z1,z2,z3];omega
   · obtain⟨q,hq,hr⟩:=C9.o;exact⟨q,hq,hr.ext ((Kp.refl _ _).drewN _)⟩
 · by_cases JI:k<s.size
   · go_wp2_with fail;go_quiet (fail);go_wp2_with fail;go_ret;refine⟨⟨_,rfl,?_⟩,?_,Cb.o.drewN _⟩
     · simp only[ByteArray.size_append,J4,z1,z2,z3];omega
     · obtain⟨q,hq,hr⟩:=C9.o;exact⟨q,hq,hr.ext ((Kp.refl _ _).drewN _)⟩
   · go_wp2_with fail;go_ret;exact⟨⟨_,rfl,by omega⟩,C9.o,Cb.o⟩
 · by_cases JI:k<s.size
   · go_wp2_with fail;go_quiet (fail);go_wp2_with fail;go_ret;refine⟨⟨_,rfl,?_⟩,?_,Cb.o.drewN _⟩
     · simp only[ByteArray.size_append,J4,z1,z2,z3];omega
     · obtain⟨q,hq,hr⟩:=C9.o;exact⟨q,hq,hr.ext ((Kp.refl _ _).drewN _)⟩
   · go_wp2_with fail;go_ret;exact⟨⟨_,rfl,by omega⟩,C9.o,Cb.o⟩
theorem ni:rZ 73 2:=⟨_,Tryz.underlying73,by kernel_rfl⟩
theorem dC:rZ 108 4:=⟨_,Tryz.underlying108,by kernel_rfl⟩
def Fe(m:Nat)(e:Ending):Prop:=∃k s b,e=.returned (.tuple #[.agg #[.int .i64 k,.string s],.bool b])∧s.size≤m
theorem jG(s:ByteArray)(w:World):Calls Tryz.prog 111 #[.string s] w fun e w'=>Fe s.size e∧Ext w w':=by
 cases h1:(s.toList==[35])
 · cases h2:M.aB s
   · have HN:=fun W=>Zy (aJ s W);simp only[h2]at HN;go_enter Tryz.func111,Tryz.ntmps111;go_wp2_with fail;refine(HN _).o.mono ?_;rintro e w1 ⟨rfl,rfl⟩;go_wp2_with fail;refine bodyPost_ret (ae ni rfl _ _ w.heap.size rfl [.int .i64 0,.string ⟨#[]⟩] (af.bN _ _ rfl) rfl) rfl ?_;exact⟨⟨_,_,_,rfl,Nat.zero_le _⟩,kx⟩
   · have HN:=fun W=>Zy (aJ s W);simp only[h2]at HN;go_enter Tryz.func111,Tryz.ntmps111;go_wp2_with fail;refine(HN _).o.mono ?_;rintro e w1 ⟨rfl,rfl⟩;go_wp2_with fail;refine bodyPost_ret (ae ni rfl _ _ w.heap.size rfl [.int .i64 2,.string s] (af.bN _ _ rfl) rfl) rfl ?_;exact⟨⟨_,_,_,rfl,Nat.le_refl _⟩,kx⟩
 · go_enter Tryz.func111,Tryz.ntmps111;go_wp2_with fail;refine bodyPost_ret (ae ni rfl _ _ w.heap.size rfl [.int .i64 1,.string ⟨#[]⟩] (af.bN _ _ rfl) rfl) rfl ?_;exact⟨⟨_,_,_,rfl,Nat.zero_le _⟩,kx⟩
def Dk(op:Int)(e:Ending):Prop:=∃b,e=.returned (.bool b)∧(b=true→1≤op∧op≤15)
theorem xX(op a:Int)(n m:ByteArray)(w:World):Calls Tryz.prog 84 #[.agg #[.int .i64 op,.int .i64 a,.string n,.string m]] w fun e w'=>Dk op e∧Ext w w':=by
 by_cases h:1≤op∧op≤15
 · go_enter Tryz.func84,Tryz.ntmps84;go_wp2_with (first
    |(go_at_call 27;refine(aJ _ _).mono ?_;rintro e w' ⟨rfl,rfl⟩)
    |(go_at_call 26;refine(dO _ _ _ _).mono ?_;rintro e w' ⟨rfl,rfl⟩))
   all_goals
    go_ret;exact⟨⟨_,rfl,fun _=>h⟩,kx⟩
 · have hk:∀k:Int,1≤k→k≤15→(op==k)=false:=fun k h1 h2=>beq_eq_false_iff_ne.2 (by omega);have k1:=hk 1 (by omega) (by omega);have k2:=hk 2 (by omega) (by omega);have k3:=hk 3 (by omega) (by omega);have k4:=hk 4 (by omega) (by omega);have k5:=hk 5 (by omega) (by omega);have k6:=hk 6 (by omega) (by omega);have k7:=hk 7 (by omega) (by omega);have k8:=hk 8 (by omega) (by omega);have k9:=hk 9 (by omega) (by omega);have k10:=hk 10 (by omega) (by omega);have k11:=hk 11 (by omega) (by omega);have k12:=hk 12 (by omega) (by omega);have k13:=hk 13 (by omega) (by omega);have k14:=hk 14 (by omega) (by omega);have k15:=hk 15 (by omega) (by omega);clear hk;go_enter Tryz.func84,Tryz.ntmps84;go_wp2_with fail
   all_goals
    go_ret;exact⟨⟨_,rfl,fun e=>by simp at e⟩,kx⟩
theorem l8(op:Nat)(h:op≤15)(w:World):Calls Tryz.prog 113 #[.int .i64 op] w fun e w'=>pY 4 e∧Ext w w':=by
 go_enter Tryz.func113,Tryz.ntmps113;have hb:az (w.alloc (.cells #[.string ⟨#[]⟩,.string ⟨#[110,117,109]⟩,.string ⟨#[116,97,107,101]⟩,.string ⟨#[112,117,116]⟩,.string ⟨#[97,100,100]⟩,.string ⟨#[110,117,108,108]⟩,.string ⟨#[110,101,119]⟩,.string ⟨#[103,101,116]⟩,.string ⟨#[115,101,116]⟩,.string ⟨#[99,97,108,108]⟩,.string ⟨#[114,101,116]⟩,.string ⟨#[122,101,114,111]⟩,.string ⟨#[110,105,108]⟩,.string ⟨#[103,111]⟩,.string ⟨#[111,117,116]⟩,.string ⟨#[99,97,115,116]⟩] 9)) w.heap.size 9 _:=az.new w 9 _;obtain⟨x,hx,hz⟩:∃x:ByteArray,(w.alloc (.cells #[.string ⟨#[]⟩,.string ⟨#[110,117,109]⟩,.string ⟨#[116,97,107,101]⟩,.string ⟨#[112,117,116]⟩,.string ⟨#[97,100,100]⟩,.string ⟨#[110,117,108,108]⟩,.string ⟨#[110,101,119]⟩,.string ⟨#[103,101,116]⟩,.string ⟨#[115,101,116]⟩,.string ⟨#[99,97,108,108]⟩,.string ⟨#[114,101,116]⟩,.string ⟨#[122,101,114,111]⟩,.string ⟨#[110,105,108]⟩,.string ⟨#[103,111]⟩,.string ⟨#[111,117,116]⟩,.string ⟨#[99,97,115,116]⟩] 9)).cell? ⟨w.heap.size,op,none⟩=some (.string x)∧x.size≤4:=by
  have hc:=hb.cell op;have:op=0∨op=1∨op=2∨op=3∨op=4∨op=5∨op=6∨op=7∨op=8∨op=9∨op=10∨op=11∨op=12∨op=13∨op=14∨op=15:=by omega
  rcases this with rfl|rfl|rfl|rfl|rfl|rfl|rfl|rfl|rfl|rfl|rfl|rfl|rfl|rfl|rfl|rfl<;>exact⟨_,hc,by decide⟩
 have J8:=ax hx;clear hb;go_wp2_with fail;go_ret;exact⟨⟨_,rfl,hz⟩,kx⟩
theorem gq(op a:Int)(n m:ByteArray)(w:World)(ha: -100000≤a∧a≤100000)(hn:n.size≤1000)(hm:m.size≤1000):
    Calls Tryz.prog 114 #[.agg #[.int .i64 op,.int .i64 a,.string n,.string m]] w fun e w'=>pY 20000 e∧Ext w w':=by
 obtain⟨Pk,NQ⟩:=ha;have hN:∀W,Calls Tryz.prog 36 #[.int .i64 a] W fun e W'=>pY 11200 e∧Ext W W':=fun W=>(rQ a W (by omega) (by omega)).mono (by
  rintro e w' ⟨⟨t,rfl, -,ht⟩,hE⟩;exact⟨⟨_,rfl,by omega⟩,hE⟩)
 have HN:=Zy hN;clear hN;go_enter Tryz.func114,Tryz.ntmps114;go_wp2_with fail;refine(xX op a n m _).mono ?_;rintro e w1 ⟨⟨b,rfl,DW⟩,aQ⟩;have bM:=Zy aQ;clear aQ;cases b
 · go_wp2_with fail;go_ret;exact⟨⟨_,rfl,Nat.zero_le _⟩,(by repeat (first|assumption|exact Kp.refl _ _|apply Kp.alloc|apply Kp.drew|apply Kp.drewN|refine Kp.trans ?_ (by assumption)))⟩
 · have bf:=(az.new w 108 #[.int .i64 op,.int .i64 a,.string n,.string m]).ext bM.o;obtain⟨h1,h2⟩:=DW rfl;obtain⟨k,rfl⟩:∃k:Nat,op=k:=⟨op.toNat,by omega⟩;have hk:k=1∨k=2∨k=3∨k=4∨k=5∨k=6∨k=7∨k=8∨k=9∨k=10∨k=11∨k=12∨k=13∨k=14∨k=15:=by omega
   have c0:=bf.c 0 (.int .i64 k) rfl;have gJ:=Zy bf;clear bf;go_wp2_with fail;refine(l8 k (by omega) _).mono ?_;rintro e w2 ⟨⟨t,rfl,ht⟩,dm⟩;have bX:=Zy (bM.o.trans dm);have hz:(ByteArray.mk #[32]).size=1:=rfl;have eu:=gJ.o.ext dm;clear dm bM c0 DW h1 h2;have c0:=eu.c 0 (.int .i64 k) rfl;have c1:=eu.c 1 (.int .i64 a) rfl;have c2:=eu.c 2 (.string n) rfl;have c3:=eu.c 3 (.string m) rfl;clear eu gJ;rcases hk with rfl|rfl|rfl|rfl|rfl|rfl|rfl|rfl|rfl|rfl|rfl|rfl|rfl|rfl|rfl
   all_goals
    go_wp2_with (go_at_call 36;refine(HN.o _).mono ?_;rintro e w3 ⟨⟨x,rfl,hx⟩,dX⟩);go_ret;refine⟨⟨_,rfl,by first|omega|(simp only[ByteArray.size_append,hz];omega)⟩,?_⟩;have:=bX.o;exact(by repeat (first|assumption|exact Kp.refl _ _|apply Kp.alloc|apply Kp.drew|apply Kp.drewN|refine Kp.trans ?_ (by assumption)))
end Go.Proofs.YtmcmhalhieejaaaGreatDoor
namespace Go.Proofs.YtmcmhalhieejaaaGreatDoor
open Go Go.RowKit
namespace M
theorem zh:∀(l cur:List UInt8),∀x∈aU cur l,x.length≤cur.length+l.length
 |[],cur,x,h=>by simp[aU]at h;subst h;simp
 |c::r,cur,x,h=>by
  rw[aU]at h;split at h
  · rcases List.mem_cons.1 h with rfl|h
    · omega
    · have:=zh r [] x h;simp at this ⊢;omega
  · have:=zh r _ x h;simp at this ⊢;omega
theorem uq{s x:ByteArray}(h:x∈words s):x.size≤s.size:=by
 unfold words at h;obtain⟨l,hl,rfl⟩:=List.mem_map.1 h;have:=zh s.data.toList [] l hl;have e:(bs l).size=l.length:=by simp[bs,ByteArray.size]
 have e2:s.data.toList.length=s.size:=by simp
 simp at this;omega
theorem kv(s:ByteArray):∃x r,words s=x::r:=by
 cases h:words s with
 |nil=>exact absurd (by simpa [words]using h) (vM s.data.toList [])
 |cons x r=>exact⟨x,r,rfl⟩
end M
theorem aY.at_{w:World}{I:Nat→Prop}{a:Option Addr}{n c:Nat}{xs:List ByteArray}{i:Nat}{x:ByteArray}(h:SliceOf 1 aY w I (.slice a n c) xs)(hx:xs[i]?=some x):
    ∃b off,a=some ⟨b,off,none⟩∧w.cell? ⟨b,off+i,none⟩=some (.string x):=by
 obtain⟨b,off,cs,e, -,rfl, -,h0⟩:=h.get hx;exact⟨b,off,e,by simpa using h0.one⟩
theorem Kp.dB{D:Nat→Prop}{w:World}{b:Nat}(hD:D b)(v0 v1 v2 v3:Value):Kp D w ((((w.setCell ⟨b,0,none⟩ v0).setCell ⟨b,1,none⟩ v1).setCell ⟨b,2,none⟩ v2).setCell ⟨b,3,none⟩ v3):=
 (((((Kp.refl D w).setCell (p:=⟨b,0,none⟩) (fun _=>hD) v0).setCell (p:=⟨b,1,none⟩) (fun _=>hD) v1).setCell (p:=⟨b,2,none⟩) (fun _=>hD) v2).setCell (p:=⟨b,3,none⟩) (fun _=>hD) v3)
theorem az.dB{w:World}{b:Nat}{t:TypeId}{u0 u1 u2 u3:Value}(h:az w b t #[u0,u1,u2,u3])(v0 v1 v2 v3:Value):az ((((w.setCell ⟨b,0,none⟩ v0).setCell ⟨b,1,none⟩ v1).setCell ⟨b,2,none⟩ v2).setCell ⟨b,3,none⟩ v3) b t #[v0,v1,v2,v3]:=by
 have h0:az (w.setCell ⟨b,0,none⟩ v0) b t #[v0,u1,u2,u3]:=h.bn 0 v0;have h1:az ((w.setCell ⟨b,0,none⟩ v0).setCell ⟨b,1,none⟩ v1) b t #[v0,v1,u2,u3]:=h0.bn 1 v1;have h2:az (((w.setCell ⟨b,0,none⟩ v0).setCell ⟨b,1,none⟩ v1).setCell ⟨b,2,none⟩ v2) b t #[v0,v1,v2,u3]:=h1.bn 2 v2;exact h2.bn 3 v3
def yN(m:Nat)(e:Ending):Prop:=∃op a n k b,e=.returned (.tuple #[.agg #[.int .i64 op,.int .i64 a,.string n,.string k],.bool b])∧n.size≤m∧k.size≤m
theorem tT (s : ByteArray) (w : World) (hs : s.size ≤ 4000000000) : Calls Tryz.prog 89 #[.string s] w fun e w' => yN s.size e ∧ Ext w w' := by
 obtain⟨w0,bB,bH,hb⟩:=nu w #[.int .i64 0,.int .i64 0,.string ⟨#[]⟩,.string ⟨#[]⟩] 108;have aZ:=Zy bH;have HB:=Zy hb;have bZ:=Zy bB;clear bH hb bB;go_enter Tryz.func89,Tryz.ntmps89;go_wp2_with fail;rw[←bZ.o];refine(jJ s w0 hs).mono ?_;rintro e w1 ⟨⟨v,rfl,hS⟩,aQ⟩;obtain⟨a,cap,rfl,bK, -⟩:=hS.form;obtain⟨x0,r,zK⟩:=M.kv s;have mq:Zz (∀x∈M.words s,x.size≤s.size):=Zy (fun x hx=>M.uq hx);rw[zK]at hS bK mq ⊢;obtain⟨b,off,rfl,g0⟩:=aY.at_ (i:=0) hS rfl;rw[Nat.add_zero]at g0;obtain⟨n,hn⟩:∃n,(x0::r).length=n:=⟨_,rfl⟩;have zD:1≤n:=by rw[←hn];simp
 have HN:=Zy hn;rw[hn]at bK hS ⊢;have HS:=Zy hS;have gJ:=Zy (HB.o.ext aQ);have bM:=Zy (aZ.o.trans aQ);clear aQ hS hn;go_wp2_with fail;go_loopw [5] (fun i wr=>∃k:Nat,1≤k∧k≤16∧i=.int .i64 k∧Ext w1 wr) (fun i _=>16 - (intOf i).toNat)
 case atStart=>exact⟨1,Nat.le_refl _,by omega,rfl,Kp.refl _ _⟩
 case round =>
  obtain⟨k,k1,k16,rfl,hE⟩:=hrel;have gw:=hE.aj g0;have gz:=ax gw;have HE:=Zy hE;clear hE;by_cases hk:k≤15
  · have Bo : (k : Int) ≤ 15 := by omega
    obtain⟨T,f,fZ,HT⟩:=jS.ex (fun W'=>Ext wr W') wr (Kp.refl _ _);have r0:=fun z=>(HT.aK z).aj gw;have ay:=Zy HT;clear HT;go_wp2_with fail;(refine ji ay 6 [([0,2,3,4],1)] [5] ?_ ?_)
    · exact(Kp.refl _ _).drew
    (refine dR [_,_,_,_] rfl rfl fun K hK=>?_);(repeat (go_big_quiet_step (fail)));(refine qn hK fun K2 au=>?_);clear hK K;go_wp2_with fail;refine(l8 k (by omega) _).mono ?_;rintro e w2 ⟨⟨t,rfl,ht⟩,dm⟩;have bX:Zz (Ext wr w2):=Zy (((Kp.refl _ wr).drew).trans dm);clear dm;cases hq:(t.toList==x0.toList)
    · go_wp2_with fail;(refine kk ay au bX.o ?_);clear au K2;(refine fG [_] rfl rfl fun K hK=>?_);(repeat (go_big_quiet_step (fail)));(refine qn hK ?_);clear hK K;go_wp2_with fail;go_round
      case rel=>exact⟨k+1,by omega,by omega,by go_num,HE.o.trans bX.o⟩
      case measure=>simp[intOf];omega
    · go_wp2_with fail;(refine kk ay au bX.o ?_);clear au K2;(refine fG [_] rfl rfl fun K hK=>?_);(repeat (go_big_quiet_step (fail)));(refine qn hK ?_);clear hK K;obtain⟨w3,gm⟩:∃w3,w3=w2.alloc (.cells #[.int .i64 k,.int .i64 0,.string ⟨#[]⟩,.string ⟨#[]⟩] 108):=⟨_,rfl⟩;have dX:Ext w2 w3:=by rw[gm];exact kx
      have uS:Ext w1 w3:=(HE.o.trans bX.o).trans dX;have jl:Zz (az w3 w2.heap.size 108 #[.int .i64 k,.int .i64 0,.string ⟨#[]⟩,.string ⟨#[]⟩]):=Zy (by rw[gm];exact az.new _ _ _);have eQ:=Zy (gJ.o.ext uS);have fF:=Zy (bM.o.trans uS);have A7:=Zy (HS.o.ext aY.stays uS);have mY:=Zy gm;have iU:w.heap.size≠w2.heap.size:=by have:=gJ.o.lt;have:=(HE.o.trans bX.o).size;omega
      have Lv:b≠w2.heap.size:=by have:=bX.o.size;omega
      have Ee:Zz (w.heap.size<w2.heap.size):=Zy (by have:=gJ.o.lt;have:=(HE.o.trans bX.o).size;omega);clear dX uS gm g0 gw gz HE bX gJ bM HS ay r0 hq ht;have wZ:=mq.o;rcases r with _|⟨x1,r⟩
      · have hn:n=1:=HN.o.symm;subst hn;clear wZ;rw[mY.o]at eQ jl fF;have z0:=eQ.o.c 0 (.int .i64 0) rfl;have z1:=eQ.o.c 1 (.int .i64 0) rfl;have z2:=eQ.o.c 2 (.string ⟨#[]⟩) rfl;have z3:=eQ.o.c 3 (.string ⟨#[]⟩) rfl;have f0:=eQ.o.frozen 0;have f1:=eQ.o.frozen 1;have f2:=eQ.o.frozen 2;have f3:=eQ.o.frozen 3;have c0:=jl.o.c 0 (.int .i64 k) rfl;have c1:=jl.o.c 1 (.int .i64 0) rfl;have c2:=jl.o.c 2 (.string ⟨#[]⟩) rfl;have c3:=jl.o.c 3 (.string ⟨#[]⟩) rfl;have g0:=jl.o.frozen 0;have g1:=jl.o.frozen 1;have g2:=jl.o.frozen 2;have g3:=jl.o.frozen 3;have zz:=eQ.o.lt;have cz:=jl.o.lt;by_cases G9:(30:Int)<s.size
        · go_wp2_with fail;refine bodyPost_ret (ae dC rfl _ _ w.heap.size rfl [.int .i64 0,.int .i64 0,.string ⟨#[]⟩,.string ⟨#[]⟩] (af.cO (az.dB eQ.o _ _ _ _)) rfl) rfl ?_;exact⟨⟨_,_,_,_,_,rfl,Nat.zero_le _,Nat.zero_le _⟩,fF.o.own (Kp.dB (D:=(·=w.heap.size)) rfl _ _ _ _) (fun _ e=>by omega)⟩
        · have Ha:s.size≤30:=by omega
          go_wp2_with fail;refine(gq k 0 ⟨#[]⟩ ⟨#[]⟩ _ (by omega) (Nat.zero_le _) (Nat.zero_le _)).mono ?_;rintro e w6 ⟨⟨y,rfl, -⟩,bu⟩;have dn:=Zy (eQ.o.ext bu);have hZ:=Zy (jl.o.ext bu);have iN:=Zy (fF.o.trans bu);clear z0 z1 z2 z3 f0 f1 f2 f3 c0 c1 c2 c3 g0 g1 g2 g3 zz cz bu;have z0:=dn.o.c 0 (.int .i64 0) rfl;have z1:=dn.o.c 1 (.int .i64 0) rfl;have z2:=dn.o.c 2 (.string ⟨#[]⟩) rfl;have z3:=dn.o.c 3 (.string ⟨#[]⟩) rfl;have f0:=dn.o.frozen 0;have f1:=dn.o.frozen 1;have f2:=dn.o.frozen 2;have f3:=dn.o.frozen 3;have c0:=hZ.o.c 0 (.int .i64 k) rfl;have c1:=hZ.o.c 1 (.int .i64 0) rfl;have c2:=hZ.o.c 2 (.string ⟨#[]⟩) rfl;have c3:=hZ.o.c 3 (.string ⟨#[]⟩) rfl;have zz:=dn.o.lt;have cz:=hZ.o.lt;cases iV:(y.toList==s.toList)
          · go_wp2_with fail;refine bodyPost_ret (ae dC rfl _ _ w.heap.size rfl [.int .i64 0,.int .i64 0,.string ⟨#[]⟩,.string ⟨#[]⟩] (af.cO (az.dB dn.o _ _ _ _)) rfl) rfl ?_;exact⟨⟨_,_,_,_,_,rfl,Nat.zero_le _,Nat.zero_le _⟩,iN.o.own (Kp.dB (D:=(·=w.heap.size)) rfl _ _ _ _) (fun _ e=>by omega)⟩
          · go_wp2_with fail;refine bodyPost_ret (ae dC rfl _ _ w.heap.size rfl [.int .i64 k,.int .i64 0,.string ⟨#[]⟩,.string ⟨#[]⟩] (af.cO (az.dB dn.o _ _ _ _)) rfl) rfl ?_;exact⟨⟨_,_,_,_,_,rfl,Nat.zero_le _,Nat.zero_le _⟩,iN.o.own (Kp.dB (D:=(·=w.heap.size)) rfl _ _ _ _) (fun _ e=>by omega)⟩
      · rcases r with _|⟨x2,r⟩
        · obtain⟨_,_,e1,g1⟩:=aY.at_ (i:=1) A7.o rfl;cases e1;have o8:x1.size≤s.size:=wZ x1 (by simp);have hn:n=2:=HN.o.symm;subst hn;have gz:=ax g1;clear wZ A7;rw[mY.o]at eQ jl fF g1 gz;go_wp2_with fail;refine(dW x1 _ (by omega)).mono ?_;rintro e w4 ⟨⟨m,ok,rfl, -,JL,Hp⟩,dw⟩;have iq:=Zy (eQ.o.ext dw);have mW:=Zy (jl.o.ext dw);have pq:=Zy (fF.o.trans dw);have h1:=dw.aj g1;have hz:=ax h1;clear dw g1 gz;have xy:b≠w2.heap.size:=Lv;have v0:=mW.o.frozen 0;have v1:=mW.o.frozen 1;have v2:=mW.o.frozen 2;have v3:=mW.o.frozen 3;have vz:=mW.o.lt;have p0:=iq.o.frozen 0;have p1:=iq.o.frozen 1;have p2:=iq.o.frozen 2;have p3:=iq.o.frozen 3;have pz:=iq.o.lt;have q0:=iq.o.c 0 (.int .i64 0) rfl;have q1:=iq.o.c 1 (.int .i64 0) rfl;have q2:=iq.o.c 2 (.string ⟨#[]⟩) rfl;have q3:=iq.o.c 3 (.string ⟨#[]⟩) rfl;have l0:=mW.o.c 0 (.int .i64 k) rfl;have l1:=mW.o.c 1 (.int .i64 0) rfl;have l2:=mW.o.c 2 (.string ⟨#[]⟩) rfl;have l3:=mW.o.c 3 (.string ⟨#[]⟩) rfl;cases ok
          · have tu:Kp (·=w2.heap.size) w4 (w4.setCell ⟨w2.heap.size,2,none⟩ (.string x1)):=(Kp.refl (·=w2.heap.size) w4).setCell (p:=⟨w2.heap.size,2,none⟩) (fun _=>rfl) _;have eT:Zz (az (w4.setCell ⟨w2.heap.size,2,none⟩ (.string x1)) w2.heap.size 108 #[.int .i64 k,.int .i64 0,.string x1,.string ⟨#[]⟩]):=Zy (mW.o.bn 2 _);have cZ:=Zy (iq.o.kp tu iU);have dh:=Zy (pq.o.own tu (fun _ e=>by have:=Ee.o;omega));clear tu;have z0:=cZ.o.c 0 (.int .i64 0) rfl;have z1:=cZ.o.c 1 (.int .i64 0) rfl;have z2:=cZ.o.c 2 (.string ⟨#[]⟩) rfl;have z3:=cZ.o.c 3 (.string ⟨#[]⟩) rfl;have f0:=cZ.o.frozen 0;have f1:=cZ.o.frozen 1;have f2:=cZ.o.frozen 2;have f3:=cZ.o.frozen 3;have c0:=eT.o.c 0 (.int .i64 k) rfl;have c1:=eT.o.c 1 (.int .i64 0) rfl;have c2:=eT.o.c 2 (.string x1) rfl;have c3:=eT.o.c 3 (.string ⟨#[]⟩) rfl;have g0:=eT.o.frozen 0;have g1:=eT.o.frozen 1;have g2:=eT.o.frozen 2;have g3:=eT.o.frozen 3;have zz:=cZ.o.lt;have cz:=eT.o.lt;by_cases G9:(30:Int)<s.size
            · go_wp2_with fail;refine bodyPost_ret (ae dC rfl _ _ w.heap.size rfl [.int .i64 0,.int .i64 0,.string ⟨#[]⟩,.string ⟨#[]⟩] (af.cO (az.dB cZ.o _ _ _ _)) rfl) rfl ?_;exact⟨⟨_,_,_,_,_,rfl,Nat.zero_le _,Nat.zero_le _⟩,dh.o.own (Kp.dB (D:=(·=w.heap.size)) rfl _ _ _ _) (fun _ e=>by omega)⟩
            · have Ha:s.size≤30:=by omega
              go_wp2_with fail;refine(gq k 0 x1 ⟨#[]⟩ _ (by omega) (by omega) (Nat.zero_le _)).mono ?_;rintro e w6 ⟨⟨y,rfl, -⟩,bu⟩;have dn:=Zy (cZ.o.ext bu);have hZ:=Zy (eT.o.ext bu);have iN:=Zy (dh.o.trans bu);clear z0 z1 z2 z3 f0 f1 f2 f3 c0 c1 c2 c3 g0 g1 g2 g3 zz cz bu;have z0:=dn.o.c 0 (.int .i64 0) rfl;have z1:=dn.o.c 1 (.int .i64 0) rfl;have z2:=dn.o.c 2 (.string ⟨#[]⟩) rfl;have z3:=dn.o.c 3 (.string ⟨#[]⟩) rfl;have f0:=dn.o.frozen 0;have f1:=dn.o.frozen 1;have f2:=dn.o.frozen 2;have f3:=dn.o.frozen 3;have c0:=hZ.o.c 0 (.int .i64 k) rfl;have c1:=hZ.o.c 1 (.int .i64 0) rfl;have c2:=hZ.o.c 2 (.string x1) rfl;have c3:=hZ.o.c 3 (.string ⟨#[]⟩) rfl;have zz:=dn.o.lt;have cz:=hZ.o.lt;cases iV:(y.toList==s.toList)
              · go_wp2_with fail;refine bodyPost_ret (ae dC rfl _ _ w.heap.size rfl [.int .i64 0,.int .i64 0,.string ⟨#[]⟩,.string ⟨#[]⟩] (af.cO (az.dB dn.o _ _ _ _)) rfl) rfl ?_;exact⟨⟨_,_,_,_,_,rfl,Nat.zero_le _,Nat.zero_le _⟩,iN.o.own (Kp.dB (D:=(·=w.heap.size)) rfl _ _ _ _) (fun _ e=>by omega)⟩
              · go_wp2_with fail;refine bodyPost_ret (ae dC rfl _ _ w.heap.size rfl [.int .i64 k,.int .i64 0,.string x1,.string ⟨#[]⟩] (af.cO (az.dB dn.o _ _ _ _)) rfl) rfl ?_;exact⟨⟨_,_,_,_,_,rfl,o8,Nat.zero_le _⟩,iN.o.own (Kp.dB (D:=(·=w.heap.size)) rfl _ _ _ _) (fun _ e=>by omega)⟩
          · have tu:Kp (·=w2.heap.size) w4 (w4.setCell ⟨w2.heap.size,1,none⟩ (.int .i64 m)):=(Kp.refl (·=w2.heap.size) w4).setCell (p:=⟨w2.heap.size,1,none⟩) (fun _=>rfl) _;have eT:Zz (az (w4.setCell ⟨w2.heap.size,1,none⟩ (.int .i64 m)) w2.heap.size 108 #[.int .i64 k,.int .i64 m,.string ⟨#[]⟩,.string ⟨#[]⟩]):=Zy (mW.o.bn 1 _);have cZ:=Zy (iq.o.kp tu iU);have dh:=Zy (pq.o.own tu (fun _ e=>by have:=Ee.o;omega));clear tu;have z0:=cZ.o.c 0 (.int .i64 0) rfl;have z1:=cZ.o.c 1 (.int .i64 0) rfl;have z2:=cZ.o.c 2 (.string ⟨#[]⟩) rfl;have z3:=cZ.o.c 3 (.string ⟨#[]⟩) rfl;have f0:=cZ.o.frozen 0;have f1:=cZ.o.frozen 1;have f2:=cZ.o.frozen 2;have f3:=cZ.o.frozen 3;have c0:=eT.o.c 0 (.int .i64 k) rfl;have c1:=eT.o.c 1 (.int .i64 m) rfl;have c2:=eT.o.c 2 (.string ⟨#[]⟩) rfl;have c3:=eT.o.c 3 (.string ⟨#[]⟩) rfl;have g0:=eT.o.frozen 0;have g1:=eT.o.frozen 1;have g2:=eT.o.frozen 2;have g3:=eT.o.frozen 3;have zz:=cZ.o.lt;have cz:=eT.o.lt;by_cases G9:(30:Int)<s.size
            · go_wp2_with fail;refine bodyPost_ret (ae dC rfl _ _ w.heap.size rfl [.int .i64 0,.int .i64 0,.string ⟨#[]⟩,.string ⟨#[]⟩] (af.cO (az.dB cZ.o _ _ _ _)) rfl) rfl ?_;exact⟨⟨_,_,_,_,_,rfl,Nat.zero_le _,Nat.zero_le _⟩,dh.o.own (Kp.dB (D:=(·=w.heap.size)) rfl _ _ _ _) (fun _ e=>by omega)⟩
            · have Ha:s.size≤30:=by omega
              go_wp2_with fail;refine(gq k m ⟨#[]⟩ ⟨#[]⟩ _ (by omega) (Nat.zero_le _) (Nat.zero_le _)).mono ?_;rintro e w6 ⟨⟨y,rfl, -⟩,bu⟩;have dn:=Zy (cZ.o.ext bu);have hZ:=Zy (eT.o.ext bu);have iN:=Zy (dh.o.trans bu);clear z0 z1 z2 z3 f0 f1 f2 f3 c0 c1 c2 c3 g0 g1 g2 g3 zz cz bu;have z0:=dn.o.c 0 (.int .i64 0) rfl;have z1:=dn.o.c 1 (.int .i64 0) rfl;have z2:=dn.o.c 2 (.string ⟨#[]⟩) rfl;have z3:=dn.o.c 3 (.string ⟨#[]⟩) rfl;have f0:=dn.o.frozen 0;have f1:=dn.o.frozen 1;have f2:=dn.o.frozen 2;have f3:=dn.o.frozen 3;have c0:=hZ.o.c 0 (.int .i64 k) rfl;have c1:=hZ.o.c 1 (.int .i64 m) rfl;have c2:=hZ.o.c 2 (.string ⟨#[]⟩) rfl;have c3:=hZ.o.c 3 (.string ⟨#[]⟩) rfl;have zz:=dn.o.lt;have cz:=hZ.o.lt;cases iV:(y.toList==s.toList)
              · go_wp2_with fail;refine bodyPost_ret (ae dC rfl _ _ w.heap.size rfl [.int .i64 0,.int .i64 0,.string ⟨#[]⟩,.string ⟨#[]⟩] (af.cO (az.dB dn.o _ _ _ _)) rfl) rfl ?_;exact⟨⟨_,_,_,_,_,rfl,Nat.zero_le _,Nat.zero_le _⟩,iN.o.own (Kp.dB (D:=(·=w.heap.size)) rfl _ _ _ _) (fun _ e=>by omega)⟩
              · go_wp2_with fail;refine bodyPost_ret (ae dC rfl _ _ w.heap.size rfl [.int .i64 k,.int .i64 m,.string ⟨#[]⟩,.string ⟨#[]⟩] (af.cO (az.dB dn.o _ _ _ _)) rfl) rfl ?_;exact⟨⟨_,_,_,_,_,rfl,Nat.zero_le _,Nat.zero_le _⟩,iN.o.own (Kp.dB (D:=(·=w.heap.size)) rfl _ _ _ _) (fun _ e=>by omega)⟩
        · obtain⟨_,_,e1,g1⟩:=aY.at_ (i:=1) A7.o rfl;cases e1;have o8:x1.size≤s.size:=wZ x1 (by simp);obtain⟨_,_,e1,g2⟩:=aY.at_ (i:=2) A7.o rfl;cases e1;have zL:x2.size≤s.size:=wZ x2 (by simp);have F9:3≤n:=by have:=HN.o;simp at this;omega
          have PE:(1:Int)<n:=by omega
          have PG:(2:Int)<n:=by omega
          have gz:=ax g1;clear wZ A7;rw[mY.o]at eQ jl fF g1 gz g2;go_wp2_with fail;refine(dW x1 _ (by omega)).mono ?_;rintro e w4 ⟨⟨m,ok,rfl, -,JL,Hp⟩,dw⟩;have iq:=Zy (eQ.o.ext dw);have mW:=Zy (jl.o.ext dw);have pq:=Zy (fF.o.trans dw);have h1:=dw.aj g1;have hz:=ax h1;have h2:=dw.aj g2;clear dw g1 gz g2;have xy:b≠w2.heap.size:=Lv;have v0:=mW.o.frozen 0;have v1:=mW.o.frozen 1;have v2:=mW.o.frozen 2;have v3:=mW.o.frozen 3;have vz:=mW.o.lt;have p0:=iq.o.frozen 0;have p1:=iq.o.frozen 1;have p2:=iq.o.frozen 2;have p3:=iq.o.frozen 3;have pz:=iq.o.lt;have q0:=iq.o.c 0 (.int .i64 0) rfl;have q1:=iq.o.c 1 (.int .i64 0) rfl;have q2:=iq.o.c 2 (.string ⟨#[]⟩) rfl;have q3:=iq.o.c 3 (.string ⟨#[]⟩) rfl;have l0:=mW.o.c 0 (.int .i64 k) rfl;have l1:=mW.o.c 1 (.int .i64 0) rfl;have l2:=mW.o.c 2 (.string ⟨#[]⟩) rfl;have l3:=mW.o.c 3 (.string ⟨#[]⟩) rfl;cases ok
          · have tu:Kp (·=w2.heap.size) w4 (w4.setCell ⟨w2.heap.size,2,none⟩ (.string x1)):=(Kp.refl (·=w2.heap.size) w4).setCell (p:=⟨w2.heap.size,2,none⟩) (fun _=>rfl) _;have eT:Zz (az (w4.setCell ⟨w2.heap.size,2,none⟩ (.string x1)) w2.heap.size 108 #[.int .i64 k,.int .i64 0,.string x1,.string ⟨#[]⟩]):=Zy (mW.o.bn 2 _);have cZ:=Zy (iq.o.kp tu iU);have dh:=Zy (pq.o.own tu (fun _ e=>by have:=Ee.o;omega));have h3:=tu.gH h2 xy;have y3:=eT.o.c 3 (.string ⟨#[]⟩) rfl;have x3:=eT.o.frozen 3;have Bq:Kp (·=w2.heap.size) (w4.setCell ⟨w2.heap.size,2,none⟩ (.string x1)) ((w4.setCell ⟨w2.heap.size,2,none⟩ (.string x1)).setCell ⟨w2.heap.size,3,none⟩ (.string x2)):=(Kp.refl (·=w2.heap.size) (w4.setCell ⟨w2.heap.size,2,none⟩ (.string x1))).setCell (p:=⟨w2.heap.size,3,none⟩) (fun _=>rfl) _;have eG:Zz (az ((w4.setCell ⟨w2.heap.size,2,none⟩ (.string x1)).setCell ⟨w2.heap.size,3,none⟩ (.string x2)) w2.heap.size 108 #[.int .i64 k,.int .i64 0,.string x1,.string x2]):=Zy (eT.o.bn 3 _);have eF:=Zy (cZ.o.kp Bq iU);have iO:=Zy (dh.o.own Bq (fun _ e=>by have:=Ee.o;omega));clear Bq;clear tu;have z0:=eF.o.c 0 (.int .i64 0) rfl;have z1:=eF.o.c 1 (.int .i64 0) rfl;have z2:=eF.o.c 2 (.string ⟨#[]⟩) rfl;have z3:=eF.o.c 3 (.string ⟨#[]⟩) rfl;have f0:=eF.o.frozen 0;have f1:=eF.o.frozen 1;have f2:=eF.o.frozen 2;have f3:=eF.o.frozen 3;have c0:=eG.o.c 0 (.int .i64 k) rfl;have c1:=eG.o.c 1 (.int .i64 0) rfl;have c2:=eG.o.c 2 (.string x1) rfl;have c3:=eG.o.c 3 (.string x2) rfl;have g0:=eG.o.frozen 0;have g1:=eG.o.frozen 1;have g2:=eG.o.frozen 2;have g3:=eG.o.frozen 3;have zz:=eF.o.lt;have cz:=eG.o.lt;by_cases G9:(30:Int)<s.size
            · go_wp2_with fail;refine bodyPost_ret (ae dC rfl _ _ w.heap.size rfl [.int .i64 0,.int .i64 0,.string ⟨#[]⟩,.string ⟨#[]⟩] (af.cO (az.dB eF.o _ _ _ _)) rfl) rfl ?_;exact⟨⟨_,_,_,_,_,rfl,Nat.zero_le _,Nat.zero_le _⟩,iO.o.own (Kp.dB (D:=(·=w.heap.size)) rfl _ _ _ _) (fun _ e=>by omega)⟩
            · have Ha:s.size≤30:=by omega
              go_wp2_with fail;refine(gq k 0 x1 x2 _ (by omega) (by omega) (by omega)).mono ?_;rintro e w6 ⟨⟨y,rfl, -⟩,bu⟩;have dn:=Zy (eF.o.ext bu);have hZ:=Zy (eG.o.ext bu);have iN:=Zy (iO.o.trans bu);clear z0 z1 z2 z3 f0 f1 f2 f3 c0 c1 c2 c3 g0 g1 g2 g3 zz cz bu;have z0:=dn.o.c 0 (.int .i64 0) rfl;have z1:=dn.o.c 1 (.int .i64 0) rfl;have z2:=dn.o.c 2 (.string ⟨#[]⟩) rfl;have z3:=dn.o.c 3 (.string ⟨#[]⟩) rfl;have f0:=dn.o.frozen 0;have f1:=dn.o.frozen 1;have f2:=dn.o.frozen 2;have f3:=dn.o.frozen 3;have c0:=hZ.o.c 0 (.int .i64 k) rfl;have c1:=hZ.o.c 1 (.int .i64 0) rfl;have c2:=hZ.o.c 2 (.string x1) rfl;have c3:=hZ.o.c 3 (.string x2) rfl;have zz:=dn.o.lt;have cz:=hZ.o.lt;cases iV:(y.toList==s.toList)
              · go_wp2_with fail;refine bodyPost_ret (ae dC rfl _ _ w.heap.size rfl [.int .i64 0,.int .i64 0,.string ⟨#[]⟩,.string ⟨#[]⟩] (af.cO (az.dB dn.o _ _ _ _)) rfl) rfl ?_;exact⟨⟨_,_,_,_,_,rfl,Nat.zero_le _,Nat.zero_le _⟩,iN.o.own (Kp.dB (D:=(·=w.heap.size)) rfl _ _ _ _) (fun _ e=>by omega)⟩
              · go_wp2_with fail;refine bodyPost_ret (ae dC rfl _ _ w.heap.size rfl [.int .i64 k,.int .i64 0,.string x1,.string x2] (af.cO (az.dB dn.o _ _ _ _)) rfl) rfl ?_;exact⟨⟨_,_,_,_,_,rfl,o8,zL⟩,iN.o.own (Kp.dB (D:=(·=w.heap.size)) rfl _ _ _ _) (fun _ e=>by omega)⟩
          · have tu:Kp (·=w2.heap.size) w4 (w4.setCell ⟨w2.heap.size,1,none⟩ (.int .i64 m)):=(Kp.refl (·=w2.heap.size) w4).setCell (p:=⟨w2.heap.size,1,none⟩) (fun _=>rfl) _;have eT:Zz (az (w4.setCell ⟨w2.heap.size,1,none⟩ (.int .i64 m)) w2.heap.size 108 #[.int .i64 k,.int .i64 m,.string ⟨#[]⟩,.string ⟨#[]⟩]):=Zy (mW.o.bn 1 _);have cZ:=Zy (iq.o.kp tu iU);have dh:=Zy (pq.o.own tu (fun _ e=>by have:=Ee.o;omega));have h3:=tu.gH h2 xy;have y3:=eT.o.c 3 (.string ⟨#[]⟩) rfl;have x3:=eT.o.frozen 3;have Bq:Kp (·=w2.heap.size) (w4.setCell ⟨w2.heap.size,1,none⟩ (.int .i64 m)) ((w4.setCell ⟨w2.heap.size,1,none⟩ (.int .i64 m)).setCell ⟨w2.heap.size,3,none⟩ (.string x2)):=(Kp.refl (·=w2.heap.size) (w4.setCell ⟨w2.heap.size,1,none⟩ (.int .i64 m))).setCell (p:=⟨w2.heap.size,3,none⟩) (fun _=>rfl) _;have eG:Zz (az ((w4.setCell ⟨w2.heap.size,1,none⟩ (.int .i64 m)).setCell ⟨w2.heap.size,3,none⟩ (.string x2)) w2.heap.size 108 #[.int .i64 k,.int .i64 m,.string ⟨#[]⟩,.string x2]):=Zy (eT.o.bn 3 _);have eF:=Zy (cZ.o.kp Bq iU);have iO:=Zy (dh.o.own Bq (fun _ e=>by have:=Ee.o;omega));clear Bq;clear tu;have z0:=eF.o.c 0 (.int .i64 0) rfl;have z1:=eF.o.c 1 (.int .i64 0) rfl;have z2:=eF.o.c 2 (.string ⟨#[]⟩) rfl;have z3:=eF.o.c 3 (.string ⟨#[]⟩) rfl;have f0:=eF.o.frozen 0;have f1:=eF.o.frozen 1;have f2:=eF.o.frozen 2;have f3:=eF.o.frozen 3;have c0:=eG.o.c 0 (.int .i64 k) rfl;have c1:=eG.o.c 1 (.int .i64 m) rfl;have c2:=eG.o.c 2 (.string ⟨#[]⟩) rfl;have c3:=eG.o.c 3 (.string x2) rfl;have g0:=eG.o.frozen 0;have g1:=eG.o.frozen 1;have g2:=eG.o.frozen 2;have g3:=eG.o.frozen 3;have zz:=eF.o.lt;have cz:=eG.o.lt;by_cases G9:(30:Int)<s.size
            · go_wp2_with fail;refine bodyPost_ret (ae dC rfl _ _ w.heap.size rfl [.int .i64 0,.int .i64 0,.string ⟨#[]⟩,.string ⟨#[]⟩] (af.cO (az.dB eF.o _ _ _ _)) rfl) rfl ?_;exact⟨⟨_,_,_,_,_,rfl,Nat.zero_le _,Nat.zero_le _⟩,iO.o.own (Kp.dB (D:=(·=w.heap.size)) rfl _ _ _ _) (fun _ e=>by omega)⟩
            · have Ha:s.size≤30:=by omega
              go_wp2_with fail;refine(gq k m ⟨#[]⟩ x2 _ (by omega) (Nat.zero_le _) (by omega)).mono ?_;rintro e w6 ⟨⟨y,rfl, -⟩,bu⟩;have dn:=Zy (eF.o.ext bu);have hZ:=Zy (eG.o.ext bu);have iN:=Zy (iO.o.trans bu);clear z0 z1 z2 z3 f0 f1 f2 f3 c0 c1 c2 c3 g0 g1 g2 g3 zz cz bu;have z0:=dn.o.c 0 (.int .i64 0) rfl;have z1:=dn.o.c 1 (.int .i64 0) rfl;have z2:=dn.o.c 2 (.string ⟨#[]⟩) rfl;have z3:=dn.o.c 3 (.string ⟨#[]⟩) rfl;have f0:=dn.o.frozen 0;have f1:=dn.o.frozen 1;have f2:=dn.o.frozen 2;have f3:=dn.o.frozen 3;have c0:=hZ.o.c 0 (.int .i64 k) rfl;have c1:=hZ.o.c 1 (.int .i64 m) rfl;have c2:=hZ.o.c 2 (.string ⟨#[]⟩) rfl;have c3:=hZ.o.c 3 (.string x2) rfl;have zz:=dn.o.lt;have cz:=hZ.o.lt;cases iV:(y.toList==s.toList)
              · go_wp2_with fail;refine bodyPost_ret (ae dC rfl _ _ w.heap.size rfl [.int .i64 0,.int .i64 0,.string ⟨#[]⟩,.string ⟨#[]⟩] (af.cO (az.dB dn.o _ _ _ _)) rfl) rfl ?_;exact⟨⟨_,_,_,_,_,rfl,Nat.zero_le _,Nat.zero_le _⟩,iN.o.own (Kp.dB (D:=(·=w.heap.size)) rfl _ _ _ _) (fun _ e=>by omega)⟩
              · go_wp2_with fail;refine bodyPost_ret (ae dC rfl _ _ w.heap.size rfl [.int .i64 k,.int .i64 m,.string ⟨#[]⟩,.string x2] (af.cO (az.dB dn.o _ _ _ _)) rfl) rfl ?_;exact⟨⟨_,_,_,_,_,rfl,Nat.zero_le _,zL⟩,iN.o.own (Kp.dB (D:=(·=w.heap.size)) rfl _ _ _ _) (fun _ e=>by omega)⟩
  · have Bo:¬(k:Int)≤15:=by omega
    have hB:=gJ.o.ext HE.o;have z0:=hB.c 0 (.int .i64 0) rfl;have z1:=hB.c 1 (.int .i64 0) rfl;have z2:=hB.c 2 (.string ⟨#[]⟩) rfl;have z3:=hB.c 3 (.string ⟨#[]⟩) rfl;have f0:=hB.frozen 0;have f1:=hB.frozen 1;have f2:=hB.frozen 2;have f3:=hB.frozen 3;have iK:=Zy hB;have bX:=Zy (bM.o.trans HE.o);have zz:=hB.lt;clear hB;go_wp2_with fail;refine bodyPost_ret (ae dC rfl _ _ w.heap.size rfl [.int .i64 0,.int .i64 0,.string ⟨#[]⟩,.string ⟨#[]⟩] (af.cO (az.dB iK.o _ _ _ _)) rfl) rfl ?_;exact⟨⟨_,_,_,_,_,rfl,Nat.zero_le _,Nat.zero_le _⟩,bX.o.own (Kp.dB (D:=(·=w.heap.size)) rfl _ _ _ _) (fun _ e=>by omega)⟩
end Go.Proofs.YtmcmhalhieejaaaGreatDoor
namespace Go.Proofs.YtmcmhalhieejaaaGreatDoor
open Go Go.RowKit
theorem mM:rZ 133 2:=⟨_,Tryz.underlying133,by kernel_rfl⟩
theorem mK:rZ 85 2:=⟨_,Tryz.underlying85,by kernel_rfl⟩
theorem lh:rZ 75 3:=⟨_,Tryz.underlying75,by kernel_rfl⟩
theorem iw:rZ 26 4:=⟨_,Tryz.underlying26,by kernel_rfl⟩
theorem jH(s:ByteArray)(w:World):Calls Tryz.prog 112 #[.string s] w fun e w'=>Fe s.size e∧Ext w w':=by
 cases h1:(s.toList==[63])
 · cases h2:(s.toList==[35])
   · cases h3:(s.toList==[33])
     · go_enter Tryz.func112,Tryz.ntmps112;go_wp2_with fail;refine(aJ s _).mono ?_;rintro e w1 ⟨rfl,rfl⟩;go_wp2_with fail;refine bodyPost_ret (ae mM rfl _ _ w.heap.size rfl [.int .i64 2,.string s] (af.bN _ _ rfl) rfl) rfl ?_;exact⟨⟨_,_,_,rfl,Nat.le_refl _⟩,kx⟩
     · go_enter Tryz.func112,Tryz.ntmps112;go_wp2_with fail;refine bodyPost_ret (ae mM rfl _ _ w.heap.size rfl [.int .i64 3,.string ⟨#[]⟩] (af.bN _ _ rfl) rfl) rfl ?_;exact⟨⟨_,_,_,rfl,Nat.zero_le _⟩,kx⟩
   · go_enter Tryz.func112,Tryz.ntmps112;go_wp2_with fail;refine bodyPost_ret (ae mM rfl _ _ w.heap.size rfl [.int .i64 1,.string ⟨#[]⟩] (af.bN _ _ rfl) rfl) rfl ?_;exact⟨⟨_,_,_,rfl,Nat.zero_le _⟩,kx⟩
 · go_enter Tryz.func112,Tryz.ntmps112;go_wp2_with fail;refine bodyPost_ret (ae mM rfl _ _ w.heap.size rfl [.int .i64 0,.string ⟨#[]⟩] (af.bN _ _ rfl) rfl) rfl ?_;exact⟨⟨_,_,_,rfl,Nat.zero_le _⟩,kx⟩
theorem Kp.lL{D:Nat→Prop}{w:World}{b:Nat}(hD:D b)(v0 v1 v2:Value):Kp D w (((w.setCell ⟨b,0,none⟩ v0).setCell ⟨b,1,none⟩ v1).setCell ⟨b,2,none⟩ v2):=
 ((((Kp.refl D w).setCell (p:=⟨b,0,none⟩) (fun _=>hD) v0).setCell (p:=⟨b,1,none⟩) (fun _=>hD) v1).setCell (p:=⟨b,2,none⟩) (fun _=>hD) v2)
theorem az.lL{w:World}{b:Nat}{t:TypeId}{u0 u1 u2:Value}(h:az w b t #[u0,u1,u2])(v0 v1 v2:Value):az (((w.setCell ⟨b,0,none⟩ v0).setCell ⟨b,1,none⟩ v1).setCell ⟨b,2,none⟩ v2) b t #[v0,v1,v2]:=by
 have h0:az (w.setCell ⟨b,0,none⟩ v0) b t #[v0,u1,u2]:=h.bn 0 v0;have h1:az ((w.setCell ⟨b,0,none⟩ v0).setCell ⟨b,1,none⟩ v1) b t #[v0,v1,u2]:=h0.bn 1 v1;exact h1.bn 2 v2
def CE(m:Nat)(e:Ending):Prop:=∃n k s b,e=.returned (.tuple #[.agg #[.string n,.int .i64 k,.string s],.bool b])∧n.size≤m∧s.size≤m
theorem nX{n:Nat}(h:n≠3):((n:Int)==3)=false∧((n:Int) !=3)=true:=by
 have:(n:Int)≠3:=by omega
 exact⟨beq_eq_false_iff_ne.2 this,by simp[this]⟩
theorem pR(xs:List ByteArray)(v:Value)(m:Nat)(I:Nat→Prop)(w:World)(hv:SliceOf 1 aY w I v xs)(gL:∀x∈xs,x.size≤m):
    Calls Tryz.prog 86 #[v] w fun e w'=>CE m e∧Ext w w':=by
 obtain⟨a,cap,rfl,bK, -⟩:=hv.form;by_cases h3:xs.length=3
 · match xs,h3,hv,gL,bK with
   | [x0, x1, x2], _, hv, gL, bK =>
    obtain⟨b,off,rfl,g1⟩:=aY.at_ (i:=1) hv rfl;obtain⟨_,_,e1,g2⟩:=aY.at_ (i:=2) hv rfl;cases e1;have hz:=ax g1;have o8:=gL x1 (by simp);have zL:=gL x2 (by simp);have HN:=fun W=>Zy (aJ x1 W);clear hv gL;simp only[List.length_cons,List.length_nil]at bK ⊢;cases h2:M.aB x1
    · simp only[h2]at HN;go_enter Tryz.func86,Tryz.ntmps86;go_wp2_with fail;refine(HN _).o.mono ?_;rintro e w1 ⟨rfl,rfl⟩;go_wp2_with fail;refine bodyPost_ret (ae lh rfl _ _ w.heap.size rfl [.string ⟨#[]⟩,.int .i64 0,.string ⟨#[]⟩] (af.bN _ _ rfl) rfl) rfl ?_;exact⟨⟨_,_,_,_,rfl,Nat.zero_le _,Nat.zero_le _⟩,kx⟩
    · simp only[h2]at HN;go_enter Tryz.func86,Tryz.ntmps86;go_wp2_with fail;refine(HN _).o.mono ?_;rintro e w1 ⟨rfl,rfl⟩;go_wp2_with fail;refine(jG x2 _).mono ?_;rintro e w2 ⟨⟨k,s,b2,rfl,hs⟩,hE⟩;obtain⟨w3,gm,dX,DJ⟩:=nu w2 #[.int .i64 k,.string s] 73;have lF:=(az.new w 75 #[.string ⟨#[]⟩,.int .i64 0,.string ⟨#[]⟩]).ext (hE.trans dX);have g13:=((((Kp.refl _ w).alloc _).trans hE).trans dX).aj g1;have xy:b≠w.heap.size:=by omega
      have L8:w2.heap.size≠w.heap.size:=by have:=hE.size;simp at this;omega
      have z0:=lF.c 0 (.string ⟨#[]⟩) rfl;have z1:=lF.c 1 (.int .i64 0) rfl;have z2:=lF.c 2 (.string ⟨#[]⟩) rfl;have f0:=lF.frozen 0;have f1:=lF.frozen 1;have f2:=lF.frozen 2;have eQ:=Zy lF;have fF:Zz (Ext w w3):=Zy ((((Kp.refl _ w).alloc _).trans hE).trans dX);have mY:=Zy gm;obtain⟨T,f,fZ,HT⟩:=jS.ex (fun W'=>Kp (·=w.heap.size) w3 W') w3 (Kp.refl _ _);have r1:=fun z=>(HT.aK z).gH g13 xy;have r2:=fun z=>(HT.aK z).gH (DJ.c 0 (.int .i64 k) rfl) L8;have r3:=fun z=>(HT.aK z).gH (DJ.c 1 (.string s) rfl) L8;have ay:=Zy HT;clear HT hE dX gm lF DJ HN;go_wp2_with fail;rw[←mY.o];(refine ji ay 7 [([0,1,2,3,4,5],6)] [] ?_ ?_)
      · exact(Kp.refl _ _).drew
      (refine dR [_,_,_,_,_,_] rfl rfl fun K hK=>?_);(repeat (go_big_quiet_step (fail)));(refine qn hK fun K2 au=>?_);clear hK K;go_wp2_with fail;have hk:=(Kp.lL (D:=(·=w.heap.size)) (w:=w3) (b:=w.heap.size) rfl (.string x1) (.int .i64 k) (.string s)).drew;(refine kk ay au hk ?_);clear au K2;(refine jC ?_);go_wp2_with fail;refine bodyPost_ret (ae lh rfl _ _ w.heap.size rfl [.string x1,.int .i64 k,.string s] (af.cO ((az.lL eQ.o _ _ _).ext ((Kp.refl _ _).drew))) rfl) rfl ?_;exact⟨⟨_,_,_,_,rfl,o8,Nat.le_trans hs zL⟩,fF.o.own hk (fun _ e=>by omega)⟩
 · obtain⟨n,hn⟩:∃n,xs.length=n:=⟨_,rfl⟩;rw[hn]at h3 bK ⊢;obtain⟨n1,n2⟩:=nX h3;clear hn hv;go_enter Tryz.func86,Tryz.ntmps86;go_wp2_with fail
   all_goals
    refine bodyPost_ret (ae lh rfl _ _ w.heap.size rfl [.string ⟨#[]⟩,.int .i64 0,.string ⟨#[]⟩] (af.bN _ _ rfl) rfl) rfl ?_;exact⟨⟨_,_,_,_,rfl,Nat.zero_le _,Nat.zero_le _⟩,kx⟩
theorem Kp.og{D:Nat→Prop}{w:World}{b:Nat}(hD:D b)(v0 v1:Value):Kp D w ((w.setCell ⟨b,0,none⟩ v0).setCell ⟨b,1,none⟩ v1):=
 (((Kp.refl D w).setCell (p:=⟨b,0,none⟩) (fun _=>hD) v0).setCell (p:=⟨b,1,none⟩) (fun _=>hD) v1)
theorem az.og{w:World}{b:Nat}{t:TypeId}{u0 u1:Value}(h:az w b t #[u0,u1])(v0 v1:Value):az ((w.setCell ⟨b,0,none⟩ v0).setCell ⟨b,1,none⟩ v1) b t #[v0,v1]:=by
 have h0:az (w.setCell ⟨b,0,none⟩ v0) b t #[v0,u1]:=h.bn 0 v0;exact h0.bn 1 v1
def H0(m:Nat)(e:Ending):Prop:=∃n k b,e=.returned (.tuple #[.agg #[.string n,.int .i64 k],.bool b])∧n.size≤m
theorem rH (xs : List ByteArray) (v : Value) (m : Nat) (hm : m ≤ 4000000000) (I : Nat → Prop) (w : World) (hv : SliceOf 1 aY w I v xs) (gL : ∀ x ∈ xs, x.size ≤ m) :
    Calls Tryz.prog 62 #[v] w fun e w'=>H0 m e∧Ext w w':=by
 obtain⟨a,cap,rfl,bK, -⟩:=hv.form;by_cases h3:xs.length=3
 · match xs,h3,hv,gL,bK with
   | [x0, x1, x2], _, hv, gL, bK =>
    obtain⟨b,off,rfl,g1⟩:=aY.at_ (i:=1) hv rfl;obtain⟨_,_,e1,g2⟩:=aY.at_ (i:=2) hv rfl;cases e1;have hz:=ax g1;have o8:=gL x1 (by simp);have zL:=gL x2 (by simp);clear hv gL;simp only[List.length_cons,List.length_nil]at bK ⊢;go_enter Tryz.func62,Tryz.ntmps62;go_wp2_with fail;refine(dW x2 _ (by omega)).mono ?_;rintro e w2 ⟨⟨n,ok,rfl, -, -, -⟩,hE⟩;have lF:=(az.new w 85 #[.string ⟨#[]⟩,.int .i64 0]).ext hE;have fF:Zz (Ext w w2):=Zy (((Kp.refl _ w).alloc _).trans hE);have g13:=fF.o.aj g1;have xy:b≠w.heap.size:=by omega
    have z0:=lF.c 0 (.string ⟨#[]⟩) rfl;have z1:=lF.c 1 (.int .i64 0) rfl;have f0:=lF.frozen 0;have f1:=lF.frozen 1;have eQ:=Zy lF;obtain⟨T,f,fZ,HT⟩:=jS.ex (fun W'=>Kp (·=w.heap.size) w2 W') w2 (Kp.refl _ _);have r1:=fun z=>(HT.aK z).gH g13 xy;have ay:=Zy HT;clear HT hE lF g1 g2;cases ok
    · go_wp2_with fail;(refine ji ay 17 [([0,1,2,3,4,5,6,7,8,9,10,11,12,13],14),([15],16)] [] ?_ ?_)
      · exact(Kp.refl _ _).drew
      (refine dR [_,_,_,_,_,_,_,_,_,_,_,_,_,_] rfl rfl fun K hK=>?_);(repeat (go_big_quiet_step (fail)));(refine qn hK fun K2 au=>?_);clear hK K;go_wp2_with (go_at_call 27;refine(aJ x1 _).mono ?_;rintro e w5 ⟨rfl,rfl⟩);(refine kk ay au (Kp.refl _ _).drew ?_);clear au K2;(refine dR [_] rfl rfl fun K hK=>?_);(repeat (go_big_quiet_step (fail)));(refine qn hK fun K2 au=>?_);clear hK K;go_wp2_with fail;have hk:=(Kp.og (D:=(·=w.heap.size)) (w:=w2) (b:=w.heap.size) rfl (.string x1) (.int .i64 n)).drew;(refine kk ay au hk ?_);clear au K2;(refine jC ?_);go_wp2_with fail;refine bodyPost_ret (ae mK rfl _ _ w.heap.size rfl [.string x1,.int .i64 n] (af.cO ((az.og eQ.o _ _).ext ((Kp.refl _ _).drew))) rfl) rfl ?_;exact⟨⟨_,_,_,rfl,o8⟩,fF.o.own hk (fun _ e=>by omega)⟩
    · by_cases hn:0≤n
      · go_wp2_with fail;(refine ji ay 17 [([0,1,2,3,4,5,6,7,8,9,10,11,12,13],14),([15],16)] [] ?_ ?_)
        · exact(Kp.refl _ _).drew
        (refine dR [_,_,_,_,_,_,_,_,_,_,_,_,_,_] rfl rfl fun K hK=>?_);(repeat (go_big_quiet_step (fail)));(refine qn hK fun K2 au=>?_);clear hK K;go_wp2_with (go_at_call 27;refine(aJ x1 _).mono ?_;rintro e w5 ⟨rfl,rfl⟩);(refine kk ay au (Kp.refl _ _).drew ?_);clear au K2;(refine dR [_] rfl rfl fun K hK=>?_);(repeat (go_big_quiet_step (fail)));(refine qn hK fun K2 au=>?_);clear hK K;go_wp2_with fail;have hk:=(Kp.og (D:=(·=w.heap.size)) (w:=w2) (b:=w.heap.size) rfl (.string x1) (.int .i64 n)).drew;(refine kk ay au hk ?_);clear au K2;(refine jC ?_);go_wp2_with fail;refine bodyPost_ret (ae mK rfl _ _ w.heap.size rfl [.string x1,.int .i64 n] (af.cO ((az.og eQ.o _ _).ext ((Kp.refl _ _).drew))) rfl) rfl ?_;exact⟨⟨_,_,_,rfl,o8⟩,fF.o.own hk (fun _ e=>by omega)⟩
      · have hd:decide (0≤n)=false:=decide_eq_false hn;have dI:n<0:=by omega
        go_wp2_with fail;(refine ji ay 17 [([0,1,2,3,4,5,6,7,8,9,10,11,12,13],14),([15],16)] [] ?_ ?_)
        · exact(Kp.refl _ _).drew
        (refine dR [_,_,_,_,_,_,_,_,_,_,_,_,_,_] rfl rfl fun K hK=>?_);(repeat (go_big_quiet_step (fail)));(refine qn hK fun K2 au=>?_);clear hK K;go_wp2_with (go_at_call 27;refine(aJ x1 _).mono ?_;rintro e w5 ⟨rfl,rfl⟩);(refine kk ay au (Kp.refl _ _).drew ?_);clear au K2;(refine dR [_] rfl rfl fun K hK=>?_);(repeat (go_big_quiet_step (fail)));(refine qn hK fun K2 au=>?_);clear hK K;go_wp2_with fail;have hk:=(Kp.og (D:=(·=w.heap.size)) (w:=w2) (b:=w.heap.size) rfl (.string x1) (.int .i64 n)).drew;(refine kk ay au hk ?_);clear au K2;(refine jC ?_);go_wp2_with fail;refine bodyPost_ret (ae mK rfl _ _ w.heap.size rfl [.string x1,.int .i64 n] (af.cO ((az.og eQ.o _ _).ext ((Kp.refl _ _).drew))) rfl) rfl ?_;exact⟨⟨_,_,_,rfl,o8⟩,fF.o.own hk (fun _ e=>by omega)⟩
 · obtain⟨n,hn⟩:∃n,xs.length=n:=⟨_,rfl⟩;rw[hn]at h3 bK ⊢;obtain⟨n1,n2⟩:=nX h3;clear hn hv;go_enter Tryz.func62,Tryz.ntmps62;go_wp2_with fail
   all_goals
    refine bodyPost_ret (ae mK rfl _ _ w.heap.size rfl [.string ⟨#[]⟩,.int .i64 0] (af.bN _ _ rfl) rfl) rfl ?_;exact⟨⟨_,_,_,rfl,Nat.zero_le _⟩,kx⟩
def uB(m:Nat)(e:Ending):Prop:=∃n s b,e=.returned (.tuple #[.agg #[.string n,.string s,.slice none 0 0,.slice none 0 0],.bool b])∧n.size≤m∧s.size≤m
theorem pQ (xs : List ByteArray) (v : Value) (m : Nat) (I : Nat → Prop) (w : World) (hv : SliceOf 1 aY w I v xs) (gL : ∀ x ∈ xs, x.size ≤ m) :
    Calls Tryz.prog 63 #[v] w fun e w'=>uB m e∧Ext w w':=by
 obtain⟨a,cap,rfl,bK, -⟩:=hv.form;by_cases h3:xs.length=3
 · match xs,h3,hv,gL,bK with
   | [x0, x1, x2], _, hv, gL, bK =>
    obtain⟨b,off,rfl,g1⟩:=aY.at_ (i:=1) hv rfl;obtain⟨_,_,e1,g2⟩:=aY.at_ (i:=2) hv rfl;cases e1;have hz:=ax g1;have o8:=gL x1 (by simp);have zL:=gL x2 (by simp);have yH:=fun W=>Zy (aJ x1 W);have IC:=fun W=>Zy (aJ x2 W);clear hv gL;simp only[List.length_cons,List.length_nil]at bK ⊢;have no:∀(W:World) (b:Bool),Ext w W→uB m (.returned (.tuple #[.agg #[.string ⟨#[]⟩,.string ⟨#[]⟩,.slice none 0 0,.slice none 0 0],.bool b]))∧Ext w W:=fun W b h=>⟨⟨_,_,_,rfl,Nat.zero_le _,Nat.zero_le _⟩,h⟩;have yes:∀(W:World) (s:ByteArray),s.size≤m→Ext w W→uB m (.returned (.tuple #[.agg #[.string x1,.string s,.slice none 0 0,.slice none 0 0],.bool true]))∧Ext w W:=fun W s hs h=>⟨⟨_,_,_,rfl,o8,hs⟩,h⟩;have NO:=Zy no;have YES:=Zy yes;clear no yes;cases h1:M.aB x1<;>simp only[h1]at yH
    · go_enter Tryz.func63,Tryz.ntmps63;go_wp2_with (go_at_call 27;refine(yH _).o.mono ?_;rintro e w5 ⟨rfl,rfl⟩);refine bodyPost_ret (ae iw rfl _ _ w.heap.size rfl [.string ⟨#[]⟩,.string ⟨#[]⟩,.slice none 0 0,.slice none 0 0] (af.bN _ _ rfl) rfl) rfl ?_;exact NO.o _ _ kx
    · cases hq:(x2.toList==[45])
      · cases h2:M.aB x2<;>simp only[h2]at IC
        · go_enter Tryz.func63,Tryz.ntmps63;go_wp2_with fail;refine(yH _).o.mono ?_;rintro e w5 ⟨rfl,rfl⟩;go_wp2_with fail;refine(IC _).o.mono ?_;rintro e w6 ⟨rfl,rfl⟩;go_wp2_with fail;refine bodyPost_ret (ae iw rfl _ _ w.heap.size rfl [.string ⟨#[]⟩,.string ⟨#[]⟩,.slice none 0 0,.slice none 0 0] (af.bN _ _ rfl) rfl) rfl ?_;exact NO.o _ _ kx
        · go_enter Tryz.func63,Tryz.ntmps63;go_wp2_with fail;refine(yH _).o.mono ?_;rintro e w5 ⟨rfl,rfl⟩;go_wp2_with fail;refine(IC _).o.mono ?_;rintro e w6 ⟨rfl,rfl⟩;go_wp2_with fail;refine bodyPost_ret (ae iw rfl _ _ w.heap.size rfl [.string x1,.string x2,.slice none 0 0,.slice none 0 0] (af.cO ((az.new w _ _).ext ((Kp.refl _ _).alloc _))) rfl) rfl ?_;exact YES.o _ _ zL kx
      · go_enter Tryz.func63,Tryz.ntmps63;go_wp2_with (go_at_call 27;refine(yH _).o.mono ?_;rintro e w5 ⟨rfl,rfl⟩);refine bodyPost_ret (ae iw rfl _ _ w.heap.size rfl [.string x1,.string ⟨#[]⟩,.slice none 0 0,.slice none 0 0] (af.cO ((az.new w _ _).ext ((Kp.refl _ _).alloc _))) rfl) rfl ?_;exact YES.o _ _ (Nat.zero_le _) kx
 · obtain⟨n,hn⟩:∃n,xs.length=n:=⟨_,rfl⟩;rw[hn]at h3 bK ⊢;obtain⟨n1,n2⟩:=nX h3;clear hn hv;go_enter Tryz.func63,Tryz.ntmps63;go_wp2_with fail
   all_goals
    refine bodyPost_ret (ae iw rfl _ _ w.heap.size rfl [.string ⟨#[]⟩,.string ⟨#[]⟩,.slice none 0 0,.slice none 0 0] (af.bN _ _ rfl) rfl) rfl ?_;exact⟨⟨_,_,_,rfl,Nat.zero_le _,Nat.zero_le _⟩,kx⟩
theorem hU:rZ 111 3:=⟨_,Tryz.underlying111,by kernel_rfl⟩
def qP(w w':World)(e:Ending):Prop:=∃x c0 c1 c2 b,e=.returned (.tuple #[.agg #[c0,c1,c2],.bool b])∧dE w' (fun b=>w.heap.size≤b∧b<w'.heap.size) x [c0,c1,c2]
theorem qP.zero(w w':World)(b:Bool):qP w w' (.returned (.tuple #[.agg #[.int .i64 0,.slice none 0 0,.slice none 0 0],.bool b])):=
 ⟨⟨0,[],[]⟩,_,_,_,b,rfl,_,_,rfl,SliceOf.nil _ _ _ _,SliceOf.nil _ _ _ _⟩
theorem tV (xs : List ByteArray) (v : Value) (m : Nat) (hm : m ≤ 4000000000) (I : Nat → Prop) (w : World) (hv : SliceOf 1 aY w I v xs) (gL : ∀ x ∈ xs, x.size ≤ m) :
    Calls Tryz.prog 88 #[v] w fun e w'=>qP w w' e∧Ext w w':=by
 obtain⟨a,cap,rfl,bK, -⟩:=hv.form;obtain⟨n,hn⟩:∃n,xs.length=n:=⟨_,rfl⟩;rw[hn]at bK hv ⊢;by_cases h3:n<3
 · have d3:(n:Int)<3:=by omega
   clear hn hv;go_enter Tryz.func88,Tryz.ntmps88;go_wp2_with fail
   all_goals
    refine bodyPost_ret (ae hU rfl _ _ w.heap.size rfl [.int .i64 0,.slice none 0 0,.slice none 0 0] (af.bN _ _ rfl) rfl) rfl ?_;exact⟨qP.zero _ _ _,kx⟩
 by_cases Pf:15<n
 · have d3:¬(n:Int)<3:=by omega
   have d15:(15:Int)<n:=by omega
   clear hn hv;go_enter Tryz.func88,Tryz.ntmps88;go_wp2_with fail
   all_goals
    refine bodyPost_ret (ae hU rfl _ _ w.heap.size rfl [.int .i64 0,.slice none 0 0,.slice none 0 0] (af.bN _ _ rfl) rfl) rfl ?_;exact⟨qP.zero _ _ _,kx⟩
 have d3:¬(n:Int)<3:=by omega
 have d15:¬(15:Int)<n:=by omega
 obtain⟨x1,o8⟩:∃x,xs[1]?=some x:=⟨xs[1]'(by omega),List.getElem?_eq_getElem (by omega)⟩;obtain⟨b,off,rfl,g1⟩:=aY.at_ hv o8;have gz:=ax g1;have yD:=gL x1 (List.mem_of_getElem? o8);have HV:=Zy hv;have HN:=Zy hn;have HX:=Zy o8;clear hv hn o8;obtain⟨w0,bB⟩:∃w0,w0=w.alloc (.cells #[.int .i64 0,.slice none 0 0,.slice none 0 0] 111):=⟨_,rfl⟩;have bH:Ext w w0:=by rw[bB];exact kx
 have HB:Zz (az w0 w.heap.size 111 #[.int .i64 0,.slice none 0 0,.slice none 0 0]):=Zy (by rw[bB];exact az.new _ _ _);have g10:=bH.aj g1;have Nz:=ax g10;have aZ:=Zy bH;have bZ:=Zy bB;clear bH bB;go_enter Tryz.func88,Tryz.ntmps88;go_wp2_with fail;rw[←bZ.o];go_wp2_with fail;refine(dW x1 _ (by omega)).mono ?_;rintro e w2 ⟨⟨at_,ok,rfl, -, -, -⟩,dm⟩;obtain⟨w3,gm⟩:∃w3,w3=w2.alloc (.cells #[.int .i64 at_,.slice none 0 0,.slice none 0 0] 111):=⟨_,rfl⟩;have dX:Ext w2 w3:=by rw[gm];exact kx
 have jl:Zz (az w3 w2.heap.size 111 #[.int .i64 at_,.slice none 0 0,.slice none 0 0]):=Zy (by rw[gm];exact az.new _ _ _);have Dt:=(aZ.o.trans dm).trans dX;have eQ:=Zy (HB.o.ext (dm.trans dX));have fF:=Zy Dt;have IY:=Zy (HV.o.ext aY.stays Dt);have yM:Zz (w3.heap.size=w2.heap.size+1):=Zy (by rw[gm];simp);have dI:b<w2.heap.size:=by have:=(aZ.o.trans dm).size;omega
 have hle:w.heap.size<w2.heap.size:=(HB.o.ext dm).lt;have mY:=Zy gm;clear dm dX Dt gm g10 Nz g1 gz;go_wp2_with fail;rw[←mY.o];go_loopw [7,8] (fun h i wr=>∃(bh:Bool) (k:Nat) (vl vs:Value) (ls ss:List M.Tag),2≤k∧k≤n∧h=.bool bh∧i=.int .i64 k∧ls.length+ss.length≤k∧az wr w2.heap.size 111 #[.int .i64 at_,vl,vs]∧
     wr.ownsRow (w2.heap.size+1) 133 2 vl ls.length (ls.flatMap jW)∧wr.ownsRow (w2.heap.size+1) 133 2 vs ss.length (ss.flatMap jW)∧(∀b,vl.ownBlock=some b→vs.ownBlock≠some b)∧Kp (·=w2.heap.size) w3 wr) (fun _ i _=>n - (intOf i).toNat)
 case atStart=>
  exact⟨false,2,_,_,[],[],Nat.le_refl _,by omega,rfl,rfl,by simp,jl.o,⟨rfl,.inl ⟨rfl,rfl⟩⟩,⟨rfl,.inl ⟨rfl,rfl⟩⟩,(fun _ h=>by cases h),Kp.refl _ _⟩
 case round =>
  obtain⟨bh,k,vl,vs,ls,ss,k2,kn,rfl,rfl,F7,hC,Dy,Jw,hd,Dv⟩:=hrel;obtain⟨la,lc,rfl⟩:=jD Dy;obtain⟨sa,sc,rfl⟩:=jD Jw;have jT:=Zy (eQ.o.kp Dv (by omega));have qN:=Zy hC;have vU:=Zy Dy;have Aq:=Zy Jw;have HD:=Zy hd;have vT:=Zy Dv;clear hC Dy Jw hd Dv;by_cases Ob:k<n
  · have dk:(k:Int)<n:=by omega
    obtain⟨x,hx⟩:∃x,xs[k]?=some x:=⟨xs[k]'(by have:=HN.o;omega),List.getElem?_eq_getElem (by have:=HN.o;omega)⟩;obtain⟨_,_,e1,g1⟩:=aY.at_ IY.o hx;cases e1;have gk:=vT.o.gH g1 (by omega);have gz:=ax gk;clear g1 hx;cases hq:(x.toList==[47])
    · cases bh
      · go_wp2_with fail;refine(jH x _).mono ?_;rintro e w4 ⟨⟨t,s,fine,rfl,hs⟩,dw⟩;obtain⟨w5,dA⟩:∃w5,w5=w4.alloc (.cells #[.int .i64 t,.string s] 133):=⟨_,rfl⟩;have sU:Ext w4 w5:=by rw[dA];exact kx
        have vV:Zz (az w5 w4.heap.size 133 #[.int .i64 t,.string s]):=Zy (by rw[dA];exact az.new _ _ _);have bg:=dw.trans sU;have cZ:=Zy (jT.o.ext bg);have eT:=Zy (qN.o.ext bg);have Ap:=Zy (vT.o.trans bg.any);have dh:Zz (Ext w w5):=Zy (fF.o.own Ap.o (fun _ e=>by omega));have kZ:Zz (wr.heap.size≤w4.heap.size):=Zy dw.size;have G5:Zz (w4.heap.size<w5.heap.size):=Zy vV.o.lt;have sV:=bg;clear dw sU bg;have z0:=cZ.o.c 0 (.int .i64 0) rfl;have z1:=cZ.o.c 1 (.slice none 0 0) rfl;have z2:=cZ.o.c 2 (.slice none 0 0) rfl;have f0:=cZ.o.frozen 0;have f1:=cZ.o.frozen 1;have f2:=cZ.o.frozen 2;have c0:=eT.o.c 0 (.int .i64 at_) rfl;have c1:=eT.o.c 1 (.slice la ls.length lc) rfl;have c2:=eT.o.c 2 (.slice sa ss.length sc) rfl;have g0:=eT.o.frozen 0;have g1:=eT.o.frozen 1;have g2:=eT.o.frozen 2;have y0:=vV.o.c 0 (.int .i64 t) rfl;have y1:=vV.o.c 1 (.string s) rfl;have z5:=cZ.o.lt;have c5:=eT.o.lt;have y5:=vV.o.lt;cases fine
        · subst dA;go_wp2_with fail;refine bodyPost_ret (ae hU rfl _ _ w.heap.size rfl [.int .i64 0,.slice none 0 0,.slice none 0 0] (af.cO (az.lL cZ.o _ _ _)) rfl) rfl ?_;exact⟨qP.zero _ _ _,dh.o.own (Kp.lL (D:=(·=w.heap.size)) rfl _ _ _) (fun _ e=>by omega)⟩
        · have lY:Ext wr ((w4.alloc (.cells #[.int .i64 t,.string s] 133)).alloc (.cells #[.int .i64 t,.string s] 133)):=(dA▸sV).alloc _;have HG:=Zy lY;clear lY sV;subst dA;have uV:ls.length+1≤4294967296:=by omega
          have iC:w2.heap.size+1≤(w4.alloc (.cells #[.int .i64 t,.string s] 133)).heap.size:=by have:=vT.o.size;have:=yM.o;have:=kZ.o;simp;omega
          go_wp2_with (refine ah nG rfl (.tmp 63) (.tmp 65) rfl (w2.heap.size+1) (.slice la ls.length lc) ls.length (ls.flatMap jW) rfl (aD (D:=fun _=>False) vU.o HG.o fun _ _ _ x=>x) (w4.heap.size+1) 1 [.int .i64 t,.string s] rfl rfl (af.bN _ _ (by simp)) (by simp[Value.oneCell']) uV (by simp at iC ⊢;omega) ?_;rintro g9 c9 w9 nN j6 Ct;have qX:=(eT.o.ext ((Kp.refl _ _).alloc _)).kp j6 (fun e=>by have:=(dZ vU.o e).1;omega);have d0:=qX.frozen 1;have d1:=qX.c 1 (.slice la ls.length lc) rfl;have dz:=qX.lt);have mF:Kp (·=w2.heap.size) w3 w9:=Kp.own (Ap.o.alloc _) j6 (fun b hb=>by have:=(dZ vU.o hb).1;have:=yM.o;omega);have q9:Kp (·=w2.heap.size) w9 (w9.setCell ⟨w2.heap.size,1,none⟩ (.slice (some ⟨g9,0,none⟩) (ls.length+1) c9)):=(Kp.refl (·=w2.heap.size) w9).setCell (p:=⟨w2.heap.size,1,none⟩) (fun _=>rfl) _;have FK:=aD (aD Aq.o HG.o fun _ _ _ x=>x) j6 (fun g e1 _ e2=>HD.o g e2 e1);have zt:=aD FK q9 (fun g _ e2 e3=>by omega);have uT:=aD nN q9 (fun g _ e2 e3=>by omega);have zu:=fun g e=>(dZ (aD (D:=fun _=>False) Aq.o HG.o fun _ _ _ x=>x) (g:=g) e).2;go_round
          case rel=>
           refine⟨false,k+1,_,_,ls++[⟨t,s⟩],ss,by omega,by omega,rfl,by go_num,by simp;omega,qX.bn 1 _,?_,zt,?_,mF.trans q9⟩
           · simpa [jW]using uT
           · intro g e1 e2;cases e1;rcases Ct with h|h
             · exact HD.o _ h e2
             · have:=zu g9 e2;omega
          case measure=>simp[intOf];omega
      · go_wp2_with fail;refine(jH x _).mono ?_;rintro e w4 ⟨⟨t,s,fine,rfl,hs⟩,dw⟩;obtain⟨w5,dA⟩:∃w5,w5=w4.alloc (.cells #[.int .i64 t,.string s] 133):=⟨_,rfl⟩;have sU:Ext w4 w5:=by rw[dA];exact kx
        have vV:Zz (az w5 w4.heap.size 133 #[.int .i64 t,.string s]):=Zy (by rw[dA];exact az.new _ _ _);have bg:=dw.trans sU;have cZ:=Zy (jT.o.ext bg);have eT:=Zy (qN.o.ext bg);have Ap:=Zy (vT.o.trans bg.any);have dh:Zz (Ext w w5):=Zy (fF.o.own Ap.o (fun _ e=>by omega));have kZ:Zz (wr.heap.size≤w4.heap.size):=Zy dw.size;have G5:Zz (w4.heap.size<w5.heap.size):=Zy vV.o.lt;have sV:=bg;clear dw sU bg;have z0:=cZ.o.c 0 (.int .i64 0) rfl;have z1:=cZ.o.c 1 (.slice none 0 0) rfl;have z2:=cZ.o.c 2 (.slice none 0 0) rfl;have f0:=cZ.o.frozen 0;have f1:=cZ.o.frozen 1;have f2:=cZ.o.frozen 2;have c0:=eT.o.c 0 (.int .i64 at_) rfl;have c1:=eT.o.c 1 (.slice la ls.length lc) rfl;have c2:=eT.o.c 2 (.slice sa ss.length sc) rfl;have g0:=eT.o.frozen 0;have g1:=eT.o.frozen 1;have g2:=eT.o.frozen 2;have y0:=vV.o.c 0 (.int .i64 t) rfl;have y1:=vV.o.c 1 (.string s) rfl;have z5:=cZ.o.lt;have c5:=eT.o.lt;have y5:=vV.o.lt;cases fine
        · subst dA;go_wp2_with fail;refine bodyPost_ret (ae hU rfl _ _ w.heap.size rfl [.int .i64 0,.slice none 0 0,.slice none 0 0] (af.cO (az.lL cZ.o _ _ _)) rfl) rfl ?_;exact⟨qP.zero _ _ _,dh.o.own (Kp.lL (D:=(·=w.heap.size)) rfl _ _ _) (fun _ e=>by omega)⟩
        · have lY:Ext wr ((w4.alloc (.cells #[.int .i64 t,.string s] 133)).alloc (.cells #[.int .i64 t,.string s] 133)):=(dA▸sV).alloc _;have HG:=Zy lY;clear lY sV;subst dA;have uV:ss.length+1≤4294967296:=by omega
          have iC:w2.heap.size+1≤(w4.alloc (.cells #[.int .i64 t,.string s] 133)).heap.size:=by have:=vT.o.size;have:=yM.o;have:=kZ.o;simp;omega
          go_wp2_with (refine ah nG rfl (.tmp 57) (.tmp 59) rfl (w2.heap.size+1) (.slice sa ss.length sc) ss.length (ss.flatMap jW) rfl (aD (D:=fun _=>False) Aq.o HG.o fun _ _ _ x=>x) (w4.heap.size+1) 1 [.int .i64 t,.string s] rfl rfl (af.bN _ _ (by simp)) (by simp[Value.oneCell']) uV (by simp at iC ⊢;omega) ?_;rintro g9 c9 w9 nN j6 Ct;have qX:=(eT.o.ext ((Kp.refl _ _).alloc _)).kp j6 (fun e=>by have:=(dZ Aq.o e).1;omega);have d0:=qX.frozen 2;have d1:=qX.c 2 (.slice sa ss.length sc) rfl;have dz:=qX.lt);have mF:Kp (·=w2.heap.size) w3 w9:=Kp.own (Ap.o.alloc _) j6 (fun b hb=>by have:=(dZ Aq.o hb).1;have:=yM.o;omega);have q9:Kp (·=w2.heap.size) w9 (w9.setCell ⟨w2.heap.size,2,none⟩ (.slice (some ⟨g9,0,none⟩) (ss.length+1) c9)):=(Kp.refl (·=w2.heap.size) w9).setCell (p:=⟨w2.heap.size,2,none⟩) (fun _=>rfl) _;have FK:=aD (aD vU.o HG.o fun _ _ _ x=>x) j6 (fun g e1 _ e2=>HD.o g e1 e2);have zt:=aD FK q9 (fun g _ e2 e3=>by omega);have uT:=aD nN q9 (fun g _ e2 e3=>by omega);have zu:=fun g e=>(dZ (aD (D:=fun _=>False) vU.o HG.o fun _ _ _ x=>x) (g:=g) e).2;go_round
          case rel=>
           refine⟨true,k+1,_,_,ls,ss++[⟨t,s⟩],by omega,by omega,rfl,by go_num,by simp;omega,qX.bn 2 _,zt,?_,?_,mF.trans q9⟩
           · simpa [jW]using uT
           · intro g e1 e2;cases e2;rcases Ct with h|h
             · exact HD.o _ e1 h
             · have:=zu g9 e1;omega
          case measure=>simp[intOf];omega
    · cases bh
      · go_wp2_with fail;go_round
        case rel=>exact⟨true,k+1,_,_,ls,ss,by omega,by omega,rfl,by go_num,by omega,qN.o,vU.o,Aq.o,HD.o,vT.o⟩
        case measure=>simp[intOf];omega
      · go_wp2_with fail;refine(jH x _).mono ?_;rintro e w4 ⟨⟨t,s,fine,rfl,hs⟩,dw⟩;obtain⟨w5,dA⟩:∃w5,w5=w4.alloc (.cells #[.int .i64 t,.string s] 133):=⟨_,rfl⟩;have sU:Ext w4 w5:=by rw[dA];exact kx
        have vV:Zz (az w5 w4.heap.size 133 #[.int .i64 t,.string s]):=Zy (by rw[dA];exact az.new _ _ _);have bg:=dw.trans sU;have cZ:=Zy (jT.o.ext bg);have eT:=Zy (qN.o.ext bg);have Ap:=Zy (vT.o.trans bg.any);have dh:Zz (Ext w w5):=Zy (fF.o.own Ap.o (fun _ e=>by omega));have kZ:Zz (wr.heap.size≤w4.heap.size):=Zy dw.size;have G5:Zz (w4.heap.size<w5.heap.size):=Zy vV.o.lt;have sV:=bg;clear dw sU bg;have z0:=cZ.o.c 0 (.int .i64 0) rfl;have z1:=cZ.o.c 1 (.slice none 0 0) rfl;have z2:=cZ.o.c 2 (.slice none 0 0) rfl;have f0:=cZ.o.frozen 0;have f1:=cZ.o.frozen 1;have f2:=cZ.o.frozen 2;have c0:=eT.o.c 0 (.int .i64 at_) rfl;have c1:=eT.o.c 1 (.slice la ls.length lc) rfl;have c2:=eT.o.c 2 (.slice sa ss.length sc) rfl;have g0:=eT.o.frozen 0;have g1:=eT.o.frozen 1;have g2:=eT.o.frozen 2;have y0:=vV.o.c 0 (.int .i64 t) rfl;have y1:=vV.o.c 1 (.string s) rfl;have z5:=cZ.o.lt;have c5:=eT.o.lt;have y5:=vV.o.lt;cases fine
        · subst dA;go_wp2_with fail;refine bodyPost_ret (ae hU rfl _ _ w.heap.size rfl [.int .i64 0,.slice none 0 0,.slice none 0 0] (af.cO (az.lL cZ.o _ _ _)) rfl) rfl ?_;exact⟨qP.zero _ _ _,dh.o.own (Kp.lL (D:=(·=w.heap.size)) rfl _ _ _) (fun _ e=>by omega)⟩
        · have lY:Ext wr ((w4.alloc (.cells #[.int .i64 t,.string s] 133)).alloc (.cells #[.int .i64 t,.string s] 133)):=(dA▸sV).alloc _;have HG:=Zy lY;clear lY sV;subst dA;have uV:ss.length+1≤4294967296:=by omega
          have iC:w2.heap.size+1≤(w4.alloc (.cells #[.int .i64 t,.string s] 133)).heap.size:=by have:=vT.o.size;have:=yM.o;have:=kZ.o;simp;omega
          go_wp2_with (refine ah nG rfl (.tmp 57) (.tmp 59) rfl (w2.heap.size+1) (.slice sa ss.length sc) ss.length (ss.flatMap jW) rfl (aD (D:=fun _=>False) Aq.o HG.o fun _ _ _ x=>x) (w4.heap.size+1) 1 [.int .i64 t,.string s] rfl rfl (af.bN _ _ (by simp)) (by simp[Value.oneCell']) uV (by simp at iC ⊢;omega) ?_;rintro g9 c9 w9 nN j6 Ct;have qX:=(eT.o.ext ((Kp.refl _ _).alloc _)).kp j6 (fun e=>by have:=(dZ Aq.o e).1;omega);have d0:=qX.frozen 2;have d1:=qX.c 2 (.slice sa ss.length sc) rfl;have dz:=qX.lt);have mF:Kp (·=w2.heap.size) w3 w9:=Kp.own (Ap.o.alloc _) j6 (fun b hb=>by have:=(dZ Aq.o hb).1;have:=yM.o;omega);have q9:Kp (·=w2.heap.size) w9 (w9.setCell ⟨w2.heap.size,2,none⟩ (.slice (some ⟨g9,0,none⟩) (ss.length+1) c9)):=(Kp.refl (·=w2.heap.size) w9).setCell (p:=⟨w2.heap.size,2,none⟩) (fun _=>rfl) _;have FK:=aD (aD vU.o HG.o fun _ _ _ x=>x) j6 (fun g e1 _ e2=>HD.o g e1 e2);have zt:=aD FK q9 (fun g _ e2 e3=>by omega);have uT:=aD nN q9 (fun g _ e2 e3=>by omega);have zu:=fun g e=>(dZ (aD (D:=fun _=>False) vU.o HG.o fun _ _ _ x=>x) (g:=g) e).2;go_round
          case rel=>
           refine⟨true,k+1,_,_,ls,ss++[⟨t,s⟩],by omega,by omega,rfl,by go_num,by simp;omega,qX.bn 2 _,zt,?_,?_,mF.trans q9⟩
           · simpa [jW]using uT
           · intro g e1 e2;cases e2;rcases Ct with h|h
             · exact HD.o _ e1 h
             · have:=zu g9 e1;omega
          case measure=>simp[intOf];omega
  · have dk:¬(k:Int)<n:=by omega
    have c0:=qN.o.c 0 (.int .i64 at_) rfl;have c1:=qN.o.c 1 (.slice la ls.length lc) rfl;have c2:=qN.o.c 2 (.slice sa ss.length sc) rfl;have z0:=jT.o.c 0 (.int .i64 0) rfl;have z1:=jT.o.c 1 (.slice none 0 0) rfl;have z2:=jT.o.c 2 (.slice none 0 0) rfl;have f0:=jT.o.frozen 0;have f1:=jT.o.frozen 1;have f2:=jT.o.frozen 2;have zz:=jT.o.lt;have cz:=qN.o.lt;have tC:Kp (·=w.heap.size) wr (((wr.setCell ⟨w.heap.size,0,none⟩ (.int .i64 at_)).setCell ⟨w.heap.size,1,none⟩ (.slice la ls.length lc)).setCell ⟨w.heap.size,2,none⟩ (.slice sa ss.length sc)):=Kp.lL (D:=(·=w.heap.size)) rfl _ _ _;have hL:=aD vU.o tC (fun g _ e2 e3=>by omega);have hS:=aD Aq.o tC (fun g _ e2 e3=>by omega);have FIN:Zz (∀b,qP w _ (.returned (.tuple #[.agg #[.int .i64 at_,.slice la ls.length lc,.slice sa ss.length sc],.bool b]))∧Ext w (((wr.setCell ⟨w.heap.size,0,none⟩ (.int .i64 at_)).setCell ⟨w.heap.size,1,none⟩ (.slice la ls.length lc)).setCell ⟨w.heap.size,2,none⟩ (.slice sa ss.length sc))):=Zy (fun b=>⟨⟨⟨at_,ls,ss⟩,_,_,_,b,rfl,_,_,rfl,
     SliceOf.kP jW hL rfl rfl (fun _ _=>rfl) (fun _ _=>rfl) (fun b h1 h2=>⟨by omega,h2⟩) (show ls.length≤4294967296 by omega),
     SliceOf.kP jW hS rfl rfl (fun _ _=>rfl) (fun _ _=>rfl) (fun b h1 h2=>⟨by omega,h2⟩) (show ss.length≤4294967296 by omega)⟩,
     (fF.o.own vT.o (fun _ e=>by omega)).own tC (fun _ e=>by omega)⟩)
    clear tC hL hS;cases ok
    · go_wp2_with fail;refine bodyPost_ret (ae hU rfl _ _ w.heap.size rfl [.int .i64 at_,.slice la ls.length lc,.slice sa ss.length sc] (af.cO (az.lL jT.o _ _ _)) rfl) rfl ?_;exact FIN.o _
    · cases bh
      · go_wp2_with fail;refine bodyPost_ret (ae hU rfl _ _ w.heap.size rfl [.int .i64 at_,.slice la ls.length lc,.slice sa ss.length sc] (af.cO (az.lL jT.o _ _ _)) rfl) rfl ?_;exact FIN.o _
      · go_wp2_with fail;refine bodyPost_ret (ae hU rfl _ _ w.heap.size rfl [.int .i64 at_,.slice la ls.length lc,.slice sa ss.length sc] (af.cO (az.lL jT.o _ _ _)) rfl) rfl ?_;exact FIN.o _
end Go.Proofs.YtmcmhalhieejaaaGreatDoor
