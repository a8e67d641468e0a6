/- FnVmBack: for every input the program returns true, and the input reads as it did. No condition. -/
import Derived.Test.YtcepdbbapgfcdaaGreatVmCoreLc
import Derived.Test.YtcepdbbapgfcdaaGreatVmCoret
import Derived.Test.YtcepdbbapgfcdaaGreatRows
import Derived.ProofKit
import Derived.Carry
set_option maxRecDepth 100000
set_option maxHeartbeats 4000000
set_option linter.all false
namespace Go.Proofs.YtcepdbbapgfcdaaGreat.M
theorem eH.link{p:au}:eH p dD:=⟨⟨by simp[dD,ib],by simp[dD],by simp[dD],by simp[dD],by simp[dD],by simp[dD,bE,ek]⟩,by simp[dD],by simp[dD]⟩
theorem Good.one{p:au}{q:Ref}(hq:cZ p q=true):Good p ⟨1,[],[fresh p q],[],ek⟩:=by
 have h0:Good p ⟨1,[],[],[],ek⟩:=⟨by simp[ib],by simp,by simp,by simp,by simp,by simp[bE,ek]⟩;exact h0.grow hq (by simp)
theorem lM{p:au}(gp:bU p=true){lk:Bool}{k:Int}{n m:ByteArray}{args:List Int}(ha:args.all fT=true):eH p (start p lk k n m args):=by
 unfold start;split
 · rename_i hf;split
   · rename_i hc;obtain⟨rr,Mr⟩:=jI hc.1;have hx:=jW Mr;have hlen:(method p (call p k n m).1).args.length=args.length:=by
      have:=hc.2;unfold iK at this;simp only[Bool.and_eq_true,decide_eq_true_eq]at this;exact this.1
     refine jR.runs (nE gp (Good.one hf.2) rfl hx ?_ ?_)
     · intro v hv;rcases List.mem_cons.1 hv with rfl|hv
       · exact qG _ (by omega) (by simp)
       · obtain⟨x,hx,rfl⟩:=List.mem_map.1 hv;exact gV _ (List.all_eq_true.1 ha x hx)
     · have:=(lL (gI gp hx).1).args;simp;omega
   · exact eH.link
 · exact eH.link
theorem qH{p:au}{lk:Bool}{s:St}{f:Nat}(gp:bU p=true)(hs:eH p s)(hf:f≤400):eQ p lk s f=steps p lk f s:=by
 unfold eQ;rw[decide_eq_true (by omega),gp,sP.2 hs];rfl
end Go.Proofs.YtcepdbbapgfcdaaGreat.M
namespace Go.Proofs.YtcepdbbapgfcdaaGreat.M
open Go
section
variable {p:au} {s s1:St} {r:List Fr} {t t1:Fr} {op:Int}
end
theorem lH{c:Int}{s:St}(h:s.status=1):(end_ c s).status=c:=by
 unfold end_;split
 · rename_i e;rw[h,e]
 · rfl
theorem lG{c:Int}{s:St}(h:c=1):(end_ c s).frames=s.frames:=by unfold end_;rw[if_pos h]
theorem qi(c:Int)(s:St):(end_ c s).heap=s.heap:=by unfold end_;split<;>rfl
theorem kF{p:au}{k:Int}{n m:ByteArray}{args:List Int}:(∀lk,fG p lk k n m args=Gw)∨(bU p=true∧∀lk,fG p lk k n m args=start p lk k n m args∧eH p (fG p lk k n m args)):=by
 unfold fG;by_cases h:(bU p&&has p k&&aY n&&aY m&&args.all fT)=true
 · right;simp only[Bool.and_eq_true]at h;refine⟨h.1.1.1.1,fun lk=>?_⟩;rw[h.1.1.1.1,h.1.1.1.2,h.1.1.2,h.1.2,h.2];exact⟨rfl,lM h.1.1.1.1 h.2⟩
 · left;intro lk;rw[if_neg h]
end Go.Proofs.YtcepdbbapgfcdaaGreat.M
namespace Go.Proofs.YtcepdbbapgfcdaaGreat
open Go Go.RowKit
theorem aN.inside{w:World}{I:Nat→Prop}{s:M.St}{cs:List Value}(h:aN w I s cs):aN w (fun b=>b<w.heap.size) s cs:=by
 obtain⟨vf,vh,vo,e,h1,h2,h3⟩:=h;have hI:∀b,I b∧b<w.heap.size→b<w.heap.size:=fun b h=>h.2;have keep:∀{α:Type} {k:Nat} {R:fP α} (hS:bQ R) {v:Value} {xs:List α},SliceOf k R w (fun b=>I b∧b<w.heap.size) v xs→SliceOf k R w (fun b=>b<w.heap.size) v xs:=fun hS _ _ h=>h.keep hS (fun _ _ _ _ h=>h) hI;refine⟨vf,vh,vo,e,keep JZ.stays (h1.inside (fun w I x cs h=>?_) (by omega)),keep rA.stays (h2.inside (fun w I x cs h=>?_) (by omega)),keep iZ.stays (h3.inside (fun _ _ _ _ h=>h) (by omega))⟩
 · obtain⟨vl,vs,e,a,b⟩:=h;exact⟨vl,vs,e,a.inside (fun _ _ _ _ h=>h) (by omega),b.inside (fun _ _ _ _ h=>h) (by omega)⟩
 · obtain⟨vf,e,a⟩:=h;exact⟨vf,e,a.inside (fun _ _ _ _ h=>h) (by omega)⟩
theorem aN.parts{w:World}{I:Nat→Prop}{s:M.St}{c0 v1 v2 v3 c4 c5:Value}(h:aN w I s [c0,v1,v2,v3,c4,c5]):SliceOf 6 JZ w I v1 s.frames∧SliceOf 3 rA w I v2 s.heap∧SliceOf 1 iZ w I v3 s.outs:=by
 obtain⟨_,_,_,e,h1,h2,h3⟩:=h;cases e;exact⟨h1,h2,h3⟩
theorem wK(w:World):Calls Tryz.prog 12 #[] w fun e w'=>e=.returned (.bool true)∧w'=w:=by
 have hn:M.aY ⟨#[97]⟩=true:=by decide+kernel
 have HN:=Ys (fZ ⟨#[97]⟩ w);rw[hn]at HN;go_enter Tryz.func12,Tryz.ntmps12;go_wp2_with fail;refine HN.o.mono ?_;rintro e w1 ⟨rfl,rfl⟩;go_wp2_with fail;go_ret;exact⟨rfl,rfl⟩
theorem OD{α:Type}(f:α→Bool):∀{l:List α} {c:α},l.find? f=some c→∃k:Nat,l[k]?=some c∧f c=true∧∀(i:Nat) (x:α),i<k→l[i]?=some x→f x=false
 |[],_,h=>by simp at h
 |y::l,c,h=>by
  rw[List.find?_cons]at h;cases hy:f y
  · rw[hy]at h;obtain⟨k,h1,h2,h3⟩:=OD f h;refine⟨k+1,by simpa using h1,h2,fun i x hi hx=>?_⟩;cases i with
    |zero=>simp at hx;subst hx;exact hy
    |succ i=>exact h3 i x (by omega) (by simpa using hx)
  · rw[hy]at h;cases h;exact⟨0,rfl,hy,fun i x hi=>by omega⟩
theorem acM(w:World)(I:Nat→Prop)(v:Value)(p:M.au)(hp:SliceOf 2 az w I v p)(j:Nat)(q:M.gy)(hq:p[j]?=some q)(rn:ByteArray)(c:M.Class)(hc:q.owns.find? (fun c=>decide (c.name=rn))=some c):
    ∃cs,aX w I c cs∧∀W,Ext w W→Calls Tryz.prog 13 #[.agg #[v],.agg #[.int .i64 j,.string rn]] W fun e w'=>e=.returned (.agg cs.toArray)∧Ext W w':=by
 obtain⟨k0,uP,Wx,Nn⟩:=OD _ hc;have hcn:c.name=rn:=by simpa using Wx
 subst hcn;have hjl:j<p.length:=(List.getElem?_eq_some_iff.1 hq).1;have Aa:k0<q.owns.length:=(List.getElem?_eq_some_iff.1 uP).1;obtain⟨a,cap,rfl,hn,dn⟩:=hp.form;obtain⟨bk,fk,ks,rfl, -,hkq, -,yl⟩:=hp.get hq;obtain⟨vo,va,rfl,pY, -⟩:=hkq;obtain⟨ao,co,rfl, -,WJ⟩:=pY.form;obtain⟨bo,fo,cs,rfl, -,fV, -,jh⟩:=pY.get uP;refine⟨cs,fV,fun W hW=>?_⟩;obtain⟨y1,z1,y2,z2,rfl⟩:=fV.form;replace yl:=yl.ext hW;replace pY:=pY.ext aX.stays hW;replace jh:=jh.ext hW;clear hp hW fV;generalize W=w at yl pY jh ⊢;obtain⟨w0,bD⟩:∃w0,w0=((w.alloc (.cells #[.slice (some ⟨bk,fk,none⟩) p.length cap] 25)).alloc (.cells #[.int .i64 j,.string c.name] 40)).alloc (.cells #[.string ⟨#[]⟩,.string ⟨#[]⟩,.slice none 0 0,.slice none 0 0] 58):=⟨_,rfl⟩;have aU:Ext w w0:=by rw[bD];exact(by repeat (first|with_reducible exact Kp.refl _ _|with_reducible assumption|with_reducible refine Kp.alloc ?_ _|with_reducible refine Kp.drew ?_|with_reducible refine Kp.drewN ?_ _|with_reducible refine Kp.setCell ?_ (fun h=>absurd h (by simp<;>omega)) _|with_reducible refine Kp.trans ?_ (by with_reducible assumption)|exact Kp.refl _ _|assumption|refine Kp.alloc ?_ _|refine Kp.drew ?_|refine Kp.drewN ?_ _|(refine Kp.setCell ?_ (fun h=>absurd h (by simp;done)) _)|(refine Kp.setCell ?_ (fun h=>absurd h (by simp;omega)) _)|refine Kp.trans ?_ (by assumption)))
 have b2:aC w0 w.heap.size 25 #[.slice (some ⟨bk,fk,none⟩) p.length cap]:=by rw[bD];exact((aC.new _ _ _).ext ((Kp.refl _ _).alloc _)).ext ((Kp.refl _ _).alloc _)
 have b3:aC w0 (w.heap.size+1) 40 #[.int .i64 j,.string c.name]:=by rw[bD];exact(aC.newAt _ _ (by simp)).ext ((Kp.refl _ _).alloc _)
 have b4:aC w0 (w.heap.size+2) 58 #[.string ⟨#[]⟩,.string ⟨#[]⟩,.slice none 0 0,.slice none 0 0]:=by rw[bD];exact aC.newAt _ _ (by simp)
 have uR:w0.heap.size=w.heap.size+3:=by rw[bD];simp
 have g0:=(yl.ext aU) 0 (.slice (some ⟨bo,fo,none⟩) q.owns.length co) rfl;rw[Nat.add_zero]at g0;have Pt:=Ys (pY.ext aX.stays aU);have HCC:=Ys (jh.ext aU);have HG0:=Ys g0;have bJ:=Ys aU;have lD:=Ys b2;have fM:=Ys b3;have iB:=Ys b4;have dQ:=Ys bD;have Q5:=Ys Nn;have HK0:=Ys uP;have PY:((p.length:Int)≤(j:Int))=False:=eq_false (by omega);have hj2:(j:Int)<p.length:=by omega
 have x0:=b2.c 0 (.slice (some ⟨bk,fk,none⟩) p.length cap) rfl;have xz:=b2.lt;have r0:=b3.c 0 (.int .i64 j) rfl;have rz:=b3.lt;clear bD aU b2 b3 b4 hq yl pY Wx Nn uP hc g0 jh;go_enter Tryz.func13,Tryz.ntmps13;go_upto_region 1 with(fail);rw[←dQ.o];go_wp2_with fail;go_loopw [5] (fun i wr=>∃k:Nat,k≤k0∧i=.int .i64 k∧Ext w0 wr) (fun i _=>k0 - (intOf i).toNat)
 case atStart=>exact⟨0,Nat.zero_le _,rfl,Kp.refl _ _⟩
 case round=>
  obtain⟨k,hk,rfl,zo⟩:=hrel;have AV:=Ys zo;have dk:(k:Int)<q.owns.length:=by omega
  obtain⟨c1,lJ⟩:∃c1,q.owns[k]?=some c1:=⟨q.owns[k]'(by omega),List.getElem?_eq_getElem (by omega)⟩;obtain⟨b',f',cs,ee, -,fV, -,hcd⟩:=Pt.o.get lJ;cases ee;obtain⟨y3,z3,y4,z4,rfl⟩:=fV.form;have h0:w0.cell? ⟨bo,fo+k*4,none⟩=some (.string c1.name):=by simpa using hcd 0 (.string c1.name) rfl
  have e0:=zo.aA x0;have ez:=zo.size;have q0:=zo.aA r0;have o0:=zo.aA HG0.o;obtain⟨T,f,dB,HT⟩:=iq.ex (fun W'=>Ext wr W') wr (Kp.refl _ _);have X0:=fun z=>(lD.o.ext (zo.trans (HT.aJ z))).c 0 (.slice (some ⟨bk,fk,none⟩) p.length cap) rfl;have R0:=fun z=>(fM.o.ext (zo.trans (HT.aJ z))).c 0 (.int .i64 j) rfl;have R1:=fun z=>(fM.o.ext (zo.trans (HT.aJ z))).c 1 (.string c.name) rfl;have G0:=fun z=>(zo.trans (HT.aJ z)).aA HG0.o;have N0:=fun z=>(zo.trans (HT.aJ z)).aA h0;have aj:=Ys HT;have H0:=Ys h0;have Dv:=Ys lJ;clear HT hcd fV lJ zo h0;have Rk:Ext w0 wr.drew:=AV.o.trans (Kp.refl _ _).drew;rcases(show k<k0∨k=k0 by omega)with bZ|rfl
  · have oC:(c1.name.toList==c.name.toList)=false:=by
     have:=Q5.o k c1 bZ Dv.o;rw[jZ];exact this
    have HED:=Ys Rk;clear Rk;go_upto_region 6 with(fail);refine dZ aj 14 [] [0,1,2,3,4,5,6,7,8,9,10,11,12,13] ?_ ?_
    · exact(Kp.refl _ _).drew
    refine dI [_,_,_,_,_,_,_,_,_,_,_,_,_,_] rfl rfl fun K hK=>?_;(repeat (go_big_quiet_step (fail)));refine qn hK ?_;clear hK K;go_wp2_with fail;go_round
    case rel=>exact⟨k+1,by omega,by go_num,HED.o⟩
    case measure=>simp[intOf];omega
  · have aeh:c1=c:=by have:=Dv.o.symm.trans HK0.o;cases this;rfl
    subst aeh;go_upto_region 6 with(fail);refine dZ aj 14 [] [0,1,2,3,4,5,6,7,8,9,10,11,12,13] ?_ ?_
    · exact(Kp.refl _ _).drew
    refine dI [_,_,_,_,_,_,_,_,_,_,_,_,_,_] rfl rfl fun K hK=>?_;(repeat (go_big_quiet_step (fail)));refine qn hK ?_;clear hK K;have heq:(c1.name.toList==c1.name.toList)=true:=by simp
    have e0:=Rk.aA x0;have q0:=Rk.aA r0;have o0:=Rk.aA HG0.o;have n0:=Rk.aA H0.o;have n1:=Rk.aA (HCC.o 1 (.string c1.aQ) rfl);have n2:=Rk.aA (HCC.o 2 (.slice y1 c1.fields.length z1) rfl);have n3:=Rk.aA (HCC.o 3 (.slice y2 c1.methods.length z2) rfl);have b4:=iB.o.ext AV.o;have ac9:=Ys (iB.o.ext Rk);have t0:=b4.c 0 (.string ⟨#[]⟩) rfl;have t1:=b4.c 1 (.string ⟨#[]⟩) rfl;have t2:=b4.c 2 (.slice none 0 0) rfl;have t3:=b4.c 3 (.slice none 0 0) rfl;have u0:=b4.frozen 0;have u1:=b4.frozen 1;have u2:=b4.frozen 2;have u3:=b4.frozen 3;have tz:=b4.lt;have HED:=Ys Rk;clear b4 Rk;go_wp2_with fail;refine bodyPost_ret (aT pE rfl _ _ (w.heap.size+2) rfl [.string c1.name,.string c1.aQ,.slice y1 c1.fields.length z1,.slice y2 c1.methods.length z2] (ae.gX (aC.iD ac9.o _ _ _ _)) rfl) rfl ?_;have hP:=Kp.iD (D:=(·=w.heap.size+2)) (w:=wr.drew) (b:=w.heap.size+2) rfl (.string c1.name) (.string c1.aQ) (.slice y1 c1.fields.length z1) (.slice y2 c1.methods.length z2);exact⟨rfl,(bJ.o.trans HED.o).own hP fun b e=>by omega⟩
theorem agI(w:World)(l:aI)(p:M.au)(h:aF w l p)(k:Int)(vh:Value)(hs:List M.iC)(hh:Kt w vh hs)(v:M.Val)(hv:v.kind=2→0≤v.n∧v.n<hs.length)(tk:Int)(tn:ByteArray)(ht:tk=1∨tk=2):
    Calls Tryz.prog 35 #[.pointer (some ⟨l.L,0,none⟩),.int .i64 k,vh,.agg #[.int .i64 v.kind,.int .i64 v.n],.agg #[.int .i64 tk,.string tn]] w fun e w'=>e=.returned (.bool (M.hasType p k hs v ⟨tk,tn⟩))∧Ext w w':=by
 obtain⟨w1,kS⟩:∃w1,w1=(w.alloc (.cells #[.int .i64 v.kind,.int .i64 v.n] 32)).alloc (.cells #[.int .i64 tk,.string tn] 66):=⟨_,rfl⟩;have hE:Ext w w1:=by rw[kS];exact(by repeat (first|with_reducible exact Kp.refl _ _|with_reducible assumption|with_reducible refine Kp.alloc ?_ _|with_reducible refine Kp.drew ?_|with_reducible refine Kp.drewN ?_ _|with_reducible refine Kp.setCell ?_ (fun h=>absurd h (by simp<;>omega)) _|with_reducible refine Kp.trans ?_ (by with_reducible assumption)|exact Kp.refl _ _|assumption|refine Kp.alloc ?_ _|refine Kp.drew ?_|refine Kp.drewN ?_ _|(refine Kp.setCell ?_ (fun h=>absurd h (by simp;done)) _)|(refine Kp.setCell ?_ (fun h=>absurd h (by simp;omega)) _)|refine Kp.trans ?_ (by assumption)))
 have b8:aC w1 w.heap.size 32 #[.int .i64 v.kind,.int .i64 v.n]:=by rw[kS];exact(aC.new _ _ _).ext ((Kp.refl _ _).alloc _)
 have b9:aC w1 (w.heap.size+1) 66 #[.int .i64 tk,.string tn]:=by rw[kS];exact aC.newAt _ _ (by simp)
 have HT:=Ys (rH w1 l p (h.ext hE) k vh hs (hh.ext hE) v hv ⟨tk,tn⟩);obtain⟨a,cap,rfl, -⟩:=hh;have x0:=b8.c 0 (.int .i64 v.kind) rfl;have x1:=b8.c 1 (.int .i64 v.n) rfl;have xz:=b8.lt;have y0:=b9.c 0 (.int .i64 tk) rfl;have y1:=b9.c 1 (.string tn) rfl;have yz:=b9.lt;have HE:=Ys hE;have Ee:=Ys kS;have t0:(tk==0)=false:=beq_eq_false_iff_ne.2 (by omega);have t3:(tk==3)=false:=beq_eq_false_iff_ne.2 (by omega);clear h hE b8 b9 kS ht hv;go_enter Tryz.func35,Tryz.ntmps35;go_upto_region 1 with(fail);rw[←Ee.o];go_wp2_with fail;refine HT.o.mono ?_;rintro e w2 ⟨rfl,bP⟩;have fD:=Ys (HE.o.trans bP);clear bP x0 x1 xz y0 y1 yz;go_wp2_with fail;go_ret;exact⟨rfl,fD.o⟩
theorem agO(w:World)(I:Nat→Prop)(vp:Value)(p:M.au)(hp:SliceOf 2 az w I vp p)(hI:∀b,I b→b<w.heap.size)(k:Int)(vh:Value)(hs:List M.iC)(hh:SliceOf 3 rA w I vh hs)(v:M.Val)(tk:Int)(tn:ByteArray)
    (ht:tk=1∨tk=2) (h1:M.bU p=true) (h2:M.has p k=true) (h3:M.oH ⟨tk,tn⟩=true) (h4:M.ib p hs=true) (h5:M.bE v hs.length=true) (h6:M.hasType p k hs v ⟨tk,tn⟩=true):
    Calls Tryz.prog 17 #[.agg #[vp],.int .i64 k,vh,.agg #[.int .i64 v.kind,.int .i64 v.n],.agg #[.int .i64 tk,.string tn]] w fun e w'=>e=.returned (.bool true)∧Ext w w':=by
 obtain⟨a,cap,rfl,hn,dn⟩:=hp.form;obtain⟨ha,hc,rfl,hhn,hhc⟩:=hh.form;obtain⟨w1,kS⟩:∃w1,w1=((w.alloc (.cells #[.slice a p.length cap] 25)).alloc (.cells #[.int .i64 v.kind,.int .i64 v.n] 32)).alloc (.cells #[.int .i64 tk,.string tn] 66):=⟨_,rfl⟩;have hE:Ext w w1:=by rw[kS];exact(by repeat (first|with_reducible exact Kp.refl _ _|with_reducible assumption|with_reducible refine Kp.alloc ?_ _|with_reducible refine Kp.drew ?_|with_reducible refine Kp.drewN ?_ _|with_reducible refine Kp.setCell ?_ (fun h=>absurd h (by simp<;>omega)) _|with_reducible refine Kp.trans ?_ (by with_reducible assumption)|exact Kp.refl _ _|assumption|refine Kp.alloc ?_ _|refine Kp.drew ?_|refine Kp.drewN ?_ _|(refine Kp.setCell ?_ (fun h=>absurd h (by simp;done)) _)|(refine Kp.setCell ?_ (fun h=>absurd h (by simp;omega)) _)|refine Kp.trans ?_ (by assumption)))
 have Gt:w1.heap.size=w.heap.size+3:=by rw[kS];simp
 have b5:aC w1 w.heap.size 25 #[.slice a p.length cap]:=by rw[kS];exact((aC.new _ _ _).ext ((Kp.refl _ _).alloc _)).ext ((Kp.refl _ _).alloc _)
 have b8:aC w1 (w.heap.size+1) 32 #[.int .i64 v.kind,.int .i64 v.n]:=by rw[kS];exact(aC.newAt _ _ (by simp)).ext ((Kp.refl _ _).alloc _)
 have b9:aC w1 (w.heap.size+2) 66 #[.int .i64 tk,.string tn]:=by rw[kS];exact aC.newAt _ _ (by simp)
 have HNL:=Ys (Il w1 I _ p (hp.ext az.stays hE) (fun b hb=>by have:=hI b hb;omega));have HH:=Ys (hh.ext rA.stays hE);have HI:=Ys hI;have x0:=b5.c 0 (.slice a p.length cap) rfl;have xz:=b5.lt;have vB:=Ys b8;have p9:=Ys b9;have HE:=Ys hE;have Ee:=Ys kS;have H26:=Ys (And.intro h1 (And.intro h2 (And.intro h3 (And.intro h4 (And.intro h5 h6)))));clear hp hh hE b5 b8 b9 kS hI h1 h2 h3 h4 h5 h6;go_enter Tryz.func17,Tryz.ntmps17;go_upto_region 1 with(fail);rw[←Ee.o];go_wp2_with fail;refine HNL.o.mono ?_;rintro e w2 ⟨bP,bO⟩;rcases bO with⟨zq, -⟩|⟨-,l,rfl,hL,hlO⟩
 · rw[H26.o.1]at zq;cases zq
 have Bv:=hL.ord;have HL:=Ys hL;have r0:=(p9.o.ext bP).c 0 (.int .i64 tk) rfl;have r1:=(p9.o.ext bP).c 1 (.string tn) rfl;have rz:=(p9.o.ext bP).lt;have HHL:Zs (SliceOf 3 rA w2 (· <l.O) (.slice ha hs.length hc) hs):=Ys ((HH.o.ext rA.stays bP).keep rA.stays (fun _ _ _ _ h=>h) (fun b hb=>by have:=HI.o b hb;omega));have agV:=Ys (vB.o.ext bP);have agW:=Ys (p9.o.ext bP);have fD:=Ys (HE.o.trans bP);have jY:=Ys bP.size;clear hL bP x0 xz HNL;go_wp2_with fail;refine(nN _ _ _ HL.o k).mono ?_;rintro e w3 ⟨rfl,rfl⟩;rw[H26.o.2.1];go_wp2_with fail;refine(aaE ⟨tk,tn⟩ _).mono ?_;rintro e w4 ⟨rfl,dA⟩;rw[H26.o.2.2.1];have gZ:=Ys dA;clear r0 r1 rz dA;go_wp2_with fail;refine(Jy _ _ _ (HL.o.ext gZ.o) _ hs (HHL.o.ext rA.stays gZ.o)).mono ?_;rintro e w5 ⟨rfl,hC5⟩;rw[H26.o.2.2.2.1];have k5:Kp (·=l.D) w2 w5:=gZ.o.any.trans hC5.kp;have q5:=agV.o.kp k5 (by have:=jY.o;omega);have r5:=agW.o.kp k5 (by have:=jY.o;omega);have q0:=q5.c 0 (.int .i64 v.kind) rfl;have q1:=q5.c 1 (.int .i64 v.n) rfl;have qz:=q5.lt;have oJ:=Ys k5;have Ou:=Ys q5;have zl:=Ys r5;have HL5:=Ys hC5.at_;have HH5:Zs (SliceOf 3 rA w5 (· <l.O) (.slice ha hs.length hc) hs):=Ys (HHL.o.keep rA.stays (k5.same fun b hb e=>by omega) (fun _ h=>h));clear hC5 k5 q5 r5;go_wp2_with fail;refine(L6 w5 v hs.length).mono ?_;rintro e w6 ⟨rfl,dK⟩;rw[H26.o.2.2.2.2.1];have jX:=Ys dK;clear q0 q1 qz;have q0:=(Ou.o.ext dK).c 0 (.int .i64 v.kind) rfl;have q1:=(Ou.o.ext dK).c 1 (.int .i64 v.n) rfl;have qz:=(Ou.o.ext dK).lt;have r0:=(zl.o.ext dK).c 0 (.int .i64 tk) rfl;have r1:=(zl.o.ext dK).c 1 (.string tn) rfl;have rz:=(zl.o.ext dK).lt;clear dK;go_wp2_with fail;have hR:Kt w6 (.slice ha hs.length hc) hs:=⟨ha,hc,rfl,fun n o ho=>by
  obtain⟨b,off,cs,e1, -,⟨vf,rfl, -⟩, -,h3⟩:=(HH5.o.ext rA.stays jX.o).get ho;exact⟨b,off,vf,e1,h3⟩⟩
 have hvn:v.kind=2→0≤v.n∧v.n<hs.length:=fun e=>by
  have:=H26.o.2.2.2.2.1;unfold M.bE at this;simp[e]at this;omega
 refine(agI w6 l p (HL5.o.ext jX.o) k _ hs hR v hvn tk tn ht).mono ?_;rintro e w7 ⟨rfl,rE⟩;rw[H26.o.2.2.2.2.2];go_wp2_with fail;go_ret;exact⟨rfl,(fD.o.own oJ.o (fun b e=>by have:=jY.o;omega)).trans (jX.o.trans rE)⟩
end Go.Proofs.YtcepdbbapgfcdaaGreat
namespace Go.Proofs.YtcepdbbapgfcdaaGreat.M
theorem ui{p:au}{r:Ref}{c:Class}(h:cls? p r=some c):∃(j:Nat) (q:gy),r.keeper=(j:Int)∧p[j]?=some q∧q.owns.find? (fun c=>decide (c.name=r.name))=some c:=by
 unfold cls? jK at h;split at h
 · rename_i h0;obtain⟨q,h1,h2⟩:=Option.bind_eq_some_iff.1 h;exact⟨r.keeper.toNat,q,by omega,h1,h2⟩
 · simp at h
theorem PS{p:au}{x:kT}(h:cK p x=true):∃(j a:Nat) (q:gy) (c:Class) (m:Method),x.of.keeper=(j:Int)∧p[j]?=some q∧q.owns.find? (fun c=>decide (c.name=x.of.name))=some c∧x.at_=(a:Int)∧c.methods[a]?=some m∧method p x=m:=by
 obtain⟨-,i,c,m,h1,h2,h3,h4⟩:=oM h;obtain⟨j,q,h5,h6,h7⟩:=ui h2;exact⟨j,i,q,c,m,h5,h6,h7,h1,h3,by unfold method;rw[h4];rfl⟩
end Go.Proofs.YtcepdbbapgfcdaaGreat.M
namespace Go.Proofs.YtcepdbbapgfcdaaGreat.M
open Go
def agF(f f':List Fr):Prop:=∀t,f.head?=some t→∃t',f'.head?=some t'∧t'.of=t.of
structure StepB(p:au)(s:St)(x:Int×St):Prop where
 back:x.1≠2→x.2.back=s.back
 done:x.1=2→∃t,s.frames=[t]∧hasType p t.of.of.keeper x.2.heap x.2.back (method p t.of).ret=true
 head:x.1=1→agF s.frames x.2.frames
theorem agG(r:List Fr)(t t':Fr)(h:t'.of=t.of)(l:List Fr):agF (r++[t]) (r++t'::l):=by
 intro u hu;cases r with
 |nil=>simp at hu;subst hu;exact⟨t',by simp,h⟩
 |cons a r=>simp at hu;subst hu;exact⟨a,by simp,rfl⟩
theorem agM(r:List Fr)(c t:Fr){c':Fr}(h:c'.of=c.of):agF (r++[c]++[t]) (r++[c']):=by
 intro u hu;cases r with
 |nil=>simp at hu;subst hu;exact⟨c',by simp,h⟩
 |cons a r=>simp at hu;subst hu;exact⟨a,by simp,rfl⟩
section
variable {p:au} {s s1:St} {r:List Fr} {t:Fr}
theorem StepB.no{n:Int}(h1:n≠1)(h2:n≠2)(hb:s1.back=s.back):StepB p s (n,s1):=⟨fun _=>hb,fun e=>absurd e h2,fun e=>absurd e h1⟩
theorem StepB.one(hb:s1.back=s.back)(hh:agF s.frames s1.frames):StepB p s (1,s1):=⟨fun _=>hb,fun e=>absurd e (show(1:Int)≠2 by decide),fun _=>hh⟩
structure agD(s s1:St)(r:List Fr)(t:Fr):Prop where
 fr:s.frames=r++[t]
 vG:∃t1,s1.frames=r++[t1]∧t1.of=t.of
 back:s1.back=s.back
theorem agD.refl(h:s.frames=r++[t]):agD s s r t:=⟨h,⟨t,h,rfl⟩,rfl⟩
theorem agD.no(h:agD s s1 r t){n:Int}(h1:n≠1)(h2:n≠2):StepB p s (n,s1):=StepB.no h1 h2 h.back
theorem agD.ten(h:agD s s1 r t):StepB p s (10,s1):=h.no (by decide) (by decide)
theorem agD.jump(h:agD s s1 r t)(k:Int):StepB p s (jump p k s1):=by
 unfold M.jump;split
 · exact h.ten
 · obtain⟨t1,ni,ho⟩:=h.vG;rw[dY ni];exact StepB.one h.back (by rw[h.fr];exact agG r t {t1 with pc:=k} ho [])
theorem agD.next(h:agD s s1 r t):StepB p s (next p s1):=h.jump _
theorem agD.turn(h:agD s s1 r t)(f:Fr→Fr)(hf:∀x,(f x).of=x.of:=by intro x;rfl):agD s (yB s1 f) r t:=by
 obtain⟨t1,ni,ho⟩:=h.vG;rw[dY ni];exact⟨h.fr,⟨_,rfl,(hf t1).trans ho⟩,h.back⟩
theorem agD.push(h:agD s s1 r t)(v:Val):StepB p s (push p v s1):=by
 unfold M.push;split
 · exact h.ten
 · exact(h.turn _).next
theorem agD.dE{c:Nat}{vs:List Val}{s2:St}(h:agD s s1 r t)(hp:dE c s1=some (vs,s2)):agD s s2 r t:=by
 obtain⟨t1,ni,ho⟩:=h.vG;obtain⟨-, -, -,rfl⟩:=dN ni hp;exact⟨h.fr,⟨_,rfl,ho⟩,h.back⟩
theorem agD.pop{v:Val}{s2:St}(h:agD s s1 r t)(hp:pop s1=some (v,s2)):agD s s2 r t:=by
 unfold M.pop at hp;rw[Option.map_eq_some_iff]at hp;obtain⟨⟨vs,s3⟩,h1,h2⟩:=hp;cases h2;exact h.dE h1
theorem agD.enter(h:agD s s1 r t){lk:Bool}{x:kT}{vs:List Val}:StepB p s (enter p lk x vs s1):=by
 unfold M.enter;split
 · exact h.no (by decide) (by decide)
 · split
   · exact h.no (by decide) (by decide)
   · split
     · obtain⟨t1,ni,ho⟩:=h.vG;refine StepB.one h.back ?_;show agF s.frames (s1.frames++_)
       rw[h.fr,ni,List.append_assoc];exact agG r _ _ ho _
     · exact h.ten
theorem agD.obj(h:agD s s1 r t){v:Val}{q:Ref}(hn:object p v q s1≠1):StepB p s (object p v q s1,s1):=by
 refine StepB.no hn ?_ h.back;unfold object;split
 · decide
 · split
   · decide
   · split<;>decide
theorem agP(h:s.frames=r++[t]){lk:Bool}{i:Ins}:StepB p s (aM p lk i s):=by
 have hM:agD s s r t:=agD.refl h;unfold aM;by_cases e1:i.op=1
 · rw[if_pos e1];exact hM.push _
 rw[if_neg e1];by_cases e2:i.op=2
 · rw[if_pos e2];split
   · exact hM.ten
   · exact hM.push _
 rw[if_neg e2];by_cases e3:i.op=3
 · rw[if_pos e3];split
   · exact hM.ten
   · rename_i hp;exact((hM.pop hp).turn _).next
 rw[if_neg e3];by_cases e4:i.op=4
 · rw [if_pos e4]; have h4 := e4; split
   · rename_i hp;have bT:=hM.dE hp;split
     · split
       · exact bT.push _
       · exact bT.no (by decide) (by decide)
     · exact bT.ten
   · exact hM.ten
 rw[if_neg e4];by_cases e5:i.op=5
 · rw[if_pos e5];exact hM.push _
 rw[if_neg e5];by_cases e6:i.op=6
 · rw[if_pos e6];have h6:=e6;split
   · split
     · rename_i hr;exact hM.no (by decide) (by decide)
     · have bT:agD s (create p (jA p i.name s).1 s).2 r t:=⟨h,⟨t,h,rfl⟩,rfl⟩;exact bT.push _
   · exact hM.no (by decide) (by decide)
 rw[if_neg e6];by_cases e7:i.op=7
 · rw [if_pos e7]; have h7 := e7; split
   · split
     · exact hM.ten
     · rename_i hp;have bT:=hM.pop hp;split
       · exact bT.push _
       · rename_i ho;exact bT.obj ho
   · exact hM.no (by decide) (by decide)
 rw[if_neg e7];by_cases e8:i.op=8
 · rw [if_pos e8]; have h8 := e8; split
   · split
     · rename_i hp;have bT:=hM.dE hp;split
       · split
         · exact agD.next ⟨bT.fr,bT.vG,bT.back⟩
         · rename_i ho;exact bT.obj ho
       · exact bT.ten
     · exact hM.ten
   · exact hM.no (by decide) (by decide)
 rw[if_neg e8];by_cases e9:i.op=9
 · rw [if_pos e9]; have h9 := e9; split
   · split
     · rename_i hp;have bT:=hM.dE hp;split
       · split
         · exact bT.enter
         · exact bT.ten
       · rename_i ho;exact bT.obj ho
     · exact hM.ten
   · exact hM.no (by decide) (by decide)
 rw[if_neg e9];by_cases e10:i.op=10
 · rw [if_pos e10]; have KM := e10; split
   · exact hM.ten
   · rename_i v s1 hp;have bT:=hM.pop hp;obtain⟨t1,ni,OY⟩:=bT.vG;split
     · rename_i O1;rw[qF h]at O1;split
       · rename_i hl;have hr:r=[]:=by
          rw[ni]at hl;simpa using hl
         subst hr;exact⟨fun e=>absurd rfl e,fun _=>⟨t,h,O1⟩,fun e=>absurd e (show((2:Int))≠1 by decide)⟩
       · rename_i hl;have hr:r≠[]:=by
          intro e;rw[ni,e]at hl;exact hl rfl
         obtain⟨r0,c,rfl⟩:∃r0 c,r=r0++[c]:=⟨r.dropLast,r.getLast hr,(List.dropLast_concat_getLast hr).symm⟩;have hd:s1.frames.dropLast=r0++[c]:=by rw[ni];simp
         unfold push;split
         · exact StepB.no (by decide) (by decide) bT.back
         · rw[dY (s:={s1 with frames:=s1.frames.dropLast}) hd];unfold next jump
           split
           · exact StepB.no (by decide) (by decide) bT.back
           · rw[dY (r:=r0) rfl];exact StepB.one bT.back (by rw[h];exact agM r0 _ _ rfl)
     · exact bT.ten
 rw[if_neg e10];by_cases e11:i.op=11
 · rw [if_pos e11]; split
   · exact hM.ten
   · rename_i hp;have bT:=hM.pop hp;split
     · split
       · exact bT.jump _
       · exact bT.next
     · exact bT.ten
 rw[if_neg e11];by_cases e12:i.op=12
 · rw [if_pos e12]; split
   · exact hM.ten
   · rename_i hp;have bT:=hM.pop hp;split
     · split
       · exact bT.jump _
       · exact bT.next
     · exact bT.ten
 rw[if_neg e12];by_cases e13:i.op=13
 · rw[if_pos e13];exact hM.jump _
 rw[if_neg e13];by_cases e14:i.op=14
 · rw [if_pos e14]; split
   · exact hM.ten
   · rename_i v s1 hp;have bT:=hM.pop hp;split
     · refine agD.next (r:=r) (t:=t) ?_;split
       · exact⟨bT.fr,bT.vG,bT.back⟩
       · exact bT
     · exact bT.ten
 rw[if_neg e14];split
 · exact hM.ten
 · rename_i hp;have bT:=hM.pop hp;split
   · split
     · exact bT.push _
     · split
       · split
         · exact bT.push _
         · exact bT.no (by decide) (by decide)
       · exact bT.no (by decide) (by decide)
   · exact bT.ten
end
structure agL(p:au)(x:kT)(s:St):Prop where
 goes:s.status=1→∃t,s.frames.head?=some t∧t.of=x
 back:s.status≠2→s.back=ek
 done:s.status=2→hasType p x.of.keeper s.heap s.back (method p x).ret=true
theorem agT{p:au}(gp:bU p=true){s:St}(hR:eH p s)(hs:s.status=1)(lk:Bool):∃r t i,s.frames=r++[t]∧step p lk s=end_ (aM p lk i s).1 (aM p lk i s).2∧jR p (aM p lk i s):=by
 obtain⟨r,t,i,h1,h2,h3,h4⟩:=xe gp hR hs;refine⟨r,t,i,h1,?_,qg gp hR.good h1 hs h4⟩;unfold step stepped;rw[if_pos hs,qF h1,h3];rfl
theorem agS{p:au}(gp:bU p=true){lk:Bool}{x:kT}{s:St}(hR:eH p s)(h:agL p x s):agL p x (step p lk s):=by
 by_cases hs:s.status=1
 · obtain⟨r,t,i,h1,h2,h4⟩:=agT gp hR hs lk;have hB:StepB p s (aM p lk i s):=agP h1;rw[h2];generalize aM p lk i s=y at h4 hB ⊢;have bH:(end_ y.1 y.2).status=y.1:=lH h4.2.2.2.2;obtain⟨u,hu,hux⟩:=h.goes hs;refine⟨fun e=>?_,fun e=>?_,fun e=>?_⟩
   · have e':y.1=1:=bH▸e;rw[lG e'];obtain⟨t',Gr,ho⟩:=hB.head e' u hu;exact⟨t',Gr,ho.trans hux⟩
   · have e':y.1≠2:=bH▸e;have:(end_ y.1 y.2).back=y.2.back:=by unfold end_;split<;>rfl
     rw[this,hB.back e'];exact h.back (by omega)
   · have e':y.1=2:=bH▸e;obtain⟨t0,ht0,O1⟩:=hB.done e';have:(end_ y.1 y.2).back=y.2.back:=by unfold end_;split<;>rfl
     rw[this,qi];rw[ht0]at hu;simp at hu;subst hu;subst hux;exact O1
 · unfold step;rw[if_neg hs];exact h
theorem agJ{p:au}(gp:bU p=true){lk:Bool}{x:kT}:∀(f:Nat) {s:St},eH p s→agL p x s→eH p (steps p lk f s)∧agL p x (steps p lk f s)
 |0,_,h1,h2=>⟨h1,h2⟩
 |f+1,s,h1,h2=>by
  unfold steps;split
  · exact agJ gp f (sQ gp h1 lk) (agS gp h1 h2)
  · exact⟨h1,h2⟩
theorem agQ{p:au}{lk:Bool}{k:Int}{n m:ByteArray}{args:List Int}{s:St}(h:start p lk k n m args=s)(hs:s.status=1):∃x t,s.frames=[t]∧t.of=x∧agL p x s:=by
 unfold start at h;split at h
 · split at h
   · unfold enter at h;split at h
     · simp at*
     · split at h
       · subst h;simp[end_]at hs
       · split at h
         · subst h;exact⟨_,_,rfl,rfl,⟨fun _=>⟨_,rfl,rfl⟩,fun _=>rfl,fun e=>absurd e (show((1:Int))≠2 by decide)⟩⟩
         · subst h;simp[end_]at hs
   · subst h;cases hs
 · subst h;cases hs
theorem agK{k:Kind}(h:jq k=true):(k.kind=1∨k.kind=2)∧oH ⟨k.kind,k.name⟩=true∧fU k=⟨k.kind,k.name⟩:=by
 have ht:fU k=⟨k.kind,k.name⟩:=by unfold fU;rw[if_pos h]
 unfold jq at h;simp only[Bool.or_eq_true,Bool.and_eq_true,beq_iff_eq,decide_eq_true_eq]at h;rcases h with⟨h1,h2⟩|⟨h1,h2⟩
 · exact⟨.inl h1,by unfold oH;simp[h1,h2],ht⟩
 · exact⟨.inr h1,by unfold oH;simp[h1,h2],ht⟩
theorem agH{p:au}{k:Int}{n m:ByteArray}{args:List Int}{s:St}(h1:fG p true k n m args=s)(hs:s.status=1):
    ∃(j am:Nat) (tn:ByteArray) (tp:Int) (tl ts:List Val) (q:gy) (c:Class) (mm:Method),s.frames=[⟨⟨⟨j,tn⟩,am⟩,tp,tl,ts⟩]∧p[j]?=some q∧q.owns.find? (fun c=>decide (c.name=tn))=some c∧c.methods[am]?=some mm∧
     bU p=true∧has p j=true∧(mm.ret.kind=1∨mm.ret.kind=2)∧oH ⟨mm.ret.kind,mm.ret.name⟩=true∧fU mm.ret=⟨mm.ret.kind,mm.ret.name⟩∧
     ∀x:St,eQ p true s 400=x→(x.status≠2→x.back=ek)∧ib p x.heap=true∧bE x.back x.heap.length=true∧(x.status=2→hasType p j x.heap x.back ⟨mm.ret.kind,mm.ret.name⟩=true):=by
 rcases kF (p:=p) (k:=k) (n:=n) (m:=m) (args:=args)with h|⟨gp,h⟩
 · rw[←h1,h]at hs;cases hs
 obtain⟨e1,r1⟩:=h true;rw[h1]at r1 e1;obtain⟨y,t,hf,O1,hB⟩:=agQ e1.symm hs;have ht:=(aP.1 (r1.good.frames t (by rw[hf];simp))).1;obtain⟨j,a,q,c,mm,k1,k2,k3,k4,k5,k6⟩:=PS ht;have hmo:=(lL (gI gp ht).1).ret;rw[k6]at hmo;obtain⟨z1,z2,z3⟩:=agK hmo;obtain⟨⟨⟨tk,tn⟩,ta⟩,tp,tl,ts⟩:=t;simp only at k1 k3 k4;subst k1;subst k4;subst O1;have Bq:has p j=true:=by
  unfold has;have:=(List.getElem?_eq_some_iff.1 k2).1;simp;omega
 refine⟨j,a,tn,tp,tl,ts,q,c,mm,hf,k2,k3,k5,gp,Bq,z1,z2,z3,fun x hx=>?_⟩;have q1:eQ p true s ((400:Nat):Int)=_:=qH gp r1 (by omega);have q2:eQ p true s 400=steps p true 400 s:=q1;rw[q2]at hx;obtain⟨g1,g2⟩:=agJ gp (lk:=true) 400 r1 hB;rw[hx]at g1 g2;refine⟨g2.back,g1.good.heap,g1.good.back,fun e=>?_⟩;have:=g2.done e;rw[k6]at this;exact this
end Go.Proofs.YtcepdbbapgfcdaaGreat.M
namespace Go.Proofs.YtcepdbbapgfcdaaGreat
open Go Go.RowKit
theorem Aw:nD:=fun w l p h x hx=>CF w l p h x hx
theorem agN:Ox 7:=by
 intro W v zs hb;by_cases hl:zs.length≤1048576;rotate_left
 · obtain⟨va,vc,rfl⟩:=hb.form;have Bu:(1048576:Int)<zs.length:=by omega
   clear hb hl;go_enter Tryz.func7,Tryz.ntmps7;go_wp2_with fail;go_ret;exact⟨rfl,Kp.refl _ _⟩
 have HD:=Ys (uD W v zs hb);obtain⟨va,vc,rfl⟩:=hb.form;have Bu:((1048576:Int)<zs.length)=False:=eq_false (by omega);clear hb hl;go_enter Tryz.func7,Tryz.ntmps7;go_wp2_with fail;refine HD.o.mono ?_;rintro e w1 ⟨⟨p,pa,pc,n,m,ga,gc,args,rfl,hp,ha⟩,bA⟩;obtain⟨w2,iV,bP,b2⟩:=nu w1 #[.slice pa p.length pc] 25;have C9:Zs (∀W',Ext w2 W'→SliceOf 2 az W' (fun b=>b<W'.heap.size) (.slice pa p.length pc) p):=Ys fun W' Bn=>((hp.ext az.stays bP).ext az.stays Bn).keep az.stays (fun _ _ _ _ h=>h) (fun b hb=>by have:=hb.2;have:=bP.size;have:=Bn.size;omega);have D5:=Ys (DU w2 (fun b=>b<w2.heap.size) (.slice pa p.length pc) p (C9.o w2 (Kp.refl _ _)) (fun _ h=>h) true (Ys fun _=>Aw) 0 n m args ga gc (((ha.ext iZ.stays bP).inside (fun _ _ _ _ h=>h) (by omega)).keep iZ.stays (fun _ _ _ _ h=>h) (fun b hb=>hb.2)));have lD:=Ys b2;have sV:=Ys iV;have fD:=Ys (bA.trans bP);have y0:=b2.c 0 (.slice pa p.length pc) rfl;have yz:=b2.lt;clear hp ha bA iV bP b2;go_wp2_with fail;rw[←sV.o];refine D5.o.mono ?_;rintro e w3 ⟨⟨cs,rfl,hs⟩,dm⟩;obtain⟨s,Ms⟩:∃s,M.fG p true 0 n m args=s:=⟨_,rfl⟩;rw[Ms]at hs;have HSN:=Ys Ms;obtain⟨a1,c1,a2,c2,a3,c3,rfl, -, -, -⟩:=hs.form;obtain⟨w4,o6,dA,b4⟩:=nu w3 #[.int .i64 s.status,.slice a1 s.frames.length c1,.slice a2 s.heap.length c2,.slice a3 s.outs.length c3,.int .i64 s.back.kind,.int .i64 s.back.n] 34;have Wi:=dm.trans dA;have R5:Zs (∀W',Ext w4 W'→aN W' (fun b=>b<W'.heap.size) s [.int .i64 s.status,.slice a1 s.frames.length c1,.slice a2 s.heap.length c2,.slice a3 s.outs.length c3,.int .i64 s.back.kind,.int .i64 s.back.n]):=Ys fun W' Bn=>aN.inside (aN.stays _ _ _ _ _ _ (Ext.same (dA.trans Bn)) (fun _ h=>h) hs);have iB:=Ys b4;have gZ:=Ys Wi;have HEW:=Ys (fD.o.trans Wi);have zD:=Ys o6;have Gz:=Ys (lD.o.ext Wi);have s0:=(b4).c 0 (.int .i64 s.status) rfl;have s1:=(b4).c 1 (.slice a1 s.frames.length c1) rfl;have s2:=(b4).c 2 (.slice a2 s.heap.length c2) rfl;have s3:=(b4).c 3 (.slice a3 s.outs.length c3) rfl;have s4:=(b4).c 4 (.int .i64 s.back.kind) rfl;have s5:=(b4).c 5 (.int .i64 s.back.n) rfl;have sz:=(b4).lt;clear hs Ms dm dA Wi o6 b4 y0 yz D5;go_upto_region 5 with(fail);rw[←zD.o];by_cases bH:s.status=1;rotate_left
 · have k1:(s.status !=1)=true:=bne_iff_ne.2 bH;clear bH;go_wp2_with (first|(go_at_call 12;refine(wK _).mono ?_;rintro e w8 ⟨rfl,rfl⟩)|fail);go_ret;exact⟨rfl,HEW.o⟩
 have k1:(s.status !=1)=false:=by simp[bH]
 obtain⟨j,am,tn,tp,tl,ts,q,c,mm,hf,hpj,zY,hcm,gp,Bq,hkd,htg,hto,xU⟩:=M.agH HSN.o bH;have agX:=Ys xU;have HKD:=Ys hkd;have Q7:=Ys (And.intro gp (And.intro Bq (And.intro htg hto)));obtain⟨hsf, -, -⟩:=aN.parts (R5.o w4 (Kp.refl _ _));obtain⟨bf,ff,fcs,rfl, -,⟨vl,vs,rfl, -, -⟩, -,PV⟩:=hsf.get (i:=0) (x:=_) (by rw[hf];rfl);have fl:s.frames.length=1:=by rw[hf];rfl
 have fl0:(0:Int)<s.frames.length:=by omega
 obtain⟨ccs,fV,zq⟩:=acM w4 _ _ p (C9.o w4 gZ.o) j q hpj tn c zY;obtain⟨vf,vm,rfl,hvf,Rp⟩:=fV;obtain⟨y1,z1,rfl, -, -⟩:=hvf.form;obtain⟨y2,z2,rfl, -, -⟩:=Rp.form;obtain⟨bm,fm,mcs,rfl, -,lu, -,ab4⟩:=Rp.get hcm;obtain⟨v1,v2,v3,rfl, -, -, -⟩:=lu;have am1:(am:Int)<c.methods.length:=by have:=(List.getElem?_eq_some_iff.1 hcm).1;omega
 have am0:(0:Int)≤am:=by omega
 have g2:=ab4 2 (.int .i64 mm.ret.kind) rfl;have g3:=ab4 3 (.string mm.ret.name) rfl;have f0:w4.cell? ⟨bf,ff,none⟩=some (.int .i64 j):=by simpa using PV 0 (.int .i64 j) rfl
 have f1:w4.cell? ⟨bf,ff+1,none⟩=some (.string tn):=by simpa using PV 1 (.string tn) rfl
 have f2:w4.cell? ⟨bf,ff+2,none⟩=some (.int .i64 am):=by simpa using PV 2 (.int .i64 am) rfl
 have HLO:=Ys zq;have HF0:=Ys f0;have ym:∀W,(Instr.field 58 (.agg #[.string c.name,.string c.aQ,.slice y1 c.fields.length z1,.slice (some ⟨bm,fm,none⟩) c.methods.length z2]) 3).run Tryz.prog W=.ok (.slice (some ⟨bm,fm,none⟩) c.methods.length z2) W:=fun W=>by kernel_rfl
 obtain⟨T,f,dB,HT⟩:=iq.ex (fun W'=>Ext w4 W') w4 (Kp.refl _ _);have P0:=fun z=>(Gz.o.ext (HT.aJ z)).c 0 (.slice pa p.length pc) rfl;have S1:=fun z=>(iB.o.ext (HT.aJ z)).c 1 (.slice (some ⟨bf,ff,none⟩) s.frames.length c1) rfl;have F0:=fun z=>(HT.aJ z).aA f0;have F1:=fun z=>(HT.aJ z).aA f1;have F2:=fun z=>(HT.aJ z).aA f2;have G2:=fun z=>(HT.aJ z).aA g2;have G3:=fun z=>(HT.aJ z).aA g3;have aj:=Ys HT;clear HT zq hvf Rp ab4 PV hsf hf hpj zY hcm f0 f1 f2 g2 g3 xU hkd gp Bq htg hto bH fl;go_upto_region 7 with(fail);clear s0 s1 s2 s3 s4 s5 sz k1;go_cut [8] (fun s8 wx=>∃b8,s8=.pointer (some ⟨b8,0,none⟩)∧aC wx b8 50 #[.int .i64 mm.ret.kind,.string mm.ret.name]∧Ext w4 wx)
 case first=>
  refine l5 aj 19 (.two [0,1,2,3,4,5,6,9,10,11,12,13,14] 7 18 (.one [8,15,16,17] 18 (.fin [])) (.one [] 7 (.fin [8,15,16,17]))) ?_ ?_
  · exact(Kp.refl _ _).drew
  refine two [_,_,_,_,_,_,_,_,_,_,_,_,_] rfl rfl rfl fun K hK=>?_;(repeat (go_big_quiet_step (fail)));((refine Gu hK (fun K2 af=>?_) fun K2 af=>?_)<;>clear hK K)
  · have ed:Ext w4 w4.drew:=(Kp.refl _ _).drew;generalize w4.drew=wd at ed ⊢;go_wp2_with fail;refine(HLO.o wd ed).mono ?_;rintro e w5 ⟨rfl,dC⟩;have e5:=ed.trans dC;clear dC;go_wp2_with fail;refine kk aj af e5 ?_;clear af K2;refine pJ [_,_,_,_] rfl rfl fun K hK=>?_;(repeat (go_big_quiet_step (fail)));refine qn hK fun K2 af=>?_;clear hK K;go_wp2_with fail;obtain⟨w6,nk,dK,b6⟩:=nu w5 #[.int .i64 0,.string ⟨#[]⟩] 50;rw[←nk];have e6:=e5.trans dK;have bg:=Ys b6;have XR:=Ys e5.size;have x0:=b6.c 0 (.int .i64 0) rfl;have x1:=b6.c 1 (.string ⟨#[]⟩) rfl;have xf0:=b6.frozen 0;have xf1:=b6.frozen 1;have xz:=b6.lt;have jX:=Ys e6;clear b6 dK nk e6;refine kk aj af jX.o ?_;clear af K2;refine bY ?_;go_wp2_with fail;go_meet;have hP:Kp (·=w5.heap.size) w6 ((w6.setCell ⟨w5.heap.size,0,none⟩ (.int .i64 mm.ret.kind)).setCell ⟨w5.heap.size,1,none⟩ (.string mm.ret.name)):=((Kp.refl (·=w5.heap.size) w6).setCell (p:=⟨w5.heap.size,0,none⟩) (fun _=>rfl) _).setCell (p:=⟨w5.heap.size,1,none⟩) (fun _=>rfl) _;exact⟨_,rfl,(bg.o.bI 0 _).bI 1 _,jX.o.own hP (fun b e=>by have:=XR.o;omega)⟩
  · have ed:Ext w4 w4.drew:=(Kp.refl _ _).drew;generalize w4.drew=wd at ed ⊢;go_wp2_with fail;obtain⟨w5,ji,dC,b5⟩:=nu wd #[.int .i64 0,.string ⟨#[]⟩] 50;rw[←ji];have e5:=ed.trans dC;have Db:=Ys ed.size;clear ji dC;refine kk aj af e5 ?_;clear af K2;refine aZ rfl fun K2 af=>?_;go_wp2_with fail;refine(HLO.o w5 e5).mono ?_;rintro e w6 ⟨rfl,dK⟩;have e6:=e5.trans dK;have b6:=b5.ext dK;have bg:=Ys b6;have x0:=b6.c 0 (.int .i64 0) rfl;have x1:=b6.c 1 (.string ⟨#[]⟩) rfl;have xf0:=b6.frozen 0;have xf1:=b6.frozen 1;have xz:=b6.lt;have jX:=Ys e6;clear b5 b6 dK e5 e6;go_wp2_with fail;refine kk aj af jX.o ?_;clear af K2;refine Pe [_,_,_,_] rfl fun K hK=>?_;(repeat (go_big_quiet_step (fail)));refine qn hK ?_;clear hK K;go_wp2_with fail;go_meet;have hP:Kp (·=wd.heap.size) w6 ((w6.setCell ⟨wd.heap.size,0,none⟩ (.int .i64 mm.ret.kind)).setCell ⟨wd.heap.size,1,none⟩ (.string mm.ret.name)):=((Kp.refl (·=wd.heap.size) w6).setCell (p:=⟨wd.heap.size,0,none⟩) (fun _=>rfl) _).setCell (p:=⟨wd.heap.size,1,none⟩) (fun _=>rfl) _;exact⟨_,rfl,(bg.o.bI 0 _).bI 1 _,jX.o.own hP (fun b e=>by have:=Db.o;omega)⟩
 obtain⟨b8,rfl,hb8,U9⟩:=hcut;have HBx:=Ys hb8;have HEx:=Ys U9;clear hb8 U9 aj P0 S1 F0 F1 F2 G2 G3 ym;have hbx:=iB.o.ext HEx.o;have s0:=(hbx).c 0 (.int .i64 s.status) rfl;have s1:=(hbx).c 1 (.slice (some ⟨bf,ff,none⟩) s.frames.length c1) rfl;have s2:=(hbx).c 2 (.slice a2 s.heap.length c2) rfl;have s3:=(hbx).c 3 (.slice a3 s.outs.length c3) rfl;have s4:=(hbx).c 4 (.int .i64 s.back.kind) rfl;have s5:=(hbx).c 5 (.int .i64 s.back.n) rfl;have sz:=(hbx).lt;have y0:=(Gz.o.ext HEx.o).c 0 (.slice pa p.length pc) rfl;have yz:=(Gz.o.ext HEx.o).lt;clear hbx;go_wp2_with fail;refine(DV wc (fun b=>b<wc.heap.size) (.slice pa p.length pc) p (C9.o wc (gZ.o.trans HEx.o)) (fun _ h=>h) true (Ys fun _=>Aw) s _ (R5.o wc HEx.o) 400).mono ?_;rintro e w7 ⟨⟨cs,rfl,hx⟩,rE⟩;obtain⟨x,hxn⟩:∃x,M.eQ p true s 400=x:=⟨_,rfl⟩;rw[hxn]at hx;obtain⟨r1,r2,r3,r4⟩:=agX.o x hxn;obtain⟨b1,d1,b2,d2,b3,d3,rfl, -, -, -⟩:=hx.form;obtain⟨w8,TM,mY,b9⟩:=nu w7 #[.int .i64 x.status,.slice b1 x.frames.length d1,.slice b2 x.heap.length d2,.slice b3 x.outs.length d3,.int .i64 x.back.kind,.int .i64 x.back.n] 34;have agU:=rE.trans mY;obtain⟨-,hxh, -⟩:=aN.parts (aN.inside (aN.stays _ _ _ _ _ _ (Ext.same mY) (fun _ h=>h) hx));have HXH:=Ys hxh;have p9:=Ys b9;have mW:=Ys agU;have HW8:=Ys TM;have HR1:=Ys r1;have yH:=Ys (And.intro r2 (And.intro r3 r4));clear hx rE mY agU TM y0 yz s0 s1 s2 s3 s4 s5 sz hxn hxh r1 r2 r3 r4;have u0:=(b9).c 0 (.int .i64 x.status) rfl;have u1:=(b9).c 1 (.slice b1 x.frames.length d1) rfl;have u2:=(b9).c 2 (.slice b2 x.heap.length d2) rfl;have u3:=(b9).c 3 (.slice b3 x.outs.length d3) rfl;have u4:=(b9).c 4 (.int .i64 x.back.kind) rfl;have u5:=(b9).c 5 (.int .i64 x.back.n) rfl;have uz:=(b9).lt;clear b9;go_upto_region 9 with(fail);rw[←HW8.o];by_cases K6:x.status=2;rotate_left
 · have k2:(x.status !=2)=true:=bne_iff_ne.2 K6;have hbk:=HR1.o K6;have e4:x.back.kind=0:=by rw[hbk];rfl
   have e5:x.back.n=0:=by rw[hbk];rfl
   rw[e4]at u4;rw[e5]at u5;clear K6 hbk e4 e5;go_wp2_with fail;go_ret;exact⟨rfl,(HEW.o.trans HEx.o).trans mW.o⟩
 have k2:(x.status !=2)=false:=by simp[K6]
 have zl:=Ys (yH.o.2.2 K6);obtain⟨T,f,dB,HT⟩:=iq.ex (fun W'=>Ext w8 W') w8 (Kp.refl _ _);have P0:=fun z=>((Gz.o.ext (HEx.o.trans mW.o)).ext (HT.aJ z)).c 0 (.slice pa p.length pc) rfl;have S1:=fun z=>((iB.o.ext (HEx.o.trans mW.o)).ext (HT.aJ z)).c 1 (.slice (some ⟨bf,ff,none⟩) s.frames.length c1) rfl;have F0:=fun z=>((HEx.o.trans mW.o).trans (HT.aJ z)).aA HF0.o;have X2:=fun z=>(p9.o.ext (HT.aJ z)).c 2 (.slice b2 x.heap.length d2) rfl;have X4:=fun z=>(p9.o.ext (HT.aJ z)).c 4 (.int .i64 x.back.kind) rfl;have X5:=fun z=>(p9.o.ext (HT.aJ z)).c 5 (.int .i64 x.back.n) rfl;have K0:=fun z=>((HBx.o.ext mW.o).ext (HT.aJ z)).c 0 (.int .i64 mm.ret.kind) rfl;have K1:=fun z=>((HBx.o.ext mW.o).ext (HT.aJ z)).c 1 (.string mm.ret.name) rfl;have aj:=Ys HT;clear HT K6;go_upto_region 11 with(fail);clear u0 u1 u2 u3 u4 u5 uz k2;refine dZ aj 15 [([0,1,2,3,4,5,6,7,8,9,10,11,12],13),([],14)] [] ?_ ?_
 · exact(Kp.refl _ _).drew
 have jQ:Ext w8 w8.drew:=(Kp.refl _ _).drew;generalize w8.drew=wd at jQ ⊢;refine di [_,_,_,_,_,_,_,_,_,_,_,_,_] rfl rfl fun K hK=>?_;(repeat (go_big_quiet_step (fail)));refine qn hK fun K2 af=>?_;clear hK K;go_wp2_with fail;have agR:=BS wd mm.ret;rw[Q7.o.2.2.2]at agR;refine agR.mono ?_;rintro e w9 ⟨rfl,oZ⟩;have e9:=jQ.trans oZ;have HFI:=Ys (agO w9 (fun b=>b<w9.heap.size) (.slice pa p.length pc) p (C9.o w9 (((gZ.o.trans HEx.o).trans mW.o).trans e9)) (fun _ h=>h) j (.slice b2 x.heap.length d2) x.heap ((HXH.o.ext rA.stays e9).keep rA.stays (fun _ _ _ _ h=>h) (fun b hb=>Nat.lt_of_lt_of_le hb e9.size)) x.back mm.ret.kind mm.ret.name HKD.o Q7.o.1 Q7.o.2.1 Q7.o.2.2.1 yH.o.1 yH.o.2.1 zl.o);clear oZ agR jQ;go_wp2_with fail;refine kk aj af e9 ?_;clear af K2;refine ic rfl fun K2 af=>?_;go_wp2_with fail;refine HFI.o.mono ?_;rintro e gN ⟨rfl,kV⟩;have e10:=e9.trans kV;go_wp2_with fail;refine kk aj af e10 ?_;clear af K2;refine dW ?_;go_wp2_with fail;go_ret;exact⟨rfl,((HEW.o.trans HEx.o).trans mW.o).trans e10⟩
end Go.Proofs.YtcepdbbapgfcdaaGreat
namespace Go.Proofs.YtcepdbbapgfcdaaGreat
open Go Go.ChangeShapes Go.WideShapes Go.ChangeAt Go.RowKit
theorem Tryz.own:ownKnob Tryz.prog.godebug=none:=by kernel_rfl
theorem Tryz.laidOut:laidOutB Tryz.prog=true:=by kernel_rfl
theorem lF:Tryz.prog.cellsOf 5=1:=by kernel_rfl
theorem bytes_at{H:Type}{enc:TypeId×Value→H}{W:World}{v:Value}{d:DataW H}{p:List MemPlace}(hv:∃a len cap,v=.slice a len cap)(h0:DataW.Trod enc Tryz.prog W 0 (fun _=>true) true 22 v d p):∃zs,BytesAt W v zs:=by
 obtain⟨a0,len,cap,rfl⟩:=hv;obtain⟨fuel,hf⟩:=h0;rcases open_ints Tryz.underlying22 Tryz.underlying5 lF hf with⟨bO,hx⟩|⟨a,len',cap',zs,bO,_,hl,hm,hz,hx,ou,EW⟩
 · simp[Value.cells]at bO;obtain⟨rfl,rfl,rfl⟩:=bO;exact⟨[],.inl ⟨rfl,rfl⟩⟩
 · simp[Value.cells]at bO;obtain⟨rfl,rfl,rfl⟩:=bO;simp only[if_true]at hz;refine⟨zs.take len,.inr ⟨a,cap,by rw[List.length_take,Nat.min_eq_left (by omega)],by rw[List.length_take];omega,fun i hi=>?_,fun n hn=>?_⟩⟩
   · rw[List.length_take]at hi;have:=ou i (by omega);rw[this];congr 2;simp only[List.getD,List.getElem?_take];rw[if_pos (by omega)]
   · have:=EW n (List.mem_of_mem_take hn);simp[Lit.wf,IntKind.min,IntKind.max,IntKind.bits,IntKind.signed]at this;omega
theorem qC{H:Type}{enc:TypeId×Value→H}{fn:Func}{s:ChangeSpec}{W W':World}{v:Value}{d:DataW H}{before:List MemPlace}(hp:fn.params=#[22])(hr:fn.resultTypes=#[4])(hv:s.vars=[])
    (hs:s.fn H ([d]++[])={results:=[.lit (.bool true)],args:=[d]}) (hW:DataW.Whole enc Tryz.prog fn.params.toList s.vars false W [v] [d] [] before)
    (h0:DataW.Trod enc Tryz.prog W 0 (fun _=>true) true 22 v d before) (hE:Ext W W'):s.post enc Tryz.prog fn false true false false W #[v] (.bool true) W':=by
 have bZ:∀x∈before,x.block<W.heap.size:=fun x hx=>by simpa using hW.lt x hx
 have Sk:=Ext.AB hE;refine⟨[d],[],before,[],before,[],hW,?_,?_,?_,Sk.frame _,fun h=>by cases h⟩
 · rw[hs,hr];exact trodAll_mk1 (shut_bool Tryz.underlying4 true)
 · rw[hs,hp];exact trodAll_mk1 (Below.trod Tryz.laidOut (by kernel_rfl) (of_decide_eq_true (by kernel_rfl)) h0 Sk bZ)
 · rw[hs,hv];exact(rfl:([]:List MemPlace)=[])
end Go.Proofs.YtcepdbbapgfcdaaGreat
namespace Go.Proofs.YtcepdbbapgfcdaaGreat
open Go Go.ChangeShapes Go.WideShapes Go.ChangeAt Go.RowKit
theorem agE(os:Os)(started:os.Started)(H:Type)(enc:TypeId×Value→H):
    ReturnsInHanded {} Tryz.checked os 7 .any (Rows.fnVmBackSpec.pre6 enc Tryz.prog Tryz.f7 Rows.fnVmBackRow.domain false) (Rows.fnVmBackSpec.post enc Tryz.prog Tryz.f7 false true false false):=by
 refine returnsInHanded_of_change (C:=Tryz.checked) Tryz.own started (by kernel_rfl) Tryz.func7
  (ChangeSpec.witness6 (enc:=enc) (C:=Tryz.checked) false ⟨#[],#[.slice none 0 0],[]⟩ 8 (by kernel_rfl) (by kernel_rfl) (by kernel_rfl) (by kernel_rfl)) ?_
 intro W base args ds gs before EU hW hcnd _;have ET:∀(j:Nat) t v,Tryz.f7.params[j]?=some t→args[j]?=some v→Value.okWide Tryz.prog W .any base t v:=EU;have Bn:=hW;obtain⟨p,q,Z5,hV,rfl,hfz,EL⟩:=hW;have hA:DataW.TrodAll enc Tryz.prog W 0 (fun _=>true) true Tryz.f7.params.toList args.toList ds p:=Z5;rw[Tryz.params7]at hA ET;obtain⟨v0,d0,rfl,rfl,h0⟩:=trodAll_one hA;obtain⟨rfl,rfl⟩:=trodVars_none hV;simp only[List.append_nil]at Bn;obtain⟨zs,hb⟩:=bytes_at (okWide_slice Tryz.underlying22 (ET 0 22 v0 rfl rfl)) h0;refine(agN W v0 zs hb).mono fun e W' ⟨he,hE⟩=>?_;subst he;exact⟨_,rfl,qC (fn:=Tryz.f7) Tryz.params7 rfl rfl rfl Bn h0 hE⟩
theorem fnVmBack_holds:Rows.FnVmBackSaid:=
 OpenClaim.holds_of_wide 7 Tryz.f7 rfl rfl rfl rfl rfl rfl rfl ⟨rfl,rfl,rfl,rfl,rfl⟩ rfl rfl rfl rfl rfl (by kernel_rfl) Tryz.func7 (by kernel_rfl)
  (of_decide_eq_true (by kernel_rfl)) (by unfold Func.isWrapper;rw[if_neg (by decide+kernel)];exact⟨rfl,rfl⟩)
  (fun os started H enc _=>agE os started H enc)
#print axioms fnVmBack_holds
end Go.Proofs.YtcepdbbapgfcdaaGreat
