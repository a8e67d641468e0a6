/- Walks. -/
import Derived.Test.YtcepdbbapgfcdaaGreatVmCoreh
import Derived.Maps.Own
set_option maxRecDepth 100000
set_option maxHeartbeats 4000000
set_option linter.unusedSimpArgs false
set_option linter.unusedVariables false
namespace Go.Proofs.YtcepdbbapgfcdaaGreat
open Go Go.RowKit
def acJ(v:Value):Bool:=match v with
 | .int .i64 n=>decide (0≤n)&&decide (n<11)
 |_=>false
theorem Ju{w:World}{b k:Nat}{t:TypeId}{cs:Array Value}(hb:aC w b t cs)(hk:k<cs.size)(h:cs.toList.all acJ=true):∃n:Nat,w.cell? ⟨b,k,none⟩=some (.int .i64 n)∧n<11:=by
 have hc:=hb.cell k;rw[Array.getElem?_eq_getElem hk]at hc;have h1:=List.all_eq_true.1 h cs[k] (by simp);unfold acJ at h1;split at h1
 · rename_i s hs;simp at h1;exact⟨s.toNat,by rw[hc,hs,Int.toNat_of_nonneg h1.1],by omega⟩
 · cases h1
def Px(w:World)(base:Nat)(v:Value)(n:Nat):Prop:=(∃a c,v=.slice a n c)∧n≤40∧∃xs,SliceOf 1 dR w (fun b=>base≤b) v xs∧xs.length=n∧∀u∈xs,u.size≤40
theorem Px.kp{w w':World}{base rb n:Nat}{v:Value}(h:Px w base v n)(hK:Kp (·=rb) w w')(hD:rb<base):Px w' base v n:=by
 obtain⟨h1,h2,xs,h3,h4⟩:=h;exact⟨h1,h2,xs,h3.keep dR.stays (hK.same fun b hb e=>by omega) (fun _ h=>h),h4⟩
theorem Px.any{w:World}{base n:Nat}{v:Value}(h:Px w base v n):gq 1000 w v n:=by
 obtain⟨h1,h2,xs,h3,rfl,h5⟩:=h;exact gq.all h3 fun u hu=>by have:=h5 u hu;omega
theorem IQ:(M.blocks.all fun r=>decide (r.length≤40)&&r.all fun u=>decide (u.size≤40))=true:=by decide+kernel
theorem DR{w:World}{base b off n c:Nat}(h:SliceOf 1 vW w (fun b=>base≤b) (.slice (some ⟨b,off,none⟩) n c) M.blocks){k:Nat}(hk:k<11):∃v' m,w.cell? ⟨b,off+k,none⟩=some v'∧Px w base v' m:=by
 have hl:M.blocks.length=11:=rfl;obtain⟨x,hx⟩:∃x,M.blocks[k]?=some x:=⟨M.blocks[k]'(by omega),List.getElem?_eq_getElem (by omega)⟩;obtain⟨b',o',cs,e, -,⟨v',rfl,hs⟩, -,h0⟩:=h.get hx;cases e;obtain⟨a,c',rfl, -, -⟩:=hs.form;have:=List.all_eq_true.1 IQ x (List.mem_of_getElem? hx);simp only[Bool.and_eq_true,decide_eq_true_eq,List.all_eq_true]at this;exact⟨_,_,by simpa using h0.one,⟨_,_,rfl⟩,this.1,x,hs,rfl,this.2⟩
theorem DT{w w':World}{base rb:Nat}{v:Value}{l:List (List ByteArray)}(h:SliceOf 1 vW w (fun b=>base≤b) v l)(hK:Kp (·=rb) w w')(hD:rb<base):SliceOf 1 vW w' (fun b=>base≤b) v l:=
 h.keep vW.stays (hK.same fun b hb e=>by omega) (fun _ h=>h)
theorem ja.one{Z:Nat}{D:Nat→Prop}{w0 W:World}(h:Kp D w0 W)(s:ByteArray)(hs:s.size≤Z):∃wa,wa=W.alloc (.cells #[.string s] 9)∧Kp D w0 wa∧ja Z wa w0.heap.size (.slice (some ⟨W.heap.size,0,none⟩) 1 1) 1∧Ext W wa:=
 ⟨_,rfl,h.alloc _,ja.lit [s] (aC.new _ _ _) h.size rfl (by simp) (by simpa using hs),(Kp.refl _ _).alloc _⟩
theorem gq.two{Z:Nat}{D:Nat→Prop}{w0 W:World}(h:Kp D w0 W)(s t:ByteArray)(hs:s.size≤Z)(ht:t.size≤Z):∃wa,wa=W.alloc (.cells #[.string s,.string t] 9)∧Kp D w0 wa∧ae wa W.heap.size 0 [.string s,.string t]∧Ext W wa:=
 ⟨_,rfl,h.alloc _,ae.fB _ _ rfl,(Kp.refl _ _).alloc _⟩
theorem aaF{Z:Nat}{s t:ByteArray}(hs:s.size≤Z)(ht:t.size≤Z):∀u∈[s,t],u.size≤Z:=by simpa using⟨hs,ht⟩
def RI(w w':World)(e:Ending):Prop:=∃vl xs,e=.returned vl∧SliceOf 1 dR w' (fun b=>w.heap.size≤b) vl xs∧1≤xs.length∧xs.length≤1000∧∀u∈xs,u.size≤1000
theorem pV{w W:World}{base:Nat}{v:Value}{n:Nat}(h:ja 1000 W base v n)(hb:w.heap.size≤base)(h1:1≤n)(h2:n≤1000):RI w W (.returned v):=by
 obtain⟨xs,h3,h4,h5⟩:=h.o (by omega);exact⟨v,xs,rfl,h3.keep dR.stays (fun _ _ _ _ h=>h) (fun b h=>by omega),by omega,by omega,h5⟩
theorem LP(w:World)(rb p:Nat)(v:Value)(zs:List Int)(h:kv w rb v zs p)(hp:p≤700000):
    Calls Tryz.prog 37 #[.pointer (some ⟨rb,0,none⟩)] w fun e w'=>RI w w' e∧(∃q,q≤p+20∧kv w' rb v zs q)∧Kp (·=rb) w w':=by
 have eu:=Ys h.below;have HR:=Ys h;clear h;go_enter Tryz.func37,Tryz.ntmps37;go_wp2_with fail;refine(QR w).mono ?_;rintro e w1 ⟨⟨vb,rfl,hS⟩,bA⟩;obtain⟨a,c,rfl, -, -⟩:=hS.form;obtain⟨b,off,rfl⟩:∃b off,a=some ⟨b,off,none⟩:=by
  obtain⟨b',o',cs,e, -⟩:=hS.get (i:=0) (x:=_) rfl;exact⟨_,_,e⟩
 have HS1:=Ys hS;have Ce:Zs (Kp (·=rb) w w1):=Ys bA.any;have HR1:=Ys (HR.o.ext bA);clear hS bA;simp only[show M.blocks.length=11 from rfl]at HS1 ⊢;obtain⟨w2,iV⟩:∃ww,ww=w1.alloc (.cells #[.int .i64 0,.int .i64 0,.int .i64 0,.int .i64 7] 3):=⟨_,rfl⟩;have bP:Ext w1 w2:=by rw[iV];exact(Kp.refl _ _).alloc _
 have lD:Zs (aC w2 w1.heap.size 3 #[.int .i64 0,.int .i64 0,.int .i64 0,.int .i64 7]):=Ys (by rw[iV];exact aC.new _ _ _);have C9:=Ys (dM w2 rb (p) v zs 4 (HR1.o.ext bP) (by omega) (by omega));have sV:=Ys iV;have fD:=Ys bP;have jY:Zs (rb<w1.heap.size):=Ys HR1.o.below.1;clear iV bP;go_wp2_with fail;rw[←sV.o];refine C9.o.mono ?_;rintro e w3 ⟨⟨k3,rfl,rF⟩,Wo,nX⟩;have afN:k3<4:=by omega
 obtain⟨utx,hu3,WE⟩:=Ju (k:=k3) (lD.o.kp nX (by have:=jY.o;omega)) (by simp;omega) (by decide);have Dy:=Ys (DT (HS1.o.ext vW.stays fD.o) nX eu.o.1);obtain⟨rt,nt,Gm,EO⟩:=DR Dy.o WE;obtain⟨⟨rat,rct,rfl⟩,hnt, -⟩:=id EO;have ad1:=Ys EO;have XN:=Ys Wo;have lN:=Ys ((Ce.o.trans fD.o.any).trans nX);have af3:=aG hu3;have afF:=aG Gm;have hx3:(utx:Int)<11:=by omega
 clear nX Wo rF EO C9;obtain⟨w4,o6⟩:∃ww,ww=w3.alloc (.cells #[.int .i64 1,.int .i64 1,.int .i64 1,.int .i64 8] 3):=⟨_,rfl⟩;have dA:Ext w3 w4:=by rw[o6];exact(Kp.refl _ _).alloc _
 have iB:Zs (aC w4 w3.heap.size 3 #[.int .i64 1,.int .i64 1,.int .i64 1,.int .i64 8]):=Ys (by rw[o6];exact aC.new _ _ _);have MI:=Ys (dM w4 rb (p+1) v zs 4 (XN.o.ext dA) (by omega) (by omega));have zD:=Ys o6;have gZ:=Ys dA;have MN:Zs (rb<w3.heap.size):=Ys XN.o.below.1;clear o6 dA;go_wp2_with fail;rw[←zD.o];refine MI.o.mono ?_;rintro e w5 ⟨⟨k5,rfl,Cw⟩,uM,gD⟩;have afO:k5<4:=by omega
 obtain⟨ucx,hu5,hn5⟩:=Ju (k:=k5) (iB.o.kp gD (by have:=MN.o;omega)) (by simp;omega) (by decide);have XP:=Ys (DT (Dy.o.ext vW.stays gZ.o) gD eu.o.1);have ad2:=Ys ((ad1.o.kp gZ.o.any eu.o.1).kp gD eu.o.1);obtain⟨rc,nc,hc5,TD⟩:=DR XP.o hn5;obtain⟨⟨rac,rcc,rfl⟩,hnc, -⟩:=id TD;have adZ:=Ys TD;have zl:=Ys uM;have oJ:=Ys ((lN.o.trans gZ.o.any).trans gD);have af4:=aG hu5;have afG:=aG hc5;have hx5:(ucx:Int)<11:=by omega
 clear gD uM Cw TD MI;obtain⟨w6,nk⟩:∃ww,ww=w5.alloc (.cells #[.int .i64 2,.int .i64 3,.int .i64 4,.int .i64 5,.int .i64 6,.int .i64 3,.int .i64 9,.int .i64 10] 3):=⟨_,rfl⟩;have dK:Ext w5 w6:=by rw[nk];exact(Kp.refl _ _).alloc _
 have bg:Zs (aC w6 w5.heap.size 3 #[.int .i64 2,.int .i64 3,.int .i64 4,.int .i64 5,.int .i64 6,.int .i64 3,.int .i64 9,.int .i64 10]):=Ys (by rw[nk];exact aC.new _ _ _);have HP6:=Ys (dM w6 rb (p+1+1) v zs 8 (zl.o.ext dK) (by omega) (by omega));have Ch:=Ys nk;have jX:=Ys dK;have XR:Zs (rb<w5.heap.size):=Ys zl.o.below.1;clear nk dK;go_wp2_with fail;rw[←Ch.o];refine HP6.o.mono ?_;rintro e w7 ⟨⟨k7,rfl,hk7⟩,hR7,si⟩;have afP:k7<8:=by omega
 obtain⟨umx,hu7,WG⟩:=Ju (k:=k7) (bg.o.kp si (by have:=XR.o;omega)) (by simp;omega) (by decide);have HS7:=Ys (DT (XP.o.ext vW.stays jX.o) si eu.o.1);have Ps:=Ys ((ad2.o.kp jX.o.any eu.o.1).kp si eu.o.1);have Pp:=Ys ((adZ.o.kp jX.o.any eu.o.1).kp si eu.o.1);obtain⟨rm,nm,hc7,ER⟩:=DR HS7.o WG;obtain⟨⟨ram,rcm,rfl⟩,yS, -⟩:=id ER;have Pq:=Ys ER;have Zn:=Ys hR7;have lQ:=Ys ((oJ.o.trans jX.o.any).trans si);have af5:=aG hu7;have afH:=aG hc7;have hx7:(umx:Int)<11:=by omega
 clear si hR7 hk7 ER HP6;have yF:=Ys Zn.o.below;have VL:Zs (w.heap.size≤w7.heap.size):=Ys lQ.o.size;have er:Kp (·=rb) w7 w7:=Kp.refl _ _;obtain⟨w8,TM,e8,o8,f8⟩:=ja.one (Z:=1000) er ⟨#[107,101,101,112,101,114]⟩ (by decide);have HP8:=Ys (dM w8 rb (p+1+1+1) v zs 6 (Zn.o.ext f8) (by omega) (by omega));have HW8:=Ys TM;have HO8:=Ys o8;have mW:=Ys e8;clear TM e8 o8 f8 er;go_wp2_with fail;rw[←HW8.o];refine HP8.o.mono ?_;rintro e w9 ⟨⟨k,rfl,hk⟩,OM,fE⟩;have tZ:k=0∨k=1∨k=2∨k=3∨k=4∨k=5:=by omega
 have Zl:=Ys (HO8.o.kp fE (fun b e=>by have:=yF.o.1;omega));have Mf:=Ys OM;have uK:=Ys (mW.o.trans fE);obtain⟨g,hg⟩:∃g,g=w7.heap.size:=⟨_,rfl⟩;have Pn:Zs (ja 1000 w9 w7.heap.size (.slice (some ⟨g,0,none⟩) 1 1) 1):=Ys (by rw[hg];exact Zl.o);rw[←hg];clear OM fE hk HP8 hg Zl HW8;rcases tZ with rfl|rfl|rfl|rfl|rfl|rfl
 · have Ed:=Mf;have AU:=uK;go_wp2_with (first
    |(refine aL _ rfl (.tmp 39) (.tmp 40) rfl Pn.o rfl (Ps.o.kp AU.o eu.o.1).any rfl (by omega) AU.o fun ae7 UT Uu wm TY=>?_;have vS:=Ys Uu;have rT:=Ys wm;have vU:=Ys (eY Ed.o yF.o TY);clear Uu wm TY)
    |(refine aL _ rfl (.tmp 41) (.tmp 42) rfl vS.o rfl (Pp.o.kp rT.o eu.o.1).any rfl (by omega) rT.o fun UQ JW wU wu wH=>?_;have vT:=Ys wU;have oQ:=Ys wu;have uL:=Ys (eY vU.o yF.o wH);clear wU wu wH)
    |(refine aL _ rfl (.tmp 43) (.tmp 44) rfl vT.o rfl (Pq.o.kp oQ.o eu.o.1).any rfl (by omega) oQ.o fun Xq Dr Aq zN Ai=>?_;have zB:=Ys Aq;have zu:=Ys zN;have xZ:=Ys (eY uL.o yF.o Ai);clear Aq zN Ai)
    |fail)
   go_ret;exact⟨pV zB.o VL.o (by omega) (by omega),⟨_,by omega,xZ.o⟩,lQ.o.trans zu.o⟩
 · have Ed:=Mf;have AU:=uK;go_wp2_with (first
    |(refine aL _ rfl (.tmp 39) (.tmp 40) rfl Pn.o rfl (Ps.o.kp AU.o eu.o.1).any rfl (by omega) AU.o fun ae7 UT Uu wm TY=>?_;have vS:=Ys Uu;have rT:=Ys wm;have vU:=Ys (eY Ed.o yF.o TY);clear Uu wm TY)
    |(refine aL _ rfl (.tmp 41) (.tmp 42) rfl vS.o rfl (Pp.o.kp rT.o eu.o.1).any rfl (by omega) rT.o fun UQ JW wU wu wH=>?_;have vT:=Ys wU;have oQ:=Ys wu;have uL:=Ys (eY vU.o yF.o wH);clear wU wu wH)
    |(refine aL _ rfl (.tmp 43) (.tmp 44) rfl vT.o rfl (Pq.o.kp oQ.o eu.o.1).any rfl (by omega) oQ.o fun Xq Dr Aq zN Ai=>?_;have zB:=Ys Aq;have zu:=Ys zN;have xZ:=Ys (eY uL.o yF.o Ai);clear Aq zN Ai)
    |fail)
   go_ret;exact⟨pV zB.o VL.o (by omega) (by omega),⟨_,by omega,xZ.o⟩,lQ.o.trans zu.o⟩
 · have Ed:=Mf;have AU:=uK;go_wp2_with (first
    |(obtain⟨UT,wG,wm,En,f101⟩:=gq.two (Z:=1000) AU.o ⟨#[97,115,107,115,32,116,111,112,32,49]⟩ ⟨#[97,115,107,115,32,99,101,108,108,32,49]⟩ (by decide) (by decide);rw[←wG];have vS:=Ys (Pn.o.ext f101);have rT:=Ys wm;have vU:=Ys (Ed.o.ext f101);have DZ:=Ys En;clear wG wm En f101;refine aL _ rfl (.tmp 48) (.tmp 49) rfl vS.o rfl (gq.lit (n:=2) [⟨#[97,115,107,115,32,116,111,112,32,49]⟩,⟨#[97,115,107,115,32,99,101,108,108,32,49]⟩] DZ.o rfl (by decide)) rfl (by omega) rT.o fun UQ JW wU wu wH=>?_;have vT:=Ys wU;have oQ:=Ys wu;have uL:=Ys (eY vU.o yF.o wH);clear wU wu wH)
    |(refine aL _ rfl (.tmp 50) (.tmp 51) rfl vT.o rfl (Pq.o.kp oQ.o eu.o.1).any rfl (by omega) oQ.o fun Xq Dr Aq zN Ai=>?_;have zB:=Ys Aq;have zu:=Ys zN;have xZ:=Ys (eY uL.o yF.o Ai);clear Aq zN Ai)
    |(obtain⟨QW,yw,IX,Sl,f104, -⟩:=gq.fresh (Z:=1000) zu.o ⟨#[107,101,101,112,101,114]⟩ (by decide);rw[←yw];have Kj:=Ys (zB.o.ext f104);have Ke:=Ys IX;have Km:=Ys (xZ.o.ext f104);have RS:=Ys Sl;clear yw IX Sl f104;refine aL _ rfl (.tmp 53) (.tmp 54) rfl Kj.o rfl (gq.lit (n:=1) [⟨#[107,101,101,112,101,114]⟩] RS.o rfl (by decide)) rfl (by omega) Ke.o fun v105 aaJ LA KG EY=>?_;have D6:=Ys LA;have xY:=Ys KG;have Ea:=Ys (eY Km.o yF.o EY);clear LA KG EY)
    |(refine aL _ rfl (.tmp 55) (.tmp 56) rfl D6.o rfl (Ps.o.kp xY.o eu.o.1).any rfl (by omega) xY.o fun acS aaK LB Er K8=>?_;have D7:=Ys LB;have Ca:=Ys Er;have Eb:=Ys (eY Ea.o yF.o K8);clear LB Er K8)
    |(refine aL _ rfl (.tmp 57) (.tmp 58) rfl D7.o rfl (Pp.o.kp Ca.o eu.o.1).any rfl (by omega) Ca.o fun v107 aaL Uv Es TZ=>?_;have D8:=Ys Uv;have Cb:=Ys Es;have Ec:=Ys (eY Eb.o yF.o TZ);clear Uv Es TZ)
    |fail)
   go_ret;exact⟨pV D8.o VL.o (by omega) (by omega),⟨_,by omega,Ec.o⟩,lQ.o.trans Cb.o⟩
 · have Ed:=Mf;have AU:=uK;go_wp2_with (first
    |(obtain⟨UT,wG,wm,En,f101, -⟩:=gq.fresh (Z:=1000) AU.o ⟨#[97,115,107,115,32,99,101,108,108,32,49]⟩ (by decide);rw[←wG];have vS:=Ys (Pn.o.ext f101);have rT:=Ys wm;have vU:=Ys (Ed.o.ext f101);have DZ:=Ys En;clear wG wm En f101;refine aL _ rfl (.tmp 62) (.tmp 63) rfl vS.o rfl (gq.lit (n:=1) [⟨#[97,115,107,115,32,99,101,108,108,32,49]⟩] DZ.o rfl (by decide)) rfl (by omega) rT.o fun UQ JW wU wu wH=>?_;have vT:=Ys wU;have oQ:=Ys wu;have uL:=Ys (eY vU.o yF.o wH);clear wU wu wH)
    |fail)
   obtain⟨Dr,O3⟩:∃ww,ww=JW.alloc (.cells #[.int .i64 0,.int .i64 7] 3):=⟨_,rfl⟩;have SV:Ext JW Dr:=by rw[O3];exact(Kp.refl _ _).alloc _
   have aaT:Zs (aC Dr JW.heap.size 3 #[.int .i64 0,.int .i64 7]):=Ys (by rw[O3];exact aC.new _ _ _);have XJ:=Ys (dM Dr rb (p+1+1+1+1) v zs 2 (uL.o.ext SV) (by omega) (by omega));have abk:=Ys O3;have XD:=Ys SV;have abm:Zs (rb<JW.heap.size):=Ys uL.o.below.1;clear O3 SV;rw[←abk.o];refine XJ.o.mono ?_;rintro e QW ⟨⟨acK,rfl,ace⟩,X8,OH⟩;have aeq:acK<2:=by omega
   obtain⟨ux,acC,acp⟩:=Ju (k:=acK) (aaT.o.kp OH (by have:=abm.o;omega)) (by simp;omega) (by decide);have IX:=(oQ.o.trans XD.o.any).trans OH;obtain⟨rx,nx,ab0,Jl⟩:=DR (DT HS7.o IX eu.o.1) acp;obtain⟨⟨rax,rcx,rfl⟩,OX, -⟩:=id Jl;have HTX:=Ys Jl.any;have Kj:=Ys ((vT.o.ext XD.o).kp OH (fun b e=>by have:=yF.o.1;omega));have Km:=Ys X8;have Ke:=Ys IX;have aeV:=aG acC;have aeg:=aG ab0;have afm:(ux:Int)<11:=by omega
   clear OH X8 ace Jl XJ IX;go_wp2_with (first
    |(refine aL _ rfl (.tmp 64) (.tmp 72) rfl Kj.o rfl HTX.o rfl (by omega) Ke.o fun v105 aaJ LA KG EY=>?_;have D6:=Ys LA;have xY:=Ys KG;have Ea:=Ys (eY Km.o yF.o EY);clear LA KG EY)
    |(refine aL _ rfl (.tmp 73) (.tmp 74) rfl D6.o rfl (Pq.o.kp xY.o eu.o.1).any rfl (by omega) xY.o fun acS aaK LB Er K8=>?_;have D7:=Ys LB;have Ca:=Ys Er;have Eb:=Ys (eY Ea.o yF.o K8);clear LB Er K8)
    |(obtain⟨aaL,K5,Es,c107,f107, -⟩:=gq.fresh (Z:=1000) Ca.o ⟨#[107,101,101,112,101,114]⟩ (by decide);rw[←K5];have D8:=Ys (D7.o.ext f107);have Cb:=Ys Es;have Ec:=Ys (Eb.o.ext f107);have RU:=Ys c107;clear K5 Es c107 f107;refine aL _ rfl (.tmp 76) (.tmp 77) rfl D8.o rfl (gq.lit (n:=1) [⟨#[107,101,101,112,101,114]⟩] RU.o rfl (by decide)) rfl (by omega) Cb.o fun acT acU LD e108 K9=>?_;have Kk:=Ys LD;have Cc:=Ys e108;have Ko:=Ys (eY Ec.o yF.o K9);clear LD e108 K9)
    |(refine aL _ rfl (.tmp 78) (.tmp 79) rfl Kk.o rfl (Ps.o.kp Cc.o eu.o.1).any rfl (by omega) Cc.o fun v109 acV LF e109 La=>?_;have Kl:=Ys LF;have Hm:=Ys e109;have Kq:=Ys (eY Ko.o yF.o La);clear LF e109 La)
    |(refine aL _ rfl (.tmp 80) (.tmp 81) rfl Kl.o rfl (Pp.o.kp Hm.o eu.o.1).any rfl (by omega) Hm.o fun agm agn acO aby acL=>?_;have abg:=Ys acO;have aba:=Ys aby;have abh:=Ys (eY Kq.o yF.o acL);clear acO aby acL)
    |fail)
   go_ret;exact⟨pV abg.o VL.o (by omega) (by omega),⟨_,by omega,abh.o⟩,lQ.o.trans aba.o⟩
 · have Ed:=Mf;have AU:=uK;go_wp2_with (first
    |(obtain⟨UT,wG,wm,En,f101⟩:=gq.two (Z:=1000) AU.o ⟨#[97,115,107,115,32,99,101,108,108,32,49]⟩ ⟨#[97,115,107,115,32,116,111,112,32,50]⟩ (by decide) (by decide);rw[←wG];have vS:=Ys (Pn.o.ext f101);have rT:=Ys wm;have vU:=Ys (Ed.o.ext f101);have DZ:=Ys En;clear wG wm En f101;refine aL _ rfl (.tmp 85) (.tmp 86) rfl vS.o rfl (gq.lit (n:=2) [⟨#[97,115,107,115,32,99,101,108,108,32,49]⟩,⟨#[97,115,107,115,32,116,111,112,32,50]⟩] DZ.o rfl (by decide)) rfl (by omega) rT.o fun UQ JW wU wu wH=>?_;have vT:=Ys wU;have oQ:=Ys wu;have uL:=Ys (eY vU.o yF.o wH);clear wU wu wH)
    |(refine aL _ rfl (.tmp 87) (.tmp 88) rfl vT.o rfl (Pq.o.kp oQ.o eu.o.1).any rfl (by omega) oQ.o fun Xq Dr Aq zN Ai=>?_;have zB:=Ys Aq;have zu:=Ys zN;have xZ:=Ys (eY uL.o yF.o Ai);clear Aq zN Ai)
    |(obtain⟨QW,yw,IX,Sl,f104⟩:=gq.two (Z:=1000) zu.o ⟨#[107,101,101,112,101,114]⟩ ⟨#[97,115,107,115,32,116,111,112,32,50]⟩ (by decide) (by decide);rw[←yw];have Kj:=Ys (zB.o.ext f104);have Ke:=Ys IX;have Km:=Ys (xZ.o.ext f104);have RS:=Ys Sl;clear yw IX Sl f104;refine aL _ rfl (.tmp 90) (.tmp 91) rfl Kj.o rfl (gq.lit (n:=2) [⟨#[107,101,101,112,101,114]⟩,⟨#[97,115,107,115,32,116,111,112,32,50]⟩] RS.o rfl (by decide)) rfl (by omega) Ke.o fun v105 aaJ LA KG EY=>?_;have D6:=Ys LA;have xY:=Ys KG;have Ea:=Ys (eY Km.o yF.o EY);clear LA KG EY)
    |(refine aL _ rfl (.tmp 92) (.tmp 93) rfl D6.o rfl (Pp.o.kp xY.o eu.o.1).any rfl (by omega) xY.o fun acS aaK LB Er K8=>?_;have D7:=Ys LB;have Ca:=Ys Er;have Eb:=Ys (eY Ea.o yF.o K8);clear LB Er K8)
    |(obtain⟨aaL,K5,Es,c107,f107, -⟩:=gq.fresh (Z:=1000) Ca.o ⟨#[107,101,101,112,101,114]⟩ (by decide);rw[←K5];have D8:=Ys (D7.o.ext f107);have Cb:=Ys Es;have Ec:=Ys (Eb.o.ext f107);have RU:=Ys c107;clear K5 Es c107 f107;refine aL _ rfl (.tmp 95) (.tmp 96) rfl D8.o rfl (gq.lit (n:=1) [⟨#[107,101,101,112,101,114]⟩] RU.o rfl (by decide)) rfl (by omega) Cb.o fun acT acU LD e108 K9=>?_;have Kk:=Ys LD;have Cc:=Ys e108;have Ko:=Ys (eY Ec.o yF.o K9);clear LD e108 K9)
    |(refine aL _ rfl (.tmp 97) (.tmp 98) rfl Kk.o rfl (Ps.o.kp Cc.o eu.o.1).any rfl (by omega) Cc.o fun v109 acV LF e109 La=>?_;have Kl:=Ys LF;have Hm:=Ys e109;have Kq:=Ys (eY Ko.o yF.o La);clear LF e109 La)
    |fail)
   go_ret;exact⟨pV Kl.o VL.o (by omega) (by omega),⟨_,by omega,Kq.o⟩,lQ.o.trans Hm.o⟩
 · have Ed:=Mf;have AU:=uK;go_wp2_with (first
    |(obtain⟨UT,wG,wm,En,f101⟩:=gq.two (Z:=1000) AU.o ⟨#[97,115,107,115,32,116,111,112,32,49]⟩ ⟨#[97,115,107,115,32,99,101,108,108,32,49]⟩ (by decide) (by decide);rw[←wG];have vS:=Ys (Pn.o.ext f101);have rT:=Ys wm;have vU:=Ys (Ed.o.ext f101);have DZ:=Ys En;clear wG wm En f101;refine aL _ rfl (.tmp 100) (.tmp 101) rfl vS.o rfl (gq.lit (n:=2) [⟨#[97,115,107,115,32,116,111,112,32,49]⟩,⟨#[97,115,107,115,32,99,101,108,108,32,49]⟩] DZ.o rfl (by decide)) rfl (by omega) rT.o fun UQ JW wU wu wH=>?_;have vT:=Ys wU;have oQ:=Ys wu;have uL:=Ys (eY vU.o yF.o wH);clear wU wu wH)
    |(refine aL _ rfl (.tmp 102) (.tmp 103) rfl vT.o rfl (Pq.o.kp oQ.o eu.o.1).any rfl (by omega) oQ.o fun Xq Dr Aq zN Ai=>?_;have zB:=Ys Aq;have zu:=Ys zN;have xZ:=Ys (eY uL.o yF.o Ai);clear Aq zN Ai)
    |fail)
   obtain⟨QW,yw⟩:∃ww,ww=Dr.alloc (.cells #[.string ⟨#[97,115,107,115,32,116,111,112,32,48]⟩,.string ⟨#[97,115,107,115,32,99,101,108,108,32,49]⟩,.string ⟨#[97,115,107,115,32,110,111,110,101,32,48]⟩] 9):=⟨_,rfl⟩;have SX:Ext Dr QW:=by rw[yw];exact(Kp.refl _ _).alloc _
   have aaU:Zs (aC QW Dr.heap.size 9 #[.string ⟨#[97,115,107,115,32,116,111,112,32,48]⟩,.string ⟨#[97,115,107,115,32,99,101,108,108,32,49]⟩,.string ⟨#[97,115,107,115,32,110,111,110,101,32,48]⟩]):=Ys (by rw[yw];exact aC.new _ _ _);have XK:=Ys (dM QW rb (p+1+1+1+1) v zs 3 (xZ.o.ext SX) (by omega) (by omega));have abl:=Ys yw;have XE:=Ys SX;have abn:Zs (rb<Dr.heap.size):=Ys xZ.o.below.1;clear yw SX;rw[←abl.o];refine XK.o.mono ?_;rintro e aaJ ⟨⟨EY,rfl,acf⟩,X9,OI⟩;have aer:EY<3:=by omega
   obtain⟨sx,acD,hsx⟩:=qY (k:=EY) (aaU.o.kp OI (by have:=abn.o;omega)) (by simp;omega) (by decide);have D6:=Ys ((zB.o.ext XE.o).kp OI (fun b e=>by have:=yF.o.1;omega));have Ea:=Ys X9;have xY:=Ys ((zu.o.trans XE.o.any).trans OI);have aeW:=aG acD;clear OI X9 acf XK;go_wp2_with (first
    |(obtain⟨aaK,YA,Er,abv,f106⟩:=gq.two (Z:=1000) xY.o ⟨#[107,101,101,112,101,114]⟩ sx (by decide) (by omega);rw[←YA];have D7:=Ys (D6.o.ext f106);have Ca:=Ys Er;have Eb:=Ys (Ea.o.ext f106);have aa7:=Ys abv;clear YA Er abv f106;refine aL _ rfl (.tmp 105) (.tmp 111) rfl D7.o rfl (gq.lit (n:=2) [⟨#[107,101,101,112,101,114]⟩,sx] aa7.o rfl (aaF (by decide) (by omega))) rfl (by omega) Ca.o fun v107 aaL Uv Es TZ=>?_;have D8:=Ys Uv;have Cb:=Ys Es;have Ec:=Ys (eY Eb.o yF.o TZ);clear Uv Es TZ)
    |(refine aL _ rfl (.tmp 112) (.tmp 113) rfl D8.o rfl (Ps.o.kp Cb.o eu.o.1).any rfl (by omega) Cb.o fun acT acU LD e108 K9=>?_;have Kk:=Ys LD;have Cc:=Ys e108;have Ko:=Ys (eY Ec.o yF.o K9);clear LD e108 K9)
    |(refine aL _ rfl (.tmp 114) (.tmp 115) rfl Kk.o rfl (Pp.o.kp Cc.o eu.o.1).any rfl (by omega) Cc.o fun v109 acV LF e109 La=>?_;have Kl:=Ys LF;have Hm:=Ys e109;have Kq:=Ys (eY Ko.o yF.o La);clear LF e109 La)
    |fail)
   go_ret;exact⟨pV Kl.o VL.o (by omega) (by omega),⟨_,by omega,Kq.o⟩,lQ.o.trans Hm.o⟩
def XV(w w':World)(e:Ending):Prop:=∃(pl:M.au) (v:Value),e=.returned (.agg #[v])∧SliceOf 2 az w' (fun b=>w.heap.size≤b∧b<w'.heap.size) v pl
theorem FE{w W:World}{rb q:Nat}{v vp:Value}{zs:List Int}{pl:M.au}(hK:Kp (·=rb) w W)(hs:SliceOf 2 az W (fun b=>w.heap.size+1≤b) vp pl)(hR:kv W rb v zs q)(hl:rb<w.heap.size∧(zs.length≠0→∀ad l c,v=.slice (some ad) l c→ad.block<w.heap.size))
    (w':World) (hE:Ext (W.setCell ⟨w.heap.size,0,none⟩ vp) w'):XV w w' (.returned (.agg #[vp]))∧kv w' rb v zs q∧Kp (·=rb) w w':=by
 have hP:Kp (·=w.heap.size) W (W.setCell ⟨w.heap.size,0,none⟩ vp):=(Kp.refl (·=w.heap.size) W).setCell (p:=⟨w.heap.size,0,none⟩) (fun _=>rfl) _;have KZ:=((hs.keep (J:=fun b=>w.heap.size+1≤b) az.stays (hP.same fun b hb e=>by omega) (fun b hb=>hb)).ext az.stays hE).inside (fun _ _ _ _ h=>az.inside h) (by omega);exact⟨⟨pl,vp,rfl,KZ.keep az.stays (fun _ _ _ _ h=>h) (fun b hb=>⟨by omega,hb.2⟩)⟩,(hR.turn hP (by omega) (fun h0 ad l c e=>by have:=hl.2 h0 ad l c e;omega)).ext hE,(hK.own hP fun b e=>by omega).trans hE.any⟩
theorem NT(w:World)(rb p:Nat)(v:Value)(zs:List Int)(n:Int)(h:kv w rb v zs p)(hp:p≤600000)(hn:n≤1000000)(H9: -1000000≤n):
    Calls Tryz.prog 21 #[.pointer (some ⟨rb,0,none⟩),.int .i64 n] w fun e w'=>XV w w' e∧(∃q,q≤p+60∧kv w' rb v zs q)∧Kp (·=rb) w w':=by
 have eu:=Ys h.below;obtain⟨w1,kS,bA,b1⟩:=nu w #[.slice none 0 0] 25;have yL:Zs (w1.heap.size=w.heap.size+1):=Ys (by rw[kS];simp);have HLN:=Ys (LP w1 rb p v zs (h.ext bA) (by omega));have vJ:=Ys b1;have Ee:=Ys kS;have fe:Zs (Kp (·=rb) w w1):=Ys bA.any;clear h kS bA b1;go_enter Tryz.func21,Tryz.ntmps21;go_wp2_with fail;rw[←Ee.o];refine HLN.o.mono ?_;rintro e w2 ⟨⟨vl,xs,rfl,hS,zt,K6,hx3⟩,⟨q2,Jj,Dg⟩,af⟩;obtain⟨la,lc,rfl, -, -⟩:=hS.form;have Zq:=Ys hS;have HX:=Ys hx3;have lD:=Ys (vJ.o.kp af (by have:=eu.o.1;omega));have fD:=Ys (fe.o.trans af);have Cg:Zs (rb<w1.heap.size):=Ys (by have:=eu.o.1;have:=yL.o;omega);have HOD:=Ys (UE w2 rb q2 v zs n Dg (by omega) (by omega) (by omega));obtain⟨ln,xQ⟩:∃ln,xs.length=ln:=⟨_,rfl⟩;have Zh:=Ys xQ;rw[xQ]at zt K6 ⊢;clear hS Dg af hx3 HLN xQ;go_wp2_with fail;refine HOD.o.mono ?_;rintro e w3 ⟨⟨od,rfl⟩,Wo,nX⟩;have Dy:Zs (SliceOf 1 dR w3 (fun b=>w1.heap.size≤b) (.slice la ln lc) xs):=Ys (by
  have:=Zq.o.keep (J:=fun b=>w1.heap.size≤b) dR.stays (nX.same fun b hb e=>by have:=Cg.o;omega) (fun _ h=>h);rwa[Zh.o]at this)
 have fM:=Ys (lD.o.kp nX (by have:=eu.o.1;omega));have iH:=Ys (fD.o.trans nX);have XN:=Ys Wo;clear Wo nX HOD;cases od
 · have HPL:=Ys (wX w3 _ (.slice la ln lc) xs Dy.o (fun u hu=>by have:=HX.o u hu;omega));go_wp2_with fail;refine HPL.o.mono ?_;rintro e w8 ⟨⟨pl,vp,nn,rfl,Rt,hn8⟩,mY⟩;obtain⟨pa,pc,rfl, -, -⟩:=Rt.form;obtain⟨pn,Yu⟩:∃pn,pl.length=pn:=⟨_,rfl⟩;rw[Yu]at Rt ⊢;clear Yu;have b8:=fM.o.ext mY;have c0:=b8.c 0 (.slice none 0 0) rfl;have cf:=b8.frozen 0;have cz:=b8.lt;have FIN:=Ys (FE (w:=w) (W:=w8) (pl:=pl) (iH.o.trans mY.any) (Rt.keep (J:=fun b=>w.heap.size+1≤b) az.stays (fun _ _ _ _ h=>h) (fun b hb=>by have:=iH.o.size;have:=yL.o;have:=fM.o.lt;omega)) (XN.o.ext mY) eu.o _ ((Kp.refl _ _).alloc (.cells #[.slice pa pn pc] 25)));have p9:=Ys b8;clear Rt mY b8 HPL;go_wp2_with fail;refine bodyPost_ret (aT ll rfl _ _ w.heap.size rfl [.slice pa pn pc] (ae.gX ((p9.o.bI 0 _).ext ((Kp.refl _ _).alloc _))) rfl) rfl ?_;exact⟨FIN.o.1,⟨_,by omega,FIN.o.2.1⟩,FIN.o.2.2⟩
 · have HTN:=Ys (NU w3 rb (q2+1) v zs XN.o _ (.slice la ln lc) xs Dy.o (fun b hb=>by have:=Cg.o;omega) ⟨by have:=Zh.o;omega,by have:=Zh.o;omega⟩ HX.o (by omega));go_wp2_with fail;refine HTN.o.mono ?_;rintro e w4 ⟨⟨v4,xs4,I4,rfl,hs4,Vp⟩,⟨q4,hq4,Tf⟩,mZ⟩;have R5:=Ys (Dy.o.keep (J:=fun b=>w1.heap.size≤b) dR.stays (mZ.same fun b hb e=>by have:=Cg.o;omega) (fun _ h=>h));have iB:=Ys (fM.o.kp mZ (by have:=eu.o.1;omega));have gZ:=Ys (iH.o.trans mZ);have yH:=Ys Tf;have HPA:=Ys (wX w4 I4 v4 xs4 hs4 (fun u hu=>by have:=Vp u hu;omega));clear Tf mZ hs4 Vp HTN;go_wp2_with fail;refine HPA.o.mono ?_;rintro e w5 ⟨⟨pl5,vp5,n5,rfl,Gq,hn5⟩,dC⟩;obtain⟨pa5,pc5,rfl, -, -⟩:=Gq.form;obtain⟨pn5,acz⟩:∃pn,pl5.length=pn:=⟨_,rfl⟩;rw[acz]at Gq ⊢;clear acz;obtain⟨w6,nk,dK,b6⟩:=nu w5 #[.slice pa5 pn5 pc5] 25;have nG:=dC.trans dK;have R6:=Ys (R5.o.ext dR.stays nG);have bg:=Ys (iB.o.ext nG);have jX:=Ys (gZ.o.trans nG.any);have Dx:=Ys (yH.o.ext nG);have Ch:=Ys nk;have adQ:=Ys ((Gq.keep (J:=fun b=>w.heap.size+1≤b) az.stays (fun _ _ _ _ h=>h) (fun b hb=>by have:=gZ.o.size;have:=iB.o.lt;omega)).ext az.stays dK);have R3:=Ys b6;clear Gq dC dK nG nk b6 HPA;by_cases h5:n5=0
   · have h5b:(n5==0)=true:=beq_iff_eq.2 h5;go_upto_region 4 with(fail);rw[←Ch.o];have c0:=bg.o.c 0 (.slice none 0 0) rfl;have cf:=bg.o.frozen 0;have cz:=bg.o.lt;have y0:=R3.o.c 0 (.slice pa5 pn5 pc5) rfl;have yz:=R3.o.lt;have FIN:=Ys (FE (w:=w) (W:=w6) (pl:=pl5) jX.o adQ.o Dx.o eu.o _ (Kp.refl _ _));clear h5;go_wp2_with fail;refine bodyPost_ret (aT ll rfl _ _ w.heap.size rfl [.slice pa5 pn5 pc5] (ae.gX (bg.o.bI 0 _)) rfl) rfl ?_;exact⟨FIN.o.1,⟨_,by omega,FIN.o.2.1⟩,FIN.o.2.2⟩
   · have h5b:(n5==0)=false:=beq_eq_false_iff_ne.2 h5;go_upto_region 4 with(fail);rw[←Ch.o];clear h5;have HPL:=Ys (wX w6 _ (.slice la ln lc) xs R6.o (fun u hu=>by have:=HX.o u hu;omega));go_wp2_with fail;refine HPL.o.mono ?_;rintro e w8 ⟨⟨pl,vp,nn,rfl,Rt,hn8⟩,mY⟩;obtain⟨pa,pc,rfl, -, -⟩:=Rt.form;obtain⟨pn,Yu⟩:∃pn,pl.length=pn:=⟨_,rfl⟩;rw[Yu]at Rt ⊢;clear Yu;have b8:=bg.o.ext mY;have c0:=b8.c 0 (.slice none 0 0) rfl;have cf:=b8.frozen 0;have cz:=b8.lt;have FIN:=Ys (FE (w:=w) (W:=w8) (pl:=pl) (jX.o.trans mY.any) (Rt.keep (J:=fun b=>w.heap.size+1≤b) az.stays (fun _ _ _ _ h=>h) (fun b hb=>by have:=jX.o.size;have:=yL.o;have:=bg.o.lt;omega)) (Dx.o.ext mY) eu.o _ ((Kp.refl _ _).alloc (.cells #[.slice pa pn pc] 25)));have p9:=Ys b8;clear Rt mY b8 HPL;go_wp2_with fail;refine bodyPost_ret (aT ll rfl _ _ w.heap.size rfl [.slice pa pn pc] (ae.gX ((p9.o.bI 0 _).ext ((Kp.refl _ _).alloc _))) rfl) rfl ?_;exact⟨FIN.o.1,⟨_,by omega,FIN.o.2.1⟩,FIN.o.2.2⟩
def Mx(w w':World)(e:Ending):Prop:=∃(n m:ByteArray) (a:Option Addr) (c:Nat) (args:List Int),e=.returned (.tuple #[.string n,.string m,.slice a args.length c])∧SliceOf 1 iZ w' (fun b=>w.heap.size≤b) (.slice a args.length c) args∧args.length≤1∧n.size≤20∧m.size≤20
theorem Kz{w w':World}{g:Nat}{n m:ByteArray}(hn:n.size≤20)(hm:m.size≤20):Mx w w' (.returned (.tuple #[.string n,.string m,.slice (some ⟨g,0,none⟩) 0 0])):=
 ⟨n,m,_,_,[],rfl,⟨_,_,rfl,Nat.le_refl _,by simp,fun i x hx=>by simp at hx⟩,by simp,hn,hm⟩
theorem xu{w w':World}{g c:Nat}{n m:ByteArray}{x:Int}(hc:ae w' g 0 [.int .i64 x])(hg:w.heap.size≤g)(h1:1≤c)(hn:n.size≤20)(hm:m.size≤20):Mx w w' (.returned (.tuple #[.string n,.string m,.slice (some ⟨g,0,none⟩) 1 c])):=
 ⟨n,m,_,_,[x],rfl,SliceOf.row (R:=iZ) (xs:=[x]) [[.int .i64 x]] hc rfl (by simp) ⟨rfl,trivial⟩ hg h1 (by simp),by simp,hn,hm⟩
theorem WZ{k:Nat}(cs:List Value)(hk:k<cs.length)(h:cs.all Pd=true):∃s:ByteArray,(∀h:k<cs.length,cs[k]'h=.string s)∧s.size≤20:=by
 have h1:=List.all_eq_true.1 h cs[k] (by simp);unfold Pd at h1;split at h1
 · rename_i s hs;exact⟨s,fun _=>hs,by simpa using h1⟩
 · cases h1
theorem QM(w:World)(rb p:Nat)(v:Value)(zs:List Int)(h:kv w rb v zs p)(hp:p≤700000):
    Calls Tryz.prog 22 #[.pointer (some ⟨rb,0,none⟩)] w fun e w'=>Mx w w' e∧(∃q,q≤p+10∧kv w' rb v zs q)∧Kp (·=rb) w w':=by
 have eu:=Ys h.below;obtain⟨w1,kS,bA,b1⟩:=nu w #[.int .i64 0,.int .i64 1,.int .i64 3,.int .i64 5,.int .i64 (-1),.int .i64 9999] 3;have AY:=Ys (dM w1 rb p v zs 6 (h.ext bA) (by omega) (by omega));have vJ:=Ys b1;have Ee:=Ys kS;have fe:Zs (Kp (·=rb) w w1):=Ys bA.any;clear h kS bA b1;go_enter Tryz.func22,Tryz.ntmps22;go_wp2_with fail;rw[←Ee.o];refine AY.o.mono ?_;rintro e w2 ⟨⟨k,rfl,hk⟩,Dg,af⟩;have tZ:k<6:=by omega
 obtain⟨x,hx, -, -⟩:=DJ (k:=k) (vJ.o.kp af (by have:=eu.o.1;omega)) (by simp;omega) (by decide);obtain⟨w3,jw,dm,b3⟩:=nu w2 #[.int .i64 x] 3;have hxz:=aG hx;have HP3:=Ys (dM w3 rb (p+1) v zs 12 (Dg.ext dm) (by omega) (by omega));have fM:=Ys b3;have mq:=Ys jw;have iH:Zs (Kp (·=rb) w w3):=Ys ((fe.o.trans af).trans dm.any);obtain⟨g,hg⟩:∃g,g=w2.heap.size:=⟨_,rfl⟩;have HG:Zs (w.heap.size≤g):=Ys (by have:=fe.o.size;have:=af.size;omega);have HGR:Zs (g≠rb):=Ys (by have:=Dg.below.1;omega);clear jw dm b3 Dg af hk AY;go_wp2_with fail;rw[←mq.o];refine HP3.o.mono ?_;rintro e w4 ⟨⟨t,rfl,ht⟩,Tf,mZ⟩;have aeU:t=0∨t=1∨t=2∨t=3∨t=4∨t=5∨(6≤t∧t<12):=by omega
 rw[←hg]at fM ⊢;have iB:=Ys (fM.o.kp mZ HGR.o);have gZ:=Ys (iH.o.trans mZ);have yH:=Ys Tf;clear Tf mZ ht HP3 hx hxz hg;rcases aeU with rfl|rfl|rfl|rfl|rfl|rfl|⟨t6,t12⟩
 · go_wp2_with fail;refine bodyPost_ret (v:=.tuple #[.string ⟨#[116,111,112]⟩,.string ⟨#[103,101,116]⟩,.slice (some ⟨w4.heap.size,0,none⟩) 0 0]) (by simp[results,Tryz.results22,go_sem]) rfl ?_;exact⟨Kz (by decide) (by decide),⟨_,by omega,yH.o.ext ((Kp.refl _ _).alloc _)⟩,gZ.o.trans ((Kp.refl _ _).alloc _)⟩
 · go_wp2_with fail;refine bodyPost_ret (v:=.tuple #[.string ⟨#[99,101,108,108]⟩,.string ⟨#[103,101,116]⟩,.slice (some ⟨w4.heap.size,0,none⟩) 0 0]) (by simp[results,Tryz.results22,go_sem]) rfl ?_;exact⟨Kz (by decide) (by decide),⟨_,by omega,yH.o.ext ((Kp.refl _ _).alloc _)⟩,gZ.o.trans ((Kp.refl _ _).alloc _)⟩
 · have MN:=Ys gZ.o.size;go_wp2_with fail;refine bodyPost_ret (v:=.tuple #[.string ⟨#[109,97,105,110]⟩,.string ⟨#[114,117,110]⟩,.slice (some ⟨w4.heap.size,0,none⟩) 1 1]) (by simp[results,Tryz.results22,go_sem]) rfl ?_;exact⟨xu (ae.fB _ _ rfl) MN.o (Nat.le_refl _) (by decide) (by decide),⟨_,by omega,yH.o.ext ((Kp.refl _ _).alloc _)⟩,gZ.o.trans ((Kp.refl _ _).alloc _)⟩
 · go_wp2_with fail;refine bodyPost_ret (v:=.tuple #[.string ⟨#[109,97,105,110]⟩,.string ⟨#[110,111,110,101]⟩,.slice (some ⟨g,0,none⟩) 1 1]) (by simp[results,Tryz.results22,go_sem]) rfl ?_;exact⟨xu (ae.gX iB.o) HG.o (Nat.le_refl _) (by decide) (by decide),⟨_,by omega,yH.o⟩,gZ.o⟩
 · go_wp2_with fail;refine bodyPost_ret (v:=.tuple #[.string ⟨#[65]⟩,.string ⟨#[114,117,110]⟩,.slice (some ⟨g,0,none⟩) 1 1]) (by simp[results,Tryz.results22,go_sem]) rfl ?_;exact⟨xu (ae.gX iB.o) HG.o (Nat.le_refl _) (by decide) (by decide),⟨_,by omega,yH.o⟩,gZ.o⟩
 · go_wp2_with fail;refine bodyPost_ret (v:=.tuple #[.string ⟨#[116,111,112]⟩,.string ⟨#[98,117,109,112]⟩,.slice (some ⟨g,0,none⟩) 1 1]) (by simp[results,Tryz.results22,go_sem]) rfl ?_;exact⟨xu (ae.gX iB.o) HG.o (Nat.le_refl _) (by decide) (by decide),⟨_,by omega,yH.o⟩,gZ.o⟩
 · go_upto_region 15 with(fail);first|(go_region_with (go_at_call 41;refine(dM _ rb (p+1+1) v zs 4 (yH.o.ext kx) (by omega) (by omega)).mono ?_;rintro e w5 ⟨⟨j,rfl,hj⟩,uM,gD⟩;(have hj4:j<4:=by omega);have zl:=Ys uM;have oJ:=Ys gD;clear uM hj;(first|(with_reducible change Kp (·=rb) (w4.alloc (.cells #[.string ⟨#[114,117,110]⟩,.string ⟨#[114,117,110]⟩,.string ⟨#[115,117,109]⟩,.string ⟨#[99,97,115,116]⟩] 9)).drew w5 at gD;have vD:=Ys ((((Kp.refl _ _).alloc _).drew).trans gD);have hu0:=qY (k:=j) (((aC.new w4 9 #[.string ⟨#[114,117,110]⟩,.string ⟨#[114,117,110]⟩,.string ⟨#[115,117,109]⟩,.string ⟨#[99,97,115,116]⟩]).ext ((Kp.refl _ _).drew)).kp gD (by have:=yH.o.below.1;omega)) (by simp;omega) (by decide);clear gD;obtain⟨u,hu,Gs⟩:=hu0;have huz:=aG hu)|(with_reducible change Kp (·=rb) w4.drew w5 at gD;have vD:=Ys (((Kp.refl _ _).drew).trans gD);have hu0:=WZ (k:=j) [.string ⟨#[114,117,110]⟩,.string ⟨#[114,117,110]⟩,.string ⟨#[115,117,109]⟩,.string ⟨#[99,97,115,116]⟩] (by simp;omega) (by decide);clear gD;obtain⟨u,hu,Gs⟩:=hu0))))|fail
   all_goals
    go_wp2_with fail;refine bodyPost_ret (v:=.tuple #[.string ⟨#[109,97,105,110]⟩,.string u,.slice (some ⟨g,0,none⟩) 1 1]) (by simp[results,Tryz.results22,go_sem,hu]) rfl ?_;have fE:=(Kp.refl (·=rb) w4).trans vD.o;first
    |exact⟨xu (ae.gX (iB.o.kp fE HGR.o)) HG.o (Nat.le_refl _) (by decide) Gs,⟨_,by omega,zl.o⟩,gZ.o.trans fE⟩
    |exact⟨xu (ae.gX ((iB.o.kp fE HGR.o).ext ((Kp.refl _ _).alloc _))) HG.o (Nat.le_refl _) (by decide) Gs,⟨_,by omega,zl.o.ext ((Kp.refl _ _).alloc _)⟩,(gZ.o.trans fE).trans ((Kp.refl _ _).alloc _)⟩
theorem JL{t k:Nat}(h:CX t k){fn:Func}{p q r s:Tmp}(hf:fn.results=#[.cell p t,.tmp q,.tmp r,.tmp s])(tmps:Array Value)(w:World)(b:Nat)(hp:tmps.getD p undef=.pointer (some ⟨b,0,none⟩))(cs:List Value)(hc:ae w b 0 cs)(hl:cs.length=k):
    (results fn tmps).run Tryz.prog w=.ok (.tuple #[.agg cs.toArray,tmps.getD q undef,tmps.getD r undef,tmps.getD s undef]) w:=by
 have hp':tmps[p]?.getD undef=.pointer (some ⟨b,0,none⟩):=by simpa using hp
 simp[results,hf,hp',asAddr,oO h hc hl]
def YP(w w':World)(e:Ending):Prop:=∃(pl:M.au) (pa:Option Addr) (pc:Nat) (n m:ByteArray) (a:Option Addr) (c:Nat) (args:List Int),e=.returned (.tuple #[.agg #[.slice pa pl.length pc],.string n,.string m,.slice a args.length c])∧
 SliceOf 2 az w' (fun b=>w.heap.size≤b∧b<w'.heap.size) (.slice pa pl.length pc) pl∧SliceOf 1 iZ w' (fun b=>w.heap.size≤b) (.slice a args.length c) args
theorem uD(w:World)(v:Value)(zs:List Int)(h:BytesAt w v zs):
    Calls Tryz.prog 9 #[v] w fun e w'=>YP w w' e∧Ext w w':=by
 obtain⟨va,vc,rfl⟩:=h.form;obtain⟨w1,kS,bA,b1⟩:=nu w #[.slice none 0 0] 25;have yL:Zs (w1.heap.size=w.heap.size+1):=Ys (by rw[kS];simp);have Ot:=Ys (Xl w1 _ zs (h.ext bA));have vJ:=Ys b1;have Ee:=Ys kS;have fe:=Ys bA;clear h kS bA b1;go_enter Tryz.func9,Tryz.ntmps9;go_wp2_with fail;rw[←Ee.o];refine Ot.o.mono ?_;rintro e w2 ⟨⟨rb,v',zs',rfl,hrb,Dg⟩,bP⟩;have HRB:=Ys hrb;have HRL:Zs (rb<w2.heap.size):=Ys Dg.below.1;have lD:=Ys (vJ.o.ext bP);have fD:=Ys (fe.o.trans bP);have HPN:=Ys (NT w2 rb 0 v' zs' 2 Dg (by omega) (by omega) (by omega));clear hrb Dg bP Ot;go_wp2_with fail;refine HPN.o.mono ?_;rintro e w3 ⟨⟨pl,vp,rfl,hp⟩,⟨q,hq,Wo⟩,nX⟩;obtain⟨pa,pc,rfl, -, -⟩:=hp.form;have dm:Ext w w3:=fD.o.own nX fun b e=>by have:=HRB.o;have:=yL.o;omega
 obtain⟨w4,o6,dA,b4⟩:=nu w3 #[.slice pa pl.length pc] 25;have iB:=Ys b4;have tC:=Ys ((lD.o.kp nX (by have:=HRB.o;have:=yL.o;omega)).ext dA);have zD:=Ys o6;have gZ:=Ys (dm.trans dA);have MI:=Ys ((hp.keep (J:=fun b=>w2.heap.size≤b) az.stays (fun _ _ _ _ h=>h) (fun b hb=>hb.1)).ext az.stays dA);have yH:=Ys (Wo.ext dA);have MN:Zs (w3.heap.size<w4.heap.size∧rb<w3.heap.size∧w2.heap.size≤w3.heap.size∧rb<w2.heap.size):=Ys ⟨by rw[o6];simp,Wo.below.1,nX.size,HRL.o⟩;clear hp Wo nX dm dA o6 b4 HPN;go_wp2_with fail;rw[←zD.o];refine(QM w4 rb q v' zs' yH.o (by omega)).mono ?_;rintro e w5 ⟨⟨n,m,a,c,args,rfl,ha, -, -, -⟩, -,gD⟩;have dC:Ext w w5:=gZ.o.own gD fun b e=>by have:=HRB.o;have:=yL.o;omega
 have b5:=iB.o.kp gD (by have:=MN.o;omega);have br:=tC.o.kp gD (by have:=HRB.o;have:=yL.o;omega);have HP5:Zs (SliceOf 2 az w5 (fun b=>w2.heap.size≤b) (.slice pa pl.length pc) pl):=Ys (MI.o.keep az.stays (gD.same fun b hb e=>by have:=MN.o;omega) (fun _ h=>h));have Gy:=Ys ha;have gm:=Ys dC;have adk:=Ys br;have y0:=b5.c 0 (.slice pa pl.length pc) rfl;have yz:=b5.lt;have c0:=br.c 0 (.slice none 0 0) rfl;have cf:=br.frozen 0;have cz:=br.lt;clear ha gD dC b5 br;go_wp2_with fail;refine bodyPost_ret (JL ll rfl _ _ w.heap.size rfl [.slice pa pl.length pc] (ae.gX (adk.o.bI 0 _)) rfl) rfl ?_;have hP:Kp (·=w.heap.size) w5 (w5.setCell ⟨w.heap.size,0,none⟩ (.slice pa pl.length pc)):=(Kp.refl (·=w.heap.size) w5).setCell (p:=⟨w.heap.size,0,none⟩) (fun _=>rfl) _;have hz:w.heap.size<w2.heap.size:=lD.o.lt;have hp5:=(HP5.o.keep (J:=fun b=>w.heap.size≤b) az.stays (hP.same fun b hb e=>by omega) (fun b hb=>by omega)).inside (fun _ _ _ _ h=>az.inside h) (by omega);have ha5:SliceOf 1 iZ (w5.setCell ⟨w.heap.size,0,none⟩ (.slice pa pl.length pc)) (fun b=>w.heap.size≤b) (.slice a args.length c) args:=Gy.o.keep iZ.stays (hP.same fun b hb e=>by have:=gZ.o.size;have:=iB.o.lt;have:=MN.o;omega) (fun b hb=>by have:=gZ.o.size;omega);exact⟨⟨pl,pa,pc,n,m,a,c,args,rfl,hp5,ha5⟩,gm.o.own hP fun b e=>by omega⟩
abbrev Key:=Int×ByteArray
def kP(r:Key):Value:=.agg #[.int .i64 r.1,.string r.2]
def zO(x:Key×Int):Value×Value:=(kP x.1,.int .i64 x.2)
def jb(w:World)(b:Nat)(m:List (Key×Int)):Prop:=
 ∃es clock,w.heap[b]?=some (.map es clock)∧es.toList.map (fun e=>(e.key,e.val))=m.map zO
def look(m:List (Key×Int))(k:Key):Option Int:=(m.find? fun x=>decide (k=x.1)).map Prod.snd
theorem wO{m:List (Key×Int)}{k:Key}{v:Int}(h:look m k=none):look (m++[(k,v)]) k=some v:=by
 unfold look at*;rw[List.find?_append];cases hf:m.find? fun x=>decide (k=x.1)
 · simp
 · rw[hf]at h;simp at h
theorem uV{m:List (Key×Int)}{k k':Key}{v:Int}(h:k'≠k):look (m++[(k,v)]) k'=look m k':=by
 unfold look;rw[List.find?_append];cases hf:m.find? fun x=>decide (k'=x.1)
 · simp[h]
 · rfl
theorem jb.lt{w:World}{b:Nat}{m:List (Key×Int)}(h:jb w b m):b<w.heap.size:=by
 obtain⟨es,c,hb,_⟩:=h;exact(Array.getElem?_eq_some_iff.1 hb).1
theorem jb.keep{w w':World}{b:Nat}{m:List (Key×Int)}(h:jb w b m)(hk:w'.heap[b]?=w.heap[b]?):jb w' b m:=by
 obtain⟨es,c,hb,e⟩:=h;exact⟨es,c,hk.trans hb,e⟩
theorem jb.kp{D:Nat→Prop}{w w':World}{b:Nat}{m:List (Key×Int)}(h:jb w b m)(hk:Kp D w w')(hd:¬D b):jb w' b m:=h.keep (hk.block b h.lt hd)
theorem jb.new(w:World):jb (w.alloc (.map #[] 0)) w.heap.size []:=⟨#[],0,heap_alloc_new w _,rfl⟩
theorem Hd(a b:Key)(w:World):(Op.equal 40 (kP a) (kP b)).run Tryz.prog w=.ok (decide (a=b)) w:=by
 unfold Op.equal kP;show(Op.equalIn 10000 _ _ _).run _ w=_
 go_simp;obtain⟨a1,a2⟩:=a;obtain⟨b1,b2⟩:=b;have e:(a2.toList=b2.toList)↔a2=b2:=by
  rw[ByteArray.toList_eq,ByteArray.toList_eq];obtain⟨⟨x⟩⟩:=a2;obtain⟨⟨y⟩⟩:=b2;simp
 simp only[e,Prod.mk.injEq];by_cases h1:a1=b1<;>by_cases h2:a2=b2<;>simp[h1,h2]
theorem kX(em:Bool)(k:Int)(s:ByteArray)(w:World):(Instr.checkKey em 10000 40 (.agg #[.int .i64 k,.string s])).run Tryz.prog w=.ok () w:=by
 cases em<;>kernel_rfl
theorem Fv:Tryz.prog.underlying 103=some (.map 40 3):=Tryz.underlying103
theorem T9:∃fs,Tryz.prog.underlying 40=some (.struct fs):=⟨_,Tryz.underlying40⟩
theorem Dl(k:Key)(w:World):∀(es:List MapEntry) (m:List (Key×Int)) (i:Nat),es.map (fun e=>(e.key,e.val))=m.map zO→
    (look m k=none∧(Instr.findAsking 40 (kP k) es i).run Tryz.prog w=.ok none w)∨
    ∃v j,look m k=some v∧(Instr.findAsking 40 (kP k) es i).run Tryz.prog w=.ok (some (j,.int .i64 v)) w:=by
 intro es;induction es with
 |nil=>
  intro m i h;cases m with
  |nil=>exact .inl ⟨rfl,rfl⟩
  |cons x r=>simp at h
 | cons e es ih =>
  intro m i h;cases m with
  |nil=>simp at h
  |cons x r=>
   simp only[List.map_cons,List.cons.injEq]at h;obtain⟨h1,h2⟩:=h;have hk:e.key=kP x.1:=congrArg Prod.fst h1;have hv:e.val=.int .i64 x.2:=congrArg Prod.snd h1;unfold Instr.findAsking;rw[hk];simp only[Sem.run_bind,Hd,Result.andThen_ok];by_cases hkx:k=x.1
   · refine .inr ⟨x.2,i,by unfold look;rw[List.find?_cons_of_pos (by simp[hkx])];rfl,?_⟩;simp[hkx,hv]
   · have hl:look (x::r) k=look r k:=by unfold look;rw[List.find?_cons_of_neg (by simp[hkx])]
     rw[hl,decide_eq_false hkx];simpa using ih r (i+1) h2
theorem uC(k:Key)(w:World)(es:List MapEntry)(m:List (Key×Int))(h:es.map (fun e=>(e.key,e.val))=m.map zO):
    (look m k=none∧(Instr.findKey 40 (kP k) es).run Tryz.prog w=.ok none w)∨
    ∃v j,look m k=some v∧(Instr.findKey 40 (kP k) es).run Tryz.prog w=.ok (some (j,.int .i64 v)) w:=by
 obtain⟨fs,Wu⟩:=T9;unfold Instr.findKey;simp only[Sem.run_bind,run_underlying Wu,Result.andThen_ok];cases es with
 |nil=>
  cases m with
  |nil=>exact .inl ⟨rfl,rfl⟩
  |cons x r=>simp at h
 |cons e es=>
  have hn:Instr.findNow (.struct fs) (kP k) (e::es) 0=none:=by simp[Instr.findNow,Instr.sameNow]
  rw[hn];exact Dl k w (e::es) m 0 h
theorem og{w:World}{b:Nat}{m:List (Key×Int)}(h:jb w b m)(k:Int)(s:ByteArray):
    (Instr.lookup 103 (.map (some b)) (.agg #[.int .i64 k,.string s]) true).run Tryz.prog w=.ok (.tuple #[.int .i64 ((look m (k,s)).getD 0),.bool (look m (k,s)).isSome]) w:=by
 obtain⟨es,clock,hb,he⟩:=h;unfold Instr.lookup;simp only[Sem.run_bind,run_underlying Fv,Result.andThen_ok];rcases uC (k,s) w es.toList m he with⟨h1,h2⟩|⟨v,j,h1,h2⟩
 · simp only[kP]at h2;simp[getObj,Sem.run,hb,kX,h2,h1,go_sem]
 · simp only[kP]at h2;simp[getObj,Sem.run,hb,kX,h2,h1,go_sem]
theorem y8{w:World}{b:Nat}{m:List (Key×Int)}(h:jb w b m)(k:Int)(s:ByteArray):
    (Instr.lookup 103 (.map (some b)) (.agg #[.int .i64 k,.string s]) false).run Tryz.prog w=.ok (.int .i64 ((look m (k,s)).getD 0)) w:=by
 obtain⟨es,clock,hb,he⟩:=h;unfold Instr.lookup;simp only[Sem.run_bind,run_underlying Fv,Result.andThen_ok];rcases uC (k,s) w es.toList m he with⟨h1,h2⟩|⟨v,j,h1,h2⟩
 · simp only[kP]at h2;simp[getObj,Sem.run,hb,kX,h2,h1,go_sem]
 · simp only[kP]at h2;simp[getObj,Sem.run,hb,kX,h2,h1,go_sem]
theorem NS{w:World}{b:Nat}{m:List (Key×Int)}(h:jb w b m)(k:Int)(s:ByteArray)(v:Int)(hn:look m (k,s)=none):
    ∃w',(Instr.mapUpdate 103 (.map (some b)) (.agg #[.int .i64 k,.string s]) (.int .i64 v)).run Tryz.prog w=.ok () w'∧jb w' b (m++[((k,s),v)])∧Kp (·=b) w w'∧w'.heap.size=w.heap.size:=by
 obtain⟨es,clock,hb,he⟩:=h;refine⟨{w with heap:=w.heap.setIfInBounds b (.map (es.push {key:=.agg #[.int .i64 k,.string s],val:=.int .i64 v,born:=clock}) (clock+1))},?_,?_,?_,by simp⟩
 · unfold Instr.mapUpdate;simp only[Sem.run_bind,run_underlying Fv,Result.andThen_ok];rcases uC (k,s) w es.toList m he with⟨h1,h2⟩|⟨v,j,h1,h2⟩
   · simp only[kP]at h2;simp[getObj,setObj,Sem.run,hb,kX,h2,go_sem]
   · rw[h1]at hn;cases hn
 · have bZ:=(Array.getElem?_eq_some_iff.1 hb).1;refine⟨_,_,by simp[bZ];exact⟨rfl,rfl⟩,?_⟩;simp[he,zO,kP]
 · refine⟨rfl,rfl,rfl,by simp,fun i hi oC=>?_⟩;simp only[Array.getElem?_setIfInBounds];rw[if_neg (fun e=>oC e.symm)]
theorem il(w:World){ops:Array Oper}{rest:List Oper}{o:Oper}{a:Act}{Q:Exit→Act→World→Prop}
    (hg:o.guard=none) (mo x y:Operand) (fC:o.op=Op.mapUpdate 103 mo x y) (b:Nat) (m:List (Key×Int)) (k:Int) (s:ByteArray) (v:Int)
    (hm:a.eval mo=.map (some b)) (hx:a.eval x=.agg #[.int .i64 k,.string s]) (hv:a.eval y=.int .i64 v) (h:jb w b m) (hn:look m (k,s)=none)
    (hK:∀w',jb w' b (m++[((k,s),v)])→Kp (·=b) w w'→w'.heap.size=w.heap.size→wpList Tryz.prog ops Q rest (a.put o.dst undef) w'):
    wpList Tryz.prog ops Q (o::rest) a w:=by
 refine wpList_plain hg fun K' hK'=>?_;obtain⟨w',xU,r1,r2,r3⟩:=NS h k s v hn;unfold Oper.wp;simp[execOp,fC,hm,hx,hv,xU,Result.andThen];exact hK' _ _ (hK w' r1 r2 r3)
structure aI where
 L:Nat
 O:Nat
 A:Nat
 D:Nat
structure aF(w:World)(l:aI)(p:M.au):Prop where
 ok:M.bU p=true
 ord:l.O<l.A∧l.A<l.D∧l.D<l.L
 blk:∃a cap,aC w l.L 105 #[.slice a p.length cap,.map (some l.O),.map (some l.A),.map (some l.D)]∧SliceOf 2 az w (· <l.O) (.slice a p.length cap) p
 own:∃m,jb w l.O m∧∀k s,look m (k,s)=(M.sN p ⟨k,s⟩).map Int.ofNat
 ask:∃m,jb w l.A m∧∀k s,look m (k,s)=M.zI p k s
 laid:∃m,jb w l.D m∧∀k s v,look m (k,s)=some v→v=if M.cZ p ⟨k,s⟩then 1 else 2
theorem aF.lt{w:World}{l:aI}{p:M.au}(h:aF w l p):l.L<w.heap.size:=by
 obtain⟨a,cap,hb,_⟩:=h.blk;exact hb.lt
theorem aF.keep{w w':World}{l:aI}{p:M.au}(h:aF w l p)(hk:∀k,k≤l.L→w'.heap[k]?=w.heap[k]?):aF w' l p:=by
 obtain⟨o1,o2,o3⟩:=h.ord;refine⟨h.ok,h.ord,?_,?_,?_,?_⟩
 · obtain⟨a,cap,hb,hs⟩:=h.blk;exact⟨a,cap,hb.keep (hk _ (Nat.le_refl _)),hs.keep az.stays (fun b o v hI hc=>(World.cell?_of_block (hk b (by omega))).trans hc) fun _ h=>h⟩
 · obtain⟨m,hm,e⟩:=h.own;exact⟨m,hm.keep (hk _ (by omega)),e⟩
 · obtain⟨m,hm,e⟩:=h.ask;exact⟨m,hm.keep (hk _ (by omega)),e⟩
 · obtain⟨m,hm,e⟩:=h.laid;exact⟨m,hm.keep (hk _ (by omega)),e⟩
theorem aF.kp{D:Nat→Prop}{w w':World}{l:aI}{p:M.au}(h:aF w l p)(hk:Kp D w w')(hD:∀k,k≤l.L→¬D k):aF w' l p:=
 h.keep fun k Aa=>hk.block k (by have:=h.lt;omega) (hD k Aa)
theorem aF.ext{w w':World}{l:aI}{p:M.au}(h:aF w l p)(hk:Ext w w'):aF w' l p:=h.kp hk fun _ _ x=>x
theorem aF.JB{w:World}{l:aI}{p:M.au}(h:aF w l p):∀W,Ext w W→∀k s,
    (Instr.lookup 103 (.map (some l.O)) (.agg #[.int .i64 k,.string s]) true).run Tryz.prog W=
     .ok (.tuple #[.int .i64 (((M.sN p ⟨k,s⟩).map Int.ofNat).getD 0),.bool (M.sN p ⟨k,s⟩).isSome]) W:=by
 intro W hW k s;obtain⟨m,hm,e⟩:=h.own;rw[og (hm.kp hW fun x=>x),e];simp
theorem aF.Ue{w:World}{l:aI}{p:M.au}(h:aF w l p):∀W,Ext w W→∀k s,
    (Instr.lookup 103 (.map (some l.O)) (.agg #[.int .i64 k,.string s]) false).run Tryz.prog W=
     .ok (.int .i64 (((M.sN p ⟨k,s⟩).map Int.ofNat).getD 0)) W:=by
 intro W hW k s;obtain⟨m,hm,e⟩:=h.own;rw[y8 (hm.kp hW fun x=>x),e]
theorem aF.JA{w:World}{l:aI}{p:M.au}(h:aF w l p):∀W,Ext w W→∀k s,
    (Instr.lookup 103 (.map (some l.A)) (.agg #[.int .i64 k,.string s]) true).run Tryz.prog W=
     .ok (.tuple #[.int .i64 ((M.zI p k s).getD 0),.bool (M.zI p k s).isSome]) W:=by
 intro W hW k s;obtain⟨m,hm,e⟩:=h.ask;rw[og (hm.kp hW fun x=>x),e]
theorem aF.cells{w:World}{l:aI}{p:M.au}(h:aF w l p):∃a cap,SliceOf 2 az w (· <l.O) (.slice a p.length cap) p∧(∀W,Ext w W→W.cell? ⟨l.L,0,none⟩=some (.slice a p.length cap))∧
    (∀W,Ext w W→W.cell? ⟨l.L,1,none⟩=some (.map (some l.O)))∧(∀W,Ext w W→W.cell? ⟨l.L,2,none⟩=some (.map (some l.A)))∧(∀W,Ext w W→W.cell? ⟨l.L,3,none⟩=some (.map (some l.D))):=by
 obtain⟨a,cap,hb,hs⟩:=h.blk;exact⟨a,cap,hs,fun W hW=>Kp.aA hW (hb.c 0 _ rfl),fun W hW=>Kp.aA hW (hb.c 1 _ rfl),fun W hW=>Kp.aA hW (hb.c 2 _ rfl),fun W hW=>Kp.aA hW (hb.c 3 _ rfl)⟩
theorem QC{op:Int}(h:M.isNum op=true):op=1∨op=2∨op=3∨op=11∨op=12∨op=13:=by
 simpa [M.isNum,or_assoc]using h
theorem Ho{op:Int}(h:M.lW op=true):op=6∨op=15:=by
 simpa [M.lW,or_assoc]using h
theorem Ij{op:Int}(h:M.oD op=true):op=7∨op=8∨op=9:=by
 simpa [M.oD,or_assoc]using h
theorem Im{op:Int}(h:M.qX op=true):op=4∨op=5∨op=10∨op=14:=by
 simpa [M.qX,or_assoc]using h
theorem Ut{op:Int}(h1:M.isNum op=false)(h2:M.lW op=false)(h3:M.oD op=false)(h4:M.qX op=false):
    (¬op=1∧¬op=2∧¬op=3∧¬op=4∧¬op=5∧¬op=6∧¬op=7∧¬op=8)∧¬op=9∧¬op=10∧¬op=11∧¬op=12∧¬op=13∧¬op=14∧¬op=15:=by
 simp[M.isNum,M.lW,M.oD,M.qX]at h1 h2 h3 h4;omega
theorem SE(op a:Int)(s m:ByteArray)(w:World)(h:M.isNum op=true):
    Calls Tryz.prog 178 #[.agg #[.int .i64 op,.int .i64 a,.string s,.string m]] w fun e w'=>e=.returned (.iface 272 (.agg #[.int .i64 op,.int .i64 a]))∧Ext w w':=by
 rcases QC h with rfl|rfl|rfl|rfl|rfl|rfl
 all_goals
  clear h;go_enter Tryz.func178,Tryz.ntmps178;go_wp2;go_ret;exact⟨rfl,((Kp.refl _ _).alloc _)⟩
theorem SB(op a:Int)(s m:ByteArray)(w:World)(h:M.lW op=true):
    Calls Tryz.prog 178 #[.agg #[.int .i64 op,.int .i64 a,.string s,.string m]] w fun e w'=>e=.returned (.iface 274 (.agg #[.int .i64 op,.string s]))∧Ext w w':=by
 rcases Ho h with rfl|rfl
 all_goals
  clear h;go_enter Tryz.func178,Tryz.ntmps178;go_wp2;go_ret;exact⟨rfl,((Kp.refl _ _).alloc _)⟩
theorem SC(op a:Int)(s m:ByteArray)(w:World)(h:M.oD op=true):
    Calls Tryz.prog 178 #[.agg #[.int .i64 op,.int .i64 a,.string s,.string m]] w fun e w'=>e=.returned (.iface 276 (.agg #[.int .i64 op,.string s,.string m]))∧Ext w w':=by
 rcases Ij h with rfl|rfl|rfl
 all_goals
  clear h;go_enter Tryz.func178,Tryz.ntmps178;go_wp2;go_ret;exact⟨rfl,((Kp.refl _ _).alloc _)⟩
theorem SF(op a:Int)(s m:ByteArray)(w:World)(h:M.qX op=true):
    Calls Tryz.prog 178 #[.agg #[.int .i64 op,.int .i64 a,.string s,.string m]] w fun e w'=>e=.returned (.iface 278 (.agg #[.int .i64 op]))∧Ext w w':=by
 rcases Im h with rfl|rfl|rfl|rfl
 all_goals
  clear h;go_enter Tryz.func178,Tryz.ntmps178;go_wp2;go_ret;exact⟨rfl,((Kp.refl _ _).alloc _)⟩
theorem V6(op a:Int)(s m:ByteArray)(w:World)(h1:M.isNum op=false)(h2:M.lW op=false)(h3:M.oD op=false)(h4:M.qX op=false):
    Calls Tryz.prog 178 #[.agg #[.int .i64 op,.int .i64 a,.string s,.string m]] w fun e w'=>e=.returned .nilIface∧Ext w w':=by
 obtain⟨⟨a1,a2,a3,a4,a5,a6,a7,a8⟩,b1,b2,b3,b4,b5,b6,b7⟩:=Ut h1 h2 h3 h4;clear h1 h2 h3 h4;go_enter Tryz.func178,Tryz.ntmps178;go_wp2;go_ret;exact⟨rfl,((Kp.refl _ _).alloc _)⟩
theorem FX(x:Value)(w:World):(Instr.typeAssert (.iface 272 x) 20 278 true).run Tryz.prog w=.ok (.tuple #[.agg #[.int .i64 0],.bool false]) w:=by kernel_rfl
theorem FQ(x:Value)(w:World):(Instr.typeAssert (.iface 274 x) 20 278 true).run Tryz.prog w=.ok (.tuple #[.agg #[.int .i64 0],.bool false]) w:=by kernel_rfl
theorem FV(x:Value)(w:World):(Instr.typeAssert (.iface 276 x) 20 278 true).run Tryz.prog w=.ok (.tuple #[.agg #[.int .i64 0],.bool false]) w:=by kernel_rfl
theorem FY(x:Value)(w:World):(Instr.typeAssert (.iface 278 x) 20 278 true).run Tryz.prog w=.ok (.tuple #[x,.bool true]) w:=by kernel_rfl
theorem FW(x:Value)(w:World):(Instr.typeAssert (.iface 272 x) 20 272 true).run Tryz.prog w=.ok (.tuple #[x,.bool true]) w:=by kernel_rfl
theorem FP(x:Value)(w:World):(Instr.typeAssert (.iface 274 x) 20 272 true).run Tryz.prog w=.ok (.tuple #[.agg #[.int .i64 0,.int .i64 0],.bool false]) w:=by kernel_rfl
theorem FU(x:Value)(w:World):(Instr.typeAssert (.iface 276 x) 20 272 true).run Tryz.prog w=.ok (.tuple #[.agg #[.int .i64 0,.int .i64 0],.bool false]) w:=by kernel_rfl
theorem FO(x:Value)(w:World):(Instr.typeAssert (.iface 274 x) 20 274 true).run Tryz.prog w=.ok (.tuple #[x,.bool true]) w:=by kernel_rfl
theorem FR(x:Value)(w:World):(Instr.typeAssert (.iface 276 x) 20 274 true).run Tryz.prog w=.ok (.tuple #[.agg #[.int .i64 0,.string M.none_],.bool false]) w:=by kernel_rfl
theorem FT(x:Value)(w:World):(Instr.typeAssert (.iface 276 x) 20 276 true).run Tryz.prog w=.ok (.tuple #[x,.bool true]) w:=by kernel_rfl
theorem Jr(op a:Int)(w:World):
    Calls Tryz.prog 179 #[.iface 272 (.agg #[.int .i64 op,.int .i64 a])] w fun e w'=>e=.returned (.agg #[.int .i64 op,.int .i64 a,.string M.none_,.string M.none_])∧Ext w w':=by
 have t1:=FX (.agg #[.int .i64 op,.int .i64 a]);have t2:=FW (.agg #[.int .i64 op,.int .i64 a]);go_enter Tryz.func179,Tryz.ntmps179;go_wp2;refine bodyPost_ret (v:=.agg #[.int .i64 op,.int .i64 a,.string M.none_,.string M.none_]) (by simp[results,Tryz.results179,go_sem]) rfl ?_;exact⟨rfl,kx⟩
theorem Jq(op:Int)(s:ByteArray)(w:World):
    Calls Tryz.prog 179 #[.iface 274 (.agg #[.int .i64 op,.string s])] w fun e w'=>e=.returned (.agg #[.int .i64 op,.int .i64 0,.string s,.string M.none_])∧Ext w w':=by
 have t1:=FQ (.agg #[.int .i64 op,.string s]);have t2:=FP (.agg #[.int .i64 op,.string s]);have t3:=FO (.agg #[.int .i64 op,.string s]);go_enter Tryz.func179,Tryz.ntmps179;go_wp2;refine bodyPost_ret (v:=.agg #[.int .i64 op,.int .i64 0,.string s,.string M.none_]) (by simp[results,Tryz.results179,go_sem]) rfl ?_;exact⟨rfl,kx⟩
theorem O5(op:Int)(s m:ByteArray)(w:World):
    Calls Tryz.prog 179 #[.iface 276 (.agg #[.int .i64 op,.string s,.string m])] w fun e w'=>e=.returned (.agg #[.int .i64 op,.int .i64 0,.string s,.string m])∧Ext w w':=by
 have t1:=FV (.agg #[.int .i64 op,.string s,.string m]);have t2:=FU (.agg #[.int .i64 op,.string s,.string m]);have t3:=FR (.agg #[.int .i64 op,.string s,.string m]);have t4:=FT (.agg #[.int .i64 op,.string s,.string m]);go_enter Tryz.func179,Tryz.ntmps179;go_wp2;refine bodyPost_ret (v:=.agg #[.int .i64 op,.int .i64 0,.string s,.string m]) (by simp[results,Tryz.results179,go_sem]) rfl ?_;exact⟨rfl,kx⟩
theorem DI(op:Int)(w:World):
    Calls Tryz.prog 179 #[.iface 278 (.agg #[.int .i64 op])] w fun e w'=>e=.returned (.agg #[.int .i64 op,.int .i64 0,.string M.none_,.string M.none_])∧Ext w w':=by
 have t1:=FY (.agg #[.int .i64 op]);go_enter Tryz.func179,Tryz.ntmps179;go_wp2;refine bodyPost_ret (v:=.agg #[.int .i64 op,.int .i64 0,.string M.none_,.string M.none_]) (by simp[results,Tryz.results179,go_sem]) rfl ?_;exact⟨rfl,kx⟩
theorem QD(op:Int)(w:World):
    Calls Tryz.prog 192 #[.int .i64 op] w fun e w'=>e=.returned (.tuple #[.int .i64 (M.mO op),.int .i64 (M.nZ op)])∧w=w':=by
 by_cases h1:op=1
 · subst h1;go_enter Tryz.func192,Tryz.ntmps192;go_wp2;go_ret2;exact⟨rfl,rfl⟩
 by_cases h2:op=2
 · subst h2;go_enter Tryz.func192,Tryz.ntmps192;go_wp2;go_ret2;exact⟨rfl,rfl⟩
 by_cases h3:op=3
 · subst h3;go_enter Tryz.func192,Tryz.ntmps192;go_wp2;go_ret2;exact⟨rfl,rfl⟩
 · have e1:M.mO op=0:=if_neg h1;have e2:M.nZ op=15:=by unfold M.nZ;rw[if_neg h1,if_neg (by omega)]
   rw[e1,e2];clear e1 e2;go_enter Tryz.func192,Tryz.ntmps192;go_wp2;go_ret2;exact⟨rfl,rfl⟩
theorem yO(op a:Int)(w:World):
    Calls Tryz.prog 180 #[.iface 272 (.agg #[.int .i64 op,.int .i64 a])] w fun e w'=>e=.returned (.bool (decide (M.mO op≤a)&&decide (a≤M.nZ op)))∧Ext w w':=by
 have t1:=FX (.agg #[.int .i64 op,.int .i64 a]);have t2:=FW (.agg #[.int .i64 op,.int .i64 a]);generalize hl:M.mO op=l;generalize hm:M.nZ op=m;have hr:=QD op;rw[hl,hm]at hr;have HR:=Ys hr;clear hr hl hm;by_cases h1:l≤a
 · go_enter Tryz.func180,Tryz.ntmps180;go_wp2_with (go_at_call 192;refine(HR.o _).mono ?_;rintro e w' ⟨rfl,rfl⟩);go_ret;exact⟨ag (by rw[decide_eq_true h1];simp),kx⟩
 · go_enter Tryz.func180,Tryz.ntmps180;go_wp2_with (go_at_call 192;refine(HR.o _).mono ?_;rintro e w' ⟨rfl,rfl⟩);go_ret;exact⟨ag (by rw[decide_eq_false (p:=l≤a) (by omega)];simp),kx⟩
theorem yN(op:Int)(s:ByteArray)(w:World):
    Calls Tryz.prog 180 #[.iface 274 (.agg #[.int .i64 op,.string s])] w fun e w'=>e=.returned (.bool (M.aY s))∧Ext w w':=by
 have t1:=FQ (.agg #[.int .i64 op,.string s]);have t2:=FP (.agg #[.int .i64 op,.string s]);have t3:=FO (.agg #[.int .i64 op,.string s]);go_enter Tryz.func180,Tryz.ntmps180;go_wp2_with (go_at_call 43;refine(AJ _ _).mono ?_;rintro e w' ⟨rfl,rfl⟩);go_ret;exact⟨rfl,kx⟩
theorem Ey(op:Int)(s m:ByteArray)(w:World):
    Calls Tryz.prog 180 #[.iface 276 (.agg #[.int .i64 op,.string s,.string m])] w fun e w'=>e=.returned (.bool (M.aY s&&M.aY m))∧Ext w w':=by
 have t1:=FV (.agg #[.int .i64 op,.string s,.string m]);have t2:=FU (.agg #[.int .i64 op,.string s,.string m]);have t3:=FR (.agg #[.int .i64 op,.string s,.string m]);have t4:=FT (.agg #[.int .i64 op,.string s,.string m]);cases hs:M.aY s
 all_goals
  have HS:=Ys hs;clear hs;go_enter Tryz.func180,Tryz.ntmps180;go_wp2_with fail;refine(AJ _ _).mono ?_;rintro e w' ⟨rfl,rfl⟩;rw[HS.o]
 · go_wp2;go_ret;exact⟨rfl,kx⟩
 · go_wp2_with (go_at_call 43;refine(AJ _ _).mono ?_;rintro e w' ⟨rfl,rfl⟩);go_ret;exact⟨rfl,kx⟩
theorem tV(op:Int)(w:World):
    Calls Tryz.prog 180 #[.iface 278 (.agg #[.int .i64 op])] w fun e w'=>e=.returned (.bool true)∧Ext w w':=by
 have t1:=FY (.agg #[.int .i64 op]);go_enter Tryz.func180,Tryz.ntmps180;go_wp2;go_ret;exact⟨rfl,kx⟩
theorem jZ(a b:ByteArray):(a.toList==b.toList)=decide (a=b):=by
 rw[ByteArray.toList_eq,ByteArray.toList_eq,Bool.eq_iff_iff,decide_eq_true_iff,beq_iff_eq];constructor
 · intro h;obtain⟨⟨x⟩⟩:=a;obtain⟨⟨y⟩⟩:=b;simp at h;subst h;rfl
 · intro h;rw[h]
theorem toList_nil(s:ByteArray):s.toList=[]↔s=M.none_:=by
 rw[ByteArray.toList_eq];obtain⟨⟨l⟩⟩:=s;simp[M.none_]
theorem Qe{op a:Int}{s m:ByteArray}(h:M.isNum op=true):M.jV ⟨op,a,s,m⟩=(decide (s=M.none_)&&decide (m=M.none_)&&decide (M.mO op≤a)&&decide (a≤M.nZ op)):=by
 unfold M.jV;rw[if_pos h]
theorem Qc{op a:Int}{s m:ByteArray}(h0:M.isNum op=false)(h:M.lW op=true):M.jV ⟨op,a,s,m⟩=(decide (a=0)&&decide (m=M.none_)&&M.aY s):=by
 unfold M.jV;rw[if_neg (by simp[h0]),if_pos h]
theorem Qd{op a:Int}{s m:ByteArray}(h0:M.isNum op=false)(h1:M.lW op=false)(h:M.oD op=true):M.jV ⟨op,a,s,m⟩=(decide (a=0)&&M.aY s&&M.aY m):=by
 unfold M.jV;rw[if_neg (by simp[h0]),if_neg (by simp[h1]),if_pos h]
theorem Qf{op a:Int}{s m:ByteArray}(h0:M.isNum op=false)(h1:M.lW op=false)(h2:M.oD op=false)(h:M.qX op=true):M.jV ⟨op,a,s,m⟩=(decide (a=0)&&decide (s=M.none_)&&decide (m=M.none_)):=by
 unfold M.jV;rw[if_neg (by simp[h0]),if_neg (by simp[h1]),if_neg (by simp[h2]),if_pos h]
theorem TR{op a:Int}{s m:ByteArray}(h0:M.isNum op=false)(h1:M.lW op=false)(h2:M.oD op=false)(h:M.qX op=false):M.jV ⟨op,a,s,m⟩=false:=by
 unfold M.jV;rw[if_neg (by simp[h0]),if_neg (by simp[h1]),if_neg (by simp[h2]),if_neg (by simp[h])]
theorem Ua{op:Int}(h:M.lW op=true):M.isNum op=false:=by rcases Ho h with rfl|rfl<;>rfl
theorem Lc{op:Int}(h:M.oD op=true):M.isNum op=false∧M.lW op=false:=by rcases Ij h with rfl|rfl|rfl<;>exact⟨rfl,rfl⟩
theorem EZ{op:Int}(h:M.qX op=true):M.isNum op=false∧M.lW op=false∧M.oD op=false:=by
 rcases Im h with rfl|rfl|rfl|rfl<;>exact⟨rfl,rfl,rfl⟩
theorem Qi(op a:Int)(s m:ByteArray)(w:World)(h:M.isNum op=true):
    Calls Tryz.prog 154 #[.agg #[.int .i64 op,.int .i64 a,.string s,.string m]] w fun e w'=>e=.returned (.bool (M.jV ⟨op,a,s,m⟩))∧Ext w w':=by
 have HE:=Ys (Qe (op:=op) (a:=a) (s:=s) (m:=m) h);have HK:=Ys h;clear h;go_enter Tryz.func154,Tryz.ntmps154;go_wp2_with (go_at_call 178;refine(SE _ _ _ _ _ HK.o).mono ?_;rintro e w1 ⟨rfl,hB⟩);have b1:=(aC.new w 47 #[.int .i64 op,.int .i64 a,.string s,.string m]).ext hB;have c0:=b1.c 0 _ rfl;have c1:=b1.c 1 _ rfl;have c2:=b1.c 2 _ rfl;have c3:=b1.c 3 _ rfl;have hz:=b1.lt;have HB:=Ys hB;clear hB b1;by_cases hs:s.toList=[]
 · by_cases hm:m.toList=[]
   · first|(go_region_with (first|(go_at_call 179;refine(Jr _ _ _).mono ?_;rintro e w2 ⟨rfl,hB2⟩;have d0:=hB2.aA c0;have d1:=hB2.aA c1;have d2:=hB2.aA c2;have d3:=hB2.aA c3)|(go_at_call 180;refine(yO _ _ _).mono ?_;rintro e w3 ⟨rfl,GM⟩)))|fail
     all_goals
      go_wp2;go_ret;have hB:=HB.o;exact⟨ag (by rw[HE.o];rw[toList_nil]at hs hm;simp[hs,hm]),(by repeat (first|assumption|exact Kp.refl _ _|apply Kp.alloc|apply Kp.drew|apply Kp.drewN|refine Kp.trans ?_ (by assumption)))⟩
   · first|(go_region_with (first|(go_at_call 179;refine(Jr _ _ _).mono ?_;rintro e w2 ⟨rfl,hB2⟩;have d0:=hB2.aA c0;have d1:=hB2.aA c1;have d2:=hB2.aA c2;have d3:=hB2.aA c3)|(go_at_call 180;refine(yO _ _ _).mono ?_;rintro e w3 ⟨rfl,GM⟩)))|fail
     all_goals
      go_wp2;go_ret;have hB:=HB.o;exact⟨ag (by rw[HE.o];rw[toList_nil]at hm;simp[hm]),(by repeat (first|assumption|exact Kp.refl _ _|apply Kp.alloc|apply Kp.drew|apply Kp.drewN|refine Kp.trans ?_ (by assumption)))⟩
 · first|(go_region_with (first|(go_at_call 179;refine(Jr _ _ _).mono ?_;rintro e w2 ⟨rfl,hB2⟩;have d0:=hB2.aA c0;have d1:=hB2.aA c1;have d2:=hB2.aA c2;have d3:=hB2.aA c3)|(go_at_call 180;refine(yO _ _ _).mono ?_;rintro e w3 ⟨rfl,GM⟩)))|fail
   all_goals
    go_wp2;go_ret;have hB:=HB.o;exact⟨ag (by rw[HE.o];rw[toList_nil]at hs;simp[hs]),(by repeat (first|assumption|exact Kp.refl _ _|apply Kp.alloc|apply Kp.drew|apply Kp.drewN|refine Kp.trans ?_ (by assumption)))⟩
theorem Qg(op a:Int)(s m:ByteArray)(w:World)(h:M.lW op=true):
    Calls Tryz.prog 154 #[.agg #[.int .i64 op,.int .i64 a,.string s,.string m]] w fun e w'=>e=.returned (.bool (M.jV ⟨op,a,s,m⟩))∧Ext w w':=by
 have HE:=Ys (Qc (op:=op) (a:=a) (s:=s) (m:=m) (Ua h) h);have HK:=Ys h;clear h;go_enter Tryz.func154,Tryz.ntmps154;go_wp2_with (go_at_call 178;refine(SB _ _ _ _ _ HK.o).mono ?_;rintro e w1 ⟨rfl,hB⟩);have b1:=(aC.new w 47 #[.int .i64 op,.int .i64 a,.string s,.string m]).ext hB;have c0:=b1.c 0 _ rfl;have c1:=b1.c 1 _ rfl;have c2:=b1.c 2 _ rfl;have c3:=b1.c 3 _ rfl;have hz:=b1.lt;have HB:=Ys hB;clear hB b1;by_cases ha:0=a
 · by_cases hm:m.toList=[]
   · first|(go_region_with (first|(go_at_call 179;refine(Jq _ _ _).mono ?_;rintro e w2 ⟨rfl,hB2⟩;have d0:=hB2.aA c0;have d1:=hB2.aA c1;have d2:=hB2.aA c2;have d3:=hB2.aA c3)|(go_at_call 180;refine(yN _ _ _).mono ?_;rintro e w3 ⟨rfl,GM⟩)))|fail
     all_goals
      go_wp2;go_ret;have hB:=HB.o;exact⟨ag (by rw[HE.o];rw[toList_nil]at hm;simp[←ha,hm]),(by repeat (first|assumption|exact Kp.refl _ _|apply Kp.alloc|apply Kp.drew|apply Kp.drewN|refine Kp.trans ?_ (by assumption)))⟩
   · first|(go_region_with (first|(go_at_call 179;refine(Jq _ _ _).mono ?_;rintro e w2 ⟨rfl,hB2⟩;have d0:=hB2.aA c0;have d1:=hB2.aA c1;have d2:=hB2.aA c2;have d3:=hB2.aA c3)|(go_at_call 180;refine(yN _ _ _).mono ?_;rintro e w3 ⟨rfl,GM⟩)))|fail
     all_goals
      go_wp2;go_ret;have hB:=HB.o;exact⟨ag (by rw[HE.o];rw[toList_nil]at hm;simp[hm]),(by repeat (first|assumption|exact Kp.refl _ _|apply Kp.alloc|apply Kp.drew|apply Kp.drewN|refine Kp.trans ?_ (by assumption)))⟩
 · first|(go_region_with (first|(go_at_call 179;refine(Jq _ _ _).mono ?_;rintro e w2 ⟨rfl,hB2⟩;have d0:=hB2.aA c0;have d1:=hB2.aA c1;have d2:=hB2.aA c2;have d3:=hB2.aA c3)|(go_at_call 180;refine(yN _ _ _).mono ?_;rintro e w3 ⟨rfl,GM⟩)))|fail
   all_goals
    go_wp2;go_ret;have hB:=HB.o;exact⟨ag (by rw[HE.o];simp[Ne.symm ha]),(by repeat (first|assumption|exact Kp.refl _ _|apply Kp.alloc|apply Kp.drew|apply Kp.drewN|refine Kp.trans ?_ (by assumption)))⟩
theorem Qh(op a:Int)(s m:ByteArray)(w:World)(h:M.oD op=true):
    Calls Tryz.prog 154 #[.agg #[.int .i64 op,.int .i64 a,.string s,.string m]] w fun e w'=>e=.returned (.bool (M.jV ⟨op,a,s,m⟩))∧Ext w w':=by
 have HE:=Ys (Qd (op:=op) (a:=a) (s:=s) (m:=m) (Lc h).1 (Lc h).2 h);have HK:=Ys h;clear h;go_enter Tryz.func154,Tryz.ntmps154;go_wp2_with (go_at_call 178;refine(SC _ _ _ _ _ HK.o).mono ?_;rintro e w1 ⟨rfl,hB⟩);have b1:=(aC.new w 47 #[.int .i64 op,.int .i64 a,.string s,.string m]).ext hB;have c0:=b1.c 0 _ rfl;have c1:=b1.c 1 _ rfl;have c2:=b1.c 2 _ rfl;have c3:=b1.c 3 _ rfl;have hz:=b1.lt;have HB:=Ys hB;clear hB b1;by_cases ha:0=a
 · first|(go_region_with (first|(go_at_call 179;refine(O5 _ _ _ _).mono ?_;rintro e w2 ⟨rfl,hB2⟩;have d0:=hB2.aA c0;have d1:=hB2.aA c1;have d2:=hB2.aA c2;have d3:=hB2.aA c3)|(go_at_call 180;refine(Ey _ _ _ _).mono ?_;rintro e w3 ⟨rfl,GM⟩)))|fail
   all_goals
    go_wp2;go_ret;have hB:=HB.o;exact⟨ag (by rw[HE.o];simp[←ha]),(by repeat (first|assumption|exact Kp.refl _ _|apply Kp.alloc|apply Kp.drew|apply Kp.drewN|refine Kp.trans ?_ (by assumption)))⟩
 · first|(go_region_with (first|(go_at_call 179;refine(O5 _ _ _ _).mono ?_;rintro e w2 ⟨rfl,hB2⟩;have d0:=hB2.aA c0;have d1:=hB2.aA c1;have d2:=hB2.aA c2;have d3:=hB2.aA c3)|(go_at_call 180;refine(Ey _ _ _ _).mono ?_;rintro e w3 ⟨rfl,GM⟩)))|fail
   all_goals
    go_wp2;go_ret;have hB:=HB.o;exact⟨ag (by rw[HE.o];simp[Ne.symm ha]),(by repeat (first|assumption|exact Kp.refl _ _|apply Kp.alloc|apply Kp.drew|apply Kp.drewN|refine Kp.trans ?_ (by assumption)))⟩
theorem Qj (op a : Int) (s m : ByteArray) (w : World) (h : M.qX op = true) :
    Calls Tryz.prog 154 #[.agg #[.int .i64 op,.int .i64 a,.string s,.string m]] w fun e w'=>e=.returned (.bool (M.jV ⟨op,a,s,m⟩))∧Ext w w':=by
 have HE:=Ys (Qf (op:=op) (a:=a) (s:=s) (m:=m) (EZ h).1 (EZ h).2.1 (EZ h).2.2 h);have HK:=Ys h;clear h;go_enter Tryz.func154,Tryz.ntmps154;go_wp2_with (go_at_call 178;refine(SF _ _ _ _ _ HK.o).mono ?_;rintro e w1 ⟨rfl,hB⟩);have b1:=(aC.new w 47 #[.int .i64 op,.int .i64 a,.string s,.string m]).ext hB;have c0:=b1.c 0 _ rfl;have c1:=b1.c 1 _ rfl;have c2:=b1.c 2 _ rfl;have c3:=b1.c 3 _ rfl;have hz:=b1.lt;have HB:=Ys hB;clear hB b1;by_cases ha:0=a
 · by_cases hs:s.toList=[]
   · by_cases hm:m.toList=[]
     · first|(go_region_with (first|(go_at_call 179;refine(DI _ _).mono ?_;rintro e w2 ⟨rfl,hB2⟩;have d0:=hB2.aA c0;have d1:=hB2.aA c1;have d2:=hB2.aA c2;have d3:=hB2.aA c3)|(go_at_call 180;refine(tV _ _).mono ?_;rintro e w3 ⟨rfl,GM⟩)))|fail
       all_goals
        go_wp2;go_ret;have hB:=HB.o;exact⟨ag (by rw[HE.o];rw[toList_nil]at hs hm;simp[←ha,hs,hm]),(by repeat (first|assumption|exact Kp.refl _ _|apply Kp.alloc|apply Kp.drew|apply Kp.drewN|refine Kp.trans ?_ (by assumption)))⟩
     · first|(go_region_with (first|(go_at_call 179;refine(DI _ _).mono ?_;rintro e w2 ⟨rfl,hB2⟩;have d0:=hB2.aA c0;have d1:=hB2.aA c1;have d2:=hB2.aA c2;have d3:=hB2.aA c3)|(go_at_call 180;refine(tV _ _).mono ?_;rintro e w3 ⟨rfl,GM⟩)))|fail
       all_goals
        go_wp2;go_ret;have hB:=HB.o;exact⟨ag (by rw[HE.o];rw[toList_nil]at hm;simp[hm]),(by repeat (first|assumption|exact Kp.refl _ _|apply Kp.alloc|apply Kp.drew|apply Kp.drewN|refine Kp.trans ?_ (by assumption)))⟩
   · first|(go_region_with (first|(go_at_call 179;refine(DI _ _).mono ?_;rintro e w2 ⟨rfl,hB2⟩;have d0:=hB2.aA c0;have d1:=hB2.aA c1;have d2:=hB2.aA c2;have d3:=hB2.aA c3)|(go_at_call 180;refine(tV _ _).mono ?_;rintro e w3 ⟨rfl,GM⟩)))|fail
     all_goals
      go_wp2;go_ret;have hB:=HB.o;exact⟨ag (by rw[HE.o];rw[toList_nil]at hs;simp[hs]),(by repeat (first|assumption|exact Kp.refl _ _|apply Kp.alloc|apply Kp.drew|apply Kp.drewN|refine Kp.trans ?_ (by assumption)))⟩
 · first|(go_region_with (first|(go_at_call 179;refine(DI _ _).mono ?_;rintro e w2 ⟨rfl,hB2⟩;have d0:=hB2.aA c0;have d1:=hB2.aA c1;have d2:=hB2.aA c2;have d3:=hB2.aA c3)|(go_at_call 180;refine(tV _ _).mono ?_;rintro e w3 ⟨rfl,GM⟩)))|fail
   all_goals
    go_wp2;go_ret;have hB:=HB.o;exact⟨ag (by rw[HE.o];simp[Ne.symm ha]),(by repeat (first|assumption|exact Kp.refl _ _|apply Kp.alloc|apply Kp.drew|apply Kp.drewN|refine Kp.trans ?_ (by assumption)))⟩
theorem TT(op a:Int)(s m:ByteArray)(w:World)(h1:M.isNum op=false)(h2:M.lW op=false)(h3:M.oD op=false)(h4:M.qX op=false):
    Calls Tryz.prog 154 #[.agg #[.int .i64 op,.int .i64 a,.string s,.string m]] w fun e w'=>e=.returned (.bool (M.jV ⟨op,a,s,m⟩))∧Ext w w':=by
 have HE:=Ys (TR (op:=op) (a:=a) (s:=s) (m:=m) h1 h2 h3 h4);have H:=Ys (And.intro (And.intro h1 h2) (And.intro h3 h4));clear h1 h2 h3 h4;go_enter Tryz.func154,Tryz.ntmps154;go_wp2_with (go_at_call 178;refine(V6 _ _ _ _ _ H.o.1.1 H.o.1.2 H.o.2.1 H.o.2.2).mono ?_;rintro e w1 ⟨rfl,hB⟩);go_quiet (fail);go_wp2;go_ret;exact⟨ag (by rw[HE.o]),(by repeat (first|assumption|exact Kp.refl _ _|apply Kp.alloc|apply Kp.drew|apply Kp.drewN|refine Kp.trans ?_ (by assumption)))⟩
theorem TS(i:M.Ins)(w:World):
    Calls Tryz.prog 154 #[.agg #[.int .i64 i.op,.int .i64 i.a,.string i.name,.string i.member]] w fun e w'=>e=.returned (.bool (M.jV i))∧Ext w w':=by
 cases h1:M.isNum i.op
 · cases h2:M.lW i.op
   · cases h3:M.oD i.op
     · cases h4:M.qX i.op
       · exact TT _ _ _ _ _ h1 h2 h3 h4
       · exact Qj _ _ _ _ _ h4
     · exact Qh _ _ _ _ _ h3
   · exact Qg _ _ _ _ _ h2
 · exact Qi _ _ _ _ _ h1
theorem all_succ{α:Type}{p:α→Bool}{l:List α}{k:Nat}{x:α}(h:(l.take k).all p=true)(hx:l[k]?=some x)(hp:p x=true):(l.take (k+1)).all p=true:=by
 rw[List.take_add_one,hx,List.all_append,h];simp[hp]
theorem mD{α:Type}{p:α→Bool}{l:List α}{k:Nat}{x:α}(hx:l[k]?=some x)(hp:p x=false):l.all p=false:=
 List.all_eq_false.2 ⟨x,List.mem_of_getElem? hx,by simp[hp]⟩
theorem kH{α:Type}{p:α→Bool}{l:List α}{k:Nat}(h:(l.take k).all p=true)(hk:l.length≤k):l.all p=true:=by
 rw[List.take_of_length_le hk]at h;exact h
theorem get_some{α:Type}{l:List α}{k:Nat}(h:k<l.length):∃x,l[k]?=some x:=⟨_,List.getElem?_eq_getElem h⟩
theorem JV(w:World)(I:Nat→Prop)(v:Value)(l:List M.Tag)(h:SliceOf 2 eB w I v l):
    Calls Tryz.prog 155 #[v] w fun e w'=>e=.returned (.bool (M.uF l))∧Ext w w':=by
 obtain⟨a,cap,rfl,hn,dn⟩:=h.form;go_enter Tryz.func155,Tryz.ntmps155;go_wp2;go_loopw [7] (fun i wr=>∃k:Nat,k≤l.length∧i=.int .i64 k∧Ext w wr∧Zs ((l.take k).all M.oH=true)) (fun i _=>l.length - (intOf i).toNat)
 case atStart=>exact⟨0,Nat.zero_le _,rfl,Kp.refl _ _,Ys (by simp)⟩
 case round =>
  obtain⟨k,hk,rfl,hE,HA⟩:=hrel;by_cases bZ:k<l.length
  · obtain⟨x,hx⟩:=get_some bZ;obtain⟨b,off,cs,rfl,hI,rfl, -,hc⟩:=h.get hx;obtain⟨g0,g1⟩:=(hc.ext hE).two;have HX:=Ys hx;clear hx hc;cases ht:M.oH x
    all_goals
     have HT:=Ys ht;clear ht;go_wp2_with (go_at_call 32;refine(aaE x _).mono ?_;rintro e w1 ⟨rfl,hB⟩;rw[HT.o])
    · go_ret;exact⟨ag (mD HX.o HT.o).symm,(by repeat (first|assumption|exact Kp.refl _ _|apply Kp.alloc|apply Kp.drew|apply Kp.drewN|refine Kp.trans ?_ (by assumption)))⟩
    · go_roundw
      case rel=>exact⟨k+1,by omega,by go_num,(by repeat (first|assumption|exact Kp.refl _ _|apply Kp.alloc|apply Kp.drew|apply Kp.drewN|refine Kp.trans ?_ (by assumption))),Ys (all_succ HA.o HX.o HT.o)⟩
      case measure=>simp[intOf];omega
  · go_wp2;go_ret;exact⟨ag (kH HA.o (by omega)).symm,kx⟩
theorem VV (w : World) (I : Nat → Prop) (cs : List Value) (m : M.Method) (h : aH w I m cs) :
    Calls Tryz.prog 138 #[.agg cs.toArray] w fun e w'=>e=.returned (.bool (M.codeOk m))∧Ext w w':=by
 obtain⟨va,vc,vm,rfl,h1,h2,h3⟩:=h;obtain⟨a,cap,rfl,hn,dn⟩:=h2.form;by_cases Bt:m.code.length<1
 · go_enter Tryz.func138,Tryz.ntmps138;go_wp2;go_ret;exact⟨ag (by unfold M.codeOk;rw[decide_eq_false (by omega)];rfl),kx⟩
 by_cases Bu:16<m.code.length
 · go_enter Tryz.func138,Tryz.ntmps138;go_wp2;go_ret;exact⟨ag (by unfold M.codeOk;rw[decide_eq_false (p:=m.code.length≤16) (by omega)];simp),kx⟩
 have HL:Zs (M.codeOk m=m.code.all (M.jC m)):=Ys (by
  unfold M.codeOk;rw[decide_eq_true (by omega),decide_eq_true (by omega)];rfl)
 go_enter Tryz.func138,Tryz.ntmps138;go_wp2;have aU:Ext w (w.alloc (.cells #[.string m.name,va,.int .i64 m.ret.kind,.string m.ret.name,.int .i64 m.locals,.int .i64 m.stack,.slice a m.code.length cap,vm] 54)):=((Kp.refl _ _).alloc _);have b0:=aC.new w 54 #[.string m.name,va,.int .i64 m.ret.kind,.string m.ret.name,.int .i64 m.locals,.int .i64 m.stack,.slice a m.code.length cap,vm];have p4:=b0.c 4 _ rfl;have p6:=b0.c 6 _ rfl;go_loopw [18] (fun i wr=>∃k:Nat,k≤m.code.length∧i=.int .i64 k∧Ext (w.alloc (.cells #[.string m.name,va,.int .i64 m.ret.kind,.string m.ret.name,.int .i64 m.locals,.int .i64 m.stack,.slice a m.code.length cap,vm] 54)) wr∧Zs ((m.code.take k).all (M.jC m)=true)) (fun i _=>m.code.length - (intOf i).toNat)
 case atStart=>exact⟨0,Nat.zero_le _,rfl,Kp.refl _ _,Ys (by simp)⟩
 case round =>
  obtain⟨k,hk,rfl,hE,HA⟩:=hrel;by_cases bZ:k<m.code.length
  · obtain ⟨x, hx⟩ := get_some bZ; obtain ⟨b, off, cs, rfl, hI, rfl, -, hc⟩ := h2.get hx; obtain ⟨g0, g1, g2, g3⟩ := ((hc.ext aU).ext hE).four; have q4 := hE.aA p4; have q6 := hE.aA p6; have HX := Ys hx; clear hx hc p4 p6; cases ht : M.jV x
    · have HT:=Ys ht;clear ht;go_wp2_with (go_at_call 154;refine(TS x _).mono ?_;rintro e w1 ⟨rfl,hB⟩;rw[HT.o]);go_ret;exact⟨ag (by rw[HL.o];exact(mD HX.o (by unfold M.jC;rw[HT.o];rfl)).symm),(by repeat (first|assumption|exact Kp.refl _ _|apply Kp.alloc|apply Kp.drew|apply Kp.drewN|refine Kp.trans ?_ (by assumption)))⟩
    · have HT := Ys ht; clear ht; go_wp2_with (go_at_call 154; refine (TS x _).mono ?_; rintro e w1 ⟨rfl, hB⟩; rw [HT.o]; have r4 := hB.OB q4; have r6 := hB.OB q6; obtain ⟨lJ, hf1⟩ := KD hB)
      all_goals first
       | (go_ret
          exact⟨ag (by
           rw[HL.o];exact(mD HX.o (by unfold M.jC;rw[HT.o];(repeat' split)<;>simp<;>simp_all<;>omega)).symm),(by repeat (first|assumption|exact Kp.refl _ _|apply Kp.alloc|apply Kp.drew|apply Kp.drewN|refine Kp.trans ?_ (by assumption)))⟩)
       | (go_roundw
          case rel=>
           exact⟨k+1,by omega,by go_num,(by repeat (first|assumption|exact Kp.refl _ _|apply Kp.alloc|apply Kp.drew|apply Kp.drewN|refine Kp.trans ?_ (by assumption))),Ys (all_succ HA.o HX.o (by
            unfold M.jC;rw[HT.o];(repeat' split)<;>simp<;>simp_all<;>omega))⟩
          case measure=>simp[intOf];omega)
  · go_wp2;go_ret;exact⟨ag (by rw[HL.o];exact(kH HA.o (by omega)).symm),(by repeat (first|assumption|exact Kp.refl _ _|apply Kp.alloc|apply Kp.drew|apply Kp.drewN|refine Kp.trans ?_ (by assumption)))⟩
end Go.Proofs.YtcepdbbapgfcdaaGreat
