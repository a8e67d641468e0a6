/- Walks. -/
import Derived.Test.YtlhgbjbkjalfjaaGreatTwCoreLn
set_option maxRecDepth 100000
set_option maxHeartbeats 4000000
set_option linter.all false
namespace Go.Proofs.YtlhgbjbkjalfjaaGreat
open Go Go.RowKit Tryz M
variable {lk: Bool}{g: Gh}{cs xs: List Value}{a e f j k m n: Nat}{I: Nat->Prop}{r: Nat×Nat}{X aG d: Own}{α: Type}{i v: Value}{w: World}{p: iZ}{l: jk}
theorem JU{l:List α}{x:α}(b:l[n]?=some x)(f:α->α):l.modify n f=l.set n (f x):=by
 apply List.ext_getElem?;intro c;rw[VD,List.getElem?_set];by_cases a:n=c
 . subst a;rw[b];have:=(Tw.1 b).1;simp[this]
 . simp[a]
theorem Oz{enc:α->List Value}:∀(l:List α) (n:Nat) (x y:α),l[n]?=some x->enc y=enc x->(l.set n y).flatMap enc=l.flatMap enc:=by
 intro l;induction l with
 |nil=>intro n x y a;simp at a
 |cons e d c=>
  intro n x y a b;cases n with
  |zero=>simp at a;subst a;simp[b]
  |succ n=>simp at a;simp[c n x y a b]
def Gh.Q8(g:Gh)(n:Nat)(go:GO)(a:Nat)(x:Val):Gh:={g with os:=g.os.set n ⟨{go.o with fields:=go.o.fields.set a x},go.v⟩}
theorem Gh.Nj{go:GO}(b:g.os[n]?=some go)(a:Nat)(x:Val):(g.Q8 n go a x).st={g.st with heap:=ny g.st.heap n a x}:=by
 unfold Gh.Q8 Gh.st ny;simp only[Vi];rw[JU (x:=go.o) (by simp[b])];simp[List.map_set]
theorem jm.Rm{j:Own}{o y:Nat}(b:jm w l p j o y lk g){n:Nat}{go:GO}(i:g.os[n]?=some go){c B:Nat}(r:go.v=.slice (some ⟨c,0,none⟩) go.o.fields.length B)(a:Nat)(x:Val)(E:jS x g.os.length=true):Kp (MO l j) w ((w.setCell (c,a*2) x.kind).setCell (c,a*2+1) x.n)/\jm ((w.setCell (c,a*2) x.kind).setCell (c,a*2+1) x.n) l p j o y lk (g.Q8 n go a x):=by
 have u:=(b.obj n go i).row;have t:=(b.obj n go i).role c (by rw[r];rfl);have s:Kp (·=c) w ((w.setCell (c,a*2) x.kind).setCell (c,a*2+1) x.n):=
  ((Kp.refl (·=c) w).setCell (p:=⟨c,a*2,none⟩) (fun _=>rfl) _).setCell (p:=⟨c,a*2+1,none⟩) (fun _=>rfl) _
 have e:Kp (PO j (·=(7,n))) w ((w.setCell (c,a*2) x.kind).setCell (c,a*2+1) x.n):=s.weak fun k _ d=>⟨_,by rw[d];exact t,rfl⟩;rw[r]at u;have m:=(u.stored (a*2) x.kind).1.stored (a*2+1) x.n;rw[FN]at m;have h:=nA.refl w.heap.size j;have C:M.Good p (g.Q8 n go a x).st:=by
  rw[Gh.Nj i];exact b.good.set (by simpa [Gh.st]using E)
 refine⟨e.weak fun k _ d=>d.mo,b.FU e,b.hB,b.blk.kp s (fun d=>?_),b.role,b.low,b.calls.xL e h Zl,fun v A D=>(b.call v A D).xL e h Zl b.yg,?_,?_,b.outs.xL e h Zl,b.zO s.size,C,b.xU.kp e (fun k v q ⟨z,h1,m⟩=>by rw[q]at h1;cases h1;cases m) fun _ _ x=>x⟩
 . have:=b.role;rw[d,t]at this;cases this
 . have:=b.heap.xL e h Zl;unfold Gh.Q8;simp only[Ux];rw[Oz (enc:=qd) g.os n go ⟨{go.o with fields:=go.o.fields.set a x},go.v⟩ i rfl];exact this
 . intro F z f;unfold Gh.Q8 at f;simp only[List.getElem?_set]at f;split at f
   . rename_i d;subst d;split at f
     . cases f;refine⟨?_,fun k q=>(b.obj n go i).role k q⟩;show World.ownsRow _ o _ 2 go.v (go.o.fields.set a x).length _
       rw[Ux,r];exact m.1
     . cases f
   . rename_i d;exact(b.obj F z f).xL e h Zr
theorem QY {bg U: Nat} (S : jm w l p aG bg U lk g) (r : List GC) (c : GC) (bT : g.cs = r ++ [c]) (dB : g.status = 1) (i : Ins) (hi : oP (M.method p c.f.of) i = true) (aX : i.op = 8) :Calls prog 119 #[some U,.agg #[i.op,i.a,i.name,i.member]] w (jZ w l p aG bg U lk (.int .i64 (jH p lk i g.st).1) (jH p lk i g.st).2):=by
 have HI:=Zy (qJ hi);obtain⟨w0,bX,aR,b3⟩:=nu w #[i.op,i.a,i.name,i.member] 140;have dH:=Zy (S.fresh (T9 _));have df:Zz (∀X,w.heap.size<=X->¬MO l aG X):=Zy (fun X hb=>S.fresh hb);have dM:=S.kr.lt;have dK:=S.kr.ord.2.2;have⟨bn,cO,cK,dn,L⟩:=ni (S.ext aR) aR b3 bX bT;have dW:=b3.lt;clear S aR b3 bX bT hi;obtain⟨⟨⟨⟨h,o⟩,u,⟨z,A⟩⟩,cd⟩,hF⟩:∃cB,M.get p c.f.of.of.keeper i.name i.member=cB:=⟨_,rfl⟩;have j:Zz (jH p lk i g.st=if cd=1 then(match nk 2 g.st with
     |some ([V,v],x)=>if hasType p h x.heap v ⟨z,A⟩then(if object p V ⟨h,o⟩ x=1 then next p {x with heap:=ny x.heap V.n u v}else(object p V ⟨h,o⟩ x,x))else(10,x)
     |_=>(10,g.st))else(4,g.st)):=Zy (by
  unfold jH;rw[aX];simp only[Gh.top L.o,hF];rfl)
 have⟨HF,dI⟩:=jf hF aX;clear aX;go_enter func119,ntmps119;go_wp2_with fail;rw[<-dn.o];refine(kX _ _ _ _ _ _ _ _ bn r c L).mono ?_;rintro m y ⟨rfl,az⟩;have⟨W,cZ,aK⟩:=jB (bn.ext az) (cO.trans az) (cK.ext az);have bO:l.L<y:=W.kr.lt;have dL:l.D<y:=Zm
 have dX:(w:Nat)<y:=aK.lt;have bU:∀R,LC l p y R->Calls prog 100 #[some l.L,c.f.of.of.keeper,i.name,i.member] R fun m w'=>∃C,m=.returned (.tuple #[.agg #[h,o,u,z,A],C])/\zn C cd/\Kp (·=l.D) R w'/\LC l p y w':=fun R hW=>by
  have hl:=vW R l p hW.at_ c.f.of.of.keeper i.name i.member;rw[HF.o]at hl;refine hl.mono ?_;rintro m w' ⟨⟨C,rfl,G⟩,hL,F⟩;exact⟨C,rfl,G.weak,F,hW.step hL F⟩
 have ay:=Zy bU;have b:=Zy (LC.refl W.kr).drew;obtain⟨aN,aP,aW,k⟩:=qC.ex (fun W'=>LC l p y W') y (LC.refl W.kr);have ah:=fun d=>(W.oQ (k.jv d).kp (k.jv d).at_).blk.c 0 (some l.L) rfl;obtain⟨-,-,-,aH,aI,-⟩:=hZ.lC fun d=>(aK.kp (k.jv d).kp Zm);have e:=Zy k;clear k bU az;go_wp2_with fail;rename_i au F
 have cz : ∀ (b6 : Nat) (K : World) (C : Value), LC l p y K -> hZ K b6 211 #[h, o, u, z, A] -> y <= b6 -> zn C cd -> au { tmps := #[.pointer (some ⟨U, 0, none⟩), .agg #[i.op, i.a, i.name, i.member], undef, .pointer (some ⟨w, 0, none⟩), .int .i64 0, .pointer (some ⟨c.cb, 0, none⟩), .pointer (some ⟨b6, 0, none⟩), C, undef, undef, undef, .pointer (some ⟨U, 0, none⟩), .pointer (some ⟨c.cb, 0, none⟩), .tuple #[.agg #[h, o, u, z, A], C], .pointer (some ⟨U, 0, none⟩), .pointer (some ⟨U, 0, none⟩), .pointer (some ⟨U, 0, none⟩), .pointer (some ⟨l.L, 0, none⟩), .pointer (some ⟨c.cb, 0, none⟩), .int .i64 c.f.of.of.keeper, .pointer (some ⟨w, 2, none⟩), .string i.name, .pointer (some ⟨w, 3, none⟩), .string i.member, .tuple #[.agg #[h, o, u, z, A], C], .agg #[h, o, u, z, A], C, undef, undef, undef, undef, undef, undef, undef, undef, undef, undef, undef, undef, undef, undef, undef, undef, undef, undef, undef, undef, undef, undef, undef, undef, undef, undef, undef, undef, undef, undef, undef, undef, undef, undef, undef, undef, undef, undef, undef, undef, undef, undef, undef, undef, undef, undef, undef, undef, undef, undef, undef, undef, undef, undef, undef, undef, undef, undef, undef, undef], defers := [] } K := by
  intro b6 K C hC bJ T G;refine F _ _ ?_;clear F e ah aH aI b ay;have ak:=Zy (W.oQ hC.kp hC.at_);have aM:Zz (Kp (MO l aG) w K):=Zy (cZ.any.trans hC.mo);have⟨t,dG,di⟩:=jB bJ (aK.kp hC.kp Zm) (df b6 Zm);clear hC bJ;rcases G with⟨rfl,rfl⟩|⟨J,eb,rfl⟩;rotate_left
  . replace j:Zz (jH p lk i g.st=(4,g.st)):=Zy (by rw[j.o,Tt J]);clear J;go_wp2;go_ret;rw[j.o];exact jZ.mk' aM (nA.refl _ _) ak rfl
  replace j:Zz (jH p lk i g.st=(match nk 2 g.st with
   |some ([V,v],x)=>if hasType p h x.heap v ⟨z,A⟩then(if object p V ⟨h,o⟩ x=1 then next p {x with heap:=ny x.heap V.n u v}else(object p V ⟨h,o⟩ x,x))else(10,x)
   |_=>(10,g.st))):=Zy j.o
  by_cases aa:c.f.stack.length<2
  . replace j:Zz (jH p lk i g.st=(10,g.st)):=Zy (by rw[j.o,Gh.zb L.o aa]);obtain⟨aN,aP,aW,k⟩:=ll K;have e:=Zy k;clear k;go_wp2_with fail;refine(uH ak r c L 2 aa Zm).mono ?_;rintro m w8 ⟨rfl,rfl⟩;go_wp2_with fail;refine jW e 22 [([0,1,2,3,4,5,6,7,8,9,10,11,12,13,14,15,16,17,18],19)] [20,21] ?_ ?_
    . exact jg
    refine lJ ?_;intro f a;go_wp2_with fail;refine kk e a ((Kp.refl _ K).drew:Ext K _) ?_;clear a f;refine rC ?_;go_wp2;go_ret;rw[j.o];exact jZ.mk' (aM.trans ((Kp.refl _ K).drew:Ext K _).any) (nA.refl _ _) (ak.ext (jg)) rfl
  . obtain⟨s,oo,vv,hs⟩:∃s B X,c.f.stack=s++[B,X]:=by
     rcases TN c.f.stack with m|⟨x,X,m⟩
     . rw[m]at aa;simp at aa
     . rw[TM]at m;rcases TN x with e2|⟨s2,B,e2⟩
       . rw[m,e2]at aa;simp at aa
       . rw[TM]at e2;exact⟨s2,B,X,by rw[m,e2];simp⟩
    have aY:=(jD.1 (ak.Du L)).2.2.2.2.2.2;have bD:Zz (jS oo g.os.length=true):=Zy (by simpa [Gh.st]using aY oo (by rw[hs];simp));have bI:Zz (jS vv g.os.length=true):=Zy (by simpa [Gh.st]using aY vv (by rw[hs];simp));have bG:Zz (∀q,jH p lk i g.st=if hasType p h g.st.heap vv ⟨z,A⟩then(if object p oo ⟨h,o⟩ (g.kH r c s q).st=1 then next p {(g.kH r c s q).st with heap:=ny g.st.heap oo.n u vv}else(object p oo ⟨h,o⟩ (g.kH r c s q).st,(g.kH r c s q).st))else(10,(g.kH r c s q).st)):=Zy (fun q=>by rw[j.o,Gh.nk L.o (n:=2) hs rfl q];rfl);have HS:=Zy hs;clear hs aY aa j;obtain⟨O,E⟩:=oo;obtain⟨H,I⟩:=vv;go_wp2_with fail;refine(Cn ak r c L s [⟨O,E⟩,⟨H,I⟩] 2 HS rfl Zm).mono ?_;rintro m w8 ⟨v',rfl,N,aS,q,Y⟩;have j:=Zy (bG q);obtain⟨gt,gc,rfl,dP,-⟩:=jT N Zm;have bR:=lT (enc:=jY) (k:=2) (fun _=>rfl) (l:=[⟨O,E⟩,⟨H,I⟩]) N (i:=0) (x:=⟨O,E⟩) rfl;have aA:=lT (enc:=jY) (k:=2) (fun _=>rfl) (l:=[⟨O,E⟩,⟨H,I⟩]) N (i:=1) (x:=⟨H,I⟩) rfl;have aQ:=t.kp aS di;have bV:=Y.Nv;obtain⟨ha,Z,aF⟩:=Y.heap.form;obtain⟨aN,aP,aW,k⟩:=ll w8;have ah:=fun d=>(Y.ext (k.jv d)).blk.c 0 (some l.L) rfl;have dE:=fun d=>(Y.ext (k.jv d)).blk.c 4 (.slice ha g.os.length Z) (by rw[show(Value.slice ha g.os.length Z)=g.vh from aF.symm];rfl);obtain⟨-,aJ,-,-,dC,dD,-⟩:=hZ.lC fun d=>(aQ.ext (k.jv d));have bZ:=fun d=>(hH.ext aA (k.jv d)).two.1;have cu:=fun d=>(hH.ext aA (k.jv d)).two.2;simp only[Nat.one_mul]at bZ cu;have bW:=fun R (hW:Ext w8 R)=>vG R l p (Y.kr.ext hW) h (.slice ha g.os.length Z) g.st.heap (by
     have:=bV.ext hW;rw[show(Value.slice ha g.os.length Z)=g.vh from aF.symm];exact this) ⟨H,I⟩ (fun m=>by have:=sJ bI m;simpa [Gh.st]using this) ⟨z,A⟩
    have⟨dh,e,bB,bA,bq,aL,bu,bH⟩:=wL bW k Y (aM.trans aS) aQ bR aA aF;clear k bW bV aF N aS Y bR aA aQ bG;go_wp2_with fail;refine jW e 22 [([0,1,2,3,4,5,6,7,8,9,10,11,12,13,14,15,16,17,18],19)] [20,21] ?_ ?_
    . exact jg
    refine lJ ?_;intro f a;go_wp2_with fail;refine(dh _ jg).mono ?_;rintro m w9 ⟨rfl,bL⟩;have D:=Zy (((Kp.refl _ w8).drew:Ext w8 _).trans bL);clear bL;cases aD:hasType p h g.st.heap ⟨H,I⟩ ⟨z,A⟩
    . rw[aD]at j;replace j:Zz (jH p lk i g.st=(10,(g.kH r c s q).st)):=Zy j.o;clear aD;go_wp2_with fail;refine kk e a D ?_;clear a f;refine rC ?_;go_wp2;go_ret;rw[j.o];exact jZ.mk' (bA.trans D.any) (nA.refl _ _) (bB.ext D) rfl
    . rw[aD]at j;replace j:Zz (jH p lk i g.st=if object p ⟨O,E⟩ ⟨h,o⟩ (g.kH r c s q).st=1 then next p {(g.kH r c s q).st with heap:=ny g.st.heap E u ⟨H,I⟩}else(object p ⟨O,E⟩ ⟨h,o⟩ (g.kH r c s q).st,(g.kH r c s q).st)):=Zy j.o;clear aD;go_wp2_with fail;refine kk e a D ?_;clear a f;clear e ah dE aJ dC dD bZ cu;refine rC ?_;have bP:=bB.ext D;obtain⟨aN,aP,aW,k⟩:=ll w9;obtain⟨-,aJ,bY,-⟩:=hZ.lC fun d=>((bq.ext D).ext (k.jv d));have aZ:=fun d=>(hH.ext (hH.ext aL D) (k.jv d)).two.1;have bf:=fun d=>(hH.ext (hH.ext aL D) (k.jv d)).two.2;simp only[Ua,Tm]at aZ bf;have⟨e,bC⟩:=jf k bP;clear k bP;go_wp2_with fail;refine jW e 7 [([0,1,2,3,4,5],6)] [] ?_ ?_
      . exact jg
      refine lJ ?_;intro f a;go_wp2_with fail;refine(ym (bC.ext jg) ⟨O,E⟩ bD ⟨h,o⟩).mono ?_;rintro m ai ⟨rfl,bK⟩;have P:=Zy (((Kp.refl _ w9).drew:Ext w9 _).trans bK);have⟨af,bz⟩:=jf (bC.ext P) ((bA.trans D.any).trans P.any);clear bK;obtain⟨ob,ae⟩:∃ob,object p ⟨O,E⟩ ⟨h,o⟩ (g.kH r c s q).st=ob:=⟨_,rfl⟩;by_cases aC:ob=1
      . subst aC;replace j:Zz (jH p lk i g.st=next p {(g.kH r c s q).st with heap:=ny g.st.heap E u ⟨H,I⟩}):=Zy (by rw[j.o,Tv ae]);have aV:=xS (p:=p) af.good (k:=c.f.of.of.keeper) (n:=i.name) (m:=i.member) (by rw[HF.o]) (v:=⟨O,E⟩) (by simpa [Gh.st,Gh.kH]using bD.o) (by rw[HF.o];exact ae);rw[HF.o]at aV;simp only at aV;obtain⟨dQ,dR,dx,V,ho,-,dz,aT⟩:=aV;obtain⟨n,rfl⟩:∃n:Nat,E=n:=⟨E.toNat,Zm⟩;obtain⟨B,rfl⟩:∃B:Nat,u=B:=⟨u.toNat,Zm⟩;simp only[Vi]at ho aT;simp only[Gh.st,Gh.kH,V4,Uk]at ho;obtain⟨go,ag,rfl⟩:=ho;obtain⟨dY,hu⟩:=om go.o.fields B aT;have dA:=(Tw.1 ag).1;have N:=af.heap.row;rw[show(g.kH r c s q).vh=.slice ha g.os.length Z from bH.o]at N;obtain⟨hb,dO,eb,-⟩:=jT N (by show 0<g.os.length;omega);cases eb;have bS:=lT (enc:=qd) (k:=3) (fun _=>rfl) N (l:=g.os) ag;have av:=(af.obj n go ag).row;obtain⟨fb,fc,ax,-⟩:=jT av Zm;obtain⟨dJ,aB⟩:=oF av (g:=fb) (by rw[ax];rfl);rw[ax]at av;have aU:=lT (enc:=jY) (k:=2) (fun _=>rfl) av hu;have e1:=bS.three.2.2;rw[ax]at e1;have dm:=Zy ((af.ext ((Kp.refl _ ai).drew:Ext ai ai.drew)).Rm (n:=n) (go:=go) ag ax B ⟨H,I⟩ bI);have bE:Zz (((g.kH r c s q).Q8 n go B ⟨H,I⟩).st={(g.kH r c s q).st with heap:=ny g.st.heap n B ⟨H,I⟩}):=Zy (Gh.Nj (g:=g.kH r c s q) ag B ⟨H,I⟩);obtain⟨T2,f2,dS,Q⟩:=ll ai;have s4:=fun d=>(af.ext (Q.jv d)).blk.c 4 (hb,g.os.length,Z) (by rw[show(Value.slice (some ⟨hb,0,none⟩) g.os.length Z)=g.vh from bH.o.symm];rfl);have s0:=fun d=>(hH.ext (hH.ext (hH.ext aL D) P) (Q.jv d)).two.2;have s2:=fun d=>(hH.ext (hH.ext (hH.ext bu D) P) (Q.jv d)).two.1;have s3:=fun d=>(hH.ext (hH.ext (hH.ext bu D) P) (Q.jv d)).two.2;simp only[Ua,Tm,Nat.one_mul]at s0 s2 s3;have sh:=fun d=>(Q.jv d).je e1;have dF:=fun d=>(((bq.ext D).ext P).ext (Q.jv d)).c 2 (.int .i64 B) rfl;have x0:=aU.two.1;have x1:=aU.two.2;have g0:=aB.frozen (B*2);have g1:=aB.frozen (B*2+1);have gz:=aB.lt;have bF:=Zy Q;have dU:(n:Int)<g.os.length:=Zm
        have dN:(B:Int)<go.o.fields.length:=Zm
        clear Q N bS av aU e1 ag hu dz ax aB dA aT dx;rw[ae];clear ae;go_wp2_with fail;refine kk e a P ?_;clear a f;clear e aJ bY aZ bf;refine ku ?_;go_wp2_with fail;(refine wU f2 16 [] [0,1,2,3,4,5,6,7,8,9,10,11,12,13,14,15] (bF.o.o _ ?_) Zo Zo (fun _ _ dw _ _ S=>by cases dw<;>exact S) ?_)
        . exact jg
        refine r9 [_,_,_,_,_,_,_,_,_,_,_,_,_,_,_,_] rfl fun au F=>?_;(repeat (go_big_quiet_step (fail)));refine qn F ?_;clear F au;clear bF s4 s0 s2 s3 sh dF;go_wp2_with fail;obtain⟨bN,bQ⟩:=dm.o;refine(uy bQ r rfl dB).mono ?_;rintro m dZ bM;have HZ:=Zy (jZ.after ((bz.trans ((Kp.refl _ ai).drew:Ext ai _).any).trans bN) (nA.refl _ _) bM);obtain⟨rfl,-⟩:=bM;rw[bE.o,<-j.o]at HZ;rw[bE.o,<-j.o];clear bN bQ x0 x1 g0 g1 gz;go_wp2;go_ret;exact HZ
      . replace j:Zz (jH p lk i g.st=(ob,(g.kH r c s q).st)):=Zy (by rw[j.o,ae,Tt aC]);have dV:=TI.2 aC;rw[ae];clear ae aC;go_wp2_with fail;refine kk e a P ?_;clear a f;clear e aJ bY aZ bf;refine ku ?_;go_wp2;go_ret;rw[j.o];exact jZ.mk' bz (nA.refl _ _) af rfl
 have aO:=Zy cz;clear cz F;refine qp e 16 (.two [0,1,2,3,4,6,7,8,9] 5 14 (.two [] 10 14 (.one [11,12,13] 14 (.one [] 15 (.fin []))) (.one [] 10 (.one [11,12,13] 15 (.fin [])))) (.one [] 5 (.one [] 10 (.one [11,12,13] 15 (.fin []))))) ?_ ?_
 . exact b
 refine two [_,_,_,_,_,_,_,_,_] rfl rfl rfl fun au F=>?_;(repeat (go_big_quiet_step (fail)));((refine F5 F (fun f a=>?_) fun f a=>?_)<;>clear F au)
 . go_wp2_with fail;refine(mZ c.f.of.of.keeper (((W.oQ b.kp b.at_).at_ L).blk.c 0 _ rfl)).mono ?_;rintro m we ⟨rfl,rfl⟩;go_wp2_with fail;refine kk e a b ?_;clear a f;refine Fw rfl rfl (fun f a=>?_) fun f a=>?_
   . go_wp2_with fail;refine(ay _ b).mono ?_;rintro m wc ⟨C,rfl,G,hk,J⟩;replace b:=Zy J;have aj:=Zy G;clear hk J G;go_wp2_with fail;refine kk e a b ?_;clear a f;refine Bi ?_;intro f a;go_wp2_with fail;refine kk e a (b.ext (jw _)) ?_;clear a f;refine jX rfl fun f a=>?_;go_wp2_with fail;refine kk e a (b.ext (jw _)) ?_;clear a f;have T:=b.kp.size;have t:=Zy (hZ.new (wc) 211 #[h,o,u,z,A]);replace b:=Zy (b.ext (jw (.cells #[h,o,u,z,A] 211)));clear e ah aH aI;refine kL ?_;go_wp2_with fail;exact aO _ _ _ b t T aj
   . go_wp2_with fail;refine kk e a (b.ext (jw _)) ?_;clear a f;have T:(y:Nat)<=y:=b.kp.size;have t:Zz (hZ (y.drew.alloc (.cells #[Tc, "",Tc,Tc, ""] 211)) y 211 #[Tc, "",Tc,Tc, ""]):=Zy (hZ.new _ _ _);replace b:=Zy (b.ext (jw (.cells #[Tc, "",Tc,Tc, ""] 211)));refine jX rfl fun f a=>?_;go_wp2_with fail;refine(ay _ b).mono ?_;rintro m wc ⟨C,rfl,G,hk,J⟩;replace t:=Zy (t.kp hk Zm);replace b:=Zy J;have aj:=Zy G;clear hk J G;go_wp2_with fail;refine kk e a b ?_;clear a f;refine Bi ?_;intro f a;obtain⟨z6,y0,y1,y2,y3,y4,-⟩:=t.ca;obtain⟨g0,g1,g2,g3,g4,-⟩:=t.fz;go_wp2_with fail;replace b:=Zy (LC.own b (Kp.wu (D:=(·=_)) rfl h o u z A) T bO);replace t:=Zy (t.wu h o u z A);refine kk e a b ?_;clear a f;clear y0 g0 y1 g1 y2 g2 y3 g3 y4 g4 z6;clear e ah aH aI;refine kL ?_;go_wp2_with fail;exact aO _ _ _ b t T aj
 . go_wp2_with fail;refine kk e a (b.ext (jw _)) ?_;clear a f;have T:(y:Nat)<=y:=b.kp.size;have t:Zz (hZ (y.drew.alloc (.cells #[Tc, "",Tc,Tc, ""] 211)) y 211 #[Tc, "",Tc,Tc, ""]):=Zy (hZ.new _ _ _);replace b:=Zy (b.ext (jw (.cells #[Tc, "",Tc,Tc, ""] 211)));refine jX rfl fun f a=>?_;go_wp2_with fail;refine(mZ c.f.of.of.keeper (((W.oQ b.kp b.at_).at_ L).blk.c 0 _ rfl)).mono ?_;rintro m we ⟨rfl,rfl⟩;go_wp2_with fail;refine kk e a b ?_;clear a f;refine jX rfl fun f a=>?_;go_wp2_with fail;refine(ay _ b).mono ?_;rintro m wc ⟨C,rfl,G,hk,J⟩;replace t:=Zy (t.kp hk Zm);replace b:=Zy J;have aj:=Zy G;clear hk J G;go_wp2_with fail;refine kk e a b ?_;clear a f;refine Bi ?_;intro f a;obtain⟨z6,y0,y1,y2,y3,y4,-⟩:=t.ca;obtain⟨g0,g1,g2,g3,g4,-⟩:=t.fz;go_wp2_with fail;replace b:=Zy (LC.own b (Kp.wu (D:=(·=_)) rfl h o u z A) T bO);replace t:=Zy (t.wu h o u z A);refine kk e a b ?_;clear a f;clear y0 g0 y1 g1 y2 g2 y3 g3 y4 g4 z6;clear e ah aH aI;refine kL ?_;go_wp2_with fail;exact aO _ _ _ b t T aj
theorem Lc:Elem 126 128 2:=kP (z:=.agg #[Tc, ""]) (bytes:=24) underlying126 Zo rfl Zn Zn
theorem FI:Elem 168 171 1:=kP (z:=.pointer none) (bytes:=8) underlying168 Zo rfl Zn Zn
theorem LQ(a:n<=6):(madeCells (Value.agg #[Tc,Tc]).cells (n*2)).toList=(List.replicate n lX).flatMap jY:=by
 have:n=0\/n=1\/n=2\/n=3\/n=4\/n=5\/n=6:=Zm
 rcases this with rfl|rfl|rfl|rfl|rfl|rfl|rfl<;>(show _=_;kernel_rfl)
theorem jm.Kz{m: World}{r:Own}(a:jm w l p r n f lk g)(c:GC)(J:qy w l p r n g.cs.length c)
    (e h:Nat) (z:m.ownsRow n 171 1 (e,g.cs.length+1,h) (g.cs.length+1) (g.cs.flatMap uZ++uZ c)) (C:Kp (fun b=>g.vc.ownBlock=some b) w m) (B:g.vc.ownBlock=some e\/w<=e)
    (H:M.Good p ({g with cs:=g.cs++[c],vc:=(e,g.cs.length+1,h)}:Gh).st):
    Kp (MO l r) w (m.setCell (f,3) (e,g.cs.length+1,h))/\∃F,nA w r F/\jm (m.setCell (f,3) (e,g.cs.length+1,h)) l p F n f lk {g with cs:=g.cs++[c],vc:=(e,g.cs.length+1,h)}:=by
 have y:Kp (·=f) m (m.setCell (f,3) (e,g.cs.length+1,h)):=nH;obtain⟨o,x⟩:=SS (m.setCell (f,3) (e,g.cs.length+1,h));have D:g.vc.ownBlock≠some f:=fun d=>by have:=a.calls.role _ d;rw[a.role]at this;cases this
 have I:hZ o f 170 (yl l lk {g with cs:=g.cs++[c],vc:=(e,g.cs.length+1,h)}):=by rw[x];exact(a.blk.kp C D).jy 3 _
 have L:e≠f:=fun d=>by
  subst d;rcases B with t|t
  . exact D t
  . have:=a.blk.lt;omega
 have E:o.ownsRow n 171 1 (e,g.cs.length+1,h) (g.cs.length+1) (g.cs.flatMap uZ++uZ c):=by
  rw[x];exact jb z y (fun s A _ d=>L (by cases A;exact d))
 rw[<-x]at y |-;have i:Kp (PO r fun s=>s=(0,0)\/s=(1,0)) w o:=(C.weak fun b _ d=>⟨_,a.calls.role b d,.inr rfl⟩).trans (y.weak fun b _ d=>⟨_,by rw[d];exact a.role,.inl rfl⟩);have j:=Own.yI (by
  rcases B with t|t
  . exact .inl (a.calls.role _ t)
  . exact .inr Zm)
 have K:∀b,r.add e (1,0) b≠none->n<=b/\b<o.heap.size:=fun b q=>by
  by_cases d:b=e
  . subst d;exact E.lt b rfl
  . rw[Own.lY _ d]at q;exact a.zO i.size b q
 refine⟨i.weak fun b _ d=>d.mo,_,j,a.FU i,a.hB,I,(j _ a.blk.lt).trans a.role,a.low,⟨?_,fun s A=>?_⟩,?_,a.heap.xL i j Zl,fun N O z=>(a.obj N O z).xL i j Zl,a.outs.xL i j Zl,K,H,a.xU.kp i (fun b v q ⟨s,h1,h2⟩=>by rw[q]at h1;cases h1;simp at h2) fun b v q=>Own.GN Zl q⟩
 . simpa using E
 . cases A;exact Own.add_eq _ _ _
 . intro v G k;simp only at k;rcases V3 v g.cs.length with u|u|u
   . rw[Te u]at k;exact(a.call v G k).xL i j Zl a.yg
   . subst u;simp at k;subst k;exact J.xL i j Zl a.yg
   . rw[U9 Zr]at k;cases k
def zJ : Prop := ∀ (w : World) (l : jk) (p : iZ), ji w l p -> ∀ x : rH, kC p x = true →
    Calls Tryz.prog 146 #[.pointer (some ⟨l.L,0,none⟩),.agg #[.int .i64 x.of.keeper,.string x.of.name,.int .i64 x.at_]] w fun e w'=>
     e=.returned (.bool (right p x))/\Kp (·=l.D) w w'/\ji w' l p
theorem zS (w : World) (l : jk) (p : iZ) (F : Own) (H e : Nat) (lk : Bool) (fH : Zz (lk = true -> zJ)) (g : Gh) (B : jm w l p F H e lk g) (gD : g.status = 1) (x : rH) (hx : kC p x = true) (fT : Nat) (vv : Value) (vs : List Val)(bO:w.ownsRow fT 37 2 vv vs.length (vs.flatMap jY)) (dP:∀q,vv.ownBlock=some q->¬MO l F q) (bU:∀gT∈vs,jS gT g.os.length=true) (bR:vs.length=(M.method p x).args.length+1):Calls prog 91 #[some e,.agg #[x.of.keeper,x.of.name,x.at_],vv] w (jZ w l p F H e lk (.int .i64 (enter p lk x vs g.st).1) (enter p lk x vs g.st).2):=by
 obtain⟨⟨c,b⟩,j⟩:=x;obtain⟨vb,vc,rfl,-⟩:=jT bO Zm;have aV:=tJ (nQ B.kr.ok hx).1;have dI:(vs.length:Int)<=(M.method p ⟨⟨c,b⟩,j⟩).locals:=SX aV.args
 have eT:=Zy (zP (lk:=lk) (vs:=vs) B.kr.ok B.good gD hx (by simpa [Gh.st]using bU) dI);obtain⟨a,hm⟩:∃a,M.method p ⟨⟨c,b⟩,j⟩=a:=⟨_,rfl⟩;obtain⟨w0,dY,bF,b4⟩:=nu w #[c,b,j] 78;have v:Zz (enter p lk ⟨⟨c,b⟩,j⟩ vs g.st=if 8<=g.cs.length then(7,g.st)else if lk&& !M.right p ⟨⟨c,b⟩,j⟩then(5,g.st)
  else if pK p c g.st.heap vs (⟨2,b⟩::a.args)then(1,{g.st with frames:=g.st.frames++[⟨⟨⟨c,b⟩,j⟩,0,vs++List.replicate (a.locals.toNat - vs.length) lX,[]⟩]})else(10,g.st)):=Zy (by
  unfold enter;rw[hm];simp[Gh.st])
 obtain⟨T,U,bQ⟩:=B.calls.form;have m3:=B.blk.c 3 (.slice T g.cs.length U) (by rw[<-bQ];rfl);have mz:=B.blk.lt;have il:g.cs.length<=8:=by have:=B.good.nf;simpa [Gh.st]using this
 have gV:Zz (∀d,w.heap.size<=d->¬MO l F d):=Zy (fun d u=>B.fresh u);have⟨D,aI,bf,bV,cO,fF,fA,HX,HM⟩:=sV (B.ext bF) B bF b4 dY bO dP hx hm;have⟨fO,aQ⟩:=jf bU bQ;rw[hm]at aV bR;have ib:=B.kr.lt;have gZ:=B.kr.ET;have⟨aK,bA⟩:=jf aV bR;have iD:=b4.lt;clear B bF b4 dY bO dP hx hm bU bQ aV bR dI;by_cases h8:8<=g.cs.length
 . replace v:=Zy (v.trans (Tv h8));have fV:(8:Int)<=g.cs.length:=Zm
   go_enter func91,ntmps91;go_wp2;go_ret;rw[v.o,<-cO.o];exact jZ.mk' bf.any (nA.refl _ _) D rfl
 replace v:=Zy (v.trans (Tt h8));have fV:((8:Int)<=g.cs.length)=False:=VB Zm;clear h8;obtain⟨bC,bD,bM,t⟩:=qC.ex (fun W'=>LC l p w0 W') w0 (LC.refl D.kr);obtain⟨-,aA,dZ,-⟩:=hZ.lC fun n=>(D.oQ (t.jv n).kp (t.jv n).at_).blk;obtain⟨-,O,X,Y,-⟩:=hZ.lC fun n=>(bV.kp (t.jv n).kp Zm);have s:=Zy t;clear t;go_enter func91,ntmps91;go_wp2_with fail;rw[<-cO.o];rename_i P A;have ek:∀(r:World) (af ag ah ai aj ak au av:Value),LC l p w0 r->enter p lk ⟨⟨c,b⟩,j⟩ vs g.st=(5,g.st)->P {tmps:=#[.pointer (some ⟨e,0,none⟩),.agg #[c,b,j],.slice (some ⟨vb,0,none⟩) vs.length vc,undef,.pointer (some ⟨w,0,none⟩),undef,.int .i64 0,undef,undef,undef,undef,undef,.pointer (some ⟨e,0,none⟩),.pointer (some ⟨e,0,none⟩),.pointer (some ⟨e,3,none⟩),.slice T g.cs.length U,.int .i64 g.cs.length,.bool false,.pointer (some ⟨e,0,none⟩),.pointer (some ⟨e,0,none⟩),.pointer (some ⟨e,1,none⟩),.bool lk,af,ag,ah,ai,aj,ak,au,av,.bool true,undef,undef,undef,undef,undef,undef,undef,undef,undef,undef,undef,undef,undef,undef,undef,undef,undef,undef,undef,undef,undef,undef,undef,undef,undef,undef,undef,undef,undef,undef,undef,undef,undef,undef,undef,undef,undef,undef,undef,undef,undef,undef,undef,undef,undef,undef,undef,undef,undef,undef,undef,undef,undef,undef,undef,undef,undef,undef,undef,undef,undef,undef,undef],defers:=[]} r:=by
  intro r af ag ah ai aj ak au av I N;refine A _ _ ?_;clear A s aA dZ O X Y;go_wp2;go_ret;rw[N];exact jZ.mk' (bf.any.trans I.mo) (nA.refl _ _) (D.oQ I.kp I.at_) rfl
 have ed : ∀ (r : World) (af ag ah ai aj ak au av : Value), LC l p w0 r -> enter p lk ⟨⟨c, b⟩, j⟩ vs g.st = (if pK p c g.st.heap vs (⟨2, b⟩ :: a.args) then (1, { g.st with frames := g.st.frames ++ [⟨⟨⟨c, b⟩, j⟩, 0, vs ++ List.replicate (a.locals.toNat - vs.length) lX, []⟩] }) else (10, g.st)) →
     P {tmps:=#[.pointer (some ⟨e,0,none⟩),.agg #[c,b,j],.slice (some ⟨vb,0,none⟩) vs.length vc,undef,.pointer (some ⟨w,0,none⟩),undef,.int .i64 0,undef,undef,undef,undef,undef,.pointer (some ⟨e,0,none⟩),.pointer (some ⟨e,0,none⟩),.pointer (some ⟨e,3,none⟩),.slice T g.cs.length U,.int .i64 g.cs.length,.bool false,.pointer (some ⟨e,0,none⟩),.pointer (some ⟨e,0,none⟩),.pointer (some ⟨e,1,none⟩),.bool lk,af,ag,ah,ai,aj,ak,au,av,.bool false,undef,undef,undef,undef,undef,undef,undef,undef,undef,undef,undef,undef,undef,undef,undef,undef,undef,undef,undef,undef,undef,undef,undef,undef,undef,undef,undef,undef,undef,undef,undef,undef,undef,undef,undef,undef,undef,undef,undef,undef,undef,undef,undef,undef,undef,undef,undef,undef,undef,undef,undef,undef,undef,undef,undef,undef,undef,undef,undef,undef,undef,undef,undef],defers:=[]} r:=by
  intro r af ag ah ai aj ak au av I N;refine A _ _ ?_;clear A s aA dZ O X Y;replace v:=Zy N;have⟨aC,bW,aB⟩:=jB (D.oQ I.kp I.at_) (bV.kp I.kp Zm) I;have iE:=I.kp.size;clear N I;go_wp2_with fail;obtain⟨bC,bD,bM,t⟩:=ll r;have aA:=fun n=>(aC.ext (t.jv n)).blk.c 0 (some l.L) rfl;obtain⟨-,O,X,Y,-⟩:=hZ.lC fun n=>(bW.ext (t.jv n));have s:=Zy t;clear t;rename_i P A
  have eu : ∀ (b7 : Nat) (o : World) (J : uj), Ext r o -> hZ o b7 132 (mF a J).toArray -> r <= b7 -> jd o (· < l.O) a (mF a J) -> P { tmps := #[.pointer (some ⟨e, 0, none⟩), .agg #[c, b, j], .slice (some ⟨vb, 0, none⟩) vs.length vc, undef, .pointer (some ⟨w, 0, none⟩), undef, .int .i64 0, .pointer (some ⟨b7, 0, none⟩), undef, undef, undef, undef, .pointer (some ⟨e, 0, none⟩), .pointer (some ⟨e, 0, none⟩), .pointer (some ⟨e, 3, none⟩), .slice T g.cs.length U, .int .i64 g.cs.length, .bool false, .pointer (some ⟨e, 0, none⟩), .pointer (some ⟨e, 0, none⟩), .pointer (some ⟨e, 1, none⟩), .bool lk, af, ag, ah, ai, aj, ak, au, av, .bool false, .pointer (some ⟨e, 0, none⟩), .pointer (some ⟨e, 0, none⟩), .pointer (some ⟨e, 0, none⟩), .pointer (some ⟨l.L, 0, none⟩), .agg #[c, b, j], .agg #[.string a.name, .slice J.a1 a.args.length J.c1, .int .i64 a.ret.kind, .string a.ret.name, .int .i64 a.locals, .int .i64 a.stack, .slice J.a2 a.code.length J.c2, .slice J.a3 a.maps.length J.c3], undef, undef, undef, undef, undef, undef, undef, undef, undef, undef, undef, undef, undef, undef, undef, undef, undef, undef, undef, undef, undef, undef, undef, undef, undef, undef, undef, undef, undef, undef, undef, undef, undef, undef, undef, undef, undef, undef, undef, undef, undef, undef, undef, undef, undef, undef, undef, undef, undef, undef, undef, undef, undef, undef, undef, undef, undef], defers := [] } o := by
   clear s aA O X Y; intro b7 o J C bE ig E; refine A _ _ ?_; clear A; obtain ⟨R, S, a2, c2, a3, c3⟩ := J; have fu := Zy (aC.ext C); have eZ : Zz (Kp (MO l F) w o) := Zy ((bf.any.trans aB.mo).trans C.any); have ⟨bX, eD, aL⟩ := jB (bW.ext C) bE E; have aG := jd.args E; obtain ⟨xz,-, x1,-⟩ := bX.ca; obtain ⟨yz,-, y1,-⟩ := bE.ca; have gX := Zy aG; have fK : Zz (∀ (q : Nat) (k : Kind), (Kind.mk 2 b :: a.args)[q]? = some k -> True) := Zy (fun _ _ _ => trivial); have iH := C.size; clear C bE E fK; refine wp_seq_k fun P A => ?_; have eB : ∀ (v8 di : Value) (G : World), Ext o G -> G.ownsRow o 128 2 v8 (a.args.length + 1) ((Kind.mk 2 b :: a.args).flatMap fun k => [k.kind, k.name]) -> P { tmps := #[.pointer (some ⟨e, 0, none⟩), .agg #[c, b, j], .slice (some ⟨vb, 0, none⟩) vs.length vc, undef, .pointer (some ⟨w, 0, none⟩), undef, .int .i64 0, .pointer (some ⟨b7, 0, none⟩), v8, undef, undef, undef, .pointer (some ⟨e, 0, none⟩), .pointer (some ⟨e, 0, none⟩), .pointer (some ⟨e, 3, none⟩), .slice T g.cs.length U, .int .i64 g.cs.length, .bool false, .pointer (some ⟨e, 0, none⟩), .pointer (some ⟨e, 0, none⟩), .pointer (some ⟨e, 1, none⟩), .bool lk, af, ag, ah, ai, aj, ak, au, av, .bool false, .pointer (some ⟨e, 0, none⟩), .pointer (some ⟨e, 0, none⟩), .pointer (some ⟨e, 0, none⟩), .pointer (some ⟨l.L, 0, none⟩), .agg #[c, b, j], .agg #[.string a.name, .slice R a.args.length S, .int .i64 a.ret.kind, .string a.ret.name, .int .i64 a.locals, .int .i64 a.stack, .slice a2 a.code.length c2, .slice a3 a.maps.length c3], .pointer (some ⟨w, 0, none⟩), .pointer (some ⟨w, 1, none⟩), .string b, .agg #[.int .i64 2, b], di, .pointer (some ⟨b7, 1, none⟩), .slice R a.args.length S, v8, undef, undef, undef, undef, undef, undef, undef, undef, undef, undef, undef, undef, undef, undef, undef, undef, undef, undef, undef, undef, undef, undef, undef, undef, undef, undef, undef, undef, undef, undef, undef, undef, undef, undef, undef, undef, undef, undef, undef, undef, undef, undef, undef, undef, undef, undef, undef, undef, undef], defers := [] } G := by
    clear x1 xz y1 yz aG;intro v8 di G ax bP;refine A _ _ ?_;clear A;have iI:=ax.size;have⟨ae,bu,bY,aZ,fw,fE⟩:=nE (fu.ext ax) (eZ.trans ax.any) (bX.ext ax) (eD.ext ax) (jM.ext jd.stays ax aL) bP;obtain⟨tb,tc,rfl,-⟩:=jT bP Zm;have dW:=jb fF bu (fun q hq _ h=>fA.o q hq h);have cK:=Zy dW;obtain⟨ha,dL,dV⟩:=ae.heap.form;have eU:=Zy ae.o.Nv;have cB:=Zy dV;have ic:=aK.Hr;clear ax bP dW dV;go_wp2;go_loopw [47] (fun i wr=>∃q:Nat,q<=vs.length/\i=.int .i64 q/\Ext G wr/\Zz (pK p c g.st.heap vs (⟨2,b⟩::a.args)=pK p c g.st.heap (vs.drop q) ((Kind.mk 2 b::a.args).drop q))) (fun i _=>vs.length - (intOf i).toNat)
    case atStart=>exact⟨0,SV _,rfl,Kp.rr,Zy rfl⟩
    case round =>
     obtain⟨q,hq,rfl,hE,cu⟩:=hrel;by_cases gm:q<vs.length
     . obtain⟨⟨vk,vn⟩,N⟩:=om vs q gm;obtain⟨⟨kq,kn⟩,hk⟩:=om (Kind.mk 2 b::a.args) q (by have:=bA.o;simp;omega);have fC:=Zy (fO _ (RA N));have bJ:=(lT (enc:=jY) (k:=2) (fun _=>rfl) cK N).ext hE;have bI:=lT (enc:=fun k:Kind=>[k.kind,k.name]) (k:=2) (fun _=>rfl) (l:=Kind.mk 2 b::a.args) fE hk;have g0:=bJ.two.1;have g1:=bJ.two.2;have gz:=jc g0;have cz:Zz (pK p c g.st.heap vs (⟨2,b⟩::a.args)=(hasType p c g.st.heap ⟨vk,vn⟩ ⟨kq,kn⟩&&pK p c g.st.heap (vs.drop (q+1)) ((Kind.mk 2 b::a.args).drop (q+1)))):=Zy (by rw[cu.o,oM N,oM hk];rfl);obtain⟨W4,dJ,dz,dm⟩:=nu wr #[vk,vn] 37;have L:=hE.trans dz;obtain⟨bC,bD,bM,t⟩:=ll W4;have aA:=fun n=>(ae.ext (L.trans (t.jv n))).blk.c 0 (some l.L) rfl;have iO:=fun n=>(ae.ext (L.trans (t.jv n))).blk.c 4 (.slice ha g.os.length dL) (by rw[<-cB.o];rfl);have O:=fun n=>(bY.ext (L.trans (t.jv n))).c 0 c rfl;obtain⟨-,iM,iN,-⟩:=hZ.lC fun n=>(dm.ext (t.jv n));have iP:=fun n=>(hH.ext bI (L.trans (t.jv n))).two.1;have iQ:=fun n=>(hH.ext bI (L.trans (t.jv n))).two.2;have dN:=fun W (hW:Ext W4 W)=>vG W l p (ae.kr.ext (L.trans hW)) c (.slice ha g.os.length dL) g.st.heap (by rw[<-cB.o];exact eU.ext (L.trans hW)) ⟨vk,vn⟩ (fun h=>by have:=sJ fC h;simpa [Gh.st]using this) ⟨kq,kn⟩;have⟨eX,s,fP,bn⟩:=jU dN t dJ L;have iw:(q:Int)<a.args.length+1:=SX bA.o
       have iy:(q:Int)<vs.length:=Zm
       have iA:IntKind.i64.wrap ((q:Int)+1)=q+1:=TK _ Zm;clear t dN bJ bI N hk dJ dz dm L;go_wp2_with fail;rw[<-fP.o];refine jW s 18 [([0,1,2,3,4,5,6,7,8,9,10,11,12,13,14,15],16)] [17] ?_ ?_
       . exact jg
       refine lJ ?_;intro z m;go_wp2_with fail;refine(eX _ jg).mono ?_;rintro h w5 ⟨rfl,dA⟩;have aJ:=Zy (((Kp.refl _ W4).drew:Ext W4 _).trans dA);clear dA;cases aW:hasType p c g.st.heap ⟨vk,vn⟩ ⟨kq,kn⟩
       . replace v:Zz (enter p lk ⟨⟨c,b⟩,j⟩ vs g.st=(10,g.st)):=Zy (by rw[v.o,cz.o,aW];rfl);clear aW;go_wp2_with fail;refine kk s m aJ ?_;clear m z;refine rC ?_;go_wp2;go_ret;rw[v.o];exact jZ.mk' (bu.trans (bn.trans aJ).any) (nA.refl _ _) (ae.ext (bn.trans aJ)) rfl
       . have fJ:Zz (pK p c g.st.heap vs (⟨2,b⟩::a.args)=pK p c g.st.heap (vs.drop (q+1)) ((Kind.mk 2 b::a.args).drop (q+1))):=Zy (by rw[cz.o,aW];rfl);clear aW;go_wp2_with fail;refine kk s m aJ ?_;clear m z;refine rC ?_;go_wp2_with fail;exact⟨⟨q+1,Zm,by simp,bn.o.trans aJ.o,fJ⟩,by simp[intOf];omega⟩
     . have gB:q=vs.length:=Zm
       replace v:Zz (enter p lk ⟨⟨c,b⟩,j⟩ vs g.st=(1,{g.st with frames:=g.st.frames++[⟨⟨⟨c,b⟩,j⟩,0,vs++List.replicate (a.locals.toNat - vs.length) lX,[]⟩]})):=Zy (by
        rw[v.o,cu.o,gB,List.drop_length];rfl)
       obtain⟨f,hn⟩:∃f:Nat,a.locals=f:=⟨a.locals.toNat,SX aK.args⟩;have gy:f<=6:=SX aK.locals
       have gF:vs.length<=f:=SY aK.args bA.o
       obtain⟨Q,bH⟩:∃Q,Q=madeCells (Value.agg #[Tc,Tc]).cells (f*2):=⟨_,rfl⟩;have aU:Q.toList=(List.replicate f lX).flatMap jY:=by rw[bH];exact LQ gy
       have gq:∀W:World,(Instr.makeSlice 61 f f).run prog W=.ok (W,f,f) (W.alloc (.cells Q 37)):=fun W=>by
        obtain⟨i,n,bytes,ht,hi,hz,dU,ik,iK,hk,u⟩:=rQ;have gG:n=.agg #[Tc,Tc]:=by
         have h:(prog.info? 37).map (·.zero)=some (some (.agg #[Tc,Tc])):=by kernel_rfl
         rw[hi]at h;simp only[WZ,TT]at h;rw[hz]at h;cases h;rfl
        have:=run_makeSlice (P:=prog) W 61 37 i n ht hi hz .i64 .i64 f f Zm (Int.le_refl _) (by rw[dU];simp;omega) (by
         have:(i.bytes:Int)*f<=4096*6:=Int.mul_le_mul Zm Zm Zm Zm;omega) Zm
        rw[dU,gG]at this;simpa [bH]using this
       have HE:=Zy hE;have y4:=(aZ.ext hE).c 4 f (by rw[<-hn];rfl);have yz:=(aZ.ext hE).lt;have⟨HN,gW⟩:=jf hn aU;have dS:(wr.alloc (.cells Q 37)).ownsRow wr 37 2 (wr,f,f) f ((List.replicate f lX).flatMap jY):=by
        rw[<-aU];exact Vj wr Q f (T9 _) (by unfold maxLen;omega) (by
         have:=congrArg List.length aU;rw[ou (k:=2) (fun _=>rfl),Vz]at this;simpa using this)
       have⟨fG,bq⟩:=jf dS (qi (jb (D:=fun _=>False) cK (hE.alloc (.cells Q 37)) fun _ _ _ x=>x) (oN wQ vs));clear hE hn bH aU dS;go_wp2_with (refine Hf rQ _ rfl (.tmp 74) (.tmp 75) rfl wr wr f f vs.length vc _ _ rfl fG vb rfl bq gF ?_);intro y bN dC;have aD:=(kx:Ext wr (wr.alloc (.cells Q 37))).own dC (fun d h=>Zm);have bL:y.ownsRow wr 37 2 (wr,f,f) f ((vs++List.replicate (f - vs.length) lX).flatMap jY):=by
        rw[Uz];have e1:((List.replicate f lX).flatMap jY).drop (vs.length*2)=(List.replicate (f - vs.length) lX).flatMap jY:=by
         have e2:List.replicate f lX=List.replicate vs.length lX++List.replicate (f - vs.length) lX:=by rw[List.replicate_append_replicate];congr 1;omega
         rw[e2,Uz,List.drop_left' (by rw[ou (k:=2) (fun _=>rfl)];simp)]
        rw[e1]at bN;exact bN
       have eO:=Zy aD;have aO:=ae.ext (HE.trans aD);have⟨fq,eY,fo⟩:=jB aO (bu.trans (HE.trans aD).any) bL;have iF:(wr:Nat)<y:=by have:=(bL.lt wr rfl).2;exact this
       have iB:=HE.size;have bT:¬g.vc.ownBlock=some e:=fun h=>by have:=aO.calls.role _ h;rw[aO.role]at this;cases this
       have dX:∀d,w.heap.size<=d->¬g.vc.ownBlock=some d:=fun d u h=>SX ((aI.calls.blk h).2)
       obtain⟨bC,bD,bM,t⟩:=qC.ex (fun W'=>Kp (fun d=>g.vc.ownBlock=some d) y W') _ Kp.rr;have dw:=aZ.ext (HE.trans aD);have dn:=bY.ext (HE.trans aD);have fZ:w<=b7:=Zm
       have gQ:=fun n=>(aO.blk.kp (t.jv n) bT).c 3 (.slice T g.cs.length U) (by rw[<-aQ.o];rfl);obtain⟨-,O,X,Y,-⟩:=hZ.lC fun n=>(dn.kp (t.jv n) (dX _ (T9 _)));obtain⟨-,gH,gI,gJ,gK,gL,gM,gN,gP,-⟩:=hZ.lC fun n=>(dw.kp (t.jv n) (dX _ fZ));have⟨s,fM⟩:=jf t bT;clear bN dC aD bL aO t dw dn bT y4 yz gq;go_wp2_with fail;refine jW s 15 [([0,1,2,3,4,5,6,7,8,9,10,11],12),([],13),([],14)] [] ?_ ?_
       . exact jg
       refine lJ ?_;intro z m;go_wp2_with fail;refine kk s m kx ?_;clear m z;refine kN rfl fun z m=>?_;go_wp2_with fail;refine kk s m kx ?_;clear m z;refine kN rfl fun z m=>?_;obtain⟨Z,aH⟩:=SS (((y.alloc (.cells #[c,b,j,.string a.name,.slice R a.args.length S,.int .i64 a.ret.kind,.string a.ret.name,.int .i64 a.locals,.int .i64 a.stack,.slice a2 a.code.length c2,.slice a3 a.maps.length c3,Tc,(wr,f,f),(),.int .i64 a.stack] 176)).alloc (.cells #[some y] 171)).drew);rw[<-aH];have aM:Ext y Z:=by rw[aH];exact kx
       have bB:hZ Z y 176 #[c,b,j,.string a.name,.slice R a.args.length S,.int .i64 a.ret.kind,.string a.ret.name,.int .i64 a.locals,.int .i64 a.stack,.slice a2 a.code.length c2,.slice a3 a.maps.length c3,Tc,(wr,f,f),(),.int .i64 a.stack]:=by rw[aH];exact(hZ.newAt (W:=y) (g:=y.heap.size) _ _ rfl).ext kx
       have bS:hH Z (y+1) 0 [some y]:=by rw[aH];exact hH.Fh _ _ Zl
       have iJ:Z.heap.size=y+2:=by
        rw[aH];show((y.alloc _).alloc _).heap.size=_
        simp
       have aS:=fq.ext aM;have gY:H<=w:=by have:=(aI.dom e (by rw[aI.o.role];simp)).2;have:=aI.low;omega
       have dQ:∀d,w.heap.size<=d->F d=none:=fun d u=>by
        cases h:F d with
        |none=>rfl
        |some q=>have:=(aI.dom d (by rw[h];simp)).2;omega
       obtain⟨V,az⟩:∃V,V=(F.add y (4,g.cs.length)).add wr (5,g.cs.length):=⟨_,rfl⟩;have iC:(w:Nat)<=wr:=Zm
       have o1:∀d aY,F d=some aY->V d=some aY:=fun d aY u=>by
        have h1:d≠y.heap.size:=fun h=>by rw[h,dQ _ Zm]at u;cases u
        have h2:d≠wr.heap.size:=fun h=>by rw[h,dQ _ Zm]at u;cases u
        rw[az,Own.lY _ h2,Own.lY _ h1];exact u
       have o2:V wr.heap.size=some (5,g.cs.length):=by rw[az];exact Own.add_eq _ _ _
       have o3:V y.heap.size=some (4,g.cs.length):=by rw[az,Own.lY _ Zm];exact Own.add_eq _ _ _
       have o4:∀d,d<w.heap.size->V d=F d:=fun d u=>by rw[az,Own.lY _ Zm,Own.lY _ Zm]
       have o5:∀d,V d≠none->H<=d/\d<Z.heap.size:=fun d u=>by
        by_cases e1:d=wr.heap.size
        . subst e1;omega
        . by_cases e2:d=y.heap.size
          . subst e2;omega
          . rw[az,Own.lY _ e1,Own.lY _ e2]at u;exact aS.dom d u
       have dG:=aS.relabel o1 o5 fun d i u=>by
        by_cases e2:d=y.heap.size
        . rw[e2];exact⟨_,bB.c 0 _ rfl⟩
        . rw[az]at u;have u:=Own.GN Zl u;rw[Own.lY _ e2]at u;exact aS.xU d i u
       have dx:qy Z l p V H g.cs.length (⟨⟨⟨⟨c,b⟩,j⟩,0,vs++List.replicate (a.locals.toNat - vs.length) lX,[]⟩,y.heap.size,⟨R,S,a2,c2,a3,c3⟩,(wr,f,f),()⟩:GC):=by
        refine⟨?_,o3,by show H<=y;omega,?_,⟨?_,fun q hq=>?_⟩,l6.nil _ _ _ _ _ _⟩
        . unfold Bp;simp only[HM.o];exact bB
        . simp only[HM.o];exact jM.ext jd.stays ((HE.trans eO).trans aM) fw
        . have h1:=lV (base':=H) (jb (D:=fun _=>False) fo aM fun _ _ _ x=>x) Zm;have e1:(vs++List.replicate (a.locals.toNat - vs.length) lX).length=f:=by rw[HN.o];simp;omega
          show World.ownsRow _ H _ 2 _ (vs++List.replicate (a.locals.toNat - vs.length) lX).length _
          rw[e1,HN.o];simpa using h1
        . cases hq;exact o2
       have⟨bz,eH,bZ,fe,eG,eP⟩:=nE dG dx o4 (eY.trans aM.any) bS aM;clear aH bB aS dG dx o1 o2 o3 o4 o5 az bS;refine jo FI rfl (.tmp 81) (.tmp 90) rfl H (.slice T g.cs.length U) g.cs.length (g.cs.flatMap uZ) rfl (by rw[<-aQ.o];exact bz.calls.row) (y+1) 1 [some y] rfl rfl eG Zt Zm Zm ?_;intro g9 c9 gU dH aN bK;change z _ _;rw[<-aQ.o]at aN bK;refine kk s m (eP.any.trans aN) ?_;clear m z;have aT:=bz.blk.kp aN fM;have q3:=aT.c 3 (.slice T g.cs.length U) (by rw[<-aQ.o];rfl);have f3:=aT.frozen 3;have qz:=aT.lt;have bG:=eT.2.2.1;rw[v.o]at bG;have hs:({g with cs:=g.cs++[(⟨⟨⟨⟨c,b⟩,j⟩,0,vs++List.replicate (a.locals.toNat - vs.length) lX,[]⟩,y.heap.size,⟨R,S,a2,c2,a3,c3⟩,(wr,f,f),()⟩:GC)],vc:=(g9,g.cs.length+1,c9)}:Gh).st={g.st with frames:=g.st.frames++[⟨⟨⟨c,b⟩,j⟩,0,vs++List.replicate (a.locals.toNat - vs.length) lX,[]⟩]}:=by simp[Gh.st]
       obtain⟨dD,iL,dK,dF⟩:=bz.Kz (⟨⟨⟨⟨c,b⟩,j⟩,0,vs++List.replicate (a.locals.toNat - vs.length) lX,[]⟩,y.heap.size,⟨R,S,a2,c2,a3,c3⟩,(wr,f,f),()⟩:GC) eH g9 c9 dH aN (by
        rcases bK with h|h
        . exact .inl h
        . right;omega) (by rw[hs];exact bG)
       have eQ:Zz (jZ w l p F H e lk (.int .i64 1) {g.st with frames:=g.st.frames++[⟨⟨⟨c,b⟩,j⟩,0,vs++List.replicate (a.locals.toNat - vs.length) lX,[]⟩]} (.returned (.int .i64 1)) (gU.setCell (e,3) (g9,g.cs.length+1,c9))):=
        Zy (jZ.mk' (fe.mo dD (fun d u=>bZ.o d u)) (fun d u=>(dK d Zm).trans (bZ d u)) dF hs)
       clear dD dK dF hs bG aT dH aN bK s gQ O X Y gH gI gJ gK gL gM gN gP;refine ku ?_;go_wp2;go_ret;rw[v.o];exact eQ
   have dh:=Zy eB;clear eB A;cases R with
   | none =>
    have dO:a.args=[]:=by
     cases gp:a.args with
     |nil=>rfl
     |cons k aY=>
      rw[gp]at aG;obtain⟨_,_,_,h,_⟩:=aG.get (i:=0) (x:=k) rfl;cases h
    have aP:(o.alloc (.cells #[.int .i64 2,b] 128)).ownsRow o 128 2 (.slice (some ⟨o,0,none⟩) 1 1) (a.args.length+1) ((Kind.mk 2 b::a.args).flatMap fun k=>[k.kind,k.name]):=by
     rw[dO];exact Vj o #[.int .i64 2,b] 1 (T9 _) (by unfold maxLen;omega) rfl
    have hT:=dh.o (.slice (some ⟨o,0,none⟩) 1 1) (.slice (some ⟨o,0,none⟩) 1 1) _ (kx:Ext o (o.alloc (.cells #[.int .i64 2,b] 128))) aP;simp only[dO,Uj]at hT;have fI:=Zy hT;clear hT aP;go_wp2_with fail;exact fI
   |some ad=>
    have dM:=SliceOf.toFlat (R:=nC) (enc:=fun k=>[k.kind,k.name]) (fun _ _ _ _ h=>h) (fun _=>rfl) Zt aG;have bq:=Zy dM;clear aG dM;have gu:1+a.args.length<=8589934592:=SX aK.Hr
    have aP:(o.alloc (.cells #[.int .i64 2,b] 128)).ownsRow o 128 2 (.slice (some ⟨o,0,none⟩) 1 1) 1 [.int .i64 2,b]:=Vj o _ 1 (T9 _) (by unfold maxLen;omega) rfl;have fD:=Zy aP;clear aP;go_wp2_with (at_builtin;refine jR Lc _ rfl (.tmp 41) (.tmp 43) rfl o _ 1 [.int .i64 2,b] rfl fD ad a.args.length S _ rfl (bq.ext kx) gu Zl ?_);intro v' G dR aF;have⟨fB,bg⟩:=jf dR ((kx:Ext o (o.alloc (.cells #[.int .i64 2,b] 128))).own aF (fun d h=>by simp only[Value.ownBlock,TT]at h;omega));clear dR aF;go_wp2_with fail;exact dh _ _ _ bg (by rw[Vf];exact fB)
  clear A;have df:=Zy eu;clear eu;refine qp s 7 (.two [0,1,2,3,4] 5 6 (.one [] 6 (.fin [])) (.one [] 5 (.fin []))) ?_ ?_
  . exact jg
  refine two [_,_,_,_,_] rfl rfl rfl fun P A=>?_;(repeat (go_big_quiet_step (fail)));((refine F5 A (fun z m=>?_) fun z m=>?_)<;>clear A P)
  . go_wp2_with fail;have ay:=lH r.drew l p (aC.kr.ext jg) ⟨⟨c,b⟩,j⟩ HX;rw[HM.o]at ay;refine ay.mono ?_;rintro h o ⟨⟨cs,E,rfl⟩,C⟩;obtain⟨K,rfl⟩:=nU E;have⟨aa,aL⟩:=jf ((jg).trans C) E;clear E C ay;simp only[mF];go_wp2_with fail;refine kk s m aa ?_;clear m z;refine jX rfl fun z m=>?_;go_wp2_with fail;refine kk s m (aa.alloc _) ?_;clear m z;clear s aA O X Y;refine kL ?_;go_wp2_with fail;exact df _ _ K (aa.alloc _) (hZ.new _ _ _) aa.size (jM.ext jd.stays (kx:Ext o _) aL)
  . go_wp2_with fail;refine kk s m ((jg).alloc _) ?_;clear m z;refine jX rfl fun z m=>?_;go_wp2_with fail;have b5:hZ (r.alloc (.cells #["",(),Tc, "",Tc,Tc,(),()] 132)).drew r 132 #["",(),Tc, "",Tc,Tc,(),()]:=(hZ.new _ _ _).ext jg;have ay:=lH ((r.alloc (.cells #["",(),Tc, "",Tc,Tc,(),()] 132)).drew) l p (aC.kr.ext (jw _).drew) ⟨⟨c,b⟩,j⟩ HX;rw[HM.o]at ay;refine ay.mono ?_;rintro h o ⟨⟨cs,E,rfl⟩,C⟩;obtain⟨K,rfl⟩:=nU E;have aa:=Zy ((((Kp.refl _ r).alloc _).drew).trans C);have aR:=b5.ext C;obtain⟨z5,y0,y1,y2,y3,y4,y5,y6,y7,-⟩:=aR.ca;obtain⟨g0,g1,g2,g3,g4,g5,g6,g7,-⟩:=aR.fz;obtain⟨G,aX⟩:=SS (((((((((o.setCell r (.string a.name)).setCell (r,1) (.slice K.a1 a.args.length K.c1)).setCell (r,2) (.int .i64 a.ret.kind)).setCell (r,3) (.string a.ret.name)).setCell (r,4) (.int .i64 a.locals)).setCell (r,5) (.int .i64 a.stack)).setCell (r,6) (.slice K.a2 a.code.length K.c2)).setCell (r,7) (.slice K.a3 a.maps.length K.c3)));have aF:Kp (·=r) o G:=by rw[aX];exact Kp.AZ (D:=(·=r)) rfl _ _ _ _ _ _ _ _
    have b9:hZ G r 132 (mF a K).toArray:=by rw[aX];exact aR.AZ _ _ _ _ _ _ _ _
    have iG:=aC.kr.lt;have iq:=aC.kr.ord;have⟨bg,aL,eF,fQ⟩:=jU (aa.own aF (fun k h=>Zm)) (jM.kp jd.stays aF (fun d u h=>Zm) E) b9 aX;clear b5 aR E C aX aF b9 ay;simp only[mF];go_wp2_with fail;refine kk s m aa ?_;clear m z;clear s aA O X Y;refine kL ?_;go_wp2_with fail;rw[<-fQ.o];exact df _ _ K bg eF (T9 _) aL
 clear A;have⟨cZ,fU⟩:=jf ed ek;clear ed ek;cases lk
 . replace v:Zz (enter p false ⟨⟨c,b⟩,j⟩ vs g.st=if pK p c g.st.heap vs (⟨2,b⟩::a.args)then(1,{g.st with frames:=g.st.frames++[⟨⟨⟨c,b⟩,j⟩,0,vs++List.replicate (a.locals.toNat - vs.length) lX,[]⟩]})else(10,g.st)):=Zy v.o;refine jW s 13 [([0,1,2,3,4,5,6,7,8,9],10)] [11,12] ?_ ?_
   . exact(LC.refl D.kr).drew
   refine lJ ?_;intro z m;go_wp2_with fail;refine kk s m (LC.refl D.kr).drew ?_;clear m z;refine rC ?_;go_wp2_with fail;exact cZ _ _ _ _ _ _ _ _ _ (LC.refl D.kr).drew v
 . refine jW s 13 [([0,1,2,3,4,5,6,7,8,9],10)] [11,12] ?_ ?_
   . exact(LC.refl D.kr).drew
   refine lJ ?_;intro z m;go_wp2_with fail;refine((fH Zl) _ _ _ (D.kr.ext jg) ⟨⟨c,b⟩,j⟩ HX).mono ?_;rintro h r ⟨rfl,dB,dE⟩;have aB:=Zy ((LC.refl D.kr).drew.step dE dB);clear dB dE;cases hr:M.right p ⟨⟨c,b⟩,j⟩
   . rw[hr]at v;replace v:Zz (enter p true ⟨⟨c,b⟩,j⟩ vs g.st=(5,g.st)):=Zy v.o;clear hr;go_wp2_with fail;refine kk s m aB ?_;clear m z;refine rC ?_;go_wp2_with fail;exact fU _ _ _ _ _ _ _ _ _ aB v
   . rw[hr]at v;replace v:Zz (enter p true ⟨⟨c,b⟩,j⟩ vs g.st=if pK p c g.st.heap vs (⟨2,b⟩::a.args)then(1,{g.st with frames:=g.st.frames++[⟨⟨⟨c,b⟩,j⟩,0,vs++List.replicate (a.locals.toNat - vs.length) lX,[]⟩]})else(10,g.st)):=Zy v.o;clear hr;go_wp2_with fail;refine kk s m aB ?_;clear m z;refine rC ?_;go_wp2_with fail;exact cZ _ _ _ _ _ _ _ _ _ aB v
theorem GL{m:Own}{i x:Nat}(b:jm w l p m i x lk g)(r:List GC)(c:GC)(d:g.cs=r++[c])(st vs:List Val)(n:Nat)(k:c.f.stack=st++vs)(s:vs.length=n)(t:0<n):Calls prog 166 #[some (c.cb,13),n] w fun a h=>∃f,a=.returned (.tuple #[f,.bool true])/\h.ownsRow w 37 2 f n (vs.flatMap jY)/\Kp (PO m (Hg r.length)) w h/\∃B,jm h l p m i x lk (g.kH r c st B):=by
 have e:=b.at_ d;have A:=jD.1 (b.Du d);have F:=(b.mi d).stack;have G:=A.2.2.2.2.1;have j:c.f.stack.length=st.length+n:=by rw[k];simp[s]
 refine(o9 w c.cb 13 i _ _ c.vs c.f.stack.length c.f.stack e.blk rfl e.kH.row rfl n Zm t Zm (fun a=>by have:=e.kH.role _ a;rw[e.role]at this;cases this)).mono ?_;rintro a h ⟨f,rfl,u,⟨C,H,v,q⟩,o⟩;rw[j]at v;rw[j,V7]at q;have y:c.f.stack.drop (c.f.stack.length - n)=vs:=by rw[j,V7,k,List.drop_left]
 rw[y]at u;obtain⟨E,z⟩:=b.popped d v ⟨vs,k,s⟩ t q o;exact⟨f,rfl,u,b.Hb d (o.weak fun D _ a=>.inl a),_,z⟩
theorem Pd {aT mb: Nat} (bY : Zz (lk = true -> zJ)) {g: Gh} (I : jm w l p X aT mb lk g) (r : List GC) (c : GC) (dn : g.cs = r ++ [c]) (dF : g.status = 1) (i : Ins) (hi : oP (M.method p c.f.of) i = true) (bG : i.op = 9) :Calls prog 120 #[some mb,.agg #[i.op,i.a,i.name,i.member]] w (jZ w l p X aT mb lk (.int .i64 (jH p lk i g.st).1) (jH p lk i g.st).2):=by
 have HI := Zy (qJ hi); obtain ⟨w0, dH, bn, b3⟩ := nu w #[i.op, i.a, i.name, i.member] 140; have dZ := Zy (I.fresh (T9 _)); have aX : Zz (∀ A, w.heap.size <= A -> ¬ MO l X A) := Zy (fun A Q => I.fresh Q); have fq := I.kr.lt; have eZ := I.kr.ord.2.2; have ⟨bN, dU, dP, eu, R⟩ := ni (I.ext bn) bn b3 dH dn; have fI := b3.lt; clear I bn b3 dH dn hi; obtain ⟨⟨⟨⟨k, m⟩, C⟩, cd⟩, hF⟩ : ∃ dN, call p c.f.of.of.keeper i.name i.member = dN := ⟨_, rfl⟩; have h : Zz (jH p lk i g.st = if cd = 1 then (match nk ((M.method p ⟨⟨k, m⟩, C⟩).args.length + 1) g.st with
     |some (e,s1)=>if object p (e.headD lX) ⟨k,m⟩ s1=1 then(match pick p (vI s1.heap (e.headD lX).n) i.member with
         |some H=>enter p lk H e s1
         |none=>(10,s1))else(object p (e.headD lX) ⟨k,m⟩ s1,s1)
     |none=>(10,g.st))else(4,g.st)):=Zy (by
  unfold jH;rw[bG];simp only[Gh.top R.o,hF];rfl)
 have⟨HF,eY⟩:=jf hF bG;clear bG;go_enter func120,ntmps120;go_wp2_with fail;rw[<-eu.o];refine(kX _ _ _ _ _ _ _ _ bN r c R).mono ?_;rintro n y ⟨rfl,aH⟩;have⟨HA,dV,aV⟩:=jB (bN.ext aH) (dU.trans aH) (dP.ext aH);have dh:l.L<y:=HA.kr.lt;have fe:l.D<y.heap.size:=Zm
 have fJ:(w:Nat)<y:=aV.lt;have dw:∀q,LC l p y q->Calls prog 86 #[some l.L,c.f.of.of.keeper,i.name,i.member] q fun n w'=>∃D,n=.returned (.tuple #[.agg #[k,m,C],D])/\zn D cd/\Kp (·=l.D) q w'/\LC l p y w':=fun q Z=>by
  have hl:=uF q l p Z.at_ c.f.of.of.keeper i.name i.member;rw[HF.o]at hl;refine hl.mono ?_;rintro n w' ⟨⟨D,rfl,J⟩,hL,t⟩;exact⟨D,rfl,J.weak,t,Z.step hL t⟩
 have aC := Zy dw; have d := Zy (LC.refl HA.kr).drew; obtain ⟨cu, cz, dA, z⟩ := qC.ex (fun W' => LC l p y W') y (LC.refl HA.kr); have av := fun j => (HA.oQ (z.jv j).kp (z.jv j).at_).blk.c 0 (some l.L) rfl; obtain ⟨-,-,-, aO, aP,-⟩ := hZ.lC fun j => (aV.kp (z.jv j).kp Zm); have f := Zy z; clear z dw aH; go_wp2_with fail; rename_i V t; have dM : ∀ (b6 : Nat) (w7 : World) (D : Value), LC l p y w7 -> hZ w7 b6 78 #[k, m, C] -> y <= b6 -> zn D cd -> V { tmps := #[.pointer (some ⟨mb, 0, none⟩), .agg #[i.op, i.a, i.name, i.member], undef, .pointer (some ⟨w, 0, none⟩), .int .i64 0, .pointer (some ⟨c.cb, 0, none⟩), .pointer (some ⟨b6, 0, none⟩), D, undef, undef, undef, undef, undef, .pointer (some ⟨mb, 0, none⟩), .pointer (some ⟨c.cb, 0, none⟩), .tuple #[.agg #[k, m, C], D], .pointer (some ⟨mb, 0, none⟩), .pointer (some ⟨mb, 0, none⟩), .pointer (some ⟨mb, 0, none⟩), .pointer (some ⟨l.L, 0, none⟩), .pointer (some ⟨c.cb, 0, none⟩), .int .i64 c.f.of.of.keeper, .pointer (some ⟨w, 2, none⟩), .string i.name, .pointer (some ⟨w, 3, none⟩), .string i.member, .tuple #[.agg #[k, m, C], D], .agg #[k, m, C], D, undef, undef, undef, undef, undef, undef, undef, undef, undef, undef, undef, undef, undef, undef, undef, undef, undef, undef, undef, undef, undef, undef, undef, undef, undef, undef, undef, undef, undef, undef, undef, undef, undef, undef, undef, undef, undef, undef, undef, undef, undef, undef, undef, undef, undef, undef, undef, undef, undef, undef, undef, undef, undef, undef, undef, undef, undef], defers := [] } w7 := by
  intro b6 w7 D hC cK aa J;refine t _ _ ?_;clear t f av aO aP d aC;have T:=Zy (HA.oQ hC.kp hC.at_);have aD:Zz (Kp (MO l X) w w7):=Zy (dV.any.trans hC.mo);have⟨o,dQ,bR⟩:=jB cK (aV.kp hC.kp Zm) (aX b6 Zm);clear hC cK;rcases J with⟨rfl,rfl⟩|⟨L,eb,rfl⟩;rotate_left
  . replace h:Zz (jH p lk i g.st=(4,g.st)):=Zy (by rw[h.o,Tt L]);clear L;go_wp2;go_ret;rw[h.o];exact jZ.mk' aD (nA.refl _ _) T rfl
  have aJ:kC p ⟨⟨k,m⟩,C⟩=true:=by
   have K:(call p c.f.of.of.keeper i.name i.member).2=1:=by rw[HF.o]
   obtain⟨rr,aB⟩:=qU K;rw[HF.o]at aB;exact qK aB
  have eX := Zy aJ; have bB := tJ (nQ T.kr.ok aJ).1; obtain ⟨s, hm⟩ : ∃ s, M.method p ⟨⟨k, m⟩, C⟩ = s := ⟨_, rfl⟩; have bC := fun q (Z : ji q l p) => lH q l p Z ⟨⟨k, m⟩, C⟩ aJ; rw [hm] at bB bC; replace h : Zz (jH p lk i g.st = (match nk (s.args.length + 1) g.st with
   |some (e,s1)=>if object p (e.headD lX) ⟨k,m⟩ s1=1 then(match pick p (vI s1.heap (e.headD lX).n) i.member with
       |some H=>enter p lk H e s1
       |none=>(10,s1))else(object p (e.headD lX) ⟨k,m⟩ s1,s1)
   |none=>(10,g.st))):=Zy (by rw[h.o,Tv rfl,hm])
  have fu:=bB.Hr;have⟨dY,HM⟩:=jf bC hm;obtain⟨cu,cz,dA,z⟩:=qC.ex (fun W'=>Kp (PO X (Hg r.length)) w7 W') _ Kp.rr;have no:∀A Y,X A=some Y->¬Hg r.length Y->¬PO X (Hg r.length) A:=fun A Y Q hq ⟨q',K,h2⟩=>by rw[Q]at K;cases K;exact hq h2
  have dI:∀A,¬MO l X A->¬PO X (Hg r.length) A:=fun A Q hp=>Q hp.mo;have av:=fun j=>(T.blk.kp (z.jv j) (no _ _ T.role (by simp[Hg]))).c 0 (some l.L) rfl;obtain⟨-,aQ,aR,eP,-⟩:=hZ.lC fun j=>(o.kp (z.jv j) (dI _ bR));have f:=Zy z;have fH:IntKind.i64.wrap ((s.args.length:Int)+1)=s.args.length+1:=TK _ Zm;clear z aJ bB hm bC no dI;go_wp2_with fail;refine jW f 17 [([0,1,2,3,4,5,6,7],8),([9,10,11],12)] [13,14,15,16] ?_ ?_
  . exact jg
  refine lJ ?_;intro b a;go_wp2_with fail;refine(dY _ (T.kr.ext jg)).mono ?_;rintro n w8 ⟨⟨cs,dz,rfl⟩,df⟩;obtain⟨eQ,rfl⟩:=nU dz;obtain⟨a1,c1,a2,c2,a3,c3⟩:=eQ;have S:=Zy (((Kp.refl _ w7).drew:Ext w7 _).trans df);have eF:∀q,(Instr.field 132 (.agg (mF s ⟨a1,c1,a2,c2,a3,c3⟩).toArray) 1).run prog q=.ok (.slice a1 s.args.length c1) q:=(fun q=>by kernel_rfl);simp only[mF]at eF |-;clear dz df;go_wp2_with fail;refine kk f a S.any ?_;clear a b;refine lJ ?_;intro b a;by_cases aK:c.f.stack.length<s.args.length+1
  . replace h:Zz (jH p lk i g.st=(10,g.st)):=Zy (by rw[h.o,Gh.zb R.o aK]);have dC:=uH (T.ext S) r c R (s.args.length+1) aK Zm;have ek:=Zy dC;clear dC aK;go_wp2_with fail;refine ek.mono ?_;rintro n w9 ⟨rfl,rfl⟩;go_wp2_with fail;refine kk f a S.any ?_;clear a b;refine r9 [_,_,_,_] rfl fun V t=>?_;(repeat (go_big_quiet_step (fail)));refine qn t ?_;clear t V;go_wp2;go_ret;rw[h.o];exact jZ.mk' (aD.trans S.any) (nA.refl _ _) (T.ext S) rfl
  . obtain ⟨B, e, hs, aM⟩ : ∃ B e, c.f.stack = B ++ e /\ e.length = s.args.length + 1 :=
     ⟨c.f.stack.take (c.f.stack.length - (s.args.length+1)),c.f.stack.drop (c.f.stack.length - (s.args.length+1)),(V9 _ _).symm,by rw[Ui];omega⟩
    have dG:=(jD.1 (T.Du R)).2.2.2.2.2.2;have bf:=Zy (fun eT hv=>by simpa [Gh.st]using dG eT (by rw[hs];exact VH _ hv));have aF:Zz (∀x,jH p lk i g.st=if object p (e.headD lX) ⟨k,m⟩ (g.kH r c B x).st=1 then(match pick p (vI g.st.heap (e.headD lX).n) i.member with
        |some H=>enter p lk H e (g.kH r c B x).st
        |none=>(10,(g.kH r c B x).st))else(object p (e.headD lX) ⟨k,m⟩ (g.kH r c B x).st,(g.kH r c B x).st)):=Zy (fun x=>by rw[h.o,Gh.nk R.o hs aM x];rfl)
    have dD:=GL (T.ext S) r c R B e (s.args.length+1) hs aM Zm;have⟨bV,aG⟩:=jf dD aM;clear dD aK hs dG h aM;obtain⟨⟨ok,on⟩,aA⟩:∃bK,e[0]?=some bK:=⟨e[0]'(SX aG.o),Ou _⟩;have dx:e.headD lX=⟨ok,on⟩:=by
     cases e with
     |nil=>cases aA
     |cons fK r=>simpa using aA
    rw[dx]at aF;simp only at aF;have⟨bT,dW⟩:=jf (bf _ (RA aA)) aA;clear dx aA;go_wp2_with fail;refine bV.mono ?_;rintro n w9 ⟨v',rfl,W,bq,x,di⟩;have h:=Zy (aF x);obtain⟨P,gc,rfl,fA,-⟩:=jT W Zm;have⟨dX,aZ,bQ,bX⟩:=jU ((aD.trans S.any).trans (bq.weak fun A _ n=>n.mo)) (S.any.trans bq) di W;clear W bq di bV aF;go_wp2_with fail;refine kk f a aZ ?_;clear a b;clear f av aQ aR eP;refine r9 [_,_,_,_] rfl fun V t=>?_;(repeat (go_big_quiet_step (fail)));refine qn t ?_;clear t V;have aI:=lT (enc:=jY) (k:=2) (fun _=>rfl) bX dW;have cO:=o.kp aZ (fun hp=>bR.o hp.mo);have cB:=dQ.kp aZ (fun hp=>dZ.o hp.mo);obtain⟨cu,cz,dA,z⟩:=ll w9;have bL:=fun j=>(hH.ext aI (z.jv j)).two.1;have bM:=fun j=>(hH.ext aI (z.jv j)).two.2;simp only[Ua,Tm]at bL bM;obtain⟨-,aQ,aR,-⟩:=hZ.lC fun j=>(cO.ext (z.jv j));have⟨f,dS,dR⟩:=jB z aI cB;have fB:(0:Int)<s.args.length+1:=Zm
    clear z aI cO cB;go_wp2_with fail;refine jW f 7 [([0,1,2,3,4,5],6)] [] ?_ ?_
    . exact jg
    refine lJ ?_;intro b a;go_wp2_with fail;refine(ym (bQ.ext jg) ⟨ok,on⟩ bT ⟨k,m⟩).mono ?_;rintro n N ⟨rfl,cZ⟩;have ag:=Zy (((Kp.refl _ w9).drew:Ext w9 _).trans cZ);have⟨v,aj⟩:=jf (bQ.ext ag) (dX.trans ag.any);clear cZ;obtain⟨ob,ae⟩:∃ob,object p ⟨ok,on⟩ ⟨k,m⟩ (g.kH r c B x).st=ob:=⟨_,rfl⟩;by_cases aL:ob=1;rotate_left
    . replace h:Zz (jH p lk i g.st=(ob,(g.kH r c B x).st)):=Zy (by rw[h.o,ae,Tt aL]);have fF:=TI.2 aL;rw[ae];clear ae aL;go_wp2_with fail;refine kk f a ag ?_;clear a b;clear f bL bM aQ aR;refine ku ?_;go_wp2;go_ret;rw[h.o];exact jZ.mk' aj (nA.refl _ _) v rfl
    . subst aL;replace h:Zz (jH p lk i g.st=(match pick p (vI g.st.heap on) i.member with
       |some H=>enter p lk H e (g.kH r c B x).st
       |none=>(10,(g.kH r c B x).st))):=Zy (by rw[h.o,Tv ae])
      have bS:=Zy ae;obtain⟨bF,-⟩:=uL ae;simp only at bF;obtain⟨eO,bD⟩:=sJ bT bF;simp only at eO bD;obtain⟨af,rfl⟩:∃af:Nat,on=af:=⟨on.toNat,Zm⟩;obtain⟨go,bz⟩:∃bK,g.os[af]?=some bK:=⟨g.os[af]'Zm,Ou _⟩;have aY:Zz (vI g.st.heap af=go.o.of):=Zy (AQ (by simp[Gh.st,bz]));obtain⟨rr,dE⟩:∃rr,pick p rr i.member=some ⟨⟨k,m⟩,C⟩:=by
       have K:(call p c.f.of.of.keeper i.name i.member).2=1:=by rw[HF.o]
       obtain⟨rr,aB⟩:=qU K;rw[HF.o]at aB;exact⟨rr,aB⟩
      have bW:=Zy dE;obtain⟨F,G,E,pb,bH,dB⟩:∃F G E pb,((pick p go.o.of i.member).getD qw=⟨⟨F,G⟩,E⟩/\(pick p go.o.of i.member).isSome=pb)/\((pb=false->pick p (vI g.st.heap af) i.member=none)/\(pb=true->pick p (vI g.st.heap af) i.member=some ⟨⟨F,G⟩,E⟩)):=by
       rw[aY.o];cases n:pick p go.o.of i.member with
       |none=>exact⟨_,_,_,_,⟨rfl,rfl⟩,(fun _=>rfl),(fun I=>by cases I)⟩
       |some H=>exact⟨H.of.keeper,H.of.name,H.at_,true,⟨rfl,rfl⟩,(fun I=>by cases I),(fun _=>rfl)⟩
      have ak:=Zy dB;have bI:=fun q (Z:ji q l p)=>DX q l p Z go.o.of i.member;rw[bH.1,bH.2]at bI;have bU:=Zy bI;have W:=v.heap.row;obtain⟨ha,dm,bJ⟩:=v.heap.form;rw[bJ]at W;obtain⟨Q,fw,eb,-⟩:=jT W (by show 0<g.os.length;omega);cases eb;have bu:=lT (enc:=qd) (k:=3) (fun _=>rfl) W (l:=g.os) bz;have fo:l.D<w.heap.size:=Zm
      have fG:(w:Nat)<=N:=aj.size;have eD:l.L<N:=Zm
      have eH:w<=P:=SY S.size aD.size
      have bP:=Zy eH;have bZ:Zz (∀q,Kp (·=l.D) N q->q.ownsRow w8 37 2 (.slice (some ⟨P,0,none⟩) (s.args.length+1) gc) e.length (e.flatMap jY)):=Zy (fun q Z=>by
       rw[show e.length=s.args.length+1 from aG.o];exact jb (jb (D:=fun _=>False) bX ag fun _ _ _ H=>H) Z (fun Y hq _ n=>by
        have K:P=Y:=by simpa [Value.ownBlock]using hq
        omega))
      have bE:∀A,aT<=A->¬A=l.D:=fun A Q n=>SY v.hB v.kr.ord
      obtain⟨T2,f2,fD,O⟩:=qC.ex (fun W'=>LC l p N W') N (LC.refl v.kr);have s0:=fun j=>(v.oQ (O.jv j).kp (O.jv j).at_).blk.c 0 (some l.L) rfl;have s4:=fun j=>(v.oQ (O.jv j).kp (O.jv j).at_).blk.c 4 (Q,g.os.length,dm) (by rw[show(Value.slice (some ⟨Q,0,none⟩) g.os.length dm)=g.vh from bJ.symm];rfl);have eG:¬P=l.D:=Zm
      have sg:=fun j=>(O.jv j).kp.lL (hH.ext dS ag).two.2 eG;simp only[Ua,Tm]at sg;have bA:=(W.lt Q rfl).1;have dK:=fun j=>(O.jv j).kp.lL bu.three.1 (bE _ bA);have dL:=fun j=>(O.jv j).kp.lL bu.three.2.1 (bE _ bA);have dJ:=fun j=>((dR.ext ag).kp (O.jv j).kp Zm).c 3 i.member rfl;have U:=Zy O;have fC:(af:Int)<g.os.length:=bD;have fE:(0:Int)<s.args.length+1:=Zm
      clear O W bu bJ bz bI bH dB dE bF bD bE bA;rw[ae];clear ae;go_wp2_with fail;refine kk f a ag ?_;clear a b;clear f bL bM aQ aR;refine ku ?_;go_wp2_with fail;(refine Cz f2 23 (.two [0,1,2,3,4,5,6,7,8,9,10,11,12,13,14,15,16] 17 21 (.one [18,19,20] 21 (.one [] 22 (.fin []))) (.one [] 17 (.one [18,19,20] 22 (.fin [])))) (U.o.o _ ?_) Zo Zo (fun _ _ eB _ _ I=>by cases eB<;>exact I) ?_)
      . exact(LC.refl v.kr).drew
      refine two [_,_,_,_,_,_,_,_,_,_,_,_,_,_,_,_,_] rfl rfl rfl fun V t=>?_;(repeat (go_big_quiet_step (fail)));((refine F5 t (fun b a=>?_) fun b a=>?_)<;>clear t V)
      . go_wp2_with fail;refine(bU _ (v.kr.ext jg)).mono ?_;rintro n wP ⟨rfl,az,au⟩;have ai:=Zy ((LC.refl v.kr).drew.step az au);clear az au;go_wp2_with fail;((refine a _ _ (U.o.o _ ai) ?_);clear a b);refine Bi ?_;intro b a;go_wp2_with fail;((refine a _ _ (U.o.o _ (ai.ext (jw _))) ?_);clear a b);refine jX rfl fun b a=>?_;go_wp2_with fail;obtain⟨aS,aN⟩:=SS (wP.alloc (.cells #[.int .i64 F,.string G,.int .i64 E] 78));rw[<-aN];have u:Zz (LC l p N aS):=Zy (by rw[aN];exact ai.ext (jw _));have aU:Zz (hZ aS wP 78 #[.int .i64 F,.string G,.int .i64 E]):=Zy (by rw[aN];exact hZ.new _ _ _);((refine a _ _ (U.o.o _ u) ?_);clear a b);clear U s0 s4 sg dK dL dJ aN;refine kL ?_;cases pb
        . replace h:Zz (jH p lk i g.st=(10,(g.kH r c B x).st)):=Zy (by rw[h.o,ak.o.1 rfl]);go_wp2;go_ret;rw[h.o];skip;exact jZ.mk' (aj.trans u.mo) (nA.refl _ _) (v.oQ u.kp u.at_) rfl
        . replace h:Zz (jH p lk i g.st=enter p lk ⟨⟨F,G⟩,E⟩ e (g.kH r c B x).st):=Zy (by rw[h.o,ak.o.2 rfl]);have ah:=Zy (ak.2 rfl);have ed:Zz (pick p go.o.of i.member=some ⟨⟨F,G⟩,E⟩):=Zy (by rw[<-aY.o];exact ah);obtain⟨ez,e0,e1,e2,-⟩:=aU.ca;go_wp2_with fail;skip;refine(zS _ _ _ _ _ _ _ bY _ (v.oQ u.kp u.at_) dF ⟨⟨F,G⟩,E⟩ (qK ah) w8 (.slice (some ⟨P,0,none⟩) (s.args.length+1) gc) e (bZ _ u.kp) (fun Y hq=>by
           have K:P=Y:=by simpa [Value.ownBlock]using hq
           rw[<-K];exact aX P bP) bf (by
           have:=BJ bW (uL bS).2 ah;rw[this,HM.o];exact aG)).mono ?_
          rintro n eU ay;have HZ:=Zy (jZ.after (aj.trans u.mo) (nA.refl _ _) ay);obtain⟨rfl,-⟩:=ay;rw[<-h.o]at HZ |-;clear e0 e1 e2 ez;go_wp2;go_ret;exact HZ
      . go_wp2_with fail;((refine a _ _ (U.o.o _ ((LC.refl v.kr).drew.ext (jw _))) ?_);clear a b);refine jX rfl fun b a=>?_;have bO:Zz (LC l p N (N.drew.alloc (.cells #[Tc, "",Tc] 78))):=Zy ((LC.refl v.kr).drew.ext (jw _));have dO:Zz (hZ (N.drew.alloc (.cells #[Tc, "",Tc] 78)) N 78 #[Tc, "",Tc]):=Zy (hZ.new _ _ _);go_wp2_with fail;refine(bU _ bO.at_).mono ?_;rintro n wP ⟨rfl,az,au⟩;have⟨ai,aW⟩:=jf (bO.step az au) (dO.kp au Zm);clear az au;go_wp2_with fail;((refine a _ _ (U.o.o _ ai) ?_);clear a b);refine Bi ?_;intro b a;obtain⟨z6,y0,y1,y2,-⟩:=aW.ca;obtain⟨g0,g1,g2,-⟩:=aW.fz;have⟨u,aU⟩:=jf (LC.own ai (Kp.wX (D:=(·=N)) rfl (.int .i64 F) (.string G) (.int .i64 E)) (T9 _) eD) (aW.wX (.int .i64 F) (.string G) (.int .i64 E));go_wp2_with fail;((refine a _ _ (U.o.o _ u) ?_);clear a b);clear U s0 s4 sg dK dL dJ y0 y1 y2 g0 g1 g2 z6;refine kL ?_;cases pb
        . replace h:Zz (jH p lk i g.st=(10,(g.kH r c B x).st)):=Zy (by rw[h.o,ak.o.1 rfl]);go_wp2;go_ret;rw[h.o];skip;exact jZ.mk' (aj.trans u.mo) (nA.refl _ _) (v.oQ u.kp u.at_) rfl
        . replace h:Zz (jH p lk i g.st=enter p lk ⟨⟨F,G⟩,E⟩ e (g.kH r c B x).st):=Zy (by rw[h.o,ak.o.2 rfl]);have ah:=Zy (ak.2 rfl);have ed:Zz (pick p go.o.of i.member=some ⟨⟨F,G⟩,E⟩):=Zy (by rw[<-aY.o];exact ah);obtain⟨ez,e0,e1,e2,-⟩:=aU.ca;go_wp2_with fail;skip;refine(zS _ _ _ _ _ _ _ bY _ (v.oQ u.kp u.at_) dF ⟨⟨F,G⟩,E⟩ (qK ah) w8 (.slice (some ⟨P,0,none⟩) (s.args.length+1) gc) e (bZ _ u.kp) (fun Y hq=>by
           have K:P=Y:=by simpa [Value.ownBlock]using hq
           rw[<-K];exact aX P bP) bf (by
           have:=BJ bW (uL bS).2 ah;rw[this,HM.o];exact aG)).mono ?_
          rintro n eU ay;have HZ:=Zy (jZ.after (aj.trans u.mo) (nA.refl _ _) ay);obtain⟨rfl,-⟩:=ay;rw[<-h.o]at HZ |-;clear e0 e1 e2 ez;go_wp2;go_ret;exact HZ
 have bg:=Zy dM;clear dM t;refine qp f 16 (.two [0,1,2,3,4,6,7,8,9] 5 14 (.two [] 10 14 (.one [11,12,13] 14 (.one [] 15 (.fin []))) (.one [] 10 (.one [11,12,13] 15 (.fin [])))) (.one [] 5 (.one [] 10 (.one [11,12,13] 15 (.fin []))))) ?_ ?_
 . exact d
 refine two [_,_,_,_,_,_,_,_,_] rfl rfl rfl fun V t=>?_;(repeat (go_big_quiet_step (fail)));((refine F5 t (fun b a=>?_) fun b a=>?_)<;>clear t V)
 . go_wp2_with fail;refine(mZ c.f.of.of.keeper (((HA.oQ d.kp d.at_).at_ R).blk.c 0 _ rfl)).mono ?_;rintro n we ⟨rfl,rfl⟩;go_wp2_with fail;refine kk f a d ?_;clear a b;refine Fw rfl rfl (fun b a=>?_) fun b a=>?_
   . go_wp2_with fail;refine(aC _ d).mono ?_;rintro n wc ⟨D,rfl,J,hk,L⟩;replace d:=Zy L;have ax:=Zy J;clear hk L J;go_wp2_with fail;refine kk f a d ?_;clear a b;refine Bi ?_;intro b a;go_wp2_with fail;refine kk f a (d.ext (jw _)) ?_;clear a b;refine jX rfl fun b a=>?_;go_wp2_with fail;refine kk f a (d.ext (jw _)) ?_;clear a b;have aa:=d.kp.size;have o:=Zy (hZ.new (wc) 78 #[k,m,C]);replace d:=Zy (d.ext (jw (.cells #[k,m,C] 78)));clear f av aO aP;refine kL ?_;go_wp2_with fail;exact bg _ _ _ d o aa ax
   . go_wp2_with fail;refine kk f a (d.ext (jw _)) ?_;clear a b;have aa:(y:Nat)<=y:=d.kp.size;have o:Zz (hZ (y.drew.alloc (.cells #[Tc, "",Tc] 78)) y 78 #[Tc, "",Tc]):=Zy (hZ.new _ _ _);replace d:=Zy (d.ext (jw (.cells #[Tc, "",Tc] 78)));refine jX rfl fun b a=>?_;go_wp2_with fail;refine(aC _ d).mono ?_;rintro n wc ⟨D,rfl,J,hk,L⟩;replace o:=Zy (o.kp hk Zm);replace d:=Zy L;have ax:=Zy J;clear hk L J;go_wp2_with fail;refine kk f a d ?_;clear a b;refine Bi ?_;intro b a;obtain⟨z6,y0,y1,y2,-⟩:=o.ca;obtain⟨g0,g1,g2,-⟩:=o.fz;go_wp2_with fail;replace d:=Zy (LC.own d (Kp.wX (D:=(·=_)) rfl k m C) aa dh);replace o:=Zy (o.wX k m C);refine kk f a d ?_;clear a b;clear y0 g0 y1 g1 y2 g2 z6;clear f av aO aP;refine kL ?_;go_wp2_with fail;exact bg _ _ _ d o aa ax
 . go_wp2_with fail;refine kk f a (d.ext (jw _)) ?_;clear a b;have aa:(y:Nat)<=y:=d.kp.size;have o:Zz (hZ (y.drew.alloc (.cells #[Tc, "",Tc] 78)) y 78 #[Tc, "",Tc]):=Zy (hZ.new _ _ _);replace d:=Zy (d.ext (jw (.cells #[Tc, "",Tc] 78)));refine jX rfl fun b a=>?_;go_wp2_with fail;refine(mZ c.f.of.of.keeper (((HA.oQ d.kp d.at_).at_ R).blk.c 0 _ rfl)).mono ?_;rintro n we ⟨rfl,rfl⟩;go_wp2_with fail;refine kk f a d ?_;clear a b;refine jX rfl fun b a=>?_;go_wp2_with fail;refine(aC _ d).mono ?_;rintro n wc ⟨D,rfl,J,hk,L⟩;replace o:=Zy (o.kp hk Zm);replace d:=Zy L;have ax:=Zy J;clear hk L J;go_wp2_with fail;refine kk f a d ?_;clear a b;refine Bi ?_;intro b a;obtain⟨z6,y0,y1,y2,-⟩:=o.ca;obtain⟨g0,g1,g2,-⟩:=o.fz;go_wp2_with fail;replace d:=Zy (LC.own d (Kp.wX (D:=(·=_)) rfl k m C) aa dh);replace o:=Zy (o.wX k m C);refine kk f a d ?_;clear a b;clear y0 g0 y1 g1 y2 g2 z6;clear f av aO aP;refine kL ?_;go_wp2_with fail;exact bg _ _ _ d o aa ax
def PK(n:Nat):Nat:=
 if n=1 then 112 else if n=2 then 113 else if n=3 then 114 else if n=4 then 115 else if n=5 then 116 else if n=6 then 117 else
 if n=7 then 118 else if n=8 then 119 else if n=9 then 120 else if n=10 then 121 else if n=11 then 122 else if n=12 then 123 else
 if n=13 then 124 else if n=14 then 125 else 126
def KI(v:Value):Array Value:=#[.nilFunc,.func (.func 112) #[v] #[],.func (.func 113) #[v] #[],.func (.func 114) #[v] #[],.func (.func 115) #[v] #[],.func (.func 116) #[v] #[],.func (.func 117) #[v] #[],
 .func (.func 118) #[v] #[],.func (.func 119) #[v] #[],.func (.func 120) #[v] #[],.func (.func 121) #[v] #[],.func (.func 122) #[v] #[],.func (.func 123) #[v] #[],.func (.func 124) #[v] #[],
 .func (.func 125) #[v] #[],.func (.func 126) #[v] #[]]
theorem LV(v:Value){n:Nat}(a:1<=n)(b:n<=15):(KI v)[n]?=some (.func (.func (PK n)) #[v] #[]):=by
 have:n=1\/n=2\/n=3\/n=4\/n=5\/n=6\/n=7\/n=8\/n=9\/n=10\/n=11\/n=12\/n=13\/n=14\/n=15:=Zm
 rcases this with rfl|rfl|rfl|rfl|rfl|rfl|rfl|rfl|rfl|rfl|rfl|rfl|rfl|rfl|rfl<;>rfl
theorem N7(a:1<=n)(b:n<=15)(args:Array Value)(w:World):(callFunc (PK n) args).run prog w=.ok (.enter (PK n) args) w:=by
 have:n=1\/n=2\/n=3\/n=4\/n=5\/n=6\/n=7\/n=8\/n=9\/n=10\/n=11\/n=12\/n=13\/n=14\/n=15:=Zm
 rcases this with rfl|rfl|rfl|rfl|rfl|rfl|rfl|rfl|rfl|rfl|rfl|rfl|rfl|rfl|rfl
 . exact jG func112 rfl Zo args w
 . exact jG func113 rfl Zo args w
 . exact jG func114 rfl Zo args w
 . exact jG func115 rfl Zo args w
 . exact jG func116 rfl Zo args w
 . exact jG func117 rfl Zo args w
 . exact jG func118 rfl Zo args w
 . exact jG func119 rfl Zo args w
 . exact jG func120 rfl Zo args w
 . exact jG func121 rfl Zo args w
 . exact jG func122 rfl Zo args w
 . exact jG func123 rfl Zo args w
 . exact jG func124 rfl Zo args w
 . exact jG func125 rfl Zo args w
 . exact jG func126 rfl Zo args w
theorem QS{k:Own}{h: Nat}(m:Zz (lk=true->zJ)){g:Gh}(a:jm w l p k j h lk g)(r:List GC)(c:GC)(b:g.cs=r++[c])(f:g.status=1)(i:Ins)(n:Nat)(e:i.op=n)(d:oP (M.method p c.f.of) i=true):Calls prog (PK n) #[some h,.agg #[i.op,i.a,i.name,i.member]] w (jZ w l p k j h lk (.int .i64 (jH p lk i g.st).1) (jH p lk i g.st).2):=by
 obtain⟨_,_,_,_,o,_⟩:=qJ d;have:n=1\/n=2\/n=3\/n=4\/n=5\/n=6\/n=7\/n=8\/n=9\/n=10\/n=11\/n=12\/n=13\/n=14\/n=15:=Zm
 rcases this with rfl|rfl|rfl|rfl|rfl|rfl|rfl|rfl|rfl|rfl|rfl|rfl|rfl|rfl|rfl
 . exact QU a r c b f i d e
 . exact Pg a r c b f i d e
 . exact QW a r c b f i d e
 . exact QQ a r c b f i d e
 . exact Pf a r c b f i e
 . exact QT a r c b f i d e
 . exact QR a r c b f i d e
 . exact QY a r c b f i d e
 . exact Pd m a r c b f i d e
 . exact QX a r c b f i d e
 . exact Ph a r c b f i d e
 . exact M9 a r c b f i d e
 . exact RV a r c b f i d e
 . exact QV a r c b f i d e
 . exact Pe a r c b f i d e
theorem LM(w:World)(l:jk)(p:iZ)(E:Own)(S m:Nat)(lk:Bool)(aI:Zz (lk=true->zJ))(g:Gh)(j:jm w l p E S m lk g)(r:List GC)(c:GC)(t:g.cs=r++[c])(C:g.status=1):Calls prog 71 #[some m] w (jZ w l p E S m lk (.tuple #[]) (M.step p lk g.st)):=by
 have aj:=j.mi t;have Q:=j.Du t;obtain⟨n,R⟩:∃n:Nat,c.f.pc=n:=⟨c.f.pc.toNat,by simp[kZ]at Q;omega⟩;have aQ:n<(M.method p c.f.of).code.length:=by simp[kZ]at Q;omega
 obtain⟨⟨op,u,x,v⟩,z⟩:=om (M.method p c.f.of).code n aQ;have A:=aj.ins _ (RA z);obtain⟨d,rfl⟩:∃d:Nat,op=d:=⟨op.toNat,by have:=(qJ A).2.2.2.2.1;simp only at this;omega⟩;have B:1<=d/\d<=15:=by have:=(qJ A).2.2.2.2.1;simp only at this;omega
 have HS:Zz (M.step p lk g.st=end_ (jH p lk ⟨d,u,x,v⟩ g.st).1 (jH p lk ⟨d,u,x,v⟩ g.st).2):=Zy (by
  unfold M.step stepped;rw[Tv (show g.st.status=1 from C),Gh.top t,R];simp[z])
 have e2:=j.blk.c 2 g.status rfl;rw[C]at e2;obtain⟨F,k⟩:=SS (w.alloc (.cells (KI (some m)) 228));have W:hZ F w 228 (KI (some m)):=by rw[k];exact hZ.new _ _ _
 have O:Ext w F:=by rw[k];exact kx
 have⟨T,U,aB,ay,aU,G,aJ,HI,aF⟩:=sV j (j.ext O) O W k t C z A;have HN:=Zy R;unfold KI at k;have HX:=Zy k;clear j O W k t C z A aj Q R;go_enter func71,ntmps71;go_wp2_with fail;rw[<-HX.o];refine(kX _ _ _ _ _ _ _ _ U r c G).mono ?_;rintro Z e ⟨rfl,y⟩;have L:=U.ext y;have N:=ay.ext y;have bf:(w:Nat)<e:=N.lt;have s:=L.at_ G;have cz:=s.blk.lt;obtain⟨aV,bg,cs,ea,aP,rfl,-,P⟩:=(jd.code s.ml).get HI;have hz:=P;obtain⟨J,g1,g2,K⟩:=P.four;have gz:=jc J;obtain⟨aM,aO,aR,b⟩:=ll e;have Y:=fun a=>(s.blk.ext (b.jv a)).c 9 (.slice c.t.a2 (M.method p c.f.of).code.length c.t.c2) rfl;have aN:=fun a=>(s.blk.ext (b.jv a)).c 11 n (by rw[<-HN.o];rfl);have y0:=fun a=>(b.jv a).je J;have y1:=fun a=>(b.jv a).je g1;have y2:=fun a=>(b.jv a).je g2;have y3:=fun a=>(b.jv a).je K;rw[ea]at Y;have⟨h,ak,ax,aC⟩:=jU b L N (aB.trans y);have aZ:(n:Int)<(M.method p c.f.of).code.length:=Zm
 clear L N s y P hz ea aP b J g1 g2 K;go_wp2_with fail;refine jW h 12 [([0,1,2,3,4,5,6,7,8,9,10],11)] [] ?_ ?_
 . exact jg
 refine lJ ?_;intro q f;go_wp2_with fail;refine kk h f ((Kp.refl _ e).drew.alloc _:Ext e _) ?_;clear f q;obtain⟨o,D⟩:=SS ((e.alloc (.cells #[d,u,x,v] 140)).drew);have ae:Ext e o:=by rw[D];exact((Kp.refl _ e).alloc _).drew
 have X:hZ o e 140 #[d,u,x,v]:=by rw[D];exact(hZ.newAt _ _ rfl).ext jg
 have⟨H,aA,aK⟩:=jB ae X D;clear ae X D h Y aN y0 y1 y2 y3;refine ku ?_;go_wp2_with fail;rw[<-aK.o];have au:=Zy (ak.ext H);have az:=Zy (ax.ext H);have aS:=T.fresh (T9 _);have aT:¬MO l E e.heap.size:=T.fresh Zm;obtain⟨aM,aO,aR,b⟩:=qC.ex (fun W'=>Kp (MO l E) o W') _ Kp.rr;obtain⟨-,r0,r1,r2,r3,-⟩:=hZ.lC fun a=>(aA.kp (b.jv a) aT);have rf:=fun a=>(az.kp (b.jv a) aS).c d _ (LV (some m) B.1 B.2);have aY:(d:Int)<16:=Zm
 have aX:(0:Int)<=d:=Zm
 have h:=Zy b;have aW:=N7 B.1 B.2;clear b;refine jW h 8 [([0,1,2,3,4,5],6),([],7)] [] ?_ ?_
 . exact jg
 refine lJ ?_;intro q f;go_wp2_with fail;refine(QS aI (au.ext jg) r c G aJ ⟨d,u,x,v⟩ d rfl aF).mono ?_;rintro Z w3 i;obtain⟨rfl,af,bn,K,ah,aa,ai⟩:=i.behind ((Kp.refl _ o).drew);have⟨av,I,V,aD⟩:=jU aa af ah ai;clear i af aa ah ai;go_wp2_with fail;refine kk h f I ?_;clear f q;refine kN rfl fun q f=>?_;go_wp2_with fail;refine(Iq _ _ _ _ _ _ _ _ av _).mono ?_;rintro Z w4 i;rw[aD.o]at i;have hE:=(i.after I V).behind (aC.trans H);obtain⟨rfl,ag,hX⟩:=hE;have⟨aL,aG⟩:=jf hX ag;have aH:=Zy (i.after I V).2.1;clear i hX ag;go_wp2_with fail;refine kk h f aH ?_;clear f q;refine tH rfl ?_;refine Ta ?_;rw[HS.o];exact⟨rfl,aG,aL⟩
theorem Ew (w : World) (I : Nat -> Prop) (cs : List Value) (m : M.Method) (A : jd w I m cs) (args : List Int) (t : Option Addr) (u : Nat) (Q : args.length <= 4294967296) :Calls prog 87 #[.agg cs.toArray,.slice t args.length u] w fun x G=>x=.returned (.bool (pU m args))/\Ext w G:=by
 obtain⟨V,E,F,rfl,o,N,O⟩:=A;obtain⟨s,v,rfl,T,R⟩:=o.form;by_cases c:m.args.length=args.length
 . have d : Zz (pU m args = m.args.all fun a => decide (a.kind = 1)) := Zy (by unfold pU; rw [Tz c]; rfl); have C : ((m.args.length : Int) != args.length) = false := by simp [c]
   have H:=Zy c;clear c;obtain⟨e,i⟩:=SS (w.alloc (.cells #[m.name,.slice s m.args.length v,m.ret.kind,m.ret.name,m.locals,m.stack,E,F] 132));have p:Ext w e:=by rw[i];exact kx
   have⟨g,r⟩:=jf p i;clear p i;go_enter func87,ntmps87;go_wp2_with fail;rw[<-r.o];go_loopw [16] (fun k wr=>∃a:Nat,a<=m.args.length/\k=.int .i64 a/\Ext e wr/\Zz ((m.args.take a).all (fun a=>decide (a.kind=1))=true)) (fun k _=>m.args.length - (intOf k).toNat)
   case atStart=>exact⟨0,SV _,rfl,Kp.rr,Zy Zl⟩
   case round =>
    obtain⟨a,S,rfl,B,l⟩:=hrel;by_cases D:a<m.args.length
    . obtain⟨f,j⟩:=get_some D;obtain⟨J,U,cs,rfl,P,rfl,-,q⟩:=o.get j;obtain⟨z,K⟩:=((q.ext g.o).ext B).two;have L:=jc z;have n:=Zy j;clear j q;by_cases b:f.kind=1
      . have y:((f.kind:Int) !=1)=false:=by simp[b]
        have h:Zz (decide (f.kind=1)=true):=Zy (by simp[b]);clear b;go_wp2;go_roundw
        case rel=>exact⟨a+1,Zm,by go_num,kx,Zy (all_succ l.o n.o h.o)⟩
        case measure=>simp[intOf];omega
      . have y:=TI.2 b;have h:Zz (decide (f.kind=1)=false):=Zy (by simp[b]);clear b;go_wp2;go_ret;exact⟨hQ (by rw[d.o];exact(rM n.o h.o).symm),g.o.trans kx⟩
    . go_wp2;go_ret;exact⟨hQ (by rw[d.o];exact(qg l.o Zm).symm),g.o.trans kx⟩
 . have C:((m.args.length:Int) !=args.length)=true:=TI.2 Zm;have d:Zz (pU m args=false):=Zy (by unfold pU;rw[SL c];rfl);clear c;go_enter func87,ntmps87;go_wp2;go_ret;exact⟨hQ (by rw[d.o]),kx⟩
theorem Jg (v : Val) (n : Nat) :Calls prog 106 #[.agg #[v.kind,v.n],n] w fun g l=>g=.returned (.bool (jS v n))/\Ext w l:=by
 obtain⟨b,a⟩:=v;by_cases d:b=0\/b=3
 . have c:Zz (jS ⟨b,a⟩ n=decide (a=0)):=Zy (by unfold jS;rw[Tv d]);rcases d with rfl|rfl
   all_goals
    go_enter func106,ntmps106;go_wp2;go_ret;exact⟨hQ (by rw[c.o];by_cases k:a=0<;>simp[k]),kx⟩
 . have h : ((b : Int) == 0) = false := SF.2 Zm; have i : ((b : Int) == 3) = false := SF.2 Zm; by_cases e : b = 1
   . subst e;have c:Zz (jS ⟨1,a⟩ n=nZ a):=Zy (by unfold jS;simp);clear d h i;go_enter func106,ntmps106;go_wp2_with fail;refine(GU a _).mono ?_;rintro g o ⟨rfl,rfl⟩;go_wp2;go_ret;exact⟨hQ (by rw[c.o];rfl),kx⟩
   . have j:=SF.2 e;by_cases f:b=2
     . subst f;have c:Zz (jS ⟨2,a⟩ n=(decide (0<=a)&&decide (a<n))):=Zy (by unfold jS;simp);clear d h i e j;go_enter func106,ntmps106;go_wp2_with fail
       all_goals
        go_ret;exact⟨hQ (by rw[c.o];by_cases p:0<=a<;>by_cases q:a<n<;>simp_all<;>omega),kx⟩
     . have m:=SF.2 f;have c:Zz (jS ⟨b,a⟩ n=false):=Zy (by unfold jS;rw[Tt d,Tt e,Tt f]);clear d e f;go_enter func106,ntmps106;go_wp2;go_ret;exact⟨hQ (by rw[c.o]),kx⟩
theorem BR(I:Nat->Prop){v:Value}(l:List Val)(h:SliceOf 2 mY w I v l)(n:Nat):Calls prog 160 #[v,n] w fun g p=>g=.returned (.bool (l.all (jS · n)))/\Ext w p:=by
 obtain⟨q,s,rfl,C,A⟩:=h.form;go_enter func160,ntmps160;go_wp2;go_loopw [9] (fun d wr=>∃a:Nat,a<=l.length/\d=.int .i64 a/\Ext w wr/\Zz ((l.take a).all (jS · n)=true)) (fun d _=>l.length - (intOf d).toNat)
 case atStart=>exact⟨0,SV _,rfl,Kp.rr,Zy Zl⟩
 case round =>
  obtain⟨a,B,rfl,m,e⟩:=hrel;by_cases o:a<l.length
  . obtain⟨k,c⟩:=get_some o;obtain⟨r,D,t,rfl,z,rfl,-,i⟩:=h.get c;obtain⟨u,x⟩:=(i.ext m).two;have f:=Zy c;clear c i;cases j:jS k n
    all_goals
     have b:=Zy j;clear j;go_wp2_with (go_at_call 106;refine(Jg k n).mono ?_;rintro g E ⟨rfl,y⟩;rw[b.o])
    . go_ret;exact⟨hQ (rM f.o b.o).symm,Zv⟩
    . go_roundw
      case rel=>exact⟨a+1,Zm,by go_num,Zv,Zy (all_succ e.o f.o b.o)⟩
      case measure=>simp[intOf];omega
  . go_wp2;go_ret;exact⟨hQ (qg e.o Zm).symm,kx⟩
def wC:lZ qG:=fun w I x cs=>∃vf,cs=[.int .i64 x.of.keeper,.string x.of.name,vf]/\SliceOf 2 mY w I vf x.fields
def Dc:lZ Fr:=fun w I x cs=>∃vl vs,cs=[.int .i64 x.of.of.keeper,.string x.of.of.name,.int .i64 x.of.at_,.int .i64 x.pc,vl,vs]/\SliceOf 2 mY w I vl x.locals/\SliceOf 2 mY w I vs x.stack
theorem wC.stays:jM wC:=fun _ _ _ _ _ _ b a ⟨c,e,h⟩=>⟨c,e,h.keep mY.stays b a⟩
theorem Dc.stays:jM Dc:=fun _ _ _ _ _ _ b a ⟨c,vs,e,h1,h2⟩=>⟨c,vs,e,h1.keep mY.stays b a,h2.keep mY.stays b a⟩
def kg:lZ St:=fun w I x cs=>∃vf vh vo,cs=[.int .i64 x.status,vf,vh,vo,.int .i64 x.back.kind,.int .i64 x.back.n]/\SliceOf 6 Dc w I vf x.frames/\SliceOf 3 wC w I vh x.heap/\SliceOf 1 oW w I vo x.outs
theorem kg.stays:jM kg:=fun _ _ _ _ _ _ b a ⟨c,vh,d,e,h1,h2,h3⟩=>⟨c,vh,d,e,h1.keep Dc.stays b a,h2.keep wC.stays b a,h3.keep oW.stays b a⟩
theorem kg.form{x:St}(j:kg w I x cs):∃a d b e c f,cs=[.int .i64 x.status,.slice a x.frames.length d,.slice b x.heap.length e,.slice c x.outs.length f,.int .i64 x.back.kind,.int .i64 x.back.n]/\SliceOf 6 Dc w I (.slice a x.frames.length d) x.frames/\SliceOf 3 wC w I (.slice b x.heap.length e) x.heap/\SliceOf 1 oW w I (.slice c x.outs.length f) x.outs:=by
 obtain⟨_,_,_,rfl,g,h,i⟩:=j;obtain⟨a,d,rfl,_⟩:=g.form;obtain⟨b,e,rfl,_⟩:=h.form;obtain⟨c,f,rfl,_⟩:=i.form;exact⟨a,d,b,e,c,f,rfl,g,h,i⟩
theorem LC.same{W: World}(a:LC l p w W)(e:l.O<l.D):Same (· <l.O) w W:=a.kp.same fun b d c=>Zm
theorem SliceOf.lc{R:lZ α}(hR:jM R){l:jk}{p:iZ}{w W:World}{v:Value}{xs:List α}(b:SliceOf k R w (· <l.O) v xs)(a:LC l p w W):SliceOf k R W (· <l.O) v xs:=
 b.keep hR (a.same (SX a.at_.ord)) fun _ c=>c
theorem Ju.bad{b:List qG}{q:Nat}{a:qG}(d:b[q]?=some a)(c:(ko p a.of&&decide (a.fields.length=(layout p a.of).length)&&a.fields.all (jS · b.length))=false):pE p b=false:=by
 unfold pE;rw[Bool.and_eq_false_iff];right;rw[Ws];exact⟨a,RA d,by rw[c];simp⟩
theorem GH (o : ji w l p) {v: Value} (a : List qG) (z : SliceOf 3 wC w (· < l.O) v a) :Calls prog 105 #[some l.L,v] w fun x w'=>x=.returned (.bool (pE p a))/\LC l p w w':=by
 obtain⟨av,ay,rfl,hn,aC⟩:=z.form;have aB:=o.ET;have aJ:=o.ord;by_cases O:12<a.length
 . have D:Zz (pE p a=false):=Zy (by unfold pE;rw[SL Zm];rfl);have ah:(12:Int)<a.length:=Zm
   have B:=Zy o;clear o z O;go_enter func105,ntmps105;go_wp2;go_ret;exact⟨hQ D.symm,LC.refl B⟩
 . have D : Zz (pE p a = a.all fun c => ko p c.of && decide (c.fields.length = (layout p c.of).length) && c.fields.all (jS · a.length)) := Zy (by unfold pE; rw [Tz Zm]; rfl); have ah : ((12 : Int) < a.length) = False := VB Zm; have ⟨B, HH⟩ := jf o z; have aG : a.length <= 12 := by omega
   clear o z O;go_enter func105,ntmps105;go_wp2;go_loopw [12] (fun H wr=>∃k:Nat,k<=a.length/\H=.int .i64 k/\LC l p w wr/\Zz (((a.take k).all fun c=>ko p c.of&&decide (c.fields.length=(layout p c.of).length)&&c.fields.all (jS · a.length))=true)) (fun H _=>a.length - (intOf H).toNat)
   case atStart=>exact⟨0,SV _,rfl,LC.refl B,Zy Zl⟩
   case round =>
    obtain⟨k,hq,rfl,f,K⟩:=hrel;have HC:=Zy f;by_cases aj:k<a.length
    . obtain⟨⟨⟨d,e⟩,g⟩,G⟩:=om a k aj;obtain⟨ax,aK,cs,rfl,hI,⟨vf,rfl,F⟩,-,V⟩:=(SliceOf.lc wC.stays HH f).get G;obtain⟨fa,fc,rfl,aF,aD⟩:=F.form;obtain⟨N,g1,g2⟩:=V.three;have gz:=jc N;obtain⟨I,X,r,E⟩:=nu wr #[d,e,.slice fa g.length fc] 63;have aA:=f.at_.ET;obtain⟨au,az,aI,q⟩:=qC.ex (fun W'=>LC l p I W') I (LC.refl (f.at_.ext r));obtain⟨-,r0,r1,r2,-⟩:=hZ.lC fun ak=>(E.kp (q.jv ak).kp Zm);have⟨i,ag,Z,C,aa,HF,u⟩:=qA q X E (f.at_.ext r) (f.ext r) ((F.ext mY.stays r)) G;have Q:∀L,LC l p I L->LC l p w L:=fun _ Y=>aa.step Y.at_ Y.kp;have t:=Zy Q;clear f r E X q F V G Q;go_wp2_with fail;rw[<-ag.o];clear N g1 g2;refine jW i 16 [([0,1,2],3),([4,5,6,7,8,9,10,11],12)] [13,14,15] ?_ ?_
      . exact(LC.refl C).drew
      refine lJ ?_;intro j b;go_wp2_with fail;refine(mU (C.ext jg) ⟨d,e⟩).mono ?_;rintro x w7 ⟨rfl,T,R⟩;have m:=Zy ((LC.refl C).drew.step T R);clear T R;cases y:ko p ⟨d,e⟩
      . have h:=Zy (Ju.bad u (by rw[y];rfl));clear y;go_wp2_with fail;refine kk i b m ?_;clear b j;refine lJ ?_;intro j b;go_wp2_with fail;refine kk i b m ?_;clear b j;refine rC ?_;go_wp2;go_ret;exact⟨hQ h.symm,t _ m⟩
      . have ae:=Zy y;clear y;go_wp2_with fail;refine kk i b m ?_;clear b j;refine lJ ?_;intro j b;go_wp2_with fail;refine(wN m.at_ ⟨d,e⟩).mono ?_;rintro x w8 ⟨⟨v8,rfl,W⟩,U,S⟩;obtain⟨a8,c8,rfl,-,aH⟩:=W.form;have n:=Zy (m.step U S);clear W U S;by_cases s:g.length=(layout p ⟨d,e⟩).length
        . have ai:((g.length:Int) !=(layout p ⟨d,e⟩).length)=false:=by simp[s]
          have af:=Zy s;clear s;go_wp2_with fail;refine kk i b n ?_;clear b j;refine rC ?_;obtain⟨qz,-,-,q2,-⟩:=(Z.kp n.kp Zm).ca;clear r0 r1 r2 i;go_wp2_with fail;refine(BR (· <l.O) g (SliceOf.lc mY.stays HF n) a.length).mono ?_;rintro x w9 ⟨rfl,P⟩;have J:=Zy (n.ext P);clear P;cases A:g.all (jS · a.length)
          . have h:Zz (pE p a=false):=Zy (Ju.bad u (by simp only[A,VJ]));clear A;go_wp2;go_ret;exact⟨hQ h.symm,t _ J⟩
          . have q:Zz ((ko p ⟨d,e⟩&&decide (g.length=(layout p ⟨d,e⟩).length)&&g.all (jS · a.length))=true):=Zy (by rw[ae.o,A,Tz af.o];rfl);clear A;go_wp2_with fail;exact⟨⟨k+1,Zm,by go_num,t.o _ J.o,Zy (all_succ K.o u.o q.o)⟩,by simp[intOf];omega⟩
        . have ai:((g.length:Int) !=(layout p ⟨d,e⟩).length)=true:=TI.2 Zm;have h:Zz (pE p a=false):=Zy (Ju.bad u (by simp only[SL s,VJ,Vg]));clear s;go_wp2_with fail;refine kk i b n ?_;clear b j;refine rC ?_;go_wp2;go_ret;exact⟨hQ h.symm,t _ n⟩
    . have h:Zz (pE p a=true):=Zy (by rw[D.o];exact qg K Zm);clear f;go_wp2;go_ret;exact⟨hQ h.symm,HC⟩
theorem Fb(j:ji w l p)(x:Fr){cs:List Value}(F:Dc w (· <l.O) x cs)(n:Nat):Calls prog 104 #[some l.L,.agg cs.toArray,n] w fun m w'=>m=.returned (.bool (kZ p x n))/\LC l p w w':=by
 obtain⟨⟨⟨f,g⟩,e⟩,b,a,c⟩:=x;obtain⟨vl,vs,rfl,y,B⟩:=F;obtain⟨la,lc,rfl,aP,aO⟩:=y.form;obtain⟨sa,sc,rfl,aS,aR⟩:=B.form;obtain⟨w4,au,o,K⟩:=nu w #[f,g,e,b,.slice la a.length lc,.slice sa c.length sc] 80;have aM:=j.ET;have aQ:=j.ord;obtain⟨V,S,T,U,-⟩:=K.ca;have⟨J,aJ,av,aC,aA,aB,aI⟩:=qA (j.ext o) o K au (y.ext mY.stays o) (B.ext mY.stays o) ((LC.refl j).ext o);have ai:∀Z,LC l p w4 Z->LC l p w Z:=fun _ F=>(LC.refl j).ext o |>.step F.at_ F.kp;have k:=Zy ai;simp only at y B;clear j o K au ai y B;go_enter func104,ntmps104;go_wp2_with fail;rw[<-aC.o];refine(CG J ⟨⟨f,g⟩,e⟩).mono ?_;rintro m w5 ⟨rfl,aj,P⟩;have H:=Zy ((LC.refl J).step aj P);have L:=av.kp P Zm;have W:=Zy L;clear aj P S T U V;obtain⟨V,S,T,U,-⟩:=L.ca;clear L;cases q:kC p ⟨⟨f,g⟩,e⟩
 . have h:Zz (kZ p ⟨⟨⟨f,g⟩,e⟩,b,a,c⟩ n=false):=Zy (by unfold kZ;simp only[q,Vg]);clear q;go_wp2;go_ret;exact⟨hQ h.symm,k _ H⟩
 have aK:=Zy q;obtain⟨d,z⟩:∃d,M.method p ⟨⟨f,g⟩,e⟩=d:=⟨_,rfl⟩;have aN:d.code.length<=16:=by rw[<-z];exact(tJ (nQ J.ok q).1).code
 have i:Zz (kZ p ⟨⟨⟨f,g⟩,e⟩,b,a,c⟩ n=(decide (0<=b)&&decide (b<d.code.length)&&decide ((a.length:Int)=d.locals)&&decide ((c.length:Int)<=d.stack)&&a.all (jS · n)&&c.all (jS · n))):=Zy (by
  unfold kZ;simp only[q,z,WX])
 have Q:=lH w5 l p H.at_ ⟨⟨f,g⟩,e⟩ q;rw[z]at Q;have X:=Zy Q;clear q z Q;go_wp2_with fail;refine X.mono ?_;rintro m R ⟨⟨cs,ak,rfl⟩,v⟩;obtain⟨t2,rfl⟩:=nU ak;obtain⟨G,E⟩:=SS (R.alloc (.cells (mF d t2).toArray 132));have N:Ext R G:=by rw[E];exact kx
 have b7:hZ G R 132 (mF d t2).toArray:=by rw[E];exact hZ.new _ _ _
 have af:=W.ext (v.trans N);have r:=Zy (H.ext (v.trans N));have ae:=W.ext v;obtain⟨aT,-,-,-,y3,y4,y5,-⟩:=ae.ca;have⟨ax,s⟩:=jf af E;clear ak v E N b7 af ae S T U V X;simp only[mF];unfold mF at s;have aL:∀{aa:Bool},kZ p ⟨⟨⟨f,g⟩,e⟩,b,a,c⟩ n=aa->aa=false->kZ p ⟨⟨⟨f,g⟩,e⟩,b,a,c⟩ n=false:=fun j m=>j.trans m;by_cases u:b<0
 . have aF:=Tz u;have h:Zz (kZ p ⟨⟨⟨f,g⟩,e⟩,b,a,c⟩ n=false):=Zy (by rw[i.o,SL (p:=0<=b) Zm];simp only[Vg]);clear u;go_wp2;go_ret;rw[<-s.o];exact⟨hQ h.symm,k _ r⟩
 have aF:=SL u;by_cases A:(d.code.length:Int)<=b
 . have aG:=Tz A;have h:Zz (kZ p ⟨⟨⟨f,g⟩,e⟩,b,a,c⟩ n=false):=Zy (by rw[i.o,SL (p:=b<d.code.length) Zm];simp only[Vg,VJ]);clear u A;go_wp2;go_ret;rw[<-s.o];exact⟨hQ h.symm,k _ r⟩
 have aG:=SL A;have Y:Zz (0<=b/\b<d.code.length):=Zy Zm;clear u A;by_cases t:(a.length:Int)=d.locals;rotate_left
 . have aD:=TI.2 t;have h:Zz (kZ p ⟨⟨⟨f,g⟩,e⟩,b,a,c⟩ n=false):=Zy (by rw[i.o,SL (p:=(a.length:Int)=d.locals) t];simp only[Vg,VJ]);clear t;go_wp2;go_ret;rw[<-s.o];exact⟨hQ h.symm,k _ r⟩
 have aD:((a.length:Int) !=d.locals)=false:=by simp[t]
 have az:=Zy t;clear t;by_cases C:d.stack<(c.length:Int)
 . have aH:=Tz C;have h:Zz (kZ p ⟨⟨⟨f,g⟩,e⟩,b,a,c⟩ n=false):=Zy (by rw[i.o,SL (p:=(c.length:Int)<=d.stack) Zm];simp only[Vg,VJ]);clear C;go_wp2;go_ret;rw[<-s.o];exact⟨hQ h.symm,k _ r⟩
 have aH:=SL C;replace i:Zz (kZ p ⟨⟨⟨f,g⟩,e⟩,b,a,c⟩ n=(a.all (jS · n)&&c.all (jS · n))):=Zy (by
  rw[i.o,Tz Y.o.1,Tz Y.o.2,Tz az.o,Tz (p:=(c.length:Int)<=d.stack) Zm];simp only[WX])
 clear C;go_wp2_with fail;rw[<-s.o];refine(BR (· <l.O) a (SliceOf.lc mY.stays aA r) n).mono ?_;rintro m w8 ⟨rfl,O⟩;have I:=Zy (r.ext O);have ag:=ax.ext O;obtain⟨xz,-,-,-,-,-,x5,-⟩:=ag.ca;clear ag O;cases D:a.all (jS · n)
 . have h:Zz (kZ p ⟨⟨⟨f,g⟩,e⟩,b,a,c⟩ n=false):=Zy (by rw[i.o,D];rfl);clear D;go_wp2;go_ret;exact⟨hQ h.symm,k _ I⟩
 . have h:Zz (kZ p ⟨⟨⟨f,g⟩,e⟩,b,a,c⟩ n=c.all (jS · n)):=Zy (by rw[i.o,D];rfl);clear D;go_wp2_with fail;refine(BR (· <l.O) c (SliceOf.lc mY.stays aB I) n).mono ?_;rintro m w9 ⟨rfl,ah⟩;have ay:=Zy (I.ext ah);clear ah;go_wp2;go_ret;exact⟨hQ h.symm,k _ ay⟩
theorem hH.six{b: Nat}{d e f g h: Value}(c:hH w b a [d,e,f,g,h,i]):w.cell? (b,a)=some d/\w.cell? (b,a+1)=some e/\w.cell? (b,a+2)=some f/\w.cell? (b,a+3)=some g/\w.cell? (b,a+4)=some h/\w.cell? (b,a+5)=some i:=
 ⟨by simpa using c 0 d rfl,c 1 e rfl,c 2 f rfl,c 3 g rfl,c 4 h rfl,c 5 i rfl⟩
theorem M.Bc{s:St}:CO p s=true↔(1<=s.status/\s.status<=10)/\s.heap.length<=12/\s.outs.length<=40/\s.frames.length<=8/\(decide (0<s.frames.length)=decide (s.status=1))/\s.outs.all nZ=true/\s.frames.all (kZ p · s.heap.length)=true/\pE p s.heap=true/\jS s.back s.heap.length=true:=by
 unfold CO;simp only[Ty,Tq,Uq];constructor
 . rintro⟨⟨⟨⟨⟨⟨⟨⟨⟨a,b⟩,c⟩,d⟩,e⟩,f⟩,g⟩,h⟩,i⟩,j⟩;exact⟨⟨a,b⟩,c,d,e,f,g,h,i,j⟩
 . rintro⟨⟨a,b⟩,c,d,e,f,g,h,i,j⟩;exact⟨⟨⟨⟨⟨⟨⟨⟨⟨a,b⟩,c⟩,d⟩,e⟩,f⟩,g⟩,h⟩,i⟩,j⟩
theorem DY (w : World) (l : jk) (p : iZ) (v : ji w l p) (s : St) {cs: List Value} (m : kg w (· < l.O) s cs) :Calls prog 65 #[some l.L,.agg cs.toArray] w fun L w'=>L=.returned (.bool (CO p s))/\LC l p w w':=by
 obtain⟨a1,c1,a2,c2,a3,c3,rfl,i,j,R⟩:=m.form;clear m;obtain⟨o,c,d,h,⟨C,D⟩⟩:=s;simp only at i j R |-;obtain⟨w3,ay,F,Z⟩:=nu w #[o,.slice a1 c.length c1,.slice a2 d.length c2,.slice a3 h.length c3,C,D] 39;have aW:=v.ET;have bA:=v.ord;obtain⟨a,hv⟩:∃a,CO p ⟨o,c,d,h,⟨C,D⟩⟩=a:=⟨_,rfl⟩;have⟨aV,g⟩:=jf hv (Bc (p:=p) (s:=⟨o,c,d,h,⟨C,D⟩⟩));rw[hv]at g |-;simp only at g;obtain⟨yz,y0,y1,y2,y3,-⟩:=Z.ca;have⟨q,P,u,H1,H2,H3⟩:=nE (v.ext F) Z ay (i.ext Dc.stays F) (j.ext wC.stays F) (R.ext oW.stays F);have aR:=i.form;have aS:=j.form;have aT:=R.form;obtain⟨_,_,e1,aX,bq⟩:=aR;cases e1;obtain⟨_,_,e2,aY,bu⟩:=aS;cases e2;obtain⟨_,_,e3,aZ,bz⟩:=aT;cases e3;have av:∀ah,LC l p w3 ah->LC l p w ah:=fun _ n=>(LC.refl v).ext F |>.step n.at_ n.kp;have k:=Zy av;clear hv v F Z ay i j R av;go_enter func65,ntmps65;by_cases r:o<1
 . have aA:=Tz r;have b:Zz (false=a):=Zy (by cases a;rfl;have:=g.1 rfl;omega);clear r;go_wp2;go_ret;rw[<-u.o];exact⟨hQ b,k _ (LC.refl q)⟩
 have aA:=SL r;by_cases A:10<o
 . have aB:=Tz A;have b:Zz (false=a):=Zy (by cases a;rfl;have:=g.1 rfl;omega);clear r A;go_wp2;go_ret;rw[<-u.o];exact⟨hQ b,k _ (LC.refl q)⟩
 have aB:=SL A;by_cases V:12<d.length
 . have aC:decide ((12:Int)<d.length)=true:=Tz Zm;have b:Zz (false=a):=Zy (by cases a;rfl;have:=g.1 rfl;omega);clear r A V;go_wp2;go_ret;rw[<-u.o];exact⟨hQ b,k _ (LC.refl q)⟩
 have aC:decide ((12:Int)<d.length)=false:=SL Zm;by_cases s4:40<h.length
 . have aD:decide ((40:Int)<h.length)=true:=Tz Zm;have b:Zz (false=a):=Zy (by cases a;rfl;have:=g.1 rfl;omega);clear r A V s4;go_wp2;go_ret;rw[<-u.o];exact⟨hQ b,k _ (LC.refl q)⟩
 have aD:decide ((40:Int)<h.length)=false:=SL Zm;by_cases s5:8<c.length
 . have aF:decide ((8:Int)<c.length)=true:=Tz Zm;have b:Zz (false=a):=Zy (by cases a;rfl;have:=g.1 rfl;omega);clear r A V s4 s5;go_wp2;go_ret;rw[<-u.o];exact⟨hQ b,k _ (LC.refl q)⟩
 have aF:decide ((8:Int)<c.length)=false:=SL Zm;have HS:Zz ((1<=o/\o<=10)/\d.length<=12/\h.length<=40/\c.length<=8):=Zy Zm;clear r A V s4 s5;obtain⟨Y,y⟩:∃J,decide (0<c.length)=J:=⟨_,rfl⟩;obtain⟨b2,O⟩:∃J,decide (o=1)=J:=⟨_,rfl⟩;have aO:decide ((0:Int)<c.length)=Y:=by rw[<-y];exact decide_eq_decide.2 Zm
 have aP:((o:Int)==1)=b2:=by rw[<-O];rfl
 by_cases G:Y=b2;rotate_left
 . have aj:=SF.2 G;have ak:decide (0<c.length)=Y:=y;have b:Zz (false=a):=Zy (by
    cases a
    . rfl
    . exact absurd (y.symm.trans ((g.o.1 rfl).2.2.2.2.1.trans O)) G)
   clear y O G;go_wp2;go_ret;rw[<-u.o];exact⟨hQ b,k _ (LC.refl q)⟩
 have aj:=Uq.2 G;have ak:=y;have aH:Zz (decide (0<c.length)=decide (o=1)):=Zy (by rw[y,O,G]);clear y O G;go_wp2_with fail;rw[<-u.o];clear aO aP aj ak aA aB aC aD aF;go_loopw [44] (fun z wr=>∃e:Nat,e<=h.length/\z=.int .i64 e/\Ext w3 wr/\Zz ((h.take e).all nZ=true)) (fun z _=>h.length - (intOf z).toNat)
 case atStart=>exact⟨0,SV _,rfl,Kp.rr,Zy Zl⟩
 case round =>
  obtain⟨e,hq,rfl,E,t⟩:=hrel;by_cases af:e<h.length
  . obtain⟨f,n⟩:=om h e af;obtain⟨J,aU,cs,rfl,hI,rfl,-,H⟩:=(H3.ext oW.stays E).get n;rw[V5]at H;have g0:=H.one;have gz:=jc g0;have⟨I,Q⟩:=jf n E;clear n H E y0 y1 y2 y3;go_wp2_with fail;refine(GU f _).mono ?_;rintro L w4 ⟨rfl,rfl⟩;cases U:(decide (-9999<=f)&&decide (f<=9999))
    . have b:Zz (false=a):=Zy (by
       cases a
       . rfl
       . have i:=(g.1 rfl).2.2.2.2.2.1;have j:=TY.1 i f (RA I);unfold nZ at j;rw[U]at j;cases j)
      clear U;go_wp2;go_ret;exact⟨hQ b,k _ ((LC.refl q).ext Q)⟩
    . have X:Zz (nZ f=true):=Zy U;clear U;go_wp2_with fail;exact⟨⟨e+1,Zm,by go_num,Q.o,Zy (all_succ t.o I.o X.o)⟩,by simp[intOf];omega⟩
  . have aM := Zy (qg t Zm); have Q := Zy E; obtain ⟨aG,-, x1,-⟩ := (P.ext E).ca; clear E t y0 y1 y2 y3; go_wp2_with fail; obtain ⟨wo, rfl⟩ : ∃ wo : World, wo = wr := ⟨_, rfl⟩; go_loopw [55] (fun z wr => ∃ e : Nat, e <= c.length /\ z = .int .i64 e /\ LC l p w3 wr /\ Zz ((c.take e).all (kZ p · d.length) = true)) (fun z _ => c.length - (intOf z).toNat)
    case atStart=>exact⟨0,SV _,rfl,(LC.refl q).ext Q,Zy Zl⟩
    case round =>
     obtain⟨e,hq,rfl,x,t⟩:=hrel;have W:=Zy x;by_cases af:e<c.length
     . obtain⟨f,n⟩:=om c e af;obtain⟨J,aU,cs,rfl,hI,ae,-,H⟩:=(SliceOf.lc Dc.stays H1 x).get n;have aQ:=ae;obtain⟨vl,vs,rfl,hl,m⟩:=aQ;obtain⟨la,lc,rfl,bg,bf⟩:=hl.form;obtain⟨sa,sc,rfl,bC,bB⟩:=m.form;obtain⟨g0,g1,g2,g3,g4,g5⟩:=H.six;have gz:=jc g0;obtain⟨w8,az,aa,b8⟩:=nu wr #[f.of.of.keeper,f.of.of.name,f.of.at_,f.pc,.slice la f.locals.length lc,.slice sa f.stack.length sc] 80;obtain⟨kz,k0,k1,k2,k3,k4,k5,-⟩:=b8.ca;have K:=P.kp x.kp Zm;obtain⟨xz,-,-,x2,-⟩:=K.ca;have⟨I,aJ,ag,aN⟩:=jU n (Dc.stays _ _ _ _ _ _ (Ext.same aa) (fun _ v=>v) ae) (x.ext aa) az;clear n H x aa b8 K az ae hl m x1 aG;go_wp2_with fail;rw[<-aN.o];refine(Fb ag.at_ f aJ d.length).mono ?_;rintro L w9 ⟨rfl,N⟩;have B:=Zy (ag.trans N);clear N;cases S:kZ p f d.length
       . have b:Zz (false=a):=Zy (by
          cases a
          . rfl
          . have i:=(g.1 rfl).2.2.2.2.2.2.1;have j:=TY.1 i f (RA I);rw[S]at j;cases j)
         clear S;go_wp2;go_ret;exact⟨hQ b,k _ B⟩
       . have X:=Zy S;clear S;go_wp2_with fail;exact⟨⟨e+1,Zm,by go_num,B.o,Zy (all_succ t.o I.o X.o)⟩,by simp[intOf];omega⟩
     . have aK := Zy (qg t Zm); have K := P.kp x.kp Zm; obtain ⟨xz,-,-, x2,-⟩ := K.ca; clear x t x1 aG K; go_wp2_with fail; refine (GH W.at_ d (SliceOf.lc wC.stays H2 W)).mono ?_; rintro L w9 ⟨rfl, N⟩; have B := Zy (W.trans N); have ai := P.kp B.kp Zm; obtain ⟨zz,-,-, z2,-, z4, z5,-⟩ := ai.ca; clear N x2 xz ai; cases T : pE p d
       . have b:Zz (false=a):=Zy (by
          cases a
          . rfl
          . have i:=(g.1 rfl).2.2.2.2.2.2.2.1;rw[T]at i;cases i)
         clear T;go_wp2;go_ret;exact⟨hQ b,k _ B⟩
       . have aL:=Zy T;clear T;go_wp2_with fail;refine(Jg ⟨C,D⟩ d.length).mono ?_;rintro L bD ⟨rfl,au⟩;have aI:=Zy (B.ext au);clear au
         have b:Zz (jS ⟨C,D⟩ d.length=a):=Zy (by
          have hi:=g.o;rw[aL.o,aM.o,aK.o]at hi;have m:=HS.o;have hb:=aH.o;cases ax:jS ⟨C,D⟩ d.length
          . cases a
            . rfl
            . have:=(hi.1 rfl).2.2.2.2.2.2.2.2;rw[ax]at this;cases this
          . exact(hi.2 ⟨m.1,m.2.1,m.2.2.1,m.2.2.2,hb,rfl,rfl,rfl,ax⟩).symm)
         go_wp2;go_ret;exact⟨hQ b,k _ aI⟩
theorem SliceOf.vals{xs:List Val}(a:SliceOf 2 mY w I v xs):Flat w 2 v xs.length (xs.flatMap jY):=SliceOf.toFlat (enc:=jY) (fun _ _ _ _ a=>a) (fun _=>rfl) wQ a
theorem SliceOf.ints{xs:List Int}(a:SliceOf 1 oW w I v xs):Flat w 1 v xs.length (xs.flatMap uR):=SliceOf.toFlat (enc:=uR) (fun _ _ _ _ a=>a) (fun _=>rfl) CZ a
theorem Own.more{l: World}(h:∀a,d a≠none->j<=a/\a<w.heap.size)(p:l.ownsRow w e k v n xs)(t:(w:Nat)<=l)(q:j<=w)(r:Nat×Nat):∃i:Own,(∀a c,d a=some c->i a=some c)/\(∀a,i a≠none->j<=a/\a<l.heap.size)/\l6 l i j r e k v n xs/\nA w d i/\(∀a c,i a=some c->d a=some c\/c=r):=by
 cases o:v.ownBlock with
 |none=>exact⟨d,fun _ _ m=>m,fun a b=>⟨(h a b).1,Tx (h a b).2 t⟩,⟨lV p q,fun a b=>by rw[o]at b;cases b⟩,nA.refl _ _,fun _ _ m=>.inl m⟩
 | some g =>
  have s:=p.lt g o;have x:d g=none:=by
   cases u:d g with
   |none=>rfl
   |some c=>have:=(h g (by rw[u];simp)).2;omega
  refine⟨d.add g r,fun a c b=>?_,fun a b=>?_,⟨lV p q,fun a b=>?_⟩,Own.yI (.inr s.1),fun a c b=>?_⟩
  . rw[Own.lY _ (fun f=>by subst f;rw[x]at b;cases b)];exact b
  . by_cases f:a=g
    . subst f;exact⟨Zm,s.2⟩
    . rw[Own.lY _ f]at b;exact⟨(h a b).1,Tx (h a b).2 t⟩
  . rw[o]at b;cases b;exact Own.add_eq _ _ _
  . by_cases f:a=g
    . subst f;rw[Own.add_eq]at b;cases b;exact .inr rfl
    . rw[Own.lY _ f]at b;exact .inl b
theorem l6.app{i: World}{b: Nat}{p: List Value}(q:l6 w d f r e k v n xs)(l:∀a,d a≠none->f<=a/\a<w.heap.size)(o:i.ownsRow f e k (b,m,j) m p)(t:Kp (fun a=>v.ownBlock=some a) w i) (s:v.ownBlock=some b\/w<=b):l6 i (d.add b r) f r e k (b,m,j) m p/\nA w d (d.add b r)/\(∀a,d.add b r a≠none->f<=a/\a<i.heap.size)/\(∀a h,d.add b r a=some h->d a=some h\/h=r):=
 ⟨⟨o,fun a c=>by cases c;exact Own.add_eq _ _ _⟩,Own.yI (s.imp (q.role _) id),fun a c=>by
  by_cases g:a=b
  . subst g;exact o.lt a rfl
  . rw[Own.lY _ g]at c;exact⟨(l a c).1,Tx (l a c).2 t.size⟩,fun a h c=>by
  by_cases g:a=b
  . subst g;rw[Own.add_eq]at c;cases c;exact .inr rfl
  . rw[Own.lY _ g]at c;exact .inl c⟩
theorem l6.beside{j: World}{c h:Own}{g n2: Nat}{d: Nat×Nat}{l: List Value}(m:l6 w c a r e k v n xs)(o:l6 w c a d f g i n2 l)(s:Kp (fun b=>v.ownBlock=some b) w j)(p:nA w c h)(t:r≠d):l6 j h a d f g i n2 l:=
 o.keep s p fun b q _ e=>t (by have:=m.role b e;rw[q]at this;cases this;rfl)
structure rG(w:World)(own:Own)(B:Nat)(v:Value)(os:List GO):Prop where
 dom:∀b,own b≠none->B<=b/\b<w.heap.size
 row:l6 w own B (2,0) 63 3 v os.length (os.flatMap qd)
 obj:∀j o,os[j]?=some o->l6 w own B (7,j) 37 2 o.v o.o.fields.length (o.o.fields.flatMap jY)
 IY:∀b q,own b=some q->q=(2,0)\/∃j,q=(7,j)
theorem rG.nil(w:World)(b:Nat):rG w (fun _=>none) b () []:=
 ⟨fun c a=>absurd rfl a,l6.nil _ _ _ _ _ _,fun d e a=>by simp at a,fun c f a=>by cases a⟩
theorem rG.slice{G:Own}{c:List GO}(o:rG w G m v c){I:Nat->Prop}(hI:∀b,m<=b->b<w.heap.size->I b)(hl:c.length<=4294967296)(A:∀a∈c,a.o.fields.length<=4294967296):SliceOf 3 wC w I v (c.map GO.o):=by
 have z:∀{l:List GO},(∀(h:Nat) (a:GO),l[h]?=some a->SliceOf 2 mY w I a.v a.o.fields)->∀a∈l,SliceOf 2 mY w I a.v a.o.fields:=fun hl a d=>by
  obtain⟨h,B,j⟩:=Wy d;exact hl h a (by rw[Ou B,j])
 have x:=z (l:=c) fun h a d=>SliceOf.lS jY (o.obj h a d).row rfl rfl (fun _ _=>rfl) (fun _ _=>rfl) (fun b e f=>hI b e f) (A a (RA d));have D:SliceOf 3 (fun w I (i:GO) n=>SliceOf 2 mY w I i.v i.o.fields/\n=qd i) w I v c:=
  SliceOf.lS qd o.row.row rfl rfl (fun _ _=>rfl) (fun a d=>⟨x a d,rfl⟩) (fun b e f=>hI b e f) hl
 obtain⟨q,r,j,e,f,t⟩:=D;refine⟨q,r,by rw[j,UH],by rw[UH];exact e,by rw[UH];exact f,fun p i g=>?_⟩;rw[V4]at g;cases k:c[p]? with
 |none=>rw[k]at g;cases g
 |some a=>
  rw[k]at g;cases g;obtain⟨b,F,n,s,u,⟨E,rfl⟩,C,y⟩:=t p a k;exact⟨b,F,_,s,u,⟨a.v,rfl,E⟩,C,y⟩
end Go.Proofs.YtlhgbjbkjalfjaaGreat
