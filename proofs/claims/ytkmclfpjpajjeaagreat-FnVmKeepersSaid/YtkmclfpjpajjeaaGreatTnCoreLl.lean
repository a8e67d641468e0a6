/- Walks. -/
import Derived.Test.YtkmclfpjpajjeaaGreatTnCoreLk
set_option maxRecDepth 100000
set_option maxHeartbeats 4000000
set_option linter.unusedSimpArgs false
set_option linter.unusedVariables false
namespace Go.Proofs.YtkmclfpjpajjeaaGreat
open Go Go.RowKit
theorem Dn(w:World)(k o:Nat)(T:TypeId)(cs:Array Value)(vs:Value)(n:Nat)(hB:ay w k T cs)(h0:cs[o]?=some vs)(hv:∃a c,vs=.slice a n c)(c:Nat)(hc:n<c)(yQ:c≤1000):
    Calls Tryz.prog 97 #[.pointer (some ⟨k,o,none⟩),.int .i64 c] w fun e w'=>e=.returned (.tuple #[.slice none 0 0,.bool false])∧w=w':=by
 obtain⟨a,cp,rfl⟩:=hv;have c0:=hB.c o _ h0;have hz:=aF c0;have jy:(n:Int) - c<0:=by omega
 have hw:IntKind.i64.wrap ((n:Int) - c)=(n:Int) - c:=IntWalk.i64_in _ Wg;clear hB h0;go_enter Tryz.func97,Tryz.ntmps97;go_wp2;go_ret2;exact⟨rfl,rfl⟩
theorem oP(w:World)(k o B:Nat)(T:TypeId)(cs:Array Value)(vs:Value)(n:Nat)(xs:List M.Val)(hB:ay w k T cs)(h0:cs[o]?=some vs)(own:w.ownsRow B 38 2 vs n (xs.flatMap bV))(hl:xs.length=n)
    (c:Nat) (hc:c≤n) (GZ:0<c) (hn:n≤1000) (oV:vs.ownBlock≠some k):
    Calls Tryz.prog 97 #[.pointer (some ⟨k,o,none⟩),.int .i64 c] w fun e w'=>
     ∃v',e=.returned (.tuple #[v',.bool true])∧w'.ownsRow w.heap.size 38 2 v' c ((xs.drop (n - c)).flatMap bV)∧
      (∃a c',vs=.slice a n c'∧ay w' k T (cs.setIfInBounds o (.slice a (n - c) c')))∧Kp (·=k) w w':=by
 obtain⟨g,cp,rfl,hg,hgl,hcp⟩:=cB own Wg;obtain⟨r,hr⟩:∃r,n=r+c:=⟨n - c,by omega⟩;have hrn:n - c=r:=by omega
 have c0:=hB.c o _ h0;have f0:=hB.frozen o;have hz:=aF c0;have hw:IntKind.i64.wrap ((n:Int) - c)=(r:Int):=by rw[IntWalk.i64_in _ Wg];omega
 have ny:(n:Int) - c=(r:Int):=by omega
 have hr0:(0:Int)≤(r:Int):=by omega
 have Vi:(r:Int)≤n:=by omega
 have YF:(n:Int)≤cp:=by omega
 have hr3:¬cp=r:=by omega
 have hf:=Gc own (kR uN xs) (i:=r) (cp - r);have hnr:n - r=c:=by omega
 have HNR:=Z3 hnr;have hd:(xs.flatMap bV).drop (r*2)=(xs.drop r).flatMap bV:=by
  rw[←List.take_append_drop r xs,List.flatMap_append,List.drop_left' (by rw[jl (k:=2) (fun _=>rfl)];simp;omega)];simp
 rw[hd]at hf;have⟨HF,HRN,HB,HO,lG⟩:=kL hf hrn hB own oV;clear hf hd hrn hB own oV h0 hr hnr;go_enter Tryz.func97,Tryz.ntmps97;go_wp2_with fail;refine(qo _ _ _ _ HF.o Wg).mono ?_;rintro e w1 ⟨⟨v',rfl,dY⟩,hE⟩;obtain⟨a',c',rfl⟩:=bO dY;have HW:=Z3 dY;have hB1:=HB.o.ext hE;have d0:=hE.aD c0;have e0:=hB1.frozen o;have z1:=hB1.lt;have⟨tL,HE⟩:=aJ hB1 hE;clear hE dY hB1 c0 f0 hz;go_wp2;go_ret2;refine⟨_,rfl,?_,⟨_,_,rfl,by rw[HRN.o];exact tL.o.bE _ _⟩,Kp.setCell (p:=⟨k,o,none⟩) (D:=(·=k)) HE.o.any (fun _=>rfl) _⟩;have h2:w1.ownsRow w.heap.size 38 2 (.slice a' (n - r) c') c ((xs.drop (n - c)).flatMap bV):=by
  have h2:=HW.o;rw[HNR.o]at h2;rw[HNR.o,HRN.o];exact h2
 refine aA (D:=(·=k)) h2 (Kp.setCell (p:=⟨k,o,none⟩) (D:=(·=k)) Kp.rr (fun _=>rfl) _) (fun q hq hb e=>?_);have e':q=k:=e;subst e';have:=HB.o.lt;omega
theorem V7(w:World)(k o:Nat)(T:TypeId)(cs:Array Value)(vs:Value)(hB:ay w k T cs)(h0:cs[o]?=some vs)(hv:∃a c,vs=.slice a 0 c):
    Calls Tryz.prog 95 #[.pointer (some ⟨k,o,none⟩)] w fun e w'=>e=.returned (.tuple #[.agg #[.int .i64 0,.int .i64 0],.bool false])∧Ext w w':=by
 have⟨HB,H0,HV⟩:=bg hB h0 hv;have hz:=hB.lt;clear hB h0 hv;go_enter Tryz.func95,Tryz.ntmps95;go_wp2_with fail;refine(Dn _ _ _ _ _ _ 0 (HB.o.ext kx) H0.o HV.o 1 Wg Wg).mono ?_;rintro e w1 ⟨rfl,rfl⟩;go_wp2;refine bodyPost_ret (v:=.tuple #[.agg #[.int .i64 0,.int .i64 0],.bool false]) (by simp[results,Tryz.results95,go_sem]) rfl ?_;exact⟨rfl,kx⟩
theorem V8(w:World)(k o B:Nat)(T:TypeId)(cs:Array Value)(vs:Value)(n:Nat)(xs:List M.Val)(x:M.Val)(hB:ay w k T cs)(h0:cs[o]?=some vs)(own:w.ownsRow B 38 2 vs (n+1) ((xs++[x]).flatMap bV))(hl:xs.length=n)
    (hn:n+1≤1000) (oV:vs.ownBlock≠some k):
    Calls Tryz.prog 95 #[.pointer (some ⟨k,o,none⟩)] w fun e w'=>
     e=.returned (.tuple #[.agg #[.int .i64 x.kind,.int .i64 x.n],.bool true])∧(∃a c',vs=.slice a (n+1) c'∧ay w' k T (cs.setIfInBounds o (.slice a n c')))∧Kp (·=k) w w':=by
 have⟨HB,H0,HO,lG⟩:=gD hB h0 own oV;have hz:=hB.lt;have hd:(xs++[x]).drop (n+1 - 1)=[x]:=by rw[Nat.add_sub_cancel,←hl,List.drop_left]
 have⟨HD,HL⟩:=aJ hd hl;have bz:=ay.new w 38 #[.int .i64 0,.int .i64 0];clear hB h0 own oV hd hl;go_enter Tryz.func95,Tryz.ntmps95;go_wp2_with fail;refine(oP _ k o B _ _ _ (n+1) (xs++[x]) (HB.o.ext kx) H0.o (aA (D:=fun _=>False) HO.o kx fun _ _ _ x=>x) (by have:=HL.o;simp;omega) 1 Wg Wg hn lG.o).mono ?_;rintro e w1 ⟨v',rfl,dY,⟨a,c',rfl,hB1⟩,hK⟩;rw[HD.o]at dY;obtain⟨g,cp,rfl,hg,hgl,hcp⟩:=cB dY Wg;have q0:=dY.cells (g:=g) rfl 0 (.int .i64 x.kind) rfl;have q1:=dY.cells (g:=g) rfl 1 (.int .i64 x.n) rfl;simp only[Addr.add_lit,Nat.zero_add]at q0 q1;have bz1:=bz.kp hK Wg;obtain⟨-,y0,y1, -⟩:=bz1.ca;obtain⟨u0,u1, -⟩:=bz1.fz;have⟨tL,HK⟩:=aJ hB1 hK;have HZ:Zs (k<w.heap.size):=Z3 hz;clear dY hB1 hK bz bz1 hz;go_wp2;have mU:∀D:Nat→Prop,D w.heap.size→Kp D w1 ((w1.setCell ⟨w.heap.size,0,none⟩ (.int .i64 x.kind)).setCell ⟨w.heap.size,1,none⟩ (.int .i64 x.n)):=fun D hD=>((Kp.refl D w1).setCell (p:=⟨w.heap.size,0,none⟩) (fun _=>hD) _).setCell (p:=⟨w.heap.size,1,none⟩) (fun _=>hD) _;refine bodyPost_ret (v:=.tuple #[.agg #[.int .i64 x.kind,.int .i64 x.n],.bool true]) (by simp[results,Tryz.results95,go_sem,y0,y1]) rfl ?_;refine⟨rfl,⟨a,c',rfl,?_⟩,?_⟩
 · exact tL.o.kp (mU (·=w.heap.size) rfl) (by have:=HZ.o;omega)
 · exact(((Kp.rr.alloc _:Ext w _).any).trans HK.o).own (mU (·=w.heap.size) rfl) (fun q hq=>by omega)
theorem J8(w:World)(l:aH)(p:M.ax)(h:aC w l p)(k:Int)(n:ByteArray)(i:Nat)(c:M.Class)(m:M.Method)(hc:M.cls? p ⟨k,n⟩=some c)(hm:c.methods[i]?=some m):
    Calls Tryz.prog 42 #[.pointer (some ⟨l.L,0,none⟩),.agg #[.int .i64 k,.string n,.int .i64 i]] w fun e w'=>
     (∃cs,aG w' (· <l.O) m cs∧e=.returned (.agg cs.toArray))∧Ext w w':=by
 have hil:i<c.methods.length:=(List.getElem?_eq_some_iff.1 hm).1;have⟨H,H0,HC,HM⟩:=gD h h hc hm;clear h hc hm;have b3:=(ay.new w 94 #[.int .i64 k,.string n,.int .i64 i]);obtain⟨-,q0,q1,q2, -⟩:=b3.ca;clear b3;go_enter Tryz.func42,Tryz.ntmps42;go_upto_region 1 with(fail);first|(go_region_with (go_at_call 70;refine(mI _ l p (H.o.ext kx) k n c HC.o).mono ?_;rintro e w1 ⟨⟨cs,fU,rfl⟩,hB⟩;obtain⟨y1,z1,y2,z2,rfl⟩:=fU.form;obtain⟨vZ,hf1⟩:=Lp hB;have zA:∀W,(Instr.field 75 (.agg #[.string c.name,.string c.aL,.slice y1 c.fields.length z1,.slice y2 c.methods.length z2]) 3).run Tryz.prog W=.ok (.slice y2 c.methods.length z2) W:=(fun W=>by kernel_rfl);obtain⟨vf',vm',Z7, -,s2⟩:=bQ.ext aP.stays hB fU;simp only[List.cons.injEq,and_true,true_and]at Z7;obtain⟨rfl,rfl⟩:=Z7;obtain⟨b',off',cs,rfl,Yn,mF, -,jy⟩:=s2.get HM.o;have GQ:=Z3 mF;obtain⟨a1,c1,a2,c2,a3,c3,rfl⟩:=mF.form;obtain⟨g0,g1,g2,g3,g4,g5,g6,g7⟩:=jy.eight))|fail
 all_goals
  have bz:=((ay.new (w.alloc (.cells #[.int .i64 k,.string n,.int .i64 i] 94)) 106 #[.string ⟨#[]⟩,.slice none 0 0,.int .i64 0,.string ⟨#[]⟩,.int .i64 0,.int .i64 0,.slice none 0 0,.slice none 0 0]).ext (Kp.rr.drew)).ext hB;simp only[World.size_alloc]at bz;have B:=(((((((bz.bE 0 (.string m.name)).bE 1 (.slice a1 m.args.length c1)).bE 2 (.int .i64 m.ret.kind)).bE 3 (.string m.ret.name)).bE 4 (.int .i64 m.locals)).bE 5 (.int .i64 m.stack)).bE 6 (.slice a2 m.code.length c2)).bE 7 (.slice a3 m.maps.length c3);have Qt:∀(D:Nat→Prop),D (w.heap.size+1)→Kp D w1 ((((((((w1.setCell ⟨w.heap.size+1,0,none⟩ (.string m.name)).setCell ⟨w.heap.size+1,1,none⟩ (.slice a1 m.args.length c1)).setCell ⟨w.heap.size+1,2,none⟩ (.int .i64 m.ret.kind)).setCell ⟨w.heap.size+1,3,none⟩ (.string m.ret.name)).setCell ⟨w.heap.size+1,4,none⟩ (.int .i64 m.locals)).setCell ⟨w.heap.size+1,5,none⟩ (.int .i64 m.stack)).setCell ⟨w.heap.size+1,6,none⟩ (.slice a2 m.code.length c2)).setCell ⟨w.heap.size+1,7,none⟩ (.slice a3 m.maps.length c3)):=fun D hD=>
   ((((((((Kp.refl D w1).setCell (p:=⟨w.heap.size+1,0,none⟩) (fun _=>hD) _).setCell (p:=⟨w.heap.size+1,1,none⟩) (fun _=>hD) _).setCell (p:=⟨w.heap.size+1,2,none⟩) (fun _=>hD) _).setCell (p:=⟨w.heap.size+1,3,none⟩) (fun _=>hD) _).setCell (p:=⟨w.heap.size+1,4,none⟩) (fun _=>hD) _).setCell (p:=⟨w.heap.size+1,5,none⟩) (fun _=>hD) _).setCell (p:=⟨w.heap.size+1,6,none⟩) (fun _=>hD) _).setCell (p:=⟨w.heap.size+1,7,none⟩) (fun _=>hD) _
  have bH:Ext w w1:=((((Kp.refl _ w).alloc _).alloc _).drew).trans hB;clear vZ hf1 zA g0 g1 g2 g3 g4 g5 g6 g7 q0 q1 q2 jy bz fU s2;revert B Qt;generalize ((((((((w1.setCell ⟨w.heap.size+1,0,none⟩ (.string m.name)).setCell ⟨w.heap.size+1,1,none⟩ (.slice a1 m.args.length c1)).setCell ⟨w.heap.size+1,2,none⟩ (.int .i64 m.ret.kind)).setCell ⟨w.heap.size+1,3,none⟩ (.string m.ret.name)).setCell ⟨w.heap.size+1,4,none⟩ (.int .i64 m.locals)).setCell ⟨w.heap.size+1,5,none⟩ (.int .i64 m.stack)).setCell ⟨w.heap.size+1,6,none⟩ (.slice a2 m.code.length c2)).setCell ⟨w.heap.size+1,7,none⟩ (.slice a3 m.maps.length c3))=W;intro B Qt;have⟨HB,HSK⟩:=aJ (ae.gM B) Qt;clear Qt B;have hOw:l.O<w.heap.size:=by have:=H0.o.ord;have:=H0.o.lt;omega
  go_wp2_with fail;refine bodyPost_ret (v:=.agg #[.string m.name,.slice a1 m.args.length c1,.int .i64 m.ret.kind,.string m.ret.name,.int .i64 m.locals,.int .i64 m.stack,.slice a2 m.code.length c2,.slice a3 m.maps.length c3]) (aY Oa rfl _ _ (w.heap.size+1) rfl _ HB.o rfl) rfl ?_;trace "x";exact⟨⟨_,bQ.kp aG.stays (HSK.o (·=w.heap.size+1) rfl) (fun b hb e=>by omega) GQ.o,rfl⟩,bH.own (HSK.o (·=w.heap.size+1) rfl) (fun j hj=>by omega)⟩
structure LC(l:aH)(p:M.ax)(w W:World):Prop where
 kp:Kp (·=l.D) w W
 at_:aC W l p
theorem LC.refl{l:aH}{p:M.ax}{w:World}(h:aC w l p):LC l p w w:=⟨Kp.rr,h⟩
theorem LC.ext{l:aH}{p:M.ax}{w W W':World}(h:LC l p w W)(hE:Ext W W'):LC l p w W':=⟨h.kp.trans hE.any,h.at_.ext hE⟩
theorem LC.drew{l:aH}{p:M.ax}{w W:World}(h:LC l p w W):LC l p w W.drew:=h.ext Kp.rr.drew
theorem LC.step{l:aH}{p:M.ax}{w W W':World}(h:LC l p w W)(h1:aC W' l p)(h2:Kp (·=l.D) W W'):LC l p w W':=⟨h.kp.trans h2,h1⟩
theorem LC.trans{l:aH}{p:M.ax}{w W W':World}(h:LC l p w W)(h2:LC l p W W'):LC l p w W':=h.step h2.at_ h2.kp
theorem aC.Hl{w:World}{l:aH}{p:M.ax}(h:aC w l p):l.D<w.heap.size:=by have:=h.lt;have:=h.ord;omega
theorem q8(w:World)(l:aH)(p:M.ax)(h:aC w l p)(k:Int)(n:ByteArray)(c:M.Class)(Fy:M.cls? p ⟨k,n⟩=some c):
    ∃cs,aP w (· <l.O) c cs∧∀W,Kp (·=l.D) w W→
    Calls Tryz.prog 70 #[.pointer (some ⟨l.L,0,none⟩),.agg #[.int .i64 k,.string n]] W fun e w'=>e=.returned (.agg cs.toArray)∧Ext W w':=by
 obtain⟨q,i,hq,hi,hqi,hil⟩:=M.BK Fy;obtain⟨zB,sM⟩:=M.Ej Fy;simp only at zB sM;obtain⟨k,rfl⟩:=Int.eq_ofNat_of_zero_le zB;have jr:p[k]?=some q:=by
  unfold M.fw at hq;rw[if_pos zB]at hq;exact hq
 obtain⟨a,cap,hs,c0,c1,c2,c3⟩:=h.cells;obtain⟨mm,hm,hme⟩:=h.own;obtain⟨b,off,cs,rfl,hI,Bn, -,hc⟩:=hs.get jr;obtain⟨vo,va,rfl,s1,s2⟩:=Bn;obtain⟨a1,agr,rfl,mR,mE⟩:=s1.form;obtain⟨b1,ahu,cs1,rfl,hI1,fU, -,jy⟩:=s1.get hqi;obtain⟨y1,z1,y2,z2,rfl⟩:=fU.form;obtain⟨g0,g1⟩:=hc.two;obtain⟨e0,e1,e2,e3⟩:=jy.four;have hp3:(p.length:Int)≤3:=by have:=(M.xY h.ok).2;omega
 have hO:=h.ord;have bY:=h.lt;refine⟨_,fU,fun W hK=>?_⟩;have l1:∀W',Ext W W'→(Instr.lookup 88 (.map (some l.O)) (.agg #[.int .i64 (k:Int),.string n]) false).run Tryz.prog W'=.ok (.int .i64 i) W':=by
  intro W' hW;rw[zK ((hm.kp hK Wg).kp hW fun x=>x),hme,hi];rfl
 have l2:=fun(X Y:Obj)=>l1 _ ((((Kp.refl _ W).alloc X).alloc Y).drew);clear l1;have d0:=hK.jg (c0 _ (Kp.refl _ w)) Wg;have d1:=hK.jg (c1 _ (Kp.refl _ w)) Wg;replace g0:=hK.jg g0 Wg;replace g1:=hK.jg g1 Wg;replace e0:=hK.jg e0 Wg;replace e1:=hK.jg e1 Wg;replace e2:=hK.jg e2 Wg;replace e3:=hK.jg e3 Wg;have hbw:=aF g0;have agE:=aF e0;have hbl:=aF d0;clear hm hme fU hs s1 s2 hc jy c0 c1 c2 c3 jr hqi hq hi Fy h bY hK;have aed:k<p.length:=by omega
 clear zB sM;go_enter Tryz.func70,Tryz.ntmps70;go_wp2;(refine jo 17 Wr Wr ?_);(simp only[List.take_succ_cons,List.take_zero,List.drop_succ_cons,List.drop_zero]);(repeat still_step);(refine wpStill_nil ?_);go_wp2;refine bodyPost_ret (v:=.agg #[.string c.name,.string c.aL,.slice y1 c.fields.length z1,.slice y2 c.methods.length z2]) (by simp[results,Tryz.results70,go_sem]) rfl ?_;exact⟨rfl,kx⟩
end Go.Proofs.YtkmclfpjpajjeaaGreat
namespace Go.Proofs.YtkmclfpjpajjeaaGreat.M
theorem uj{p:ax}:∀(f:Nat) (r:Ref) (l:List Ref),bT p f r=some l→∃t,l=r::t:=by
 intro f;cases f with
 |zero=>intro r l h;simp[bT]at h
 |succ f=>
  intro r l h;unfold bT at h;split at h
  · cases h;exact⟨[],rfl⟩
  · split at h
    · cases hg:bT p f (resolve p r.keeper (aL p r)).1 with
      |none=>rw[hg]at h;simp at h
      |some rs=>rw[hg]at h;simp at h;exact⟨rs,h.symm⟩
    · cases h
theorem uo {p : ax} : ∀ (f : Nat) (r : Ref) (l : List Ref), bT p f r = some l → ∀ g, l.length ≤ g → bT p g r = some l := by
 intro f;induction f with
 |zero=>intro r l h;simp[bT]at h
 | succ f ih =>
  intro r l h g hg;obtain⟨t,rfl⟩:=uj _ _ _ h;cases g with
  |zero=>simp at hg
  |succ g=>
   unfold bT at h ⊢;split at h
   · rename_i h1;rw[if_pos h1];exact h
   · rename_i h1;rw[if_neg h1];split at h
     · rename_i h2;rw[if_pos h2];cases hc:bT p f (resolve p r.keeper (aL p r)).1 with
       |none=>rw[hc]at h;simp at h
       |some rs=>
        rw[hc]at h;simp at h;subst h;rw[ih _ _ hc g (by simp at hg;omega)];simp
     · cases h
theorem qF {p : ax} : ∀ (f : Nat) (r : Ref) (l : List Ref), bT p f r = some l → ∀ i x, l[i]? = some x → ∃ g, bT p g x = some (l.drop i) := by
 intro f;induction f with
 |zero=>intro r l h;simp[bT]at h
 | succ f ih =>
  intro r l h i x hx;cases i with
  |zero=>
   obtain⟨t,rfl⟩:=uj _ _ _ h;simp at hx;subst hx;exact⟨f+1,h⟩
  |succ i=>
   unfold bT at h;split at h
   · cases h;simp at hx
   · split at h
     · cases hc:bT p f (resolve p r.keeper (aL p r)).1 with
       |none=>rw[hc]at h;simp at h
       |some rs=>
        rw[hc]at h;simp at h;subst h;simpa using ih _ _ hc i x (by simpa using hx)
     · cases h
theorem CR{p:ax}{f g:Nat}{r:Ref}{a b:List Ref}(ha:bT p f r=some a)(hb:bT p g r=some b):a=b:=by
 have h1:=uo _ _ _ ha (max a.length b.length) (Nat.le_max_left _ _);have h2:=uo _ _ _ hb (max a.length b.length) (Nat.le_max_right _ _);rw[h1]at h2;exact Option.some.inj h2
theorem Hj{p:ax}(f:Nat)(r:Ref)(l:List Ref)(h:bT p f r=some l):l.Nodup:=by
 refine List.pairwise_iff_getElem.2 ?_;intro i j hi hj hij he;obtain⟨g1,e1⟩:=qF _ _ _ h i l[i] (List.getElem?_eq_getElem hi);obtain⟨g2,e2⟩:=qF _ _ _ h j l[i] (by rw[he];exact List.getElem?_eq_getElem hj);have:=congrArg List.length (CR e1 e2);simp at this;omega
theorem R4{α:Type}{l:List α}(h:l.Nodup):l.reverse.Nodup:=
 List.pairwise_reverse.2 (h.imp fun h=>fun e=>h e.symm)
theorem CP(p:ax)(r:Ref):(chain p r).Nodup:=by
 unfold chain;split
 · unfold jw;cases h:bT p 6 r with
   |none=>simp
   |some l=>exact Hj _ _ _ h
 · simp
theorem CQ{p:ax}:∀(f:Nat) (r:Ref) (l:List Ref),bT p f r=some l→l.length≤f:=by
 intro f;induction f with
 |zero=>intro r l h;simp[bT]at h
 |succ f ih=>
  intro r l h;unfold bT at h;split at h
  · cases h;simp
  · split at h
    · cases hc:bT p f (resolve p r.keeper (aL p r)).1 with
      |none=>rw[hc]at h;simp at h
      |some rs=>rw[hc]at h;simp at h;subst h;have:=ih _ _ hc;simp;omega
    · cases h
theorem sF(p:ax)(r:Ref):(chain p r).length≤6:=by
 unfold chain;split
 · unfold jw;cases h:bT p 6 r with
   |none=>simp
   |some l=>exact CQ _ _ _ h
 · simp
theorem oG(c:Ref):∀(fs:List Field) (acc:List ko),(dx c fs acc).length=acc.length+fs.length:=by
 intro fs;induction fs with
 |nil=>intro acc;rfl
 |cons f r ih=>intro acc;unfold dx;rw[ih];simp;omega
theorem Js(c:Ref):∀(fs:List Field) (acc:List ko) (i:Nat) (f:ko),(dx c fs acc)[i]?=some f→
    acc[i]?=some f∨∃j fd,fs[j]?=some fd∧i=acc.length+j∧f=⟨c,i,fd.kind⟩:=by
 intro fs;induction fs with
 |nil=>intro acc i f h;exact .inl h
 |cons fd r ih=>
  intro acc i f h;unfold dx at h;rcases ih _ _ _ h with h1|⟨j,fd',h1,h2,h3⟩
  · rcases Nat.lt_or_ge i acc.length with hi|hi
    · rw[List.getElem?_append_left hi]at h1;exact .inl h1
    · rw[List.getElem?_append_right hi]at h1;have hz:i - acc.length=0:=by
       rcases Nat.eq_zero_or_pos (i - acc.length)with h0|h0
       · exact h0
       · rw[List.getElem?_eq_none X2]at h1;cases h1
      rw[hz]at h1;simp at h1;refine .inr ⟨0,fd,rfl,by omega,?_⟩;rw[←h1,show i=acc.length by omega]
  · exact .inr ⟨j+1,fd',by simpa using h1,by simp at h2;omega,h3⟩
theorem Hh(c:Ref):∀(fs:List Field) (acc:List ko),∃t,dx c fs acc=acc++t:=by
 intro fs;induction fs with
 |nil=>intro acc;exact⟨[],by simp[dx]⟩
 |cons fd r ih=>
  intro acc;unfold dx;obtain⟨t,e⟩:=ih (acc++[⟨c,acc.length,fd.kind⟩]);exact⟨_,by rw[e,List.append_assoc]⟩
theorem JY(p:ax):∀(L:List Ref) (acc:List ko),∃t,dB p L acc=acc++t:=by
 intro L;induction L with
 |nil=>intro acc;exact⟨[],by simp[dB]⟩
 |cons c r ih=>
  intro acc;unfold dB;obtain⟨t,e⟩:=ih (dx c (cls p c).fields acc);obtain⟨t',e'⟩:=Hh c (cls p c).fields acc;exact⟨t'++t,by rw[e,e',List.append_assoc]⟩
theorem vD(p:ax):∀(L K:List Ref) (acc:List ko),dB p (L++K) acc=dB p K (dB p L acc):=by
 intro L;induction L with
 |nil=>intro K acc;rfl
 |cons c r ih=>intro K acc;simp only[List.cons_append,dB];rw[ih]
theorem Mj(p:ax):∀(L:List Ref) (acc:List ko),L.Nodup→∀(i:Nat) (f:ko),(dB p L acc)[i]?=some f→
    acc[i]?=some f∨∃c∈L,∃j fd,(cls p c).fields[j]?=some fd∧i=ig p c L acc.length+j∧f=⟨c,i,fd.kind⟩:=by
 intro L;induction L with
 |nil=>intro acc _ i f h;exact .inl h
 |cons c r ih=>
  intro acc hn i f h;unfold dB at h;rw[List.nodup_cons]at hn;rcases ih _ hn.2 _ _ h with h1|⟨c',Bl,j,fd,h1,h2,h3⟩
  · rcases Js _ _ _ _ _ h1 with h1|⟨j,fd,h1,h2,h3⟩
    · exact .inl h1
    · exact .inr ⟨c,by simp,j,fd,h1,by simp[ig];exact h2,h3⟩
  · refine .inr ⟨c',by simp[Bl],j,fd,h1,?_,h3⟩;unfold ig;rw[if_neg (by rintro rfl;exact hn.1 Bl),←oG];exact h2
theorem xW{p:ax}{r:Ref}{i:Nat}{f:ko}(h:(layout p r)[i]?=some f):
    bu p r=true∧f.of∈chain p r∧f.at_=i∧∃j fd,(cls p f.of).fields[j]?=some fd∧i=gT p f.of r+j∧f.kind=fd.kind:=by
 unfold layout at h;split at h
 · rename_i hc;rcases Mj p _ _ (R4 (CP p r)) _ _ h with h1|⟨c,Bl,j,fd,h1,h2,rfl⟩
   · simp at h1
   · exact⟨hc,List.mem_reverse.1 Bl,rfl,j,fd,h1,h2,rfl⟩
 · simp at h
theorem Jz{p:ax}{r:Ref}{f:ko}{j:Nat}{fd:Field}(h1:(cls p f.of).fields[j]?=some fd)(h2:f.at_=((gT p f.of r+j:Nat):Int)):
    fieldName p r f=fd.name:=by
 unfold fieldName;rw[show(f.at_ - gT p f.of r).toNat=j by omega,h1];rfl
end Go.Proofs.YtkmclfpjpajjeaaGreat.M
namespace Go.Proofs.YtkmclfpjpajjeaaGreat
open Go Go.RowKit
def jH(f:M.ko):List Value:=[.int .i64 f.of.keeper,.string f.of.name,.int .i64 f.at_,.int .i64 f.kind.kind,.string f.kind.name]
def TB:iJ M.ko:=fun _ _ x cs=>cs=jH x
theorem TB.stays:bQ TB:=fun _ _ _ _ _ _ _ _ h=>h
theorem V3(x:M.ko):∀u∈jH x,u.oneCell'=true:=by simp[jH,Value.oneCell']
theorem Q4:Elem 161 164 5:=iP (z:=.agg #[.int .i64 0,.string ⟨#[]⟩,.int .i64 0,.int .i64 0,.string ⟨#[]⟩]) (bytes:=56) Tryz.underlying161 Wr rfl Wk Wk
theorem ER{c:M.Ref}{fs:List M.Field}{acc:List M.ko}{k:Nat}{x:M.Field}(hx:fs[k]?=some x):
    M.dx c (fs.take (k+1)) acc=M.dx c (fs.take k) acc++[⟨c,(M.dx c (fs.take k) acc).length,x.kind⟩]:=by
 rw[List.take_add_one,hx];have:∀(l:List M.Field) (acc:List M.ko),M.dx c (l++[x]) acc=M.dx c l acc++[⟨c,(M.dx c l acc).length,x.kind⟩]:=by
  intro l;induction l with
  |nil=>intro acc;rfl
  |cons y r ih=>intro acc;simp only[List.cons_append,M.dx];rw[ih]
 exact this _ _
theorem Kp.mix{D D':Nat→Prop}{w a b:World}(h:Kp D w a)(hk:Kp D' a b)(hD:∀k,k<w.heap.size→D' k→D k):Kp D w b:=
 ⟨hk.os.trans h.os,hk.tape.trans h.tape,hk.output.trans h.output,Nat.le_trans h.size hk.size,
  fun k BZ hd=>(hk.block k (Nat.lt_of_lt_of_le BZ h.size) (fun x=>hd (hD k BZ x))).trans (h.block k BZ hd)⟩
theorem ae.RZ{W:World}{g:Nat}(t:TypeId)(cs:Array Value)(h:W.heap.size=g):ae (W.alloc (.cells cs t)).drew g 0 cs.toList:=(ae.fB t cs h).ext (Kp.rr.drew)
theorem Lr (w : World) (bb B : Nat) (vs : Value) (acc : List M.ko) (c : M.Ref) (I : Nat → Prop) (vf : Value) (fs : List M.Field) (hB : ay w bb 204 #[vs]) (own : w.ownsRow B 164 5 vs acc.length (acc.flatMap jH))
    (hf:SliceOf 3 eF w I vf fs) (hI:∀b,I b→b<B∧b≠bb) (hbB:B≤w.heap.size) (hlen:acc.length+fs.length≤1000) (oV:vs.ownBlock≠some bb):
    Calls Tryz.prog 126 #[.pointer (some ⟨bb,0,none⟩),.agg #[.int .i64 c.keeper,.string c.name],vf] w fun e w'=>
     e=.returned (.tuple #[])∧∃vs',ay w' bb 204 #[vs']∧w'.ownsRow B 164 5 vs' (acc.length+fs.length) ((M.dx c fs acc).flatMap jH)∧vs'.ownBlock≠some bb∧Kp (fun b=>b=bb∨vs.ownBlock=some b) w w':=by
 obtain⟨va,vc,rfl,hn,dm⟩:=hf.form;have hz:=hB.lt;have b4:=ay.new w 70 #[.int .i64 c.keeper,.string c.name];have aU:Ext w (w.alloc (.cells #[.int .i64 c.keeper,.string c.name] 70)):=kx;have⟨HF,HI,lG⟩:=bg hf hI oV;have R0:Zs (ay (w.alloc (.cells #[.int .i64 c.keeper,.string c.name] 70)) bb 204 #[vs]∧(w.alloc (.cells #[.int .i64 c.keeper,.string c.name] 70)).ownsRow B 164 5 vs acc.length ((M.dx c (fs.take 0) acc).flatMap jH)∧(∀g,vs.ownBlock=some g→vs.ownBlock=some g∨w.heap.size<g)∧
     Kp (fun b=>b=bb∨vs.ownBlock=some b) w (w.alloc (.cells #[.int .i64 c.keeper,.string c.name] 70))∧ay (w.alloc (.cells #[.int .i64 c.keeper,.string c.name] 70)) w.heap.size 70 #[.int .i64 c.keeper,.string c.name]):=
  Z3 ⟨hB.ext aU,aA (D:=fun _=>False) own aU fun _ _ _ x=>x,fun g h=>.inl h,aU.any,b4⟩
 have HBV:Zs (∀g,vs.ownBlock=some g→B≤g∧g<w.heap.size):=Z3 fun g hg=>own.lt g hg;clear hB own hf hI oV b4 aU;go_enter Tryz.func126,Tryz.ntmps126;go_wp2;go_loopw [10] (fun i wr=>∃(k m:Nat) (v':Value),k≤fs.length∧i=.int .i64 k∧Zs (m=acc.length+k)∧Zs (ay wr bb 204 #[v']∧wr.ownsRow B 164 5 v' m ((M.dx c (fs.take k) acc).flatMap jH)∧
     (∀g,v'.ownBlock=some g→vs.ownBlock=some g∨w.heap.size<g)∧Kp (fun b=>b=bb∨vs.ownBlock=some b) w wr∧ay wr w.heap.size 70 #[.int .i64 c.keeper,.string c.name])) (fun i _=>fs.length - (intOf i).toNat)
 case atStart=>exact⟨0,acc.length,vs,Nat.zero_le _,rfl,Z3 rfl,R0⟩
 case round =>
  obtain⟨k,m,v',hk,rfl,HM,HR⟩:=hrel;by_cases bY:k<fs.length
  · obtain⟨x,hx⟩:=get_some bY;obtain⟨b,off,cs,rfl,KN,rfl, -,hc⟩:=HF.o.get hx;have ah5:=(HI.o b KN).1;have agC:=(HI.o b KN).2;have aah:Same (·=b) w wr:=Kp.same HR.o.2.2.2.1 (fun q hq e=>by
     subst hq;rcases e with rfl|e
     · exact agC rfl
     · have:=HBV.o _ e;omega)
    have Bl:=hc.keep fun o v hv=>aah b o v rfl hv;obtain⟨g0,g1,g2⟩:=Bl.three;have gz:=aF g0;have kv:w.heap.size≤wr.heap.size:=HR.o.2.2.2.1.size;have HX:=Z3 hx;clear hx hc Bl aah;have dY:=HR.o.2.1;obtain⟨a,cp,rfl⟩:=bO dY;have abY:(Value.slice a m cp).ownBlock≠some bb:=fun e=>by
     rcases HR.o.2.2.1 _ e with h|h
     · exact lG.o h
     · omega
    obtain⟨W0,hW0,aU,b7⟩:=nu wr #[.string x.name,.int .i64 x.kind.kind,.string x.kind.name] 135;have b1:=HR.o.1.ext aU;have b4:=HR.o.2.2.2.2.ext aU;have vU:W0.heap.size=wr.heap.size+1:=by rw[hW0];simp
    obtain⟨T,f,dA,HT⟩:=iN.ex (fun W=>Kp (fun b=>(Value.slice a m cp).ownBlock=some b) W0 W) _ Kp.rr;have hv7:¬(Value.slice a m cp).ownBlock=some wr.heap.size:=fun e=>by have:=(dY.lt _ e).2;omega
    have hv4:¬(Value.slice a m cp).ownBlock=some w.heap.size:=fun e=>by
     rcases HR.o.2.2.1 _ e with h|h
     · have:=(HBV.o _ h).2;omega
     · omega
    have r0:=fun s=>(b1.kp (HT.aW s) abY).c 0 (.slice a m cp) rfl;obtain⟨-,r4,r5, -⟩:=ay.kY fun s=>(b4.kp (HT.aW s) hv4);obtain⟨-, -,r7,r8, -⟩:=ay.kY fun s=>(b7.kp (HT.aW s) hv7);have⟨aj,tL,bM⟩:=bg HT b1 aU;have acT:=Z3 abY;have⟨HO0,dO,Lc⟩:=bg (aA (D:=fun _=>False) dY aU fun _ _ _ x=>x) hW0 vU;have hmn:m+1≤4294967296:=by have:=HM.o;omega
    clear b1 b4 b7 dY abY hv7 hv4 HT aU vU;go_wp2;rw[←dO.o];clear hW0 g0 g1 g2;(refine eO aj 16 [([0,1,2,3,4,5,6,7,8,9,10,11,12,13],14),([],15)] [] ?_ ?_)
    · exact Kp.rr.drew
    refine iX ?_;intro K2 ag;go_wp2_with fail;(refine kk aj ag kx ?_);clear ag K2;(refine gZ rfl fun K2 ag=>?_);refine az Q4 rfl (.tmp 18) (.tmp 28) rfl B (.slice a m cp) m _ rfl (aA (D:=fun _=>False) HO0.o kx fun _ _ _ x=>x) W0.heap.size 1 (jH ⟨c,m,x.kind⟩) rfl rfl (ae.RZ _ _ rfl) (V3 _) hmn ?_ ?_
    · have:=Lc.o;simp;omega
    intro g2 c2 w1 NB lI Rl;have HG2:Zs ((Value.slice a m cp).ownBlock=some g2∨w.heap.size<g2):=Z3 (by
     rcases Rl with h|h
     · exact .inl h
     · right;have:=Lc.o;simp at h;omega)
    clear Rl;change K2 _ _;have El:Kp (fun b=>(Value.slice a m cp).ownBlock=some b) W0 w1:=(kx:Ext W0 _).any.trans lI;(refine kk aj ag El ?_);clear ag K2;have hB1:=tL.o.kp El acT.o;obtain⟨z1,d0, -⟩:=hB1.ca;have e0:=hB1.frozen 0;have⟨mQ,tY,Zr⟩:=bg hB1 NB El;clear NB lI El hB1 r0 r4 r5 r7 r8;(refine dW ?_);go_wp2;have dw:∀D:Nat→Prop,D bb→∀v,Kp D w1 (w1.setCell ⟨bb,0,none⟩ v):=fun D hD v=>(Kp.refl D w1).setCell (p:=⟨bb,0,none⟩) (fun _=>hD) v;have hgb:g2≠bb:=fun e=>by
     subst e;rcases HG2.o with h|h
     · exact acT.o h
     · omega
    have gV:¬w.heap.size=bb:=by omega
    have aej:(M.dx c (fs.take k) acc).length=m:=by rw[M.oG,HM.o,List.length_take];omega
    refine⟨⟨k+1,m+1,.slice (some ⟨g2,0,none⟩) (m+1) c2,by omega,by go_num,Z3 (by have:=HM.o;omega),Z3 ⟨?_,?_,?_,?_,?_⟩⟩,by simp[intOf];omega⟩
    · exact mQ.o.bE 0 _
    · rw[ER HX.o,List.flatMap_append,aej];have h2:=aA tY.o (dw (·=bb) rfl (.slice (some ⟨g2,0,none⟩) (m+1) c2)) (fun q hq _ e=>by cases hq;exact hgb e);simpa using h2
    · intro q hq;cases hq;rcases HG2.o with h|h
      · rcases HR.o.2.2.1 _ h with h|h
        · exact .inl h
        · exact .inr h
      · exact .inr h
    · refine((HR.o.2.2.2.1.trans bM.o.any).mix Zr.o (fun q hq e=>?_)).trans (dw _ (.inl rfl) _);rcases HR.o.2.2.1 _ e with h|h
      · exact .inr h
      · omega
    · exact((HR.o.2.2.2.2.ext bM.o).kp Zr.o (fun e=>by
       rcases HR.o.2.2.1 _ e with h|h
       · have:=(HBV.o _ h).2;omega
       · omega)).kp (dw (·=bb) rfl _) gV
  · have Bn:k=fs.length:=by omega
    subst Bn;go_wp2;((try simp only[Exit.inBlock,Exit.then]);(first|refine bodyPost_ret (results_none rfl _ _ _) rfl ?_|refine bodyPost_end (results_none rfl _ _ _) rfl ?_));refine⟨rfl,v',HR.o.1,?_,?_,HR.o.2.2.2.1⟩
    · have h2:=HR.o.2.1;rw[HM.o,List.take_length]at h2;exact h2
    · intro e;rcases HR.o.2.2.1 _ e with h|h
      · exact lG.o h
      · omega
attribute [local go_sem] Oper.semAt_some
theorem Ag(w:World)(a:Option Addr)(n c:Nat):
    Calls Tryz.prog 125 #[.slice a n c] w fun e w'=>
     e=.returned (.func (.func 149) #[] #[.pointer (some ⟨w.heap.size,0,none⟩)])∧w.alloc (.cells #[.slice a n c] 67)=w':=by
 go_enter Tryz.func125,Tryz.ntmps125;go_wp2;go_ret;exact⟨rfl,rfl⟩
def backTo{α:Type}(l:List α):Nat→List (Int×α)
 |0=>[]
 |n+1=>(match l[n]? with|some x=>[((n:Int),x)]|none=>[])++backTo l n
theorem wN{α:Type}{l:List α}{n:Nat}{x:α}(h:l[n]?=some x):backTo l (n+1)=((n:Int),x)::backTo l n:=by
 simp[backTo,h]
theorem kQ{α:Type}(l:List α):∀n,n≤l.length→(backTo l n).map Prod.snd=(l.take n).reverse
 |0,_=>by simp[backTo]
 |n+1,h=>by
  rw[wN (List.getElem?_eq_getElem (show n<l.length by omega)),List.take_succ_eq_append_getElem (show n<l.length by omega),List.map_cons,kQ l n Wg,List.reverse_append];rfl
def IC(x:Int×M.Ref):Array Value:=#[.int .i64 x.1,.agg #[.int .i64 x.2.keeper,.string x.2.name]]
theorem yL(refs:List M.Ref)(Vb:Nat)(v:Value)(I Bd:Nat→Prop)(hBd:∀k,Bd k→k≠Vb∧¬I k):
    Iter Tryz.prog 149 #[.pointer (some ⟨Vb,0,none⟩)] IC (fun _=>False) Bd
     (fun xs=>xs=backTo refs refs.length) (fun pre=>∃rest,backTo refs refs.length=pre++rest) (fun _=>True)
     (fun W=>ay W Vb 67 #[v]∧SliceOf 2 zn W I v refs) (fun pre x=>∃rest,backTo refs refs.length=pre++x::rest):=by
 intro lp J Jx W ⟨hbV,vC⟩ hJ ZT hN hY hJ0;obtain⟨a,cap,rfl,hn,dm⟩:=vC.form;refine callsIn_of_wp Tryz.func149 rfl trivial ?_ rfl;simp only[Tryz.ntmps149,List.size_toArray,List.length_cons,List.length_nil,Nat.reduceAdd,Nat.reduceSub,Array.replicate_succ,Array.replicate_zero,List.push_toArray,List.append_toArray,List.nil_append,List.cons_append];have c0:=hbV.c 0 (.slice a refs.length cap) rfl;have hw:IntKind.i64.wrap ((refs.length:Int) - 1)=(refs.length:Int) - 1:=IntWalk.i64_in _ Wg;gi_wp2;clear hw;gi_loopg [3] refs.length (fun m i wr=>∃pre:List (Int×M.Ref),((m=0∧i=.int .i64 (-1))∨∃k:Nat,m=k+1∧i=.int .i64 k)∧m≤refs.length∧Zs (backTo refs refs.length=pre++backTo refs m)∧Zs (J pre wr∧ay wr Vb 67 #[.slice a refs.length cap]∧SliceOf 2 zn wr I (.slice a refs.length cap) refs))
 case atStart=>
  refine⟨[],?_,Nat.le_refl _,Z3 Wf,Z3 ⟨hJ0,hbV,vC⟩⟩;rcases Nat.eq_zero_or_pos refs.length with h0|h0
  · left;exact⟨h0,by rw[h0];rfl⟩
  · right;exact⟨refs.length - 1,by omega,by congr 1;omega⟩
 case round =>
  obtain⟨pre,hm,hmn,HB,HJ⟩:=hrel;rcases hm with⟨rfl,rfl⟩|⟨k,rfl,rfl⟩
  · have HS:Zs (backTo refs refs.length=pre):=Z3 (by rw[HB.o];simp[backTo]);gi_wp2;((try simp only[Exit.inBlock,Exit.then]);(first|refine bodyPost_ret (results_none rfl _ _ _) rfl ?_|refine bodyPost_end (results_none rfl _ _ _) rfl ?_));exact⟨⟨_,rfl⟩,.inl ⟨pre,HS.o.symm,HJ.o.1⟩⟩
  · obtain⟨x,hx⟩:=get_some (show k<refs.length by omega);obtain⟨hj,hb,hs⟩:=HJ.o;obtain⟨b,off,cs,rfl,hI,rfl, -,hc⟩:=hs.get hx;obtain⟨g0,g1⟩:=hc.two;have d0:=hb.c 0 (.slice (some ⟨b,off,none⟩) refs.length cap) rfl;have zB:(0:Int)≤(k:Int):=by omega
    have sM:(k:Int)<refs.length:=by omega
    have hd:decide ((0:Int)≤(k:Int))=true:=decide_eq_true zB;have lU:Zs (backTo refs refs.length=(pre++[((k:Int),x)])++backTo refs k):=Z3 (by rw[HB.o,wN hx,List.append_assoc];rfl);obtain⟨fn,tmps,assign,body,hy,hR⟩:=hY pre ((k:Int),x) wr ⟨backTo refs k,by rw[lU.o,List.append_assoc];rfl⟩ hj;simp only[IC]at hy hR;have⟨HY,HJJ,HH⟩:=bg hY (And.intro hJ ZT) (And.intro hBd (And.intro hb hs));have hw:IntKind.i64.wrap ((k:Int) - 1)=(k:Int) - 1:=IntWalk.i64_in _ Wg;clear hY hJ ZT hN hBd hb hs vC hx hc hj hbV;gi_wp2_with fail;refine hR.mono ?_;rintro e W1 ⟨jr,(⟨rfl,Ti⟩|⟨rfl,hjx⟩)⟩
    · have vZ:=HH.o.2.1.kp jr (fun hb=>(HH.o.1 _ hb).1 rfl);have Ep:=HH.o.2.2.keep zn.stays (Kp.same jr fun q hq hb=>(HH.o.1 _ hb).2 hq) (fun _ h=>h);have HJ1:=Z3 (And.intro Ti (And.intro vZ Ep));clear Ti vZ Ep jr g0 g1 d0 hy hR hd;gi_wp2_with fail;gi_roundg k
      case measure=>omega
      case rel=>
       refine⟨pre++[((k:Int),x)],?_,by omega,lU,HJ1⟩;cases k with
       |zero=>left;exact⟨rfl,rfl⟩
       |succ k=>right;exact⟨k,rfl,by congr 1;omega⟩
    · gi_wp2_with fail;((try simp only[Exit.inBlock,Exit.then]);(first|refine bodyPost_ret (results_none rfl _ _ _) rfl ?_|refine bodyPost_end (results_none rfl _ _ _) rfl ?_));exact⟨⟨_,rfl⟩,.inr ⟨_,⟨_,lU.o⟩,hjx⟩⟩
end Go.Proofs.YtkmclfpjpajjeaaGreat
namespace Go
variable {F:Fence} {n:Nat} {P:Program}
def Pf(P:Program)(l:Nat)(R:Ending→World→Prop):Exit→Act→World→Prop
 | .panic chain,a,w=>a.defers=[]∧R (.panicked chain) w
 |e,a,w=>roundPost P l R e a w
theorem Cs{l:Nat}{f:FuncId}{tmps:Array Value}{assign body:Code}{w:World}{R:Ending→World→Prop}(hF:F.fn f)(hf:∃fn,P.funcs[f]?=some fn)
    (h:assign.wpIn (F.inRound l) n P (Exit.then (fun a₁ w₁=>∃w₂,(Instr.beginRound l).run P w₁=.ok () w₂∧body.wpIn (F.inRound l) n P (Pf P l R) a₁ w₂) (fun _ _ _=>False))
     {tmps:=tmps,defers:=[]} w):
    RoundIn F n P l f tmps assign body w R:=by
 refine⟨hF,fun c cs hr=>?_⟩;let b:Frame:={(default:Frame)with fn:=f,kind:=.normal,roundOf:=some l}
 have hb0:Frame.round l f tmps assign body .normal=b.atR {tmps:=tmps,defers:=[]} [.code assign,.beginRound,.code body]:=by
  simp[Frame.round,Frame.atR,b]
 have Eo:(F.inRound l).room ((c::cs).length+1+n):=hr;have ZR:(F.inRound l).fn b.fn:=hF;obtain⟨e,a₁,w₁,hq,qL⟩:=h b [.beginRound,.code body] (c::cs) rfl ZR Eo;rw[←hb0]at qL;cases e with
 | normal =>
  obtain⟨w₂,UZ,hbody⟩:=hq;have s1:StepsIn (Machine.fenced P (F.inRound l)) P (lone (b.atR a₁ [.beginRound,.code body]) (c::cs) w₁) (lone (b.atR a₁ [.code body]) (c::cs) w₂):=
   .one (fenced_calm (fr:=b.atR a₁ [.beginRound,.code body]) ZR Eo rfl) (stepR_beginRound rfl UZ)
  obtain⟨e₂,a₂,w₃,hq₂,harr₂⟩:=hbody b [] (c::cs) rfl ZR Eo;cases e₂ with
  |normal=>
   obtain⟨v,w₄,BV,hR⟩:=hq₂;exact⟨.returned v,w₄,hR,(StepsIn.trans qL s1).trans (StepsIn.trans harr₂ (.one (fenced_calm (fr:=b.atR a₂ []) ZR Eo rfl) (stepR_round_end rfl rfl BV)))⟩
  |ret=>
   obtain⟨v,w₄,BV,hR⟩:=hq₂;obtain⟨k₁,hs⟩:=harr₂.2 rfl;exact⟨.returned v,w₄,hR,(StepsIn.trans qL s1).trans (StepsIn.trans hs (.one (fenced_calm (fr:=b.atR a₂ (.code .ret::k₁)) ZR Eo rfl) (stepR_round_ret rfl rfl BV)))⟩
  |exit id=>
   obtain⟨v,w₄,BV,hR⟩:=hq₂;obtain⟨k₁,hk,hs⟩:=harr₂.2 rfl rfl;exact⟨.returned v,w₄,hR,(StepsIn.trans qL s1).trans (StepsIn.trans hs (.one (fenced_calm (fr:=b.atR a₂ (.code (.exit id)::k₁)) ZR Eo rfl) (stepR_round_exit rfl rfl hk BV)))⟩
  |goto t=>
   obtain⟨v,w₄,BV,hR⟩:=hq₂;obtain⟨k₁,hk,hs⟩:=harr₂.2 rfl rfl;exact⟨.returned v,w₄,hR,(StepsIn.trans qL s1).trans (StepsIn.trans hs (.one (fenced_calm (fr:=b.atR a₂ (.code (.goto t)::k₁)) ZR Eo rfl) (stepR_round_goto rfl rfl hk BV)))⟩
  |panic chain=>
   obtain⟨hd,hR⟩:=hq₂;obtain⟨todo,hs⟩:=harr₂;have hl:({b.atR a₂ todo with mode:=.panicking chain}:Frame).leaving P w₃ (.panicked chain):=⟨rfl,hd,hf⟩;exact⟨.panicked chain,w₃,hR,(StepsIn.trans qL s1).trans (StepsIn.trans hs (.one (fenced_leaving (n:=n) ZR Eo hl) (step_leave_panicked hl)))⟩
  |outgrown=>exact hq₂.elim
 |exit id=>exact hq.elim
 |goto t=>exact hq.elim
 |ret=>exact hq.elim
 |panic chain=>exact hq.elim
 |outgrown=>exact hq.elim
def Code.xJ(f:FuncId)(P:Program)(c:Code)(Q:Exit→Act→World→Prop)(a:Act)(w:World):Prop:=
 ∀(b:Frame) (k:List Item) (cs:List Frame),b.roundOf=none→b.fn=f→∃e a' w',Q e a' w'∧ArrivesIn (Machine.fenced P Fence.wide) P (lone (b.atR a (.code c::k)) cs w) b k cs e a' w'
theorem GM{f:FuncId}{c:Code}{Q:Exit→Act→World→Prop}{a:Act}{w:World}(h:c.wpIn Fence.wide n P Q a w):c.xJ f P Q a w:=
 fun b k cs NG _=>h b k cs NG trivial (room_wide _)
theorem Nf{f:FuncId}{x y:Code}{Q:Exit→Act→World→Prop}{a:Act}{w:World}(h:x.xJ f P (Exit.then (y.xJ f P Q) Q) a w):(Code.seq x y).xJ f P Q a w:=by
 intro b k cs NG hb;have one:StepsIn (Machine.fenced P Fence.wide) P (lone (b.atR a (.code (.seq x y)::k)) cs w) (lone (b.atR a (.code x:: .code y::k)) cs w):=.one (fenced_wide _ _) stepR_seq;obtain⟨e,a₁,w₁,hq,qL⟩:=h b (.code y::k) cs NG hb;by_cases hn:e=.normal
 · subst hn;obtain⟨e₂,a₂,w₂,hq₂,harr₂⟩:=hq b k cs NG hb;exact⟨e₂,a₂,w₂,hq₂,.of_steps (one.trans qL) harr₂⟩
 · refine⟨e,a₁,w₁,?_,.of_steps one (.pass (x:=.code y) rfl (fun _ _=>.inl hn) qL)⟩;cases e<;>first|exact absurd rfl hn|exact hq
theorem Dw{f:FuncId}{x y:Code}{Q:Exit→Act→World→Prop}{a:Act}{w:World}(h:x.wpIn Fence.wide n P (Exit.then (y.xJ f P Q) Q) a w):(Code.seq x y).xJ f P Q a w:=Nf (GM h)
theorem Io{f:FuncId}{x y:Code}{Q:Exit→Act→World→Prop}{a:Act}{w:World}(h:∀K:Act→World→Prop,(∀a w,y.xJ f P Q a w→K a w)→x.wpIn Fence.wide n P (Exit.then K Q) a w):(Code.seq x y).xJ f P Q a w:=
 Dw (h _ fun _ _ h=>h)
theorem PI{f:FuncId}{id:Nat}{c:Code}{Q:Exit→Act→World→Prop}{a:Act}{w:World}
    (h:c.xJ f P (fun e a w=>(∀x,e≠ .exit x)∧(∀x,e≠ .goto x)∧Q e a w) a w):(Code.block id c).xJ f P Q a w:=by
 intro b k cs NG hb;have one:StepsIn (Machine.fenced P Fence.wide) P (lone (b.atR a (.code (.block id c)::k)) cs w) (lone (b.atR a (.code c:: .inBlock id::k)) cs w):=.one (fenced_wide _ _) stepR_block;obtain⟨e,a₁,w₁,⟨h1,h2,hq⟩,qL⟩:=h b (.inBlock id::k) cs NG hb;refine⟨e,a₁,w₁,hq,?_⟩;cases e with
 |normal=>exact one.trans (StepsIn.trans qL (.one (fenced_wide _ _) stepR_inBlock))
 |ret=>exact .of_steps one (show ArrivesIn _ P _ b k cs .ret a₁ w₁ from⟨qL.1,qL.2⟩)
 |panic ch=>exact .of_steps one (show ArrivesIn _ P _ b k cs (.panic ch) a₁ w₁ from qL)
 |outgrown=>exact .of_steps one (show ArrivesIn _ P _ b k cs .outgrown a₁ w₁ from qL)
 |exit x=>exact absurd rfl (h1 x)
 |goto x=>exact absurd rfl (h2 x)
def R8(R:Ending→World→Prop):Exit→Act→World→Prop
 | .panic c,a,w=>a.defers=[]∧R (.panicked c) w
 | .outgrown,_,w=>R .outgrown w
 |_,_,_=>False
theorem uX{f:FuncId}{fn:Func}{x y:Code}{R:Ending→World→Prop}{a:Act}{w:World}(h:∀K:Act→World→Prop,(∀a w,y.xJ f P (bodyPostM Fence.wide n P fn R) a w→K a w)→x.wp P (Exit.then K (R8 R)) a w):
    (Code.seq x y).xJ f P (bodyPostM Fence.wide n P fn R) a w:=by
 refine Dw (n:=n) (wpIn_mono (wpIn_wide.2 (h _ fun _ _ h=>h)) ?_);intro e a w hq;cases e with
 |normal=>exact hq
 |panic c=>
  obtain⟨hd,hR⟩:=hq;show LeavesInM _ _ _ _ _ _ a.defers _ _
  rw[hd];exact hR
 |outgrown=>exact hq
 |ret=>exact hq.elim
 |exit x=>exact hq.elim
 |goto x=>exact hq.elim
def X0(ds:List Deferred)(R:Ending→World→Prop):Exit→Act→World→Prop
 | .normal,a,w=>a.defers=ds∧R (.returned (.tuple #[])) w
 | .panic c,a,w=>a.defers=ds∧R (.panicked c) w
 |_,_,_=>False
theorem Wy{f:FuncId}{c:Code}{ds:List Deferred}{R:Ending→World→Prop}{Q:Exit→Act→World→Prop}{a:Act}{w:World}(h:c.wp P (X0 ds R) a w)
    (hN:∀a w,a.defers=ds→R (.returned (.tuple #[])) w→Q .normal a w) (hP:∀c a w,a.defers=ds→R (.panicked c) w→Q (.panic c) a w):c.xJ f P Q a w:=by
 refine GM (n:=10) (wpIn_mono (wpIn_wide.2 h) ?_);intro e a w hq;cases e with
 |normal=>exact hN _ _ hq.1 hq.2
 |panic c=>exact hP _ _ _ hq.1 hq.2
 |outgrown=>exact hq.elim
 |ret=>exact hq.elim
 |exit x=>exact hq.elim
 |goto x=>exact hq.elim
theorem vP{f:FuncId}{fn:Func}{c:Code}{args:Array Value}{w:World}{R:Ending→World→Prop}
    (hf:P.funcs[f]?=some fn) (hb:fn.body=some c)
    (h:c.xJ f P (bodyPostM Fence.wide n P fn R) {tmps:=args++Array.replicate (fn.ntmps - args.size) undef,defers:=[]} w):CallsIn Fence.wide n P f args w R:=by
 refine⟨trivial,fun cs hr=>?_⟩;obtain⟨b,hbe⟩:∃b:Frame,b={(default:Frame)with fn:=f,kind:=.normal,roundOf:=none}:=⟨_,rfl⟩;have Qn:b.fn=f:=by rw[hbe]
 have NG:b.roundOf=none:=by rw[hbe]
 have hkd:b.kind=.normal:=by rw[hbe]
 have henter:Frame.enter P f args .normal=b.atR {tmps:=args++Array.replicate (fn.ntmps - args.size) undef,defers:=[]} [.code c]:=by
  simp[Frame.enter,Frame.atR,hf,hb,hbe]
 have leave:∀(fr:Frame) (u:FrameMode) (a':Act) (w':World),fr.fn=f→fr.kind=.normal→fr.mode=u→fr.defers=a'.defers→fr.tmps=a'.tmps→LeavesInM Fence.wide n P fn a'.tmps R a'.defers u w'→
     StepsIn (Machine.fenced P Fence.wide) P (lone (Frame.enter P f args .normal) cs w) (lone fr cs w')→
     ∃e w' fr,R e w'∧ComesIn (Machine.fenced P Fence.wide) P (lone (Frame.enter P f args .normal) cs w) (lone fr cs w') e∧fr.fn=f∧fr.leaving P w' e:=by
  intro fr u a' w' h1 h2 h3 h4 h5 hl hs;obtain⟨e',w'',fr',hR,L6,agK,hl'⟩:=leaves_stepsInM a'.defers u w' fr cs h3 h4 h5 (h1▸hf) h2 trivial hr hl;exact⟨e',w'',fr',hR,ComesIn.of_steps hs L6,agK.trans h1,hl'⟩
 obtain⟨e,a',w',hq,qL⟩:=h b [] cs NG Qn;rw[←henter]at qL;cases e with
 |normal=>exact leave {b.atR a' []with mode:=.returning} .returning a' w' Qn hkd rfl rfl rfl hq (StepsIn.trans qL (.one (fenced_wide _ _) (stepR_end NG)))
 |ret=>
  obtain⟨todo,hs⟩:=qL.1 NG;exact leave {b.atR a' todo with mode:=.returning} .returning a' w' Qn hkd rfl rfl rfl hq hs
 |panic chain=>
  obtain⟨todo,hs⟩:=qL;exact leave {b.atR a' todo with mode:=.panicking chain} (.panicking chain) a' w' Qn hkd rfl rfl rfl hq hs
 |exit id=>exact hq.elim
 |goto l=>exact hq.elim
 |outgrown=>exact⟨.outgrown,w',b,hq,qL.resolve_left (by simp[hkd]),Qn,trivial⟩
theorem GN{g:Operand}{ps:Array Tmp}{assign body:Code}{Q:Exit→Act→World→Prop}{a:Act}{w:World}{fn:FuncId}
    (h:∃(l:Nat) (mark:List Deferred) (w₁:World) (d:Deferred) (w₁':World) (f:FuncId) (args:Array Value) (w₂:World),
     (Instr.enterLoop fn a.tmps ps assign body none).run P w=.ok (l,mark) w₁∧(resolve a.eval (rangeCall g l) 0).run P w₁=.ok d w₁'∧(invoke d.target d.args).run P w₁'=.ok (.enter f args) w₂∧
     CallsIn Fence.wide (n - 1) P f args w₂ (rangePost Fence.wide n P l Q {a with defers:=mark++a.defers})):
    (Code.rangeFunc g ps assign body).xJ fn P Q a w:=by
 obtain⟨l,mark,w₁,d,w₁',f,args,w₂,he,LZ,hinv,hF,nR⟩:=h;intro b k cs NG hb;subst hb;rw[←NG]at he;have henter:=stepR_rangeFunc (P:=P) (b:=b) (a:=a) (k:=k) (cs:=cs) (w:=w) he LZ hinv;obtain⟨e,w₃,fr,hR,hsteps,Qn,hleave⟩:=nR (b.atR {a with defers:=mark++a.defers} (.inRangeFunc l::k)::cs) (room_wide _);cases e with
 |outgrown=>
  obtain⟨a₀,w₀,hq⟩:=hR;exact⟨.outgrown,a₀,w₀,hq,.inr (Outgrown.of_steps (.one henter) hsteps)⟩
 |panicked chain=>
  have Vg:=step_leave_panicked (c:=b.atR {a with defers:=mark++a.defers} (.inRangeFunc l::k)) (cs:=cs) hleave;rw[Frame.raise_atR]at Vg;exact⟨.panic chain,_,w₃,hR,.inRangeFunc l::k,.head (fenced_wide _ _) henter (StepsIn.trans hsteps (.one (fenced_wide _ _) Vg))⟩
 | returned v =>
  obtain⟨jump,w₄,BV,hj⟩:=hR;have Vg:=step_leave_returned (c:=b.atR {a with defers:=mark++a.defers} (.inRangeFunc l::k)) (cs:=cs) hleave;rw[finish_atR_inRangeFunc]at Vg;have back:StepsIn (Machine.fenced P Fence.wide) P (lone (b.atR a (.code (.rangeFunc g ps assign body)::k)) cs w) (lone (b.atR {a with defers:=mark++a.defers} ((jump.map Item.code).toList++k)) cs w₄):=
   .head (fenced_wide _ _) henter (StepsIn.trans hsteps (.head (fenced_wide _ _) Vg (.one (fenced_wide _ _) (stepR_endRangeFunc BV))))
  cases jump with
  |none=>exact⟨.normal,_,w₄,hj,back⟩
  |some c=>
   obtain⟨e',a'',w₅,hq,qL⟩:=hj b k cs NG trivial (room_wide _);exact⟨e',a'',w₅,hq,.of_steps back qL⟩
end Go
namespace Go.Proofs.YtkmclfpjpajjeaaGreat
open Go Go.RowKit
def ZE{α:Type}(P:Program)(gf:Nat)(lb:Array Value)(encs:α→Array Value)(Hc Bd:Nat→Prop)(S Sp Xp:List α→Prop)(XM:World→Prop)(Nx:List α→α→Prop:=fun _ _=>True):Prop:=
 ∀(l:Nat) (J Jx:List α→World→Prop) (Jp:List PanicEntry→List α→World→Prop) (W:World),XM W→(∀s A B,J s A→Kp Hc A B→J s B)→(∀s A B,Jx s A→Kp Hc A B→Jx s B)→(∀c s A B,Jp c s A→Kp Hc A B→Jp c s B)→(∀s A,J s A→Xp s)→
  (∀pre x W1,Nx pre x→J pre W1→YieldAt Fence.wide 8 P l (encs x) W1 fun e W'=>Kp Bd W1 W'∧((e=.returned (.bool true)∧J (pre++[x]) W')∨(e=.returned (.bool false)∧Jx (pre++[x]) W')∨∃c,e=.panicked c∧Jp c (pre++[x]) W'))→
  J [] W→CallsIn Fence.wide 9 P gf (#[.func (.yield l) #[] #[]]++lb) W fun e W'=>((∃v,e=.returned v)∧((∃xs,S xs∧J xs W')∨(∃pre,Sp pre∧Jx pre W')))∨∃c pre,e=.panicked c∧Sp pre∧Jp c pre W'
def Sc{α:Type}(Bb:Nat→Prop)(I:List α→World→Prop)(Ix:Code→List α→World→Prop)(Ip:List PanicEntry→List α→World→Prop)(xs:List α)(W:World):Exit→Act→World→Prop
 | .panic c,a,W'=>a.defers=[]∧Kp Bb W W'∧Ip c xs W'
 |e,a,W'=>roundEnd Bb I Ix xs W e a W'
theorem Sa {α : Type} {P : Program} {g : Operand} {ps : Array Tmp} {assign body : Code} {Q : Exit → Act → World → Prop} {a : Act} {w : World} {gf : Nat} {lb : Array Value}
    (hg:a.eval g=.func (.func gf) #[] lb) (eg:∀args w,(callFunc gf args).run P w=.ok (.enter gf args) w) {encs:α→Array Value} (hps:∀x,(encs x).size=ps.size)
    {S Sp Xp:List α→Prop} {Hc Bb:Nat→Prop} {XM:World→Prop} {Nx:List α→α→Prop} (abZ:ZE P gf lb encs Hc (fun k=>Bb k∨k=w.heap.size+1) S Sp Xp XM Nx)
    (hIt:∀W,Ext w W→XM W) (hD1:¬Hc w.heap.size) (hD2:¬Hc (w.heap.size+1)) (hB1:¬Bb w.heap.size) (hB2:¬Bb (w.heap.size+1))
    (I:List α→World→Prop) (Ix:Code→List α→World→Prop) (Ip:List PanicEntry→List α→World→Prop) {fn:FuncId} (Qn:∃f,P.funcs[fn]?=some f) (hIp:∀c s A B,Ip c s A→Kp (fun k=>Hc k∨k=w.heap.size+1) A B→Ip c s B)
    (hI:∀s A B,I s A→Kp (fun k=>Hc k∨k=w.heap.size+1) A B→I s B) (hIx:∀c s A B,Ix c s A→Kp (fun k=>Hc k∨k=w.heap.size+1) A B→Ix c s B) (h0:I [] w) (hIB:∀s A,I s A→Xp s)
    (Ax:List α→α→World→Act→World→Prop)
    (hassign:∀(pre:List α) (x:α) (W:World) (K:Act→World→Prop),Nx pre x→I pre W→w.heap.size+1<W.heap.size→(∀a₁ W₁,Ax pre x W a₁ W₁→K a₁ W₁)→
     assign.wpIn (Fence.wide.inRound (w.heap.size+1)) 8 P (Exit.then K (fun _ _ _=>False)) {tmps:=(ps.zip (encs x)).foldl (fun t (p,v)=>t.setIfInBounds p v) a.tmps,defers:=[]} W)
    (hAx:∀pre x W a₁ W₁,Ax pre x W a₁ W₁→Kp Bb W W₁)
    (hbody:∀(pre:List α) (x:α) (W:World) (a₁:Act) (W₁ W₂:World),Ax pre x W a₁ W₁→Kp (·=w.heap.size+1) W₁ W₂→W₂.heap.size=W₁.heap.size→
     body.wpIn (Fence.wide.inRound (w.heap.size+1)) 8 P (Sc Bb I Ix Ip (pre++[x]) W₂) a₁ W₂)
    (hdone:∀(xs:List α) (W:World),S xs→I xs W→W.heap[w.heap.size]?=some (.deferred (some []))→Q .normal {a with defers:={target:=.collected w.heap.size,args:=#[]}::a.defers} W)
    (hstop:∀(c:Code) (pre:List α) (W:World),Sp pre→Ix c pre W→W.heap[w.heap.size]?=some (.deferred (some []))→c.wpIn Fence.wide 10 P Q {a with defers:={target:=.collected w.heap.size,args:=#[]}::a.defers} W)
    (hpanic:∀(c:List PanicEntry) (pre:List α) (W:World),Sp pre→Ip c pre W→W.heap[w.heap.size]?=some (.deferred (some []))→Q (.panic c) {a with defers:={target:=.collected w.heap.size,args:=#[]}::a.defers} W):
    (Code.rangeFunc g ps assign body).xJ fn P Q a w:=by
 refine GN (n:=10) ?_;obtain⟨rec,uD⟩:∃rec:LoopState→Option Code→Loop,rec=fun st pe=>{state:=st,pending:=pe,fn,tmps:=a.tmps,params:=ps,assign,body,defers:=w.heap.size}:=⟨_,rfl⟩;obtain⟨W1,JH⟩:∃W1,(w.alloc (.deferred (some []))).alloc (.loop (rec .ready none))=W1:=⟨_,rfl⟩;have Aq:W1.heap[w.heap.size+1]?=some (.loop (rec .ready none)):=by
  rw[←JH];have:=World.alloc_heap_new (w.alloc (.deferred (some []))) (.loop (rec .ready none));rwa[World.size_alloc]at this
 have lI:W1.heap[w.heap.size]?=some (.deferred (some [])):=by
  rw[←JH];exact(Below.heap_alloc _ _ _ Wf).trans (World.alloc_heap_new w _)
 have bH:Ext w W1:=by rw[←JH];exact(Kp.rr.alloc _).alloc _
 have hI1:I [] W1:=hI _ _ _ h0 bH.any;have keep:∀{D:Nat→Prop} {A B:World} {o:Obj} {k:Nat},Kp D A B→¬D k→A.heap[k]?=some o→B.heap[k]?=some o:=fun h hd ho=>
  (h.block _ (Array.getElem?_eq_some_iff.1 ho).1 hd).trans ho
 refine⟨w.heap.size+1,[{target:=.collected w.heap.size,args:=#[]}],W1,{target:=.fn (.func gf) lb,args:=#[.func (.yield (w.heap.size+1)) #[] #[]]},W1,gf,
  #[.func (.yield (w.heap.size+1)) #[] #[]]++lb,W1,?_,?_,?_,?_⟩
 · rw[←JH,uD];exact run_enterLoop_outer _ _ _ _ _
 · simp only[resolve,hg];simp[go_sem]
 · simp[invoke,go_sem,eg]
 · refine(abZ (w.heap.size+1)
    (fun pre W=>I pre W∧W.heap[w.heap.size+1]?=some (.loop (rec .ready none))∧W.heap[w.heap.size]?=some (.deferred (some [])))
    (fun pre W=>∃c,Ix c pre W∧W.heap[w.heap.size+1]?=some (.loop (rec .done (some c)))∧W.heap[w.heap.size]?=some (.deferred (some [])))
    (fun c pre W=>Ip c pre W∧W.heap[w.heap.size]?=some (.deferred (some [])))
    W1 (hIt _ bH)
    (fun s A B hs hk=>⟨hI s A B hs.1 (hk.weak fun _ _ h=>.inl h),keep hk hD2 hs.2.1,keep hk hD1 hs.2.2⟩)
    (fun s A B hs hk=>by
     obtain⟨c,hc,hl,hd⟩:=hs;exact⟨c,hIx c s A B hc (hk.weak fun _ _ h=>.inl h),keep hk hD2 hl,keep hk hD1 hd⟩)
    (fun c s A B hs hk=>⟨hIp c s A B hs.1 (hk.weak fun _ _ h=>.inl h),keep hk hD1 hs.2⟩)
    (fun s A hs=>hIB s A hs.1) ?_ ⟨hI1,Aq,lI⟩).mono ?_
   · rintro pre x W Qq ⟨hi,hl,hk⟩;have bY:w.heap.size+1<W.heap.size:=(Array.getElem?_eq_some_iff.1 hl).1;have hy:=run_yield (P:=P) (args:=encs x) hl (by rw[uD];exact hps x);rw[uD]at hy;refine⟨fn,_,assign,body,hy,Cs trivial Qn (hassign pre x W _ Qq hi bY ?_)⟩;intro a₁ W₁ hax;have jr:=hAx _ _ _ _ _ hax;have Bo:W₁.heap[w.heap.size+1]?=some (.loop (rec .ready none)):=keep jr hB2 hl;have sM:W₁.heap[w.heap.size]?=some (.deferred (some [])):=keep jr hB1 hk;refine⟨_,run_beginRound Bo (by rw[uD]),?_⟩;have abX:w.heap.size+1<W₁.heap.size:=(Array.getElem?_eq_some_iff.1 Bo).1;have Hw:(W₁.putObj (w.heap.size+1) (.loop {rec .ready none with state:=.busy})).heap[w.heap.size+1]?=some (.loop {rec .ready none with state:=.busy}):=World.putObj_heap_same abX;have qy:(W₁.putObj (w.heap.size+1) (.loop {rec .ready none with state:=.busy})).heap[w.heap.size]?=some (.deferred (some [])):=(World.putObj_heap_other Wg).trans sM;refine wpIn_mono (hbody pre x W a₁ W₁ _ hax (Kp.putObj _ _ _) Wf) ?_;have AL:∀(W3:World),Kp Bb (W₁.putObj (w.heap.size+1) (.loop {rec .ready none with state:=.busy})) W3→∀o,Kp (fun k=>Bb k∨k=w.heap.size+1) W (W3.putObj (w.heap.size+1) o):=fun W3 h3 o=>
      (((jr.weak fun _ _ h=>.inl h).trans ((Kp.putObj _ _ _).weak fun _ _ h=>.inr h)).trans (h3.weak fun _ _ h=>.inl h)).trans ((Kp.putObj _ _ _).weak fun _ _ h=>.inr h)
     have fin:∀(jump:Option Code) (W3:World),Kp Bb (W₁.putObj (w.heap.size+1) (.loop {rec .ready none with state:=.busy})) W3→
         (Instr.endRound (w.heap.size+1) jump).run P W3=.ok (.bool jump.isNone) (W3.putObj (w.heap.size+1) (.loop (rec (if jump.isNone then .ready else .done) jump)))∧
         (W3.putObj (w.heap.size+1) (.loop (rec (if jump.isNone then .ready else .done) jump))).heap[w.heap.size+1]?=some (.loop (rec (if jump.isNone then .ready else .done) jump))∧
         (W3.putObj (w.heap.size+1) (.loop (rec (if jump.isNone then .ready else .done) jump))).heap[w.heap.size]?=some (.deferred (some [])):=fun jump W3 rO=>by
      have hl3:=keep rO hB2 Hw;have:=run_endRound (P:=P) jump hl3;rw[uD]at this ⊢;exact⟨this,World.putObj_heap_same (Array.getElem?_eq_some_iff.1 hl3).1,(World.putObj_heap_other Wg).trans (keep rO hB1 qy)⟩
     have tr:∀(W3:World) (o:Obj),Kp (fun k=>Hc k∨k=w.heap.size+1) W3 (W3.putObj (w.heap.size+1) o):=fun W3 o=>(Kp.putObj _ _ _).weak fun _ _ h=>.inr h;rintro e a3 W3 hp;cases e with
     |normal=>
      obtain⟨rO,LW⟩:=hp;obtain⟨hr,OE,Hv⟩:=fin none W3 rO;exact⟨_,_,hr,AL _ rO _,.inl ⟨rfl,hI _ _ _ LW (tr _ _),OE,Hv⟩⟩
     |ret=>
      obtain⟨rO,LW⟩:=hp;obtain⟨hr,OE,Hv⟩:=fin (some .ret) W3 rO;exact⟨_,_,hr,AL _ rO _,.inr (.inl ⟨rfl,.ret,hIx _ _ _ _ LW (tr _ _),OE,Hv⟩)⟩
     |exit id=>
      obtain⟨rO,LW⟩:=hp;obtain⟨hr,OE,Hv⟩:=fin (some (.exit id)) W3 rO;exact⟨_,_,hr,AL _ rO _,.inr (.inl ⟨rfl,.exit id,hIx _ _ _ _ LW (tr _ _),OE,Hv⟩)⟩
     |goto t=>
      obtain⟨rO,LW⟩:=hp;obtain⟨hr,OE,Hv⟩:=fin (some (.goto t)) W3 rO;exact⟨_,_,hr,AL _ rO _,.inr (.inl ⟨rfl,.goto t,hIx _ _ _ _ LW (tr _ _),OE,Hv⟩)⟩
     |panic ch=>
      obtain⟨hd,rO,LW⟩:=hp;exact⟨hd,((jr.weak fun _ _ h=>.inl h).trans ((Kp.putObj _ _ _).weak fun _ _ h=>.inr h)).trans (rO.weak fun _ _ h=>.inl h),.inr (.inr ⟨ch,rfl,LW,keep rO hB1 qy⟩)⟩
     |outgrown=>exact hp.elim
   · rintro e W2 (⟨⟨v,rfl⟩,(⟨xs,hS,hi,hl,hk⟩|⟨pre,hSp,c,hi,hl,hk⟩)⟩|⟨c,pre,rfl,hSp,hi,hk⟩)
     · exact⟨none,_,by have:=run_endLoop (P:=P) hl (by rw[uD];simp);rw[uD]at this;exact this,
        hdone xs _ hS (hI _ _ _ hi ((Kp.putObj _ _ _).weak fun _ _ h=>.inr h)) ((World.putObj_heap_other Wg).trans hk)⟩
     · exact⟨some c,_,by have:=run_endLoop (P:=P) hl (by rw[uD];simp);rw[uD]at this;exact this,
        hstop c pre _ hSp (hIx _ _ _ _ hi ((Kp.putObj _ _ _).weak fun _ _ h=>.inr h)) ((World.putObj_heap_other Wg).trans hk)⟩
     · exact hpanic c pre _ hSp hi hk
def AU(ops:Array Oper):Bool:=ops.all fun o=>match o.op with| .defer _=>false|_=>true
theorem Ke{ops:Array Oper}(h:AU ops=true)(j:Nat)(o:Oper)(ho:ops[j]?=some o)(c:Call):o.op≠ .defer c:=by
 intro heq;have:=Array.all_eq_true_iff_forall_mem.1 h o (Array.mem_of_getElem? ho);simp[heq]at this
section
variable {F:Fence} {m:Nat} {P:Program} {ops:Array Oper} {md:Region.Mode} {Q:Exit→Act→World→Prop} {C:World→Prop} {n:Nat}
theorem ib.wpOpIn(hF:∀f,F.fn f){i:Nat}{o:Oper}{v:Value}{a:Act}(IW:∀c,o.op≠ .defer c)(hi:ops[i]?=some o)(hy:ib P ops C o v a){K:Act→World→Prop}{w:World}(hC:C w)(h:K (a.put o.dst v) w):wpOpIn F m P ops Q i K a w:=by
 unfold Go.wpOpIn;simp only[hi];rcases hy with⟨hw,hv⟩|⟨hw,rfl⟩
 · simp only[hw,if_true];refine⟨fun f _=>hF f,?_⟩;rw[Oper.semAt_eq _ _ _ IW];rcases hv w hC with e|⟨e,rfl⟩
   · rw[e];exact h
   · rw[e];exact h
 · simp only[hw,Bool.false_eq_true,if_false];exact⟨fun f _=>hF f,h⟩
theorem Ni(hF:∀f,F.fn f){j:Nat}{oi oj:Oper}{v:Value}(IW:∀c,oj.op≠ .defer c)(hj:ops[j]?=some oj)(hap:oi.apart ops oj=true)
    (hsi:∀cs b,oi.op≠ .select cs b) (hsj:∀cs b,oj.op≠ .select cs b)
    (hQ:∀c a w,Q (.panic c) (a.put oi.dst v) w→Q (.panic c) a w) {K:Act→World→Prop} {a:Act} {w:World}
    (hy:ib P ops C oi v a) (h:wpOpIn F m P ops Q j K (a.put oi.dst v) w):
    wpOpIn F m P ops Q j (fun a' w'=>ib P ops C oi v a'∧K (a'.put oi.dst v) w') a w:=by
 obtain⟨h1,h2,h3⟩:=Oper.apart_spec hap;have keep:∀(a:Act),ib P ops C oi v a→∀u,ib P ops C oi v (a.put oj.dst u):=fun a hy u=>
  hy.of_same (execOp_put oi hsi a oj.dst u h3) (wanted_put oi a oj.dst u h3)
 unfold wpOpIn at*;simp only[hj]at*;rw[wanted_put oj a oi.dst v h1,about_put oj w a oi.dst v h1]at h;split
 · rename_i hw;simp only[hw,if_true]at h;unfold Oper.wpIn at*;refine⟨fun f _=>hF f,?_⟩;have h:=h.2;rw[Oper.semAt_eq _ _ _ IW,execOp_put oj hsj a oi.dst v h1]at h;rw[Oper.semAt_eq _ _ _ IW];generalize (execOp a.eval oj).run P w=r at*;cases r with
   | ok x w' =>
    cases x<;>simp only[Oper.uponIn]at h ⊢
    case value u=>exact⟨keep a hy u,by rw[←Act.put_comm a v u h2];exact h⟩
    case skip=>exact⟨keep a hy _,by rw[←Act.put_comm a v undef h2];exact h⟩
    case defer d=>
     refine⟨(hy.of_same rfl rfl:ib P ops C oi v {a with defers:=d::a.defers}).of_same (execOp_put oi hsi _ oj.dst undef h3) (wanted_put oi _ oj.dst undef h3),?_⟩;rw[←Act.put_comm _ v undef h2,←Act.put_defers];exact h
    case enter f args=>
     refine⟨h.1,CallsIn.mono h.2 fun e w'' he=>?_⟩;cases e with
     |returned u=>exact⟨keep a hy u,by rw[←Act.put_comm a v u h2];exact he⟩
     |panicked c=>exact hQ _ _ _ he
     |outgrown=>exact he
    case row row args=>exact⟨h.1,RowsIn.mono h.2 fun u w'' he=>⟨keep a hy u,by rw[←Act.put_comm a v u h2];exact he⟩⟩
    case round l f tmps assign body=>
     refine⟨h.1,RoundIn.mono h.2 fun e w'' he=>?_⟩;cases e with
     |returned u=>exact⟨keep a hy u,by rw[←Act.put_comm a v u h2];exact he⟩
     |panicked c=>exact hQ _ _ _ he
     |outgrown=>exact he
   |halt x w'=>
    cases x<;>simp only[Oper.uponIn]at h ⊢
    case panic u=>exact hQ _ _ _ h
 · rename_i hw;simp only[hw]at h;exact⟨fun f _=>hF f,keep a hy _,by rw[←Act.put_comm a v undef h2];exact h.2⟩
def qd(F:Fence)(m:Nat)(P:Program)(md:Region.Mode)(ops:Array Oper)(n:Nat)(C:World→Prop)(Q:Exit→Act→World→Prop):Nat→Array Bool→Act→World→Prop
 |0,listed,a,w=>Region.ready md ops listed=[]∧Q .normal a w
 |fuel+1,listed,a,w=>
  (Region.ready md ops listed=[]→Q .normal a w)∧
  ∀i∈Region.ready md ops listed,wpOpIn F m P ops Q i (fun a' w'=>(i<n→C w')∧qd F m P md ops n C Q fuel (listed.setIfInBounds i true) a' w') a w
theorem Be:∀(fuel:Nat) (listed:Array Bool) (a:Act) (w:World),qd F m P md ops n C Q fuel listed a w→wpAnyIn F m P md ops Q fuel listed a w
 |0,_,_,_,h=>h
 |fuel+1,_,_,_,h=>⟨h.1,fun i hi=>wpOpIn_mono (fun a' w' h'=>Be fuel _ a' w' h'.2) (h.2 i hi)⟩
theorem Im (hF : ∀ f, F.fn f) (IW : ∀ (j : Nat) (o : Oper), ops[j]? = some o → ∀ c, o.op ≠ .defer c) {i : Nat} {oi : Oper} {v : Value} (hi : ops[i]? = some oi) (Vl : ∀ (j : Nat) (o : Oper) cs b, ops[j]? = some o → o.op ≠ .select cs b)
    (hQ:∀c a w,Q (.panic c) (a.put oi.dst v) w→Q (.panic c) a w) (Vn:∀j,n≤j→Region.waitsFor md ops j i=true∨ops[j]?=none):
    ∀(fuel:Nat) (listed:Array Bool) (a:Act) (w:World),
     (∀j oj,ops[j]?=some oj→j≠i→listed.getD j true=false→(∀e∈oj.after,Region.binds md e=true→e.on≠i)→oi.apart ops oj=true)→
     i∈Region.ready md ops listed→ib P ops C oi v a→C w→i<n→
     qd F m P md ops n C Q fuel (listed.setIfInBounds i true) (a.put oi.dst v) w→qd F m P md ops n C Q (fuel+1) listed a w:=by
 intro fuel;induction fuel with
 |zero=>
  intro listed a w _ hr hy hC DU H;refine⟨fun h=>(by rw[h]at hr;cases hr),fun j hj=>?_⟩;by_cases FB:j=i
  · subst FB;exact hy.wpOpIn hF (IW _ _ hi) hi hC ⟨fun _=>hC,H⟩
  · have:=ready_mono hj FB;rw[H.1]at this;cases this
 | succ fuel ih =>
  intro listed a w LV hr hy hC DU H;refine⟨fun h=>(by rw[h]at hr;cases hr),fun j hj=>?_⟩;by_cases FB:j=i
  · subst FB;exact hy.wpOpIn hF (IW _ _ hi) hi hC ⟨fun _=>hC,H⟩
  · have h1:=H.2 j (ready_mono hj FB);obtain⟨U5,oj,Tk,nW⟩:=mem_ready.1 hj;have Ve:∀e∈oj.after,Region.binds md e=true→e.on≠i:=fun e he hb heq=>by
     have h1:=nW e he hb;have h0:=(mem_ready.1 hr).1;rw[heq]at h1;rcases Nat.lt_or_ge i listed.size with h'|h'
     · simp[h']at h0 h1;rw[h0]at h1;cases h1
     · simp[Array.getElem?_eq_none h']at h1
    have hjn:j<n:=by
     rcases Nat.lt_or_ge j n with h|h
     · exact h
     · rcases Vn j h with hw|hw
       · obtain⟨oj',Vf,e,he,hb,heq⟩:=Region.waitsFor_spec hw;rw[Tk]at Vf;cases Vf;exact absurd heq (Ve e he hb)
       · rw[Tk]at hw;cases hw
    have h2:=Ni hF (IW _ _ Tk) Tk (LV j oj Tk FB U5 Ve) (fun cs b=>Vl i oi cs b hi) (fun cs b=>Vl j oj cs b Tk) hQ hy h1;have OD:∀k ok,ops[k]?=some ok→k≠i→(listed.setIfInBounds j true).getD k true=false→
        (∀e∈ok.after,Region.binds md e=true→e.on≠i)→oi.apart ops ok=true:=fun k ok hk hki G8 tO=>by
     refine LV k ok hk hki ?_ tO;by_cases Yv:j=k
     · subst Yv;exact U5
     · rw[getD_set_ne true Yv]at G8;exact G8
    refine wpOpIn_mono (fun a' w' h3=>⟨fun _=>h3.2.1 hjn,ih (listed.setIfInBounds j true) a' w' OD (ready_mono hr (Ne.symm FB)) h3.1 (h3.2.1 hjn) DU ?_⟩) h2;rw[Array.setIfInBounds_comm _ _ FB];exact h3.2.2
def nK(F:Fence)(m:Nat)(P:Program)(l:List Oper)(C:World→Prop)(Q:Exit→Act→World→Prop)(fin:Act→World→Prop):List (List Nat×Nat)→List Nat→Act→World→Prop
 |[],q,a,w=>wpQuiet P l.toArray C (fun a'=>fin a' w) (q.filterMap (l[·]?)) a
 |(q,i)::r,q',a,w=>wpQuiet P l.toArray C (fun a'=>wpListIn F m P l.toArray (Exit.then (fun a'' w'=>C w'∧nK F m P l C Q fin r q' a'' w') Q) (l[i]?).toList a' w) (q.filterMap (l[·]?)) a
theorem uQ(hF:∀f,F.fn f){l:List Oper}(IW:AU l.toArray=true)(hs:Region.noSelect l.toArray=true)(ht:A9 md l.toArray n=true)(hQ:∀c a d v w,Q (.panic c) (a.put d v) w→Q (.panic c) a w){K:Act→Prop}{w:World}(hC:C w)(fuel:Nat)(L:Array Bool)
    (hK:∀a',K a'→qd F m P md l.toArray n C Q fuel L a' w):∀(q:List Nat) (listed:Array Bool) (a:Act),Tt md l.toArray n q listed=some L→
    wpQuiet P l.toArray C K (q.filterMap (l[·]?)) a→qd F m P md l.toArray n C Q (fuel+q.length) listed a w
 |[],listed,a,ho,h=>by
  simp only[Tt,Option.some.injEq]at ho;subst ho;exact hK a h
 | i :: q, listed, a, ho, h => by
  unfold Tt at ho;split at ho
  · rename_i hb;simp only[Bool.and_eq_true,decide_eq_true_eq]at hb;obtain⟨⟨⟨h1,h2⟩,h3⟩,h4⟩:=hb;cases Hz:l[i]? with
    |none=>simp[Hz]at h4
    |some o=>
     have FD:l.toArray[i]?=some o:=by simpa using Hz
     have hp:Cq o=true:=by simpa [Hz]using h4
     rw[List.filterMap_cons,Hz]at h;simp only[wpQuiet]at h;obtain⟨v,hy,hk⟩:=tK hp h;have:=uQ hF IW hs ht hQ hC fuel L hK q _ _ ho hk;exact Im hF (Ke IW) FD (Region.noSelect_spec hs) (fun c a w=>hQ c a _ _ w) (Je ht h1) _ _ _ _ (Region.free_spec FD h3) (by simpa using h2) hy hC h1 this
  · cases ho
theorem Dr{l:List Oper}:∀(t:List Oper) (k:Nat) (listed:Array Bool) (a:Act) (w:World),n≤k→(∀j,t[j]?=l[k+j]?)→
    Region.seqB md l.toArray t.length k listed=true→wpListIn F m P l.toArray Q t a w→qd F m P md l.toArray n C Q t.length listed a w
 |[],_,_,_,_,_,_,hB,h=>⟨by simpa [Region.seqB]using hB,h⟩
 |o::t,k,listed,a,w,hk,hl,hB,h=>by
  have h0:l.toArray[k]?=some o:=by simpa using(hl 0).symm
  simp only[List.length_cons,Region.seqB,Bool.and_eq_true,decide_eq_true_eq]at hB;refine⟨fun h1=>(by rw[hB.1]at h1;cases h1),fun i hi=>?_⟩;rw[hB.1]at hi;have hik:i=k:=by simpa using hi
  subst hik;have hw:wpOpIn F m P l.toArray Q i (wpListIn F m P l.toArray Q t) a w:=by unfold wpOpIn;simp only[h0];exact h
  exact wpOpIn_mono (fun a' w' h'=>⟨fun bY=>absurd bY (Nat.not_lt.2 hk),Dr t (i+1) _ a' w' Wg (fun j=>by have:=hl (j+1);simpa [Nat.add_assoc,Nat.add_comm 1 j]using this) hB.2 h'⟩) hw
theorem Wz{o:Oper}{a:Act}{w:World}{next K:Act→World→Prop}(h:o.wpIn F m P a w next (Exit.then K Q)):o.wpIn F m P a w next Q:=by
 unfold Oper.wpIn at*;refine⟨h.1,?_⟩;replace h:=h.2;generalize (o.semAt F.round a.eval).run P w=r at*;cases r with
 | ok n w' =>
  cases n<;>simp only[Oper.uponIn]at h ⊢
  case value u=>exact h
  case skip=>exact h
  case defer d=>exact h
  case enter f args=>
   refine⟨h.1,CallsIn.mono h.2 fun e w'' he=>?_⟩;cases e with
   |returned u=>exact he
   |panicked c=>exact he
   |outgrown=>exact he
  case row row args=>exact h
  case round l f tmps assign body=>
   refine⟨h.1,RoundIn.mono h.2 fun e w'' he=>?_⟩;cases e with
   |returned u=>exact he
   |panicked c=>exact he
   |outgrown=>exact he
 |halt x w'=>
  cases x<;>simp only[Oper.uponIn]at h ⊢
  case panic u=>exact h
theorem F9(hF:∀f,F.fn f){l:List Oper}(IW:AU l.toArray=true)(hs:Region.noSelect l.toArray=true)(ht:A9 md l.toArray n=true)(hQ:∀c a d v w,Q (.panic c) (a.put d v) w→Q (.panic c) a w)(hn:n≤l.length):∀(lS:List (List Nat×Nat)) (q':List Nat) (listed:Array Bool) (a:Act) (w:World),C w→
    ME md l.toArray n lS q' listed=true→nK F m P l C Q (fun a' w'=>wpListIn F m P l.toArray Q (l.drop n) a' w') lS q' a w→qd F m P md l.toArray n C Q ((l.length - n)+costs lS q') listed a w
 |[],q',listed,a,w,hC,hB,h=>by
  unfold ME at hB;split at hB
  · rename_i L hL;refine uQ hF IW hs ht hQ hC _ L (fun a' hk=>?_) q' listed a hL h;have:=Dr (F:=F) (m:=m) (md:=md) (C:=C) (l:=l) (l.drop n) n L a' w (Nat.le_refl _) (fun j=>by simp[List.getElem?_drop]) (by simpa using hB) hk;simpa using this
  · cases hB
 | (q, i) :: r, q', listed, a, w, hC, hB, h => by
  unfold ME at hB;split at hB
  · rename_i L hL;simp only[Bool.and_eq_true,decide_eq_true_eq]at hB;obtain⟨⟨hr,DU⟩,hB⟩:=hB;have e:l.length - n+costs ((q,i)::r) q'=((l.length - n+costs r q')+1)+q.length:=by simp[costs];omega
    rw[e];refine uQ hF IW hs ht hQ hC _ L (fun a' hk=>?_) q listed a hL h;refine⟨fun h1=>(by rw[hr]at h1;cases h1),fun j hj=>?_⟩;rw[hr]at hj;have FB:j=i:=by simpa using hj
    subst FB;cases Hz:l[j]? with
    |none=>
     exfalso;have:j∈Region.ready md l.toArray L:=by rw[hr];simp
     obtain⟨_,o,ho,_⟩:=mem_ready.1 this;simp[Hz]at ho
    | some o =>
     rw[Hz]at hk;simp only[Option.toList,wpListIn]at hk;unfold wpOpIn;have FD:l.toArray[j]?=some o:=by simpa using Hz
     simp only[FD];have step:∀a'' w',C w'∧nK F m P l C Q (fun a' w'=>wpListIn F m P l.toArray Q (l.drop n) a' w') r q' a'' w'→(j<n→C w')∧qd F m P md l.toArray n C Q (l.length - n+costs r q') (L.setIfInBounds j true) a'' w':=
      fun a'' w' h3=>⟨fun _=>h3.1,F9 hF IW hs ht hQ hn r q' _ a'' w' h3.1 hB h3.2⟩
     split
     · rename_i hw;rw[if_pos hw]at hk;exact Oper.wpIn_mono (fun a'' w' h'=>step a'' w' h') (Wz hk)
     · rename_i hw;rw[if_neg hw]at hk;exact⟨fun f _=>hF f,step _ _ hk.2⟩
  · cases hB
end
theorem PK{F:Fence}{m:Nat}{P:Program}{l:List Oper}{C:World→Prop}{Q:Exit→Act→World→Prop}{fin:Act→World→Prop}{q:List Nat}{a:Act}{w:World}{qs:List Oper}(he:q.filterMap (l[·]?)=qs)
    (h:∀K:Act→Prop,(∀a',fin a' w→K a')→wpQuiet P l.toArray C K qs a):nK F m P l C Q fin [] q a w:=by
 subst he;exact h _ fun _ h=>h
theorem Nh{F:Fence}{m:Nat}{P:Program}{l:List Oper}{C:World→Prop}{Q:Exit→Act→World→Prop}{fin:Act→World→Prop}{q:List Nat}{i:Nat}{r:List (List Nat×Nat)}{q':List Nat}{a:Act}{w:World}{qs os:List Oper}(he:q.filterMap (l[·]?)=qs)(ho:(l[i]?).toList=os)
    (h:∀K:Act→Prop,(∀a',(∀K2:Act→World→Prop,(∀a'' w',C w'→nK F m P l C Q fin r q' a'' w'→K2 a'' w')→wpListIn F m P l.toArray (Exit.then K2 Q) os a' w)→K a')→wpQuiet P l.toArray C K qs a):nK F m P l C Q fin ((q,i)::r) q' a w:=by
 subst he ho;refine h _ fun a' h2=>?_;exact h2 _ fun _ _ h3 h4=>⟨h3,h4⟩
theorem MU{F:Fence}{m:Nat}{P:Program}{id:Nat}{Q:Exit→Act→World→Prop}{a:Act}{w:World}{l:List Oper}{T:Type}(f:T→World)(n:Nat)(lS:List (List Nat×Nat))(q:List Nat)(h0:∃s,w.drew=f s)(hF:∀f,F.fn f)(IW:AU l.toArray=true)(hm:P.follows .mixedOrders=true)(hB:Fp l.toArray n lS q=true)
    (hQ:∀c a d v w,Q (.panic c) (a.put d v) w→Q (.panic c) a w)
    (h:nK F m P l (fun w'=>∃s,w'=f s) Q (fun a' w'=>wpListIn F m P l.toArray Q (l.drop n) a' w') lS q a w.drew):(Code.region id l.toArray true).wpIn F m P Q a w:=by
 unfold Fp at hB;simp only[Bool.and_eq_true,decide_eq_true_eq]at hB;obtain⟨⟨⟨⟨h1,h2⟩,h3⟩,h4⟩,h5⟩:=hB;refine wpIn_region_any hm (Be (C:=fun w'=>∃s,w'=f s) (n:=n) _ _ _ _ ?_);have:=F9 hF IW (C:=fun w'=>∃s,w'=f s) (md:=.any) h1 h2 hQ (by simpa using h4) lS q _ a w.drew h0 h5 h;have e:l.length - n+costs lS q=l.toArray.size:=by
  have:n≤l.length:=by simpa using h4
  simp;omega
 rw[e]at this;exact this
section
variable {F:Fence} {m:Nat} {P:Program} {l:List Oper} {C:World→Prop} {Q:Exit→Act→World→Prop} {fin:Act→World→Prop} {q:List Nat} {i j:Nat} {q':List Nat} {r:List (List Nat×Nat)} {a:Act} {w:World} {o o2:Oper}
theorem Vx(qs:List Oper)(he:q.filterMap (l[·]?)=qs)(ho:(l[i]?).toList=[o])(h:∀K:Act→Prop,(∀a',(∀K2:Act→World→Prop,(∀a'' w',C w'→nK F m P l C Q fin r q' a'' w'→K2 a'' w')→wpListIn F m P l.toArray (Exit.then K2 Q) [o] a' w)→K a')→wpQuiet P l.toArray C K qs a):nK F m P l C Q fin ((q,i)::r) q' a w:=Nh he ho h
theorem aeQ(ho:(l[i]?).toList=[o])(h:∀K2:Act→World→Prop,(∀a'' w',C w'→nK F m P l C Q fin r q' a'' w'→K2 a'' w')→wpListIn F m P l.toArray (Exit.then K2 Q) [o] a w):nK F m P l C Q fin (([],i)::r) q' a w:=Vx [] rfl ho fun _ hK=>qn hK h
theorem aap(qs:List Oper)(he:q.filterMap (l[·]?)=qs)(h:∀K:Act→Prop,(∀a',fin a' w→K a')→wpQuiet P l.toArray C K qs a):nK F m P l C Q fin [] q a w:=PK he h
theorem Vy(h:fin a w):nK F m P l C Q fin [] [] a w:=aap [] rfl fun _ hK=>qn hK h
end
theorem We{F:Fence}{m:Nat}{P:Program}{id:Nat}{Q:Exit→Act→World→Prop}{a:Act}{w:World}{l:List Oper}{C:World→Prop}{T:Type}{f:T→World}(H:Zs (iN C T f))(n:Nat)(lS:List (List Nat×Nat))(q:List Nat)(h0:C w.drew)(hF:∀f,F.fn f)
    (h:nK F m P l (fun w'=>∃s,w'=f s) Q (fun a' w'=>wpListIn F m P l.toArray Q (l.drop n) a' w') lS q a w.drew) (IW:AU l.toArray=true:=by kernel_rfl) (hm:P.follows .mixedOrders=true:=by kernel_rfl) (hB:Fp l.toArray n lS q=true:=by kernel_rfl)
    (hQ:∀c a d v w,Q (.panic c) (a.put d v) w→Q (.panic c) a w:=by exact fun _ _ d _ _ h=>by cases d<;>exact h):(Code.region id l.toArray true).wpIn F m P Q a w:=MU f n lS q (H.o.o _ h0) hF IW hm hB hQ h
end Go.Proofs.YtkmclfpjpajjeaaGreat
