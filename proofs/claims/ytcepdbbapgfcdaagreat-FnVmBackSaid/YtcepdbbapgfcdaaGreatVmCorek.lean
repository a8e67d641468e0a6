/- Walks. -/
import Derived.Test.YtcepdbbapgfcdaaGreatVmCorej
set_option maxRecDepth 100000
set_option maxHeartbeats 4000000
set_option linter.unusedSimpArgs false
set_option linter.unusedVariables false
namespace Go.Proofs.YtcepdbbapgfcdaaGreat
open Go Go.RowKit
attribute [local go_sem] Oper.semAt_some
def IY(r:M.Ref):List Value:=[.int .i64 r.keeper,.string r.name]
theorem NB{p:M.au}:∀(f:Nat) (refs:List M.Ref) (r:M.Ref),(∀n,items p (refs.length+n) r=refs.map some)→refs.length≤f→M.dh p f r=some refs:=by
 intro f;induction f with
 |zero=>
  intro refs r h hl;have hn:refs=[]:=List.length_eq_zero_iff.1 (by omega);subst hn;have:=h 1;simp[items]at this
 | succ f ih =>
  intro refs r h hl;cases refs with
  |nil=>have:=h 1;simp[items]at this
  | cons x rest =>
   have h1:=h;have hx:∀n,(if M.aQ p r=M.none_ then []else if(M.resolve p r.keeper (M.aQ p r)).2=1 then items p (rest.length+n) (M.resolve p r.keeper (M.aQ p r)).1 else [none])=rest.map some∧x=r:=by
    intro n;have:=h n;rw[List.length_cons,show rest.length+1+n=(rest.length+n)+1 from by omega]at this;simp only[items,List.map_cons,List.cons.injEq,Option.some.injEq]at this;exact⟨this.2,this.1.symm⟩
   obtain rfl:=(hx 0).2;unfold M.dh;by_cases hs:M.aQ p x=M.none_
   · rw[if_pos hs];have:=(hx 0).1;rw[if_pos hs]at this;have:rest=[]:=by
      cases rest with
      |nil=>rfl
      |cons _ _=>simp at this
     rw[this]
   · rw[if_neg hs];by_cases hc:(M.resolve p x.keeper (M.aQ p x)).2=1
     · rw[if_pos hc,ih rest _ (fun n=>by have:=(hx n).1;rw[if_neg hs,if_pos hc]at this;exact this) (by simpa using hl)];rfl
     · have:=(hx 0).1;rw[if_neg hs,if_neg hc]at this;cases rest<;>simp at this
def YN(pre:List (Option M.Ref)):Prop:=(∃refs:List M.Ref,pre=refs.map some++[none])∨(∃refs:List M.Ref,pre=refs.map some∧refs.length=7)
theorem Ib {p : M.au} : ∀ (f : Nat) (refs : List M.Ref) (t : List (Option M.Ref)) (r : M.Ref) (n : Nat), items p n r = refs.map some ++ t → (t.head? = some none ∨ f < refs.length) → M.dh p f r = none := by
 intro f;induction f with
 |zero=>intro refs t r n _ _;rfl
 | succ f ih =>
  intro refs t r n h hb;cases n with
  |zero=>
   simp only[items]at h;cases refs with
   | nil => rcases hb with hb | hb
            · simp at h;rw[h]at hb;simp at hb
            · simp at hb
   |cons _ _=>simp at h
  | succ n =>
   cases refs with
   |nil=>
    simp only[items,List.map_nil,List.nil_append]at h;rcases hb with hb|hb
    · rw[←h]at hb;simp at hb
    · simp at hb
   |cons x rest=>
    simp only[items,List.map_cons,List.cons_append,List.cons.injEq,Option.some.injEq]at h;obtain⟨rfl,h2⟩:=h;unfold M.dh;by_cases hs:M.aQ p r=M.none_
    · rw[if_pos hs]at h2;have h3:=congrArg List.length h2;rcases hb with hb|hb
      · cases t with
        |nil=>simp at hb
        |cons _ _=>simp at h3
      · simp at h3;simp at hb;omega
    · rw[if_neg hs]at h2 ⊢;by_cases hc:(M.resolve p r.keeper (M.aQ p r)).2=1
      · rw[if_pos hc]at h2 ⊢;rw[ih rest t _ n h2 (hb.imp id fun h=>by simpa using h)];rfl
      · rw[if_neg hc]
theorem NL{w:World}{base e k n:Nat}{v:Value}{xs:List Value}(h:w.ownsRow base e k v n xs){b:Nat}(hb:v.ownBlock=some b):base≤b:=by
 rcases h.2 with⟨rfl,_⟩|⟨g,cap,cur,rfl,hg,_⟩
 · cases hb
 · cases hb;exact hg
theorem NM{w:World}{base e k n:Nat}{v:Value}{xs:List Value}(h:w.ownsRow base e k v n xs):∃a c,v=.slice a n c:=by
 rcases h.2 with⟨rfl,h0⟩|⟨g,cap,cur,rfl,hg,_⟩
 · exact⟨none,0,by rw[h0]⟩
 · exact⟨_,_,rfl⟩
def RH(w W0:World)(B4 B5 B6:Nat)(pre:List (Option M.Ref))(W:World):Prop:=∃(refs:List M.Ref) (v:Value),pre=refs.map some∧refs.length≤6∧aC W B6 151 #[v]∧W.ownsRow (W0.heap.size+2) 40 2 v refs.length (refs.flatMap IY)∧aC W B4 151 #[.slice none 0 0]∧aC W B5 4 #[.bool false]∧Ext w W
def YO(w:World)(B4 B5:Nat)(c:Code)(pre:List (Option M.Ref))(W:World):Prop:=c=.ret∧YN pre∧aC W B4 151 #[.slice none 0 0]∧aC W B5 4 #[.bool false]∧Ext w W
def Dt(x:Option M.Ref):M.Ref:=x.getD M.pO
theorem M5(x:Option M.Ref):zP x=#[.agg #[.int .i64 (Dt x).keeper,.string (Dt x).name],.bool x.isSome]:=by cases x<;>rfl
theorem CE(w:World)(l:aI)(p:M.au)(h:aF w l p)(r:M.Ref)(dX:∃c,M.cls? p r=some c):
    Calls Tryz.prog 85 #[.pointer (some ⟨l.L,0,none⟩),.agg #[.int .i64 r.keeper,.string r.name]] w fun e w'=>
     (∃v,e=.returned (.tuple #[v,.bool (M.qc p r).isSome])∧SliceOf 2 A7 w' (fun b=>w.heap.size≤b) v ((M.qc p r).getD []))∧Ext w w':=by
 have hLL:=h.lt;have H:=Ys h;clear h;refine(callsIn_wide (n:=10)).1 ?_;refine callsIn_of_wp_marks Tryz.func85 rfl trivial ?_ rfl;simp only[Tryz.ntmps85,List.size_toArray,List.length_cons,List.length_nil,Nat.reduceAdd,Nat.reduceSub,Array.replicate_succ,Array.replicate_zero,List.push_toArray,List.append_toArray,List.nil_append,List.cons_append];gi_wp2_with fail;refine⟨trivial,?_⟩;refine(callsIn_wide.2 (Lf _ _ _ _)).mono ?_;rintro e w1 ⟨rfl,kS⟩;gi_wp2_with fail;have b3:=aC.new w 40 #[.int .i64 r.keeper,.string r.name];have b4:=aC.new (w.alloc (.cells #[.int .i64 r.keeper,.string r.name] 40)) 151 #[.slice none 0 0];have b5:=aC.new ((w.alloc (.cells #[.int .i64 r.keeper,.string r.name] 40)).alloc (.cells #[.slice none 0 0] 151)) 4 #[.bool false];have b6:=aC.new (((w.alloc (.cells #[.int .i64 r.keeper,.string r.name] 40)).alloc (.cells #[.slice none 0 0] 151)).alloc (.cells #[.bool false] 4)) 151 #[.slice none 0 0];have bL:=aC.new ((((w.alloc (.cells #[.int .i64 r.keeper,.string r.name] 40)).alloc (.cells #[.slice none 0 0] 151)).alloc (.cells #[.bool false] 4)).alloc (.cells #[.slice none 0 0] 151)) 74 #[.pointer (some ⟨l.L,0,none⟩)];have bR:=aC.new (((((w.alloc (.cells #[.int .i64 r.keeper,.string r.name] 40)).alloc (.cells #[.slice none 0 0] 151)).alloc (.cells #[.bool false] 4)).alloc (.cells #[.slice none 0 0] 151)).alloc (.cells #[.pointer (some ⟨l.L,0,none⟩)] 74)) 40 #[.int .i64 r.keeper,.string r.name];replace b4:=b4.ext ((((Kp.refl _ _).alloc (.cells #[.bool false] 4)).alloc (.cells #[.slice none 0 0] 151)).alloc (.cells #[.pointer (some ⟨l.L,0,none⟩)] 74)|>.alloc (.cells #[.int .i64 r.keeper,.string r.name] 40));replace b5:=b5.ext (((Kp.refl _ _).alloc (.cells #[.slice none 0 0] 151)).alloc (.cells #[.pointer (some ⟨l.L,0,none⟩)] 74)|>.alloc (.cells #[.int .i64 r.keeper,.string r.name] 40));replace b6:=b6.ext (((Kp.refl _ _).alloc (.cells #[.pointer (some ⟨l.L,0,none⟩)] 74))|>.alloc (.cells #[.int .i64 r.keeper,.string r.name] 40));replace bL:=bL.ext ((Kp.refl _ _).alloc (.cells #[.int .i64 r.keeper,.string r.name] 40));clear b3;have aU:Ext w ((((((w.alloc (.cells #[.int .i64 r.keeper,.string r.name] 40)).alloc (.cells #[.slice none 0 0] 151)).alloc (.cells #[.bool false] 4)).alloc (.cells #[.slice none 0 0] 151)).alloc (.cells #[.pointer (some ⟨l.L,0,none⟩)] 74)).alloc (.cells #[.int .i64 r.keeper,.string r.name] 40)):=kx
 have j6:((((((w.alloc (.cells #[.int .i64 r.keeper,.string r.name] 40)).alloc (.cells #[.slice none 0 0] 151)).alloc (.cells #[.bool false] 4)).alloc (.cells #[.slice none 0 0] 151)).alloc (.cells #[.pointer (some ⟨l.L,0,none⟩)] 74)).alloc (.cells #[.int .i64 r.keeper,.string r.name] 40)).heap.size=w.heap.size+6:=by simp
 generalize ((((((w.alloc (.cells #[.int .i64 r.keeper,.string r.name] 40)).alloc (.cells #[.slice none 0 0] 151)).alloc (.cells #[.bool false] 4)).alloc (.cells #[.slice none 0 0] 151)).alloc (.cells #[.pointer (some ⟨l.L,0,none⟩)] 74)).alloc (.cells #[.int .i64 r.keeper,.string r.name] 40))=W0 at*;simp only[World.size_alloc]at b4 b5 b6 bL bR;obtain⟨B4,yg⟩:∃B4,B4=w.heap.size+1:=⟨_,rfl⟩;rw[←yg]at b4 b5 b6 bL bR ⊢;obtain⟨B5,ED⟩:∃B5,B5=B4+1:=⟨_,rfl⟩;rw[←ED]at b5 b6 bL bR ⊢;obtain⟨B6,OG⟩:∃B6,B6=B5+1:=⟨_,rfl⟩;rw[←OG]at b6 bL bR ⊢;obtain⟨BL,hBL⟩:∃BL,BL=B6+1:=⟨_,rfl⟩;rw[←hBL]at bL bR ⊢;obtain⟨BR,hBR⟩:∃BR,BR=BL+1:=⟨_,rfl⟩;rw[←hBR]at bR ⊢;clear kS;have HN:=Ys (And.intro yg (And.intro ED (And.intro OG (And.intro hBL (And.intro hBR j6)))));have n46:B4≠B6:=by omega
 have n45:B4≠B5:=by omega
 have n56:B5≠B6:=by omega
 have HLW:=Ys (H.o.ext aU);have g0:W0.heap.size=BR+1:=by omega
 have G0:=Ys g0;clear yg ED OG hBL hBR j6 g0;refine FI (gf:=140) (lb:=#[.pointer (some ⟨BR,0,none⟩),.pointer (some ⟨BL,0,none⟩)]) (α:=Option M.Ref) rfl (enters_of Tryz.func140 (by kernel_rfl) rfl) (encs:=zP)
  (fun x=>by cases x<;>rfl) (Bb:=fun k=>k=B4∨k=B5∨k=B6∨W0.heap.size+2≤k)
  (MS l p r BR BL _ ?hBd ?hRL ?hR 6 dX) ?hIt ?hD1 ?hD2 ?hB1 ?hB2
  (RH w W0 B4 B5 B6) (YO w B4 B5) ?hI ?hIx ?h0 ?hIB
  (fun pre x W a₁ W₁=>RH w W0 B4 B5 B6 pre W∧
   W0.heap.size+1<W.heap.size∧W₁=W.alloc (.cells #[.int .i64 (Dt x).keeper,.string (Dt x).name] 40)∧
   a₁={tmps:=#[.pointer (some ⟨l.L,0,none⟩),.agg #[.int .i64 r.keeper,.string r.name],undef,.pointer (some ⟨w.heap.size,0,none⟩),.pointer (some ⟨B4,0,none⟩),.pointer (some ⟨B5,0,none⟩),.pointer (some ⟨B6,0,none⟩),.pointer (some ⟨W.heap.size,0,none⟩),.bool x.isSome,
    .pointer (some ⟨l.L,0,none⟩),.agg #[.int .i64 r.keeper,.string r.name],.func (.func 140) #[] #[.pointer (some ⟨BR,0,none⟩),.pointer (some ⟨BL,0,none⟩)],.agg #[.int .i64 (Dt x).keeper,.string (Dt x).name],.bool x.isSome,
    undef,undef,undef,undef,undef,undef,undef,undef,undef,undef,undef,undef],defers:=[]}) ?hassign ?hAx ?hbody ?hdone ?hstop
 case hBd=>
  obtain⟨h1,h2,h3,h4,h5,h6⟩:=HN.o;have h7:=G0.o;intro k hk;have Jh:(k=B4∨k=B5∨k=B6∨W0.heap.size+2≤k)∨k=W0.heap.size+1:=hk;omega
 case hRL=>obtain⟨h1,h2,h3,h4,h5,h6⟩:=HN.o;have h7:=G0.o;omega
 case hR=>obtain⟨h1,h2,h3,h4,h5,h6⟩:=HN.o;have h7:=G0.o;omega
 case hIt=>exact fun W hW=>⟨HLW.o.ext hW,bR.ext hW,bL.ext hW⟩
 case hD1=>have:=G0.o;show¬W0.heap.size=BR;omega
 case hD2=>have:=G0.o;show¬W0.heap.size+1=BR;omega
 case hB1=>obtain⟨h1,h2,h3,h4,h5,h6⟩:=HN.o;have h7:=G0.o;show¬(W0.heap.size=B4∨W0.heap.size=B5∨W0.heap.size=B6∨W0.heap.size+2≤W0.heap.size);omega
 case hB2=>obtain⟨h1,h2,h3,h4,h5,h6⟩:=HN.o;have h7:=G0.o;show¬(W0.heap.size+1=B4∨W0.heap.size+1=B5∨W0.heap.size+1=B6∨W0.heap.size+2≤W0.heap.size+1);omega
 case hI=>
  obtain⟨h1,h2,h3,h4,h5,h6⟩:=HN.o;have h7:=G0.o;rintro s A B ⟨refs,v,e1,e2,e3,e4,e5,e6,e7⟩ hk;exact⟨refs,v,e1,e2,e3.kp hk (by omega),aD e4 hk (fun g _ hg=>by omega),e5.kp hk (by omega),e6.kp hk (by omega),e7.own hk (fun k hk=>by omega)⟩
 case hIx=>
  obtain⟨h1,h2,h3,h4,h5,h6⟩:=HN.o;have h7:=G0.o;rintro c s A B ⟨e1,e2,e5,e6,e7⟩ hk;exact⟨e1,e2,e5.kp hk (by omega),e6.kp hk (by omega),e7.own hk (fun k hk=>by omega)⟩
 case h0=>exact⟨[],.slice none 0 0,rfl,by simp,b6,World.ownsRow_nil _ _ _ _,b4,b5,aU⟩
 case hIB=>
  rintro s A ⟨refs,v,rfl,e2,_⟩;simpa using e2
 case hassign=>
  intro pre x W K _ hi bZ hK;rw[M5];gi_wp2
 case hAx=>
  rintro pre x W a₁ W₁ ⟨_,_,rfl,_⟩;exact((Kp.refl _ W).alloc _)
 case hbody=>
  rintro pre x W a₁ W₁ W₂ ⟨⟨refs,v,e1,e2,e3,e4,e5,e6,e7⟩,bZ,rfl,rfl⟩ lK uh;obtain⟨h1,h2,h3,h4,h5,h6⟩:=HN.o;have h7:=G0.o;have c3:=(e3.ext ((Kp.refl _ _).alloc _)).kp lK (by omega);have c5:=(e5.ext ((Kp.refl _ _).alloc _)).kp lK (by omega);have c6:=(e6.ext ((Kp.refl _ _).alloc _)).kp lK (by omega);have c4:=aD (aD e4 ((Kp.refl (fun _=>False) W).alloc (.cells #[.int .i64 (Dt x).keeper,.string (Dt x).name] 40)) (fun _ _ _ h=>h)) lK (fun g _ hg=>by omega);have c7:Ext w W₂:=(e7.alloc _).own lK (fun k hk=>by omega);have cb:=(aC.new W 40 #[.int .i64 (Dt x).keeper,.string (Dt x).name]).kp lK (by omega);simp only[World.size_alloc]at uh;have HW:=Ys (And.intro c3 (And.intro c4 (And.intro c5 (And.intro c6 (And.intro c7 cb)))));have k3:=c3.c 0 v rfl;have f3:=c3.frozen 0;have k5:=c5.c 0 (.slice none 0 0) rfl;have f5:=c5.frozen 0;have k6:=c6.c 0 (.bool false) rfl;have f6:=c6.frozen 0;have kb0:=cb.c 0 (.int .i64 (Dt x).keeper) rfl;have kb1:=cb.c 1 (.string (Dt x).name) rfl;have aW:=cb.lt;have OG:B6<W₂.heap.size:=c3.lt;have j6:=Ys uh;clear e3 e4 e5 e6 e7 c3 c4 c5 c6 c7 cb lK uh b4 b5 b6 bL bR h1 h2 h3 h4 h5 h6 h7;have mf:∀(u v:Value),Kp (fun k=>k=B4∨k=B5∨k=B6∨W0.heap.size+2≤k) W₂ ((W₂.setCell ⟨B4,0,none⟩ u).setCell ⟨B5,0,none⟩ v):=fun u v=>
   ((Kp.refl _ W₂).setCell (p:=⟨B4,0,none⟩) (fun _=>.inl rfl) u).setCell (p:=⟨B5,0,none⟩) (fun _=>.inr (.inl rfl)) v
  have EJ:∀(u v:Value),aC ((W₂.setCell ⟨B4,0,none⟩ u).setCell ⟨B5,0,none⟩ v) B4 151 #[u]∧aC ((W₂.setCell ⟨B4,0,none⟩ u).setCell ⟨B5,0,none⟩ v) B5 4 #[v]∧Ext w ((W₂.setCell ⟨B4,0,none⟩ u).setCell ⟨B5,0,none⟩ v):=fun u v=>by
   obtain⟨h1,h2,h3,h4,h5,h6⟩:=HN.o;have h7:=G0.o;refine⟨?_,?_,HW.o.2.2.2.2.1.own (mf u v) (fun k hk=>by omega)⟩
   · exact(HW.o.2.2.1.bI 0 u).kp ((Kp.refl (·=B5) _).setCell (p:=⟨B5,0,none⟩) (fun _=>rfl) v) (by omega)
   · exact(HW.o.2.2.2.1.kp ((Kp.refl (·=B4) _).setCell (p:=⟨B4,0,none⟩) (fun _=>rfl) u) (by omega)).bI 0 v
  have HS:=Ys (And.intro mf EJ);clear mf EJ;cases x with
  |none=>
   gi_wp2;exact⟨HS.o.1 _ _,rfl,.inl ⟨refs,by rw[e1]⟩,HS.o.2 _ _⟩
  | some y =>
   have hv:∃a cp,v=.slice a refs.length cp:=by
    rcases HW.o.2.1.2 with⟨rfl,h0⟩|⟨g,cap,cur,rfl,_⟩
    · exact⟨none,0,by rw[h0]⟩
    · exact⟨_,_,rfl⟩
   obtain⟨a,cp,rfl⟩:=hv;by_cases h6:refs.length=6
   · have h6':((refs.length:Int)==6)=true:=by simp[h6]
     have H6:=Ys h6;clear h6;gi_wp2;exact⟨HS.o.1 _ _,rfl,.inr ⟨refs++[y],by rw[e1];simp,by simp[H6.o]⟩,HS.o.2 _ _⟩
   · have h6':((refs.length:Int)==6)=false:=beq_eq_false_iff_ne.2 (by omega);have H6:=Ys h6;gi_wp2_with (gi_at_builtin;refine xX Sv _ rfl _ _ rfl (W0.heap.size+2) _ _ _ rfl (HW.o.2.1.alloc _) W₂.heap.size 1 (IY y) rfl rfl ?c1 ?c2 ?c3 ?c4 ?_)
     case c1=>exact ae.Fz (aC.new ..) _ rfl
     case c2=>simp[IY,Value.oneCell']
     case c3=>omega
     case c4=>have:=j6.o;simp only[World.size_alloc];omega
     intro v' w' Cx hK g' c' hv hg hl;subst hv;have af:Kp (fun k=>W0.heap.size+2≤k) W₂ w':=((Kp.refl _ W₂).alloc _).trans (hK.weak fun k _ hk=>NL HW.o.2.1 hk);obtain⟨h1,h2,h3,h4,h5,h6'⟩:=HN.o;have h7:=G0.o;have d3:=HW.o.1.kp af (by omega);have d4:=HW.o.2.2.1.kp af (by omega);have d5:=HW.o.2.2.2.1.kp af (by omega);have d7:=HW.o.2.2.2.2.1.own af (fun k hk=>by omega);have q3:=d3.c 0 (.slice a refs.length cp) rfl;have qf:=d3.frozen 0;have qz:=d3.lt;have HD:=Ys (And.intro d3 (And.intro d4 (And.intro d5 (And.intro d7 (And.intro Cx af)))));have HG:=Ys (And.intro hg hl);clear d3 d4 d5 d7 h1 h2 h3 h4 h5 h6' h7 Cx hK af hg hl k3 f3 k5 f5 k6 f6 kb0 kb1 OG aW h6;gi_wp2;have WA:Kp (·=B6) w' (w'.setCell ⟨B6,0,none⟩ (.slice (some ⟨g',0,none⟩) (refs.length+1) c')):=(Kp.refl (·=B6) w').setCell (p:=⟨B6,0,none⟩) (fun _=>rfl) _;obtain⟨h1,h2,h3,h4,h5,h6'⟩:=HN.o;have h7:=G0.o;obtain⟨d3,d4,d5,d7,d8,d9⟩:=HD.o;refine⟨(d9.weak fun _ _ h=>.inr (.inr (.inr h))).trans (WA.weak fun _ _ h=>.inr (.inr (.inl h))),refs++[y],_,by rw[e1];simp,by have:=H6.o;simp;omega,d3.bI 0 _,?_,d4.kp WA (by omega),d5.kp WA (by omega),d7.own WA (fun k hk=>by omega)⟩;have:=aD d8 WA (fun g _ hg=>by omega);simpa using this
 case hdone=>
  rintro xs W hS ⟨refs,v,rfl,e2,e3,e4,e5,e6,e7⟩ hK;have k3:=e3.c 0 v rfl;have k5:=e5.c 0 (.slice none 0 0) rfl;have f5:=e5.frozen 0;have z5:=e5.lt;have k6:=e6.c 0 (.bool false) rfl;have f6:=e6.frozen 0;have z6:=e6.lt;have HD:=Ys (And.intro e3 (And.intro e4 (And.intro e5 (And.intro e6 e7))));have HS:=Ys hS;have hv:=NM e4;clear e3 e4 e5 e6 e7 hS b4 b5 b6 bL bR;obtain⟨av,cv,rfl⟩:=hv;simp only[Exit.inBlock,Exit.then];gi_wp2;obtain⟨h1,h2,h3,h4,h5,h6⟩:=HN.o;have h7:=G0.o;obtain⟨d3,d4,d5,d6,d7⟩:=HD.o;have Cw:Kp (fun k=>k=B4∨k=B5) W ((W.setCell ⟨B4,0,none⟩ (.slice av refs.length cv)).setCell ⟨B5,0,none⟩ (.bool true)):=
   ((Kp.refl (fun k=>k=B4∨k=B5) W).setCell (p:=⟨B4,0,none⟩) (fun _=>.inl rfl) _).setCell (p:=⟨B5,0,none⟩) (fun _=>.inr rfl) _
  have g5:=(d5.bI 0 (.slice av refs.length cv)).kp ((Kp.refl (·=B5) _).setCell (p:=⟨B5,0,none⟩) (fun _=>rfl) (.bool true)) (by omega);have g6:=(d6.kp ((Kp.refl (·=B4) W).setCell (p:=⟨B4,0,none⟩) (fun _=>rfl) (.slice av refs.length cv)) (by omega)).bI 0 (.bool true);have hK':=(Cw.block W0.heap.size (by have:=d7.size;have:=d3.lt;exact(Array.getElem?_eq_some_iff.1 hK).1) (by omega)).trans hK;generalize (W.setCell ⟨B4,0,none⟩ (.slice av refs.length cv)).setCell ⟨B5,0,none⟩ (.bool true)=W5 at Cw g5 g6 hK' ⊢;refine⟨by simp,.inl ⟨_,_,rfl,run_takeDeferred hK',?_⟩⟩;have tZ:=Kp.putObj W5 W0.heap.size (.deferred none);have m5:=(g5.kp tZ (by omega)).c 0 _ rfl;have m6:=(g6.kp tZ (by omega)).c 0 _ rfl;have fV:M.qc p r=some refs:=NB 6 refs r (fun n=>by have:=HS.o n;rwa[List.length_map]at this) e2;refine⟨.tuple #[.slice av refs.length cv,.bool true],?_,⟨_,by rw[fV];rfl,?_⟩,?_⟩
  · simp[results,Tryz.f85,go_sem,m5,m6]
  · rw[fV];refine SliceOf.iy IY (aD (aD d4 Cw (fun g _ hg=>by omega)) tZ (fun g _ hg=>by omega)) rfl rfl (fun _ _=>rfl) (fun _ _=>rfl) (fun b h h'=>by show w.heap.size≤b;omega) (by show refs.length≤_;omega)
  · exact(d7.own Cw (fun k hk=>by omega)).own tZ (fun k hk=>by omega)
 case hstop=>
  rintro c pre W hS ⟨rfl,hb,e5,e6,e7⟩ hK;have HD:=Ys (And.intro e5 (And.intro e6 e7));clear e5 e6 e7 b4 b5 b6 bL bR;gi_wp2;obtain⟨h1,h2,h3,h4,h5,h6⟩:=HN.o;have h7:=G0.o;obtain⟨d5,d6,d7⟩:=HD.o;refine⟨by simp,.inl ⟨_,_,rfl,run_takeDeferred hK,?_⟩⟩;have tZ:=Kp.putObj W W0.heap.size (.deferred none);have m5:=(d5.kp tZ (by omega)).c 0 _ rfl;have m6:=(d6.kp tZ (by omega)).c 0 _ rfl;obtain⟨n,rest,hit⟩:=hS;have fV:M.qc p r=none:=by
   rcases hb with⟨refs,rfl⟩|⟨refs,rfl,hl⟩
   · exact Ib 6 refs _ r n (by rw[hit,List.append_assoc]) (.inl rfl)
   · exact Ib 6 refs _ r n hit (.inr (by omega))
  refine⟨.tuple #[.slice none 0 0,.bool false],?_,⟨_,by rw[fV];rfl,?_⟩,?_⟩
  · simp[results,Tryz.f85,go_sem,m5,m6]
  · rw[fV];exact SliceOf.nil _ _ _ _
  · exact d7.own tZ (fun k hk=>by omega)
end Go.Proofs.YtcepdbbapgfcdaaGreat
namespace Go.Proofs.YtcepdbbapgfcdaaGreat
open Go Go.RowKit
theorem jM(w:World)(l:aI)(p:M.au)(h:aF w l p)(k:Int)(n:ByteArray):
    Calls Tryz.prog 44 #[.pointer (some ⟨l.L,0,none⟩),.int .i64 k,.string n] w fun e w'=>
     e=.returned (.tuple #[.agg #[.int .i64 (M.find p k n).1.keeper,.string (M.find p k n).1.name],.int .i64 (M.find p k n).2])∧Ext w w':=by
 have aU:Ext w (w.alloc (.cells #[.int .i64 0,.string ⟨#[]⟩] 40)):=((Kp.refl _ _).alloc _);have H:=Ys (h.ext aU);clear h;have b0:=aC.new w 40 #[.int .i64 0,.string ⟨#[]⟩];go_enter Tryz.func44,Tryz.ntmps44;go_wp2_with fail;refine(yx _ _ _ H.o _ _).mono ?_;rintro e w1 ⟨rfl,hB⟩;have b1:=b0.ext hB;have c0:=b1.c 0 (.int .i64 0) rfl;have c1:=b1.c 1 (.string ⟨#[]⟩) rfl;have f0:=b1.frozen 0;have f1:=b1.frozen 1;have hz:=b1.lt;by_cases hc:(M.resolve p k n).2=1
 · obtain⟨c,fV⟩:=gU hc;have H1:=Ys (H.o.ext hB);have hR:Zs (M.find p k n=if(M.qc p (M.resolve p k n).1).isSome then((M.resolve p k n).1,1)else(M.pO,4)):=Ys (by unfold M.find;rw[if_pos hc]);rw[hc];clear hc;generalize (M.resolve p k n).1=r at*;have b2:=aC.new w1 40 #[.int .i64 r.keeper,.string r.name];go_wp2_with fail;refine(CE _ _ _ (H1.o.ext ((Kp.refl _ _).alloc _)) _ ⟨c,fV⟩).mono ?_;rintro e w2 ⟨⟨v,rfl,hs⟩,hB2⟩;have b3:=(b1.ext ((Kp.refl _ _).alloc (.cells #[.int .i64 r.keeper,.string r.name] 40))).ext hB2;have b4:=b2.ext hB2;have d0:=b3.c 0 (.int .i64 0) rfl;have d1:=b3.c 1 (.string ⟨#[]⟩) rfl;have g0:=b3.frozen 0;have g1:=b3.frozen 1;have EX:=b3.lt;have d2:=b4.c 0 (.int .i64 r.keeper) rfl;have d3:=b4.c 1 (.string r.name) rfl;have oC:¬w1.heap.size=w.heap.size:=by omega
   cases hcb:(M.qc p r).isSome
   · rw[hcb]at hR;clear c0 c1 f0 f1 hs fV b0 b1 b2 b3 b4;go_wp2;refine bodyPost_ret (v:=.tuple #[.agg #[.int .i64 0,.string ⟨#[]⟩],.int .i64 4]) (by simp[results,Tryz.results44,go_sem,d0,d1]) rfl ?_;exact⟨by rw[hR.o];rfl,(by repeat (first|with_reducible assumption|with_reducible exact Kp.refl _ _|apply Kp.alloc|apply Kp.drew|apply Kp.drewN|refine Kp.setCell ?_ (fun h=>absurd h (by simp<;>omega)) _|assumption|refine Kp.trans ?_ (by assumption)|exact Kp.refl _ _))⟩
   · rw[hcb]at hR;clear c0 c1 f0 f1 hs fV b0 b1 b2 b3 b4;go_wp2;refine bodyPost_ret (v:=.tuple #[.agg #[.int .i64 r.keeper,.string r.name],.int .i64 1]) (by simp[results,Tryz.results44,go_sem,d0,d1]) rfl ?_;exact⟨by rw[hR.o];rfl,(by repeat (first|with_reducible assumption|with_reducible exact Kp.refl _ _|apply Kp.alloc|apply Kp.drew|apply Kp.drewN|refine Kp.setCell ?_ (fun h=>absurd h (by simp<;>omega)) _|assumption|refine Kp.trans ?_ (by assumption)|exact Kp.refl _ _))⟩
 · have hR:Zs (M.find p k n=(M.pO,(M.resolve p k n).2)):=Ys (by unfold M.find;rw[if_neg hc]);have zW:((M.resolve p k n).2==1)=false:=beq_eq_false_iff_ne.2 hc;clear hc;generalize (M.resolve p k n).2=c at*;go_wp2;refine bodyPost_ret (v:=.tuple #[.agg #[.int .i64 0,.string ⟨#[]⟩],.int .i64 c]) (by simp[results,Tryz.results44,go_sem,c0,c1,hz]) rfl ?_;exact⟨by rw[hR.o];rfl,(by repeat (first|with_reducible assumption|with_reducible exact Kp.refl _ _|apply Kp.alloc|apply Kp.drew|apply Kp.drewN|refine Kp.setCell ?_ (fun h=>absurd h (by simp<;>omega)) _|assumption|refine Kp.trans ?_ (by assumption)|exact Kp.refl _ _))⟩
theorem oF (w : World) (l : aI) (p : M.au) (h : aF w l p) (r : M.Ref) :
    Calls Tryz.prog 86 #[.pointer (some ⟨l.L,0,none⟩),.agg #[.int .i64 r.keeper,.string r.name]] w fun e w'=>
     (∃v,e=.returned v∧SliceOf 2 A7 w' (fun b=>w.heap.size≤b) v (M.chain p r))∧Ext w w':=by
 have aU:Ext w (w.alloc (.cells #[.int .i64 r.keeper,.string r.name] 40)):=((Kp.refl _ _).alloc _);have H:=Ys (h.ext aU);clear h;have b0:=aC.new w 40 #[.int .i64 r.keeper,.string r.name];have c0:=b0.c 0 (.int .i64 r.keeper) rfl;have c1:=b0.c 1 (.string r.name) rfl;go_enter Tryz.func86,Tryz.ntmps86;go_wp2_with fail;refine(jM _ _ _ H.o _ _).mono ?_;rintro e w1 ⟨rfl,hB⟩;have b1:=b0.ext hB;have d0:=b1.c 0 (.int .i64 r.keeper) rfl;have d1:=b1.c 1 (.string r.name) rfl;have hz:=b1.lt;have H1:=Ys (H.o.ext hB);clear b0 c0 c1;have hR:Zs (M.chain p r=if(M.find p r.keeper r.name).2=1∧(M.find p r.keeper r.name).1=r then(M.qc p r).getD []else []):=Ys (by
  unfold M.chain M.iO;simp)
 have hF:Zs ((M.find p r.keeper r.name).2=1→(M.find p r.keeper r.name).1=r→∃c,M.cls? p r=some c):=Ys (by
  intro h1 h2;unfold M.find at h1 h2;by_cases hc:(M.resolve p r.keeper r.name).2=1
  · rw[if_pos hc]at h1 h2;obtain⟨c,fV⟩:=gU hc;split at h1
    · rename_i h3;rw[if_pos h3]at h2;have I5:(M.resolve p r.keeper r.name).1=r:=h2;rw[I5]at fV;exact⟨c,fV⟩
    · simp at h1
  · rw[if_neg hc]at h1;exact absurd h1 hc)
 generalize M.find p r.keeper r.name=F at*;obtain⟨⟨fk,fn⟩,code⟩:=F;simp only at*;by_cases hc:code=1
 · subst hc;by_cases hr:fk=r.keeper∧fn=r.name
   · obtain⟨rfl,rfl⟩:=hr;obtain⟨c,fV⟩:=hF.o rfl rfl;have hR':Zs (M.chain p r=(M.qc p r).getD []):=Ys (by rw[hR.o,if_pos ⟨rfl,rfl⟩]);clear hR hF;go_wp2_with fail;refine(CE _ _ _ (H1.o.ext ((Kp.refl _ _).alloc _)) _ ⟨c,fV⟩).mono ?_;rintro e w2 ⟨⟨v,rfl,hs⟩,hB2⟩;go_wp2;refine bodyPost_ret (v:=v) (by simp[results,Tryz.results86,go_sem]) rfl ?_;refine⟨⟨v,rfl,?_⟩,(by repeat (first|assumption|exact Kp.refl _ _|apply Kp.alloc|apply Kp.drew|apply Kp.drewN|refine Kp.trans ?_ (by assumption)))⟩;rw[hR'.o];exact hs.keep A7.stays (fun _ _ _ _ h=>h) (fun b hb=>by have:=hB.size;simp only[World.size_alloc]at hb this;show w.heap.size≤b;omega)
   · have hR':Zs (M.chain p r=[]):=Ys (by
      rw[hR.o,if_neg];rintro⟨-,h⟩;exact hr ⟨congrArg M.Ref.keeper h,congrArg M.Ref.name h⟩)
     by_cases hk:fk=r.keeper
     · subst hk;have hn:(fn.toList==r.name.toList)=false:=by
        rw[jZ];exact decide_eq_false (fun h=>hr ⟨rfl,h⟩)
       clear hR hF hr;go_wp2;refine bodyPost_ret (v:=.slice none 0 0) (by simp[results,Tryz.results86,go_sem]) rfl ?_;refine⟨⟨_,rfl,?_⟩,(by repeat (first|assumption|exact Kp.refl _ _|apply Kp.alloc|apply Kp.drew|apply Kp.drewN|refine Kp.trans ?_ (by assumption)))⟩;rw[hR'.o];exact SliceOf.nil _ _ _ _
     · have Jh:(fk==r.keeper)=false:=beq_eq_false_iff_ne.2 hk;clear hR hF hr;go_wp2;refine bodyPost_ret (v:=.slice none 0 0) (by simp[results,Tryz.results86,go_sem]) rfl ?_;refine⟨⟨_,rfl,?_⟩,(by repeat (first|assumption|exact Kp.refl _ _|apply Kp.alloc|apply Kp.drew|apply Kp.drewN|refine Kp.trans ?_ (by assumption)))⟩;rw[hR'.o];exact SliceOf.nil _ _ _ _
 · have hR':Zs (M.chain p r=[]):=Ys (by rw[hR.o,if_neg (fun h=>hc h.1)]);have zW:(code !=1)=true:=bne_iff_ne.2 hc;clear hR hF hc;go_wp2;refine bodyPost_ret (v:=.slice none 0 0) (by simp[results,Tryz.results86,go_sem]) rfl ?_;refine⟨⟨_,rfl,?_⟩,(by repeat (first|assumption|exact Kp.refl _ _|apply Kp.alloc|apply Kp.drew|apply Kp.drewN|refine Kp.trans ?_ (by assumption)))⟩;rw[hR'.o];exact SliceOf.nil _ _ _ _
theorem xJ(a b:Int)(m n:ByteArray):(a=b∧m=n)∨(a=b∧(m.toList==n.toList)=false∧m≠n)∨((a==b)=false∧a≠b):=by
 by_cases h:a=b
 · by_cases h2:m=n
   · exact .inl ⟨h,h2⟩
   · exact .inr (.inl ⟨h,by rw[jZ];exact decide_eq_false h2,h2⟩)
 · exact .inr (.inr ⟨beq_eq_false_iff_ne.2 h,h⟩)
theorem JF{α:Type} [BEq α] [LawfulBEq α]{l:List α}{x:α}{k:Nat}(h:∀y∈l.take k,y≠x)(hk:l.length≤k):l.contains x=false:=by
 rw[List.take_of_length_le hk]at h;cases hc:l.contains x
 · rfl
 · exact absurd rfl (h x (by simpa using hc))
theorem q8(w:World)(l:aI)(p:M.au)(h:aF w l p)(r t:M.Ref):
    Calls Tryz.prog 105 #[.pointer (some ⟨l.L,0,none⟩),.agg #[.int .i64 r.keeper,.string r.name],.agg #[.int .i64 t.keeper,.string t.name]] w fun e w'=>
     e=.returned (.bool (M.under p r t))∧Ext w w':=by
 have aU:Ext w ((w.alloc (.cells #[.int .i64 r.keeper,.string r.name] 40)).alloc (.cells #[.int .i64 t.keeper,.string t.name] 40)):=kx;have H:=Ys (h.ext aU);clear h;have b5:=aC.new (w.alloc (.cells #[.int .i64 r.keeper,.string r.name] 40)) 40 #[.int .i64 t.keeper,.string t.name];simp only[World.size_alloc]at b5;go_enter Tryz.func105,Tryz.ntmps105;go_wp2_with fail;refine(oF _ _ _ H.o _).mono ?_;rintro e w1 ⟨⟨v,rfl,hs⟩,hB⟩;replace b5:=b5.ext hB;obtain⟨a,cap,rfl,hn,dn⟩:=hs.form;have hU:Zs (M.under p r t=(M.chain p r).contains t):=Ys rfl;have bA:Ext w w1:=aU.trans hB;clear aU hB;generalize M.chain p r=xs at*;go_wp2;go_loopw [13] (fun i wr=>∃k:Nat,k≤xs.length∧i=.int .i64 k∧Ext w1 wr∧Zs (∀y∈xs.take k,y≠t)) (fun i _=>xs.length - (intOf i).toNat)
 case atStart=>exact⟨0,Nat.zero_le _,rfl,Kp.refl _ _,Ys (by simp)⟩
 case round =>
  obtain⟨k,hk,rfl,hE,HA⟩:=hrel;have b5r:=b5.ext hE;have t0:=b5r.c 0 (.int .i64 t.keeper) rfl;have t1:=b5r.c 1 (.string t.name) rfl;have hz:=b5r.lt;by_cases bZ:k<xs.length
  · obtain⟨x,hx⟩:=get_some bZ;obtain⟨b,off,cs,rfl,hI,rfl, -,hc⟩:=hs.get hx;obtain⟨g0,g1⟩:=(hc.ext hE).two;have HX:=Ys hx;clear hx hc hs b5 b5r;obtain⟨xk,xn⟩:=x;obtain⟨tk,tn⟩:=t;simp only at*;rcases xJ xk tk xn tn with⟨rfl,rfl⟩|⟨rfl,mG,xR⟩|⟨tY,qJ⟩
    · go_wp2;go_ret;exact⟨ag (by rw[hU.o];simpa using List.mem_of_getElem? HX.o),(by repeat (first|assumption|exact Kp.refl _ _|apply Kp.alloc|apply Kp.drew|apply Kp.drewN|refine Kp.trans ?_ (by assumption)))⟩
    · have HN:=Ys xR;clear xR;go_wp2;go_roundw
      case rel=>
       refine⟨k+1,by omega,by go_num,kx,Ys ?_⟩;intro y hy;rw[List.take_add_one,HX.o]at hy;rcases List.mem_append.1 hy with h|h
       · exact HA.o y h
       · simp at h;subst h;intro h;exact HN.o (congrArg M.Ref.name h)
      case measure=>simp[intOf];omega
    · have HN:=Ys qJ;clear qJ;go_wp2;go_roundw
      case rel=>
       refine⟨k+1,by omega,by go_num,kx,Ys ?_⟩;intro y hy;rw[List.take_add_one,HX.o]at hy;rcases List.mem_append.1 hy with h|h
       · exact HA.o y h
       · simp at h;subst h;intro h;exact HN.o (congrArg M.Ref.keeper h)
      case measure=>simp[intOf];omega
  · go_wp2;go_ret;exact⟨ag (by rw[hU.o];exact(JF HA.o (by omega)).symm),(by repeat (first|assumption|exact Kp.refl _ _|apply Kp.alloc|apply Kp.drew|apply Kp.drewN|refine Kp.trans ?_ (by assumption)))⟩
theorem wL(w:World)(l:aI)(p:M.au)(h:aF w l p)(a b:Int)(k:M.Kind):
    Calls Tryz.prog 123 #[.pointer (some ⟨l.L,0,none⟩),.int .i64 a,.int .i64 b,.agg #[.int .i64 k.kind,.string k.name]] w fun e w'=>
     e=.returned (.bool (M.agree p a b k))∧Ext w w':=by
 have aU:Ext w (w.alloc (.cells #[.int .i64 k.kind,.string k.name] 50)):=kx;by_cases hk:k.kind=1
 · have hA:Zs (M.agree p a b k=true):=Ys (by unfold M.agree;rw[hk];rfl);have Jh:(k.kind==1)=true:=beq_iff_eq.2 hk;clear hk h;go_enter Tryz.func123,Tryz.ntmps123;go_wp2;go_ret;exact⟨ag hA.o.symm,kx⟩
 have H:=Ys (h.ext aU);clear h;have b7:=aC.new w 50 #[.int .i64 k.kind,.string k.name];have Jh:(k.kind==1)=false:=beq_eq_false_iff_ne.2 hk;have hA:Zs (M.agree p a b k=(if(M.find p a k.name).2=1∧(M.find p b k.name).2=1 then decide ((M.find p a k.name).1=(M.find p b k.name).1)
  else decide ((M.find p a k.name).2≠1)&&decide ((M.find p b k.name).2≠1))):=Ys (by unfold M.agree;rw[Jh];rfl)
 clear hk;go_enter Tryz.func123,Tryz.ntmps123;go_wp2_with fail;refine(jM _ _ _ H.o _ _).mono ?_;rintro e w1 ⟨rfl,hB⟩;have b71:=b7.ext hB;have k0:=b71.c 1 (.string k.name) rfl;have Gt:=b71.lt;have H1:=Ys (H.o.ext hB);generalize M.find p a k.name=F1 at*;obtain⟨⟨fk1,fn1⟩,c1⟩:=F1;simp only at*;go_wp2_with fail;refine(jM _ _ _ (H1.o.ext ((Kp.refl _ _).alloc _)) _ _).mono ?_;rintro e w2 ⟨rfl,hB2⟩;have b9:=(aC.new w1 40 #[.int .i64 fk1,.string fn1]).ext hB2;have q0:=b9.c 0 (.int .i64 fk1) rfl;have q1:=b9.c 1 (.string fn1) rfl;have hz:=b9.lt;generalize M.find p b k.name=F2 at*;obtain⟨⟨fk2,fn2⟩,c2⟩:=F2;simp only at*;clear k0 b71 b7 b9 Gt;by_cases h1:c1=1
 · subst h1;by_cases h2:c2=1
   · subst h2;rcases xJ fk1 fk2 fn1 fn2 with⟨rfl,rfl⟩|⟨rfl,mG,xR⟩|⟨tY,qJ⟩
     · go_wp2;go_ret;exact⟨ag (by rw[hA.o];simp),(by repeat (first|assumption|exact Kp.refl _ _|apply Kp.alloc|apply Kp.drew|apply Kp.drewN|refine Kp.trans ?_ (by assumption)))⟩
     · have HN:=Ys xR;clear xR;go_wp2;go_ret;exact⟨ag (by rw[hA.o];simp[HN.o]),(by repeat (first|assumption|exact Kp.refl _ _|apply Kp.alloc|apply Kp.drew|apply Kp.drewN|refine Kp.trans ?_ (by assumption)))⟩
     · have HN:=Ys qJ;clear qJ;go_wp2;go_ret;exact⟨ag (by rw[hA.o];simp[HN.o]),(by repeat (first|assumption|exact Kp.refl _ _|apply Kp.alloc|apply Kp.drew|apply Kp.drewN|refine Kp.trans ?_ (by assumption)))⟩
   · have I5:(c2 !=1)=true:=bne_iff_ne.2 h2;have HN:=Ys h2;clear h2;go_wp2;go_ret;exact⟨ag (by rw[hA.o];simp[HN.o]),(by repeat (first|assumption|exact Kp.refl _ _|apply Kp.alloc|apply Kp.drew|apply Kp.drewN|refine Kp.trans ?_ (by assumption)))⟩
 · have Z0:(c1 !=1)=true:=bne_iff_ne.2 h1;have HN:=Ys h1;clear h1;by_cases h2:c2=1
   · subst h2;go_wp2;go_ret;exact⟨ag (by rw[hA.o];simp[HN.o]),(by repeat (first|assumption|exact Kp.refl _ _|apply Kp.alloc|apply Kp.drew|apply Kp.drewN|refine Kp.trans ?_ (by assumption)))⟩
   · have I5:(c2 !=1)=true:=bne_iff_ne.2 h2;have Pm:=Ys h2;clear h2;go_wp2;go_ret;exact⟨ag (by rw[hA.o];simp[HN.o,Pm.o]),(by repeat (first|assumption|exact Kp.refl _ _|apply Kp.alloc|apply Kp.drew|apply Kp.drewN|refine Kp.trans ?_ (by assumption)))⟩
theorem qZ(w:World)(l:aI)(p:M.au)(h:aF w l p)(a b:Int)(I:Nat→Prop)(cs:List Value)(m:M.Method)(hm:aH w I m cs):
    Calls Tryz.prog 90 #[.pointer (some ⟨l.L,0,none⟩),.int .i64 a,.int .i64 b,.agg cs.toArray] w fun e w'=>
     e=.returned (.bool (M.eD p a b m))∧Ext w w':=by
 obtain⟨va,vc,vm,rfl,s1, -, -⟩:=hm;obtain⟨a1,c1,rfl,hn,dn⟩:=s1.form;have aU:Ext w (w.alloc (.cells #[.string m.name,.slice a1 m.args.length c1,.int .i64 m.ret.kind,.string m.ret.name,.int .i64 m.locals,.int .i64 m.stack,vc,vm] 54)):=((Kp.refl _ _).alloc _);have H0:=Ys (h.ext aU);clear h;have P0:=Ys (ae.Fz (aC.new w 54 #[.string m.name,.slice a1 m.args.length c1,.int .i64 m.ret.kind,.string m.ret.name,.int .i64 m.locals,.int .i64 m.stack,vc,vm]) _ rfl);go_enter Tryz.func90,Tryz.ntmps90;go_wp2;generalize (w.alloc (.cells #[.string m.name,.slice a1 m.args.length c1,.int .i64 m.ret.kind,.string m.ret.name,.int .i64 m.locals,.int .i64 m.stack,vc,vm] 54))=w0 at*;go_loopw [14] (fun i wr=>∃k:Nat,k≤m.args.length∧i=.int .i64 k∧Ext w0 wr∧Zs ((m.args.take k).all (M.agree p a b)=true)) (fun i _=>m.args.length - (intOf i).toNat)
 case atStart=>exact⟨0,Nat.zero_le _,rfl,Kp.refl _ _,Ys (by simp)⟩
 case round =>
  obtain⟨k,hk,rfl,hE,HA⟩:=hrel;by_cases bZ:k<m.args.length
  · obtain⟨x,hx⟩:=get_some bZ;obtain⟨b',off,cs,rfl,hI,rfl, -,hc⟩:=s1.get hx;obtain⟨g0,g1⟩:=((hc.ext aU).ext hE).two;have HX:=Ys hx;have HL:=Ys (H0.o.ext (hE.alloc (.cells #[.int .i64 x.kind,.string x.name] 50)));clear hx hc;cases ht:M.agree p a b x
    all_goals
     have HT:=Ys ht;clear ht;go_wp2_with fail;refine(wL _ _ _ HL.o _ _ _).mono ?_;rintro e w1 ⟨rfl,hB⟩;rw[HT.o];go_wp2
    · go_ret;exact⟨ag (by unfold M.eD;rw[mD HX.o HT.o];rfl),(by repeat (first|assumption|exact Kp.refl _ _|apply Kp.alloc|apply Kp.drew|apply Kp.drewN|refine Kp.trans ?_ (by assumption)))⟩
    · go_roundw
      case rel=>exact⟨k+1,by omega,by go_num,(by repeat (first|assumption|exact Kp.refl _ _|apply Kp.alloc|apply Kp.drew|apply Kp.drewN|refine Kp.trans ?_ (by assumption))),Ys (all_succ HA.o HX.o HT.o)⟩
      case measure=>simp[intOf];omega
  · have HM:Zs (M.eD p a b m=M.agree p a b m.ret):=Ys (by unfold M.eD;rw[kH HA.o (by omega)];rfl);have P1:=Ys (P0.o.ext hE);obtain⟨p0,p1,p2,p3,p4,p5,p6,p7⟩:=P1.o.eight;simp only[Nat.zero_add]at p1 p2 p3 p4 p5 p6 p7;go_wp2_with fail;refine(wL _ _ _ (H0.o.ext hE) _ _ m.ret).mono ?_;rintro e w1 ⟨rfl,hB⟩;go_wp2;go_ret;exact⟨ag HM.o.symm,(by repeat (first|assumption|exact Kp.refl _ _|apply Kp.alloc|apply Kp.drew|apply Kp.drewN|refine Kp.trans ?_ (by assumption)))⟩
def Vr(o:Option Nat):Int:=o.elim (-1) fun n=>n
theorem Cq{α:Type}{f:α→Bool}{l:List α}{k:Nat}{x:α}(h:∀y∈l.take k,f y=false)(hx:l[k]?=some x)(hf:f x=true):l.findIdx? f=some k:=by
 obtain⟨hk,hxe⟩:=List.getElem?_eq_some_iff.1 hx;rw[List.findIdx?_eq_some_iff_getElem];refine⟨hk,by rw[hxe];exact hf,fun j hj=>?_⟩;have:=h l[j] (by rw[List.mem_iff_getElem?];exact⟨j,by rw[List.getElem?_take,if_pos hj];exact List.getElem?_eq_getElem _⟩);rw[this];decide
theorem zR{α:Type}{f:α→Bool}{l:List α}{k:Nat}(h:∀y∈l.take k,f y=false)(hk:l.length≤k):l.findIdx? f=none:=by
 rw[List.take_of_length_le hk]at h;rw[List.findIdx?_eq_none_iff];exact h
theorem AA{α:Type}{f:α→Bool}{l:List α}{k:Nat}{x:α}(h:∀y∈l.take k,f y=false)(hx:l[k]?=some x)(hf:f x=false):∀y∈l.take (k+1),f y=false:=by
 intro y hy;rw[List.take_add_one,hx]at hy;rcases List.mem_append.1 hy with h'|h'
 · exact h y h'
 · simp at h';subst h';exact hf
theorem Qw(w:World)(I:Nat→Prop)(cs:List Value)(m:M.Method)(hm:aH w I m cs)(b:Nat)(n:ByteArray)(hb:w.cell? ⟨b,0,none⟩=some (.string n)):
    Calls Tryz.prog 144 #[.agg cs.toArray,.pointer (some ⟨b,0,none⟩)] w fun e w'=>e=.returned (.bool (decide (m.name=n)))∧Ext w w':=by
 obtain⟨va,vc,vm,rfl, -, -, -⟩:=hm;have hz:=aG hb;go_enter Tryz.func144,Tryz.ntmps144;go_wp2;go_ret;exact⟨ag (jZ _ _),kx⟩
theorem Sz(w:World)(f:M.Field)(b:Nat)(n:ByteArray)(hb:w.cell? ⟨b,0,none⟩=some (.string n)):
    Calls Tryz.prog 157 #[.agg #[.string f.name,.int .i64 f.kind.kind,.string f.kind.name],.pointer (some ⟨b,0,none⟩)] w fun e w'=>e=.returned (.bool (decide (f.name=n)))∧Ext w w':=by
 have hz:=aG hb;go_enter Tryz.func157,Tryz.ntmps157;go_wp2;go_ret;exact⟨ag (jZ _ _),kx⟩
theorem Qk(w:World)(I:Nat→Prop)(v:Value)(l:List M.Method)(h:SliceOf 8 aH w I v l)(b:Nat)(n:ByteArray)(hb:w.cell? ⟨b,0,none⟩=some (.string n)):
    Calls Tryz.prog 143 #[v,.func (.func 144) #[] #[.pointer (some ⟨b,0,none⟩)]] w fun e w'=>
     e=.returned (.int .i64 (Vr (l.findIdx? fun m=>decide (m.name=n))))∧Ext w w':=by
 obtain⟨a,cap,rfl,hn,dn⟩:=h.form;go_enter Tryz.func143,Tryz.ntmps143;go_wp2;go_loopw [8] (fun i wr=>∃k:Nat,k≤l.length∧i=.int .i64 k∧Ext w wr∧Zs (∀y∈l.take k,decide (M.Method.name y=n)=false)) (fun i _=>l.length - (intOf i).toNat)
 case atStart=>exact⟨0,Nat.zero_le _,rfl,Kp.refl _ _,Ys (by simp)⟩
 case round =>
  obtain⟨k,hk,rfl,hE,HA⟩:=hrel;by_cases bZ:k<l.length
  · obtain⟨x,hx⟩:=get_some bZ;obtain⟨b',off,cs,rfl,hI,lu, -,hc⟩:=h.get hx;have HM:=Ys (aH.stays _ _ _ _ _ _ hE.same (fun _ h=>h) lu);obtain⟨va,vc,vm,rfl, -, -, -⟩:=lu;obtain⟨g0,g1,g2,g3,g4,g5,g6,g7⟩:=(hc.ext hE).eight;have OQ:=hE.aA hb;have HX:=Ys hx;clear hx hc;cases ht:decide (x.name=n)
    all_goals
     have HT:=Ys ht;clear ht;go_wp2_with (go_at_call 144;refine(Qw _ _ _ _ HM.o _ _ OQ).mono ?_;rintro e w1 ⟨rfl,hB⟩;rw[HT.o])
    · go_roundw
      case rel=>exact⟨k+1,by omega,by go_num,(by repeat (first|assumption|exact Kp.refl _ _|apply Kp.alloc|apply Kp.drew|apply Kp.drewN|refine Kp.trans ?_ (by assumption))),Ys (AA HA.o HX.o HT.o)⟩
      case measure=>simp[intOf];omega
    · go_ret;exact⟨by rw[Cq HA.o HX.o HT.o];rfl,(by repeat (first|assumption|exact Kp.refl _ _|apply Kp.alloc|apply Kp.drew|apply Kp.drewN|refine Kp.trans ?_ (by assumption)))⟩
  · go_wp2;go_ret;exact⟨by rw[zR HA.o (by omega)];rfl,kx⟩
theorem TW(w:World)(I:Nat→Prop)(v:Value)(l:List M.Field)(h:SliceOf 3 eO w I v l)(b:Nat)(n:ByteArray)(hb:w.cell? ⟨b,0,none⟩=some (.string n)):
    Calls Tryz.prog 156 #[v,.func (.func 157) #[] #[.pointer (some ⟨b,0,none⟩)]] w fun e w'=>
     e=.returned (.int .i64 (Vr (l.findIdx? fun m=>decide (M.Field.name m=n))))∧Ext w w':=by
 obtain⟨a,cap,rfl,hn,dn⟩:=h.form;go_enter Tryz.func156,Tryz.ntmps156;go_wp2;go_loopw [8] (fun i wr=>∃k:Nat,k≤l.length∧i=.int .i64 k∧Ext w wr∧Zs (∀y∈l.take k,decide (M.Field.name y=n)=false)) (fun i _=>l.length - (intOf i).toNat)
 case atStart=>exact⟨0,Nat.zero_le _,rfl,Kp.refl _ _,Ys (by simp)⟩
 case round =>
  obtain⟨k,hk,rfl,hE,HA⟩:=hrel;by_cases bZ:k<l.length
  · obtain⟨x,hx⟩:=get_some bZ;obtain⟨b',off,cs,rfl,hI,rfl, -,hc⟩:=h.get hx;obtain⟨g0,g1,g2⟩:=(hc.ext hE).three;have OQ:=hE.aA hb;have HX:=Ys hx;clear hx hc;cases ht:decide (x.name=n)
    all_goals
     have HT:=Ys ht;clear ht;go_wp2_with (go_at_call 157;refine(Sz _ _ _ _ OQ).mono ?_;rintro e w1 ⟨rfl,hB⟩;rw[HT.o])
    · go_roundw
      case rel=>exact⟨k+1,by omega,by go_num,(by repeat (first|assumption|exact Kp.refl _ _|apply Kp.alloc|apply Kp.drew|apply Kp.drewN|refine Kp.trans ?_ (by assumption))),Ys (AA HA.o HX.o HT.o)⟩
      case measure=>simp[intOf];omega
    · go_ret;exact⟨by rw[Cq HA.o HX.o HT.o];rfl,(by repeat (first|assumption|exact Kp.refl _ _|apply Kp.alloc|apply Kp.drew|apply Kp.drewN|refine Kp.trans ?_ (by assumption)))⟩
  · go_wp2;go_ret;exact⟨by rw[zR HA.o (by omega)];rfl,kx⟩
theorem BG(w:World)(I:Nat→Prop)(cs:List Value)(c:M.Class)(h:aX w I c cs)(n:ByteArray):
    Calls Tryz.prog 122 #[.agg cs.toArray,.string n] w fun e w'=>e=.returned (.int .i64 (Vr (M.mK c n)))∧Ext w w':=by
 obtain⟨vf,vm,rfl,s1,s2⟩:=h;have aU:Ext w ((w.alloc (.cells #[.string c.name,.string c.aQ,vf,vm] 58)).alloc (.cells #[.string n] 9)):=kx;have b1:=(aC.new (w.alloc (.cells #[.string c.name,.string c.aQ,vf,vm] 58)) 9 #[.string n]).c 0 (.string n) rfl;simp only[World.size_alloc]at b1;go_enter Tryz.func122,Tryz.ntmps122;go_wp2_with fail;refine(Qk _ _ _ _ (s2.ext aH.stays aU) _ _ b1).mono ?_;rintro e w1 ⟨rfl,hB⟩;go_wp2;go_ret;exact⟨rfl,(by repeat (first|assumption|exact Kp.refl _ _|apply Kp.alloc|apply Kp.drew|apply Kp.drewN|refine Kp.trans ?_ (by assumption)))⟩
theorem KI(w:World)(I:Nat→Prop)(cs:List Value)(c:M.Class)(h:aX w I c cs)(n:ByteArray):
    Calls Tryz.prog 141 #[.agg cs.toArray,.string n] w fun e w'=>e=.returned (.int .i64 (Vr (M.tT c n)))∧Ext w w':=by
 obtain⟨vf,vm,rfl,s1,s2⟩:=h;have aU:Ext w ((w.alloc (.cells #[.string c.name,.string c.aQ,vf,vm] 58)).alloc (.cells #[.string n] 9)):=kx;have b1:=(aC.new (w.alloc (.cells #[.string c.name,.string c.aQ,vf,vm] 58)) 9 #[.string n]).c 0 (.string n) rfl;simp only[World.size_alloc]at b1;go_enter Tryz.func141,Tryz.ntmps141;go_wp2_with fail;refine(TW _ _ _ _ (s1.ext eO.stays aU) _ _ b1).mono ?_;rintro e w1 ⟨rfl,hB⟩;go_wp2;go_ret;exact⟨rfl,(by repeat (first|assumption|exact Kp.refl _ _|apply Kp.alloc|apply Kp.drew|apply Kp.drewN|refine Kp.trans ?_ (by assumption)))⟩
theorem M6{α:Type}{a b:List α}(hl:a.length=b.length){k:Nat}(h:∀j x y,j<k→a[j]?=some x→b[j]?=some y→x=y)(hk:a.length≤k):a=b:=by
 apply List.ext_getElem?;intro j;by_cases hj:j<a.length
 · have h1:=List.getElem?_eq_getElem hj;have h2:b[j]?=some b[j]:=List.getElem?_eq_getElem (by omega);rw[h1,h2,h j _ _ (by omega) h1 h2]
 · rw[List.getElem?_eq_none (by omega),List.getElem?_eq_none (by omega)]
theorem CB (w : World) (I J : Nat → Prop) (v u : Value) (l m : List M.Kind) (h : SliceOf 2 jm w I v l) (h' : SliceOf 2 jm w J u m) :
    Calls Tryz.prog 142 #[v,u] w fun e w'=>e=.returned (.bool (decide (l=m)))∧Ext w w':=by
 obtain⟨a,cap,rfl,hn,dn⟩:=h.form;obtain⟨a',cap',rfl,hn',afd⟩:=h'.form;by_cases hl:l.length=m.length
 · have HL := Ys hl; have Tt : (l.length : Int) = m.length := by omega
   clear hl;go_enter Tryz.func142,Tryz.ntmps142;go_wp2;go_loopw [13] (fun i wr=>∃k:Nat,k≤l.length∧i=.int .i64 k∧Ext w wr∧Zs (∀j x y,j<k→l[j]?=some x→m[j]?=some y→x=y)) (fun i _=>l.length - (intOf i).toNat)
   case atStart=>exact⟨0,Nat.zero_le _,rfl,Kp.refl _ _,Ys (by omega)⟩
   case round =>
    obtain⟨k,hk,rfl,hE,HA⟩:=hrel;by_cases bZ:k<l.length
    · have aap:k<m.length:=by rw[←HL.o];exact bZ
      obtain⟨x,hx⟩:=get_some bZ;obtain⟨y,hy⟩:=get_some aap;obtain⟨b,off,cs,rfl,hI,rfl, -,hc⟩:=h.get hx;obtain⟨b',off',cs',rfl,Wl,rfl, -,zW⟩:=h'.get hy;obtain⟨g0,g1⟩:=(hc.ext hE).two;obtain⟨q0,q1⟩:=(zW.ext hE).two;have HX:=Ys hx;have HY:=Ys hy;clear hx hc hy zW;obtain⟨xk,xn⟩:=x;obtain⟨yk,yn⟩:=y;simp only at*;rcases xJ xk yk xn yn with⟨rfl,rfl⟩|⟨rfl,mG,xR⟩|⟨tY,qJ⟩
      · go_wp2_with (first|(go_region_with (fail))|fail)
        all_goals
         go_roundw
         case rel=>
          refine⟨k+1,by omega,by go_num,kx,Ys (fun j x y hj h1 h2=>?_)⟩;by_cases Wv:j=k
          · subst Wv;exact Option.some.inj ((h1.symm.trans HX.o).trans (HY.o.symm.trans h2))
          · exact HA.o j x y (by omega) h1 h2
         case measure=>simp[intOf];omega
      · have HN:Zs (decide (l=m)=false):=Ys (decide_eq_false (fun h=>xR (by
         subst h;exact congrArg M.Kind.name (Option.some.inj (HX.o.symm.trans HY.o)))))
        clear xR;go_wp2_with (first|(go_region_with (fail))|fail)
        all_goals
         go_ret;exact⟨ag HN.o.symm,kx⟩
      · have HN:Zs (decide (l=m)=false):=Ys (decide_eq_false (fun h=>qJ (by
         subst h;exact congrArg M.Kind.kind (Option.some.inj (HX.o.symm.trans HY.o)))))
        clear qJ;go_wp2_with (first|(go_region_with (fail))|fail)
        all_goals
         go_ret;exact⟨ag HN.o.symm,kx⟩
    · go_wp2;go_ret;exact⟨ag (decide_eq_true (M6 HL.o HA.o (by omega))).symm,kx⟩
 · have Tt:((l.length:Int)==m.length)=false:=beq_eq_false_iff_ne.2 (by omega);go_enter Tryz.func142,Tryz.ntmps142;go_wp2;go_ret;exact⟨ag (decide_eq_false (fun h=>hl (congrArg List.length h))).symm,kx⟩
theorem ae.mk4{w:World}{b:Nat}{x y z u:Value}(h0:w.cell? ⟨b,0,none⟩=some x)(h1:w.cell? ⟨b,1,none⟩=some y)(h2:w.cell? ⟨b,2,none⟩=some z)(h3:w.cell? ⟨b,3,none⟩=some u):ae w b 0 [x,y,z,u]:=by
 intro j v hj;rw[Nat.zero_add];match j,hj with
 |0,hj=>cases hj;exact h0
 |1,hj=>cases hj;exact h1
 |2,hj=>cases hj;exact h2
 |3,hj=>cases hj;exact h3
theorem ae.SH{w:World}{b:Nat}{x y z u:Value}(h:ae w b 0 [x,y,z,u]):w.cell? ⟨b,0,none⟩=some x∧w.cell? ⟨b,1,none⟩=some y∧w.cell? ⟨b,2,none⟩=some z∧w.cell? ⟨b,3,none⟩=some u:=h.four
theorem bQ.ext{α:Type}{R:fP α}(hR:bQ R){w w':World}{I:Nat→Prop}{x:α}{cs:List Value}(hE:Ext w w')(h:R w I x cs):R w' I x cs:=hR _ _ _ _ _ _ (Ext.same hE) (fun _ h=>h) h
theorem bQ.kp{α:Type}{R:fP α}(hR:bQ R){D:Nat→Prop}{w w':World}{I:Nat→Prop}{x:α}{cs:List Value}(hE:Kp D w w')(hI:∀b,I b→¬D b)(h:R w I x cs):R w' I x cs:=hR _ _ _ _ _ _ (Kp.same hE hI) (fun _ h=>h) h
theorem aH.args{w:World}{I:Nat→Prop}{x:M.Method}{a va b c d e vc vm:Value}(h:aH w I x [a,va,b,c,d,e,vc,vm]):SliceOf 2 jm w I va x.args:=by
 obtain⟨va',vc',vm',he,h1, -, -⟩:=h;simp only[List.cons.injEq,and_true,true_and]at he;obtain⟨-,rfl, -⟩:=he;exact h1
theorem Ev{α:Type}{f:α→Bool}{l:List α}{o:Option Nat}(h:l.findIdx? f=o):l.find? f=o.bind (l[·]?):=by
 subst h;induction l with
 |nil=>rfl
 |cons x r ih=>
  rw[List.find?_cons,List.findIdx?_cons];cases hx:f x
  · rw[ih];cases r.findIdx? f<;>simp
  · simp
set_option maxHeartbeats 20000000 in
theorem Ff (w : World) (l : aI) (p : M.au) (h : aF w l p) (low high : M.Ref) (c d : M.Class) (vH : M.cls? p low = some c) (Yj : M.cls? p high = some d) :
    Calls Tryz.prog 121 #[.pointer (some ⟨l.L,0,none⟩),.agg #[.int .i64 low.keeper,.string low.name],.agg #[.int .i64 high.keeper,.string high.name]] w fun e w'=>
     e=.returned (.bool (M.kW p low high))∧Ext w w':=by
 have aU:Ext w ((w.alloc (.cells #[.int .i64 low.keeper,.string low.name] 40)).alloc (.cells #[.int .i64 high.keeper,.string high.name] 40)):=(by repeat (first|with_reducible exact Kp.refl _ _|with_reducible assumption|with_reducible refine Kp.alloc ?_ _|with_reducible refine Kp.drew ?_|with_reducible refine Kp.drewN ?_ _|with_reducible refine Kp.setCell ?_ (fun h=>absurd h (by simp<;>omega)) _|with_reducible refine Kp.trans ?_ (by with_reducible assumption)|exact Kp.refl _ _|assumption|refine Kp.alloc ?_ _|refine Kp.drew ?_|refine Kp.drewN ?_ _|(refine Kp.setCell ?_ (fun h=>absurd h (by simp;done)) _)|(refine Kp.setCell ?_ (fun h=>absurd h (by simp;omega)) _)|refine Kp.trans ?_ (by assumption)));have H:=Ys (h.ext aU);clear h;have b4:=(aC.new w 40 #[.int .i64 low.keeper,.string low.name]).ext ((Kp.refl _ _).alloc (.cells #[.int .i64 high.keeper,.string high.name] 40));have b5:=aC.new (w.alloc (.cells #[.int .i64 low.keeper,.string low.name] 40)) 40 #[.int .i64 high.keeper,.string high.name];simp only[World.size_alloc]at b5;have HC:=Ys (And.intro vH Yj);clear vH Yj;go_enter Tryz.func121,Tryz.ntmps121;go_upto_region 1 with(fail);generalize ((w.alloc (.cells #[.int .i64 low.keeper,.string low.name] 40)).alloc (.cells #[.int .i64 high.keeper,.string high.name] 40))=w0 at*;go_cut [7,8] (fun s7 s8 wx=>∃b7 b8 vf vm uf um,s7=.pointer (some ⟨b7,0,none⟩)∧s8=.pointer (some ⟨b8,0,none⟩)∧ae wx b7 0 [.string c.name,.string c.aQ,vf,vm]∧
  ae wx b8 0 [.string d.name,.string d.aQ,uf,um]∧aX wx (· <l.O) c [.string c.name,.string c.aQ,vf,vm]∧aX wx (· <l.O) d [.string d.name,.string d.aQ,uf,um]∧Ext w0 wx)
 case first=>
  have p0:=b4.c 0 (.int .i64 low.keeper) rfl;have p1:=b4.c 1 (.string low.name) rfl;have q0:=b5.c 0 (.int .i64 high.keeper) rfl;have q1:=b5.c 1 (.string high.name) rfl;clear b4 b5;have hS:∀W,Ext w0 W→(Ext w0 W∧W.cell? ⟨w.heap.size,0,none⟩=some (.int .i64 low.keeper)∧W.cell? ⟨w.heap.size,1,none⟩=some (.string low.name)∧W.cell? ⟨w.heap.size+1,0,none⟩=some (.int .i64 high.keeper)∧W.cell? ⟨w.heap.size+1,1,none⟩=some (.string high.name)):=
   fun W hW=>⟨hW,hW.aA p0,hW.aA p1,hW.aA q0,hW.aA q1⟩
  have HS:=Ys hS;have hOz:l.O≤w0.heap.size:=by have:=H.o.lt;have:=H.o.ord;omega
  clear hS;go_region_held3 (fun W=>Ext w0 W∧W.cell? ⟨w.heap.size,0,none⟩=some (.int .i64 low.keeper)∧W.cell? ⟨w.heap.size,1,none⟩=some (.string low.name)∧W.cell? ⟨w.heap.size+1,0,none⟩=some (.int .i64 high.keeper)∧W.cell? ⟨w.heap.size+1,1,none⟩=some (.string high.name))
   ((refine HS.o _ ?_;repeat (first|with_reducible exact Kp.refl _ _|with_reducible assumption|with_reducible refine Kp.alloc ?_ _|with_reducible refine Kp.drew ?_|with_reducible refine Kp.drewN ?_ _|with_reducible refine Kp.setCell ?_ (fun h=>absurd h (by simp<;>omega)) _|with_reducible refine Kp.trans ?_ (by with_reducible assumption))))
   (first|(go_at_call 91;first|(have hB_:=hB;clear hB_;refine(oG _ l p (H.o.ext (by repeat (first|with_reducible exact Kp.refl _ _|with_reducible assumption|with_reducible refine Kp.alloc ?_ _|with_reducible refine Kp.drew ?_|with_reducible refine Kp.drewN ?_ _|with_reducible refine Kp.setCell ?_ (fun h=>absurd h (by simp<;>omega)) _|with_reducible refine Kp.trans ?_ (by with_reducible assumption)|exact Kp.refl _ _|assumption|refine Kp.alloc ?_ _|refine Kp.drew ?_|refine Kp.drewN ?_ _|(refine Kp.setCell ?_ (fun h=>absurd h (by simp;done)) _)|(refine Kp.setCell ?_ (fun h=>absurd h (by simp;omega)) _)|refine Kp.trans ?_ (by assumption)))) high.keeper high.name d HC.o.2).mono ?_;rintro e w2 ⟨⟨cs',ab3,rfl⟩,Z6⟩;obtain⟨y1',z1',y2',z2',rfl⟩:=ab3.form;have EX:=Z6.size;obtain⟨iU,hf2⟩:=KD Z6;(have hq9:w1.heap.size≤w2.heap.size:=by have:=Z6.size;(try simp at this);omega);(try have hq3:w0.heap.size<w2.heap.size:=by have:=Z6.size;(try simp at this);omega);(try have hq4:w0.heap.size+1<w2.heap.size:=by have:=Z6.size;(try simp at this);omega);(try have hq5:w1.heap.size<w2.heap.size:=by have:=Z6.size;(try simp at this);omega);(try have hq6:w1.heap.size+1<w2.heap.size:=by have:=Z6.size;(try simp at this);omega))|(refine(oG _ l p (H.o.ext (by repeat (first|with_reducible exact Kp.refl _ _|with_reducible assumption|with_reducible refine Kp.alloc ?_ _|with_reducible refine Kp.drew ?_|with_reducible refine Kp.drewN ?_ _|with_reducible refine Kp.setCell ?_ (fun h=>absurd h (by simp<;>omega)) _|with_reducible refine Kp.trans ?_ (by with_reducible assumption)|exact Kp.refl _ _|assumption|refine Kp.alloc ?_ _|refine Kp.drew ?_|refine Kp.drewN ?_ _|(refine Kp.setCell ?_ (fun h=>absurd h (by simp;done)) _)|(refine Kp.setCell ?_ (fun h=>absurd h (by simp;omega)) _)|refine Kp.trans ?_ (by assumption)))) low.keeper low.name c HC.o.1).mono ?_;rintro e w1 ⟨⟨cs,fV,rfl⟩,hB⟩;obtain⟨y1,z1,y2,z2,rfl⟩:=fV.form;have Gt:=hB.size;obtain⟨uN,hf1⟩:=KD hB;(have hq0:w0.heap.size≤w1.heap.size:=by have:=hB.size;(try simp at this);omega);(try have Nu:w0.heap.size<w1.heap.size:=by have:=hB.size;(try simp at this);omega);(try have Jj:w0.heap.size+1<w1.heap.size:=by have:=hB.size;(try simp at this);omega))))
  all_goals (go_wp2_with fail)
  all_goals
   go_meet;refine⟨_,_,.slice y1 c.fields.length z1,.slice y2 c.methods.length z2,.slice y1' d.fields.length z1',.slice y2' d.methods.length z2',rfl,rfl,ae.mk4 (by(try simp[go_sem, *])<;>refine World.cell?_setCell_same' _ _ _ (by simp[go_sem, *])) (by(try simp[go_sem, *])<;>refine World.cell?_setCell_same' _ _ _ (by simp[go_sem, *])) (by(try simp[go_sem, *])<;>refine World.cell?_setCell_same' _ _ _ (by simp[go_sem, *])) (by(try simp[go_sem, *])<;>refine World.cell?_setCell_same' _ _ _ (by simp[go_sem, *])),ae.mk4 (by(try simp[go_sem, *])<;>refine World.cell?_setCell_same' _ _ _ (by simp[go_sem, *])) (by(try simp[go_sem, *])<;>refine World.cell?_setCell_same' _ _ _ (by simp[go_sem, *])) (by(try simp[go_sem, *])<;>refine World.cell?_setCell_same' _ _ _ (by simp[go_sem, *])) (by(try simp[go_sem, *])<;>refine World.cell?_setCell_same' _ _ _ (by simp[go_sem, *])),bQ.kp (D:=fun k=>l.O≤k) aX.stays (by repeat (first|with_reducible exact Kp.refl _ _|with_reducible refine Kp.alloc ?_ _|with_reducible refine Kp.drew ?_|with_reducible refine Kp.setCell ?_ (fun _=>by first|omega|(simp;done)|(simp;omega)) _|with_reducible refine Kp.trans ?_ (Kp.any (by with_reducible assumption)))) (fun _ h h'=>absurd h (Nat.not_lt_of_le h')) fV,bQ.kp (D:=fun k=>l.O≤k) aX.stays (by repeat (first|with_reducible exact Kp.refl _ _|with_reducible refine Kp.alloc ?_ _|with_reducible refine Kp.drew ?_|with_reducible refine Kp.setCell ?_ (fun _=>by first|omega|(simp;done)|(simp;omega)) _|with_reducible refine Kp.trans ?_ (Kp.any (by with_reducible assumption)))) (fun _ h h'=>absurd h (Nat.not_lt_of_le h')) ab3,(by repeat (first|with_reducible exact Kp.refl _ _|with_reducible assumption|with_reducible refine Kp.alloc ?_ _|with_reducible refine Kp.drew ?_|with_reducible refine Kp.drewN ?_ _|with_reducible refine Kp.setCell ?_ (fun h=>absurd h (by simp<;>omega)) _|with_reducible refine Kp.trans ?_ (by with_reducible assumption)|exact Kp.refl _ _|assumption|refine Kp.alloc ?_ _|refine Kp.drew ?_|refine Kp.drewN ?_ _|(refine Kp.setCell ?_ (fun h=>absurd h (by simp;done)) _)|(refine Kp.setCell ?_ (fun h=>absurd h (by simp;omega)) _)|refine Kp.trans ?_ (by assumption)))⟩
 case rest =>
  obtain⟨b7,b8,vf,vm,uf,um,rfl,rfl,k7,k8,hc,hd,hE⟩:=hcut;obtain⟨vf',vm',he,sf,sm⟩:=hc;simp only[List.cons.injEq,and_true,true_and]at he;obtain⟨rfl,rfl⟩:=he;obtain⟨fa,fc,rfl,OU,hfm⟩:=sf.form;obtain⟨ma,mc,rfl,hmn,yR⟩:=sm.form;have HD:=Ys hd;have HE:=Ys hE;have HL:Zs (M.kW p low high=(c.fields.all (fun f=>(M.tT d f.name).isNone)&&c.methods.all (M.gH p low high))):=Ys (by
   unfold M.kW M.cls;rw[HC.o.1,HC.o.2];rfl)
  have Gf:Zs (∀m,M.gH p low high m=match d.methods.find? (fun n=>n.name=m.name)with
   |none=>true
   |some n=>decide (m.ret=n.ret)&&decide (m.args=n.args)&&M.eD p low.keeper high.keeper m):=Ys (fun m=>by
   unfold M.gH M.cls;rw[HC.o.2];rfl)
  have r7:=k7.SH.2.2.1;have bP:Ext w wc:=aU.trans hE;have j4:=b4.ext hE;have j5:=b5.ext hE;clear hd hE b4 b5 aU;go_wp2;go_loopw [24] (fun i wr=>∃k:Nat,k≤c.fields.length∧i=.int .i64 k∧Ext wc wr∧Zs ((c.fields.take k).all (fun f=>(M.tT d f.name).isNone)=true)) (fun i _=>c.fields.length - (intOf i).toNat)
  case atStart=>exact⟨0,Nat.zero_le _,rfl,Kp.refl _ _,Ys (by simp)⟩
  case round =>
   obtain⟨k,hk,rfl,hE,HA⟩:=hrel;have k8r:=k8.ext hE;obtain⟨s0,s1,s2,s3⟩:=k8r.SH;have hz8:=aG s0;by_cases bZ:k<c.fields.length
   · obtain⟨x,hx⟩:=get_some bZ;obtain⟨b,off,cs,rfl,hI,rfl, -,jh⟩:=sf.get hx;obtain⟨g0,g1,g2⟩:=(jh.ext hE).three;have HX:=Ys hx;have Y6:=Ys (bQ.ext aX.stays (hE.alloc (.cells #[.string x.name,.int .i64 x.kind.kind,.string x.kind.name] 203)) HD.o);clear hx jh;cases ht:M.tT d x.name
     · have HT:Zs ((M.tT d x.name).isNone=true):=Ys (by rw[ht];rfl);have vV:=Ys ht;clear ht;go_wp2_with (go_at_call 141;refine(KI _ _ _ _ Y6.o _).mono ?_;rintro e w1 ⟨rfl,hB⟩;rw[vV.o];simp only[Vr,Option.elim]);go_roundw
       case rel=>exact⟨k+1,by omega,by go_num,(by repeat (first|with_reducible exact Kp.refl _ _|with_reducible assumption|with_reducible refine Kp.alloc ?_ _|with_reducible refine Kp.drew ?_|with_reducible refine Kp.drewN ?_ _|with_reducible refine Kp.setCell ?_ (fun h=>absurd h (by simp<;>omega)) _|with_reducible refine Kp.trans ?_ (by with_reducible assumption)|exact Kp.refl _ _|assumption|refine Kp.alloc ?_ _|refine Kp.drew ?_|refine Kp.drewN ?_ _|(refine Kp.setCell ?_ (fun h=>absurd h (by simp;done)) _)|(refine Kp.setCell ?_ (fun h=>absurd h (by simp;omega)) _)|refine Kp.trans ?_ (by assumption))),Ys (all_succ HA.o HX.o HT.o)⟩
       case measure=>simp[intOf];omega
     · rename_i at_;have HT:Zs ((M.tT d x.name).isNone=false):=Ys (by rw[ht];rfl);have vV:=Ys ht;clear ht;go_wp2_with (go_at_call 141;refine(KI _ _ _ _ Y6.o _).mono ?_;rintro e w1 ⟨rfl,hB⟩;rw[vV.o];simp only[Vr,Option.elim]);go_ret;exact⟨ag (by rw[HL.o,mD HX.o HT.o];rfl),(by repeat (first|with_reducible exact Kp.refl _ _|with_reducible assumption|with_reducible refine Kp.alloc ?_ _|with_reducible refine Kp.drew ?_|with_reducible refine Kp.drewN ?_ _|with_reducible refine Kp.setCell ?_ (fun h=>absurd h (by simp<;>omega)) _|with_reducible refine Kp.trans ?_ (by with_reducible assumption)|exact Kp.refl _ _|assumption|refine Kp.alloc ?_ _|refine Kp.drew ?_|refine Kp.drewN ?_ _|(refine Kp.setCell ?_ (fun h=>absurd h (by simp;done)) _)|(refine Kp.setCell ?_ (fun h=>absurd h (by simp;omega)) _)|refine Kp.trans ?_ (by assumption)))⟩
   · have HF := Ys (kH HA.o (by omega : c.fields.length ≤ k)); have r7m := (k7.ext hE).SH.2.2.2; clear s0 s1 s2 s3 k8r hz8; have hEo : Ext w wr := bP.trans hE; have HDo := Ys (bQ.ext aX.stays hE HD.o); have smo := sm.ext aH.stays hE; have k8o := k8.ext hE; have j4o := j4.ext hE; have j5o := j5.ext hE; have HLo := Ys (H.o.ext (HE.o.trans hE)); clear HA bP HE H HD sm sf k8 k7 hE OU j4 j5 r7; obtain ⟨wo, rfl⟩ : ∃ wo : World, wo = wr := ⟨_, rfl⟩; go_wp2; go_loopw [37] (fun i wr => ∃ k : Nat, k ≤ c.methods.length ∧ i = .int .i64 k ∧ Ext wo wr ∧ Zs ((c.methods.take k).all (M.gH p low high) = true)) (fun i _ => c.methods.length - (intOf i).toNat)
     case atStart=>exact⟨0,Nat.zero_le _,rfl,Kp.refl _ _,Ys (by simp)⟩
     case round =>
      obtain⟨k,hk,rfl,hE,HA⟩:=hrel;by_cases bZ:k<c.methods.length
      · obtain ⟨x, hx⟩ := get_some bZ; obtain ⟨b, off, cs, rfl, hI, lu, -, jh⟩ := smo.get hx; have HX := Ys hx; have HMx := Ys (bQ.ext aH.stays hE lu); obtain ⟨a1, c1, a2, c2, a3, c3, rfl⟩ := lu.form; have ha := lu.args; clear lu; obtain ⟨g0, g1, g2, g3, g4, g5, g6, g7⟩ := (jh.ext hE).eight; have k8r := k8o.ext hE; obtain ⟨s0, s1, s2, s3⟩ := k8r.SH; have hz8 := aG s0; have HW := Ys (hE.alloc (.cells #[.string x.name, .slice a1 x.args.length c1, .int .i64 x.ret.kind, .string x.ret.name, .int .i64 x.locals, .int .i64 x.stack, .slice a2 x.code.length c2, .slice a3 x.maps.length c3] 54)); have Y6 := Ys (bQ.ext aX.stays HW.o HDo.o); clear hx jh k8r; cases ht : M.mK d x.name
        · have HT:Zs (M.gH p low high x=true):=Ys (by rw[Gf.o,Ev ht];rfl);have vV:=Ys ht;clear ht;go_wp2_with (go_at_call 122;refine(BG _ _ _ _ Y6.o _).mono ?_;rintro e w1 ⟨rfl,hB⟩;rw[vV.o];simp only[Vr,Option.elim]);go_roundw
          case rel=>exact⟨k+1,by omega,by go_num,(by repeat (first|with_reducible exact Kp.refl _ _|with_reducible assumption|with_reducible refine Kp.alloc ?_ _|with_reducible refine Kp.drew ?_|with_reducible refine Kp.drewN ?_ _|with_reducible refine Kp.setCell ?_ (fun h=>absurd h (by simp<;>omega)) _|with_reducible refine Kp.trans ?_ (by with_reducible assumption)|exact Kp.refl _ _|assumption|refine Kp.alloc ?_ _|refine Kp.drew ?_|refine Kp.drewN ?_ _|(refine Kp.setCell ?_ (fun h=>absurd h (by simp;done)) _)|(refine Kp.setCell ?_ (fun h=>absurd h (by simp;omega)) _)|refine Kp.trans ?_ (by assumption))),Ys (all_succ HA.o HX.o HT.o)⟩
          case measure=>simp[intOf];omega
        · rename_i at_;go_wp2_with fail;refine(BG _ _ _ _ Y6.o _).mono ?_;rintro e w1 ⟨rfl,hB⟩;rw[ht];simp only[Vr,Option.elim];have tX:at_ <d.methods.length:=by
           have:=List.findIdx?_eq_some_iff_getElem.1 ht;exact this.1
          obtain⟨y,hy⟩:=get_some tX;have HT:Zs (M.gH p low high x=(decide (x.ret=y.ret)&&decide (x.args=y.args)&&M.eD p low.keeper high.keeper x)):=Ys (by
           rw[Gf.o,Ev ht];show(match d.methods[at_]? with|none=>true|some n=>_)=_
           rw[hy])
          have Mi:=bQ.ext aX.stays hB Y6.o;obtain⟨uf',um',he, -,tm⟩:=Mi;simp only[List.cons.injEq,and_true,true_and]at he;obtain⟨rfl,rfl⟩:=he;obtain⟨na,nc,rfl,OW, -⟩:=tm.form;obtain⟨b',off',cs',rfl,Wl,Tv, -,ab2⟩:=tm.get hy;obtain⟨a1',c1',a2',c2',a3',c3',rfl⟩:=Tv.form;have ha':=Tv.args;clear Tv;obtain⟨q0,q1,q2,q3,q4,q5,q6,q7⟩:=ab2.eight;have Q3:=Ys (And.intro (ha) ha');have Jd:=HW.o.trans hB;have hB1:=Ys (((Kp.refl _ wr).alloc (.cells #[.string x.name,.slice a1 x.args.length c1,.int .i64 x.ret.kind,.string x.ret.name,.int .i64 x.locals,.int .i64 x.stack,.slice a2 x.code.length c2,.slice a3 x.maps.length c3] 54):Ext wr _).trans hB);have k8w:=k8o.ext Jd;have t3:=k8w.SH.2.2.2;have agh:=aG t3;have bm:=(aC.new wr 54 #[.string x.name,.slice a1 x.args.length c1,.int .i64 x.ret.kind,.string x.ret.name,.int .i64 x.locals,.int .i64 x.stack,.slice a2 x.code.length c2,.slice a3 x.maps.length c3]).ext hB;have m0:=bm.c 0 _ rfl;have m1:=bm.c 1 _ rfl;have m2:=bm.c 2 _ rfl;have m3:=bm.c 3 _ rfl;have m4:=bm.c 4 _ rfl;have m5:=bm.c 5 _ rfl;have m6:=bm.c 6 _ rfl;have m7:=bm.c 7 _ rfl;have hzm:=bm.lt;clear hy ab2 tm ha ha' s0 s1 s2 s3 g0 g1 g2 g3 g4 g5 g6 g7 k8w ht bm;have HAM:=Ys (bQ.ext aH.stays ((Kp.refl _ wr).alloc (.cells #[.string x.name,.slice a1 x.args.length c1,.int .i64 x.ret.kind,.string x.ret.name,.int .i64 x.locals,.int .i64 x.stack,.slice a2 x.code.length c2,.slice a3 x.maps.length c3] 54)) HMx.o |> bQ.ext aH.stays hB);have o0:=((j4o.ext Jd).c 0 (.int .i64 low.keeper) rfl);have o1:=((j5o.ext Jd).c 0 (.int .i64 high.keeper) rfl);have oz:=(j5o.ext Jd).lt;have HR:Zs (decide (x.ret=y.ret)=decide (x.ret.kind=y.ret.kind∧x.ret.name=y.ret.name)):=Ys (decide_eq_decide.2 M.Kind.jd);rcases xJ x.ret.kind y.ret.kind x.ret.name y.ret.name with⟨e1,e2⟩|⟨e1,mG,xR⟩|⟨tY,qJ⟩
          · have e1':(x.ret.kind==y.ret.kind)=true:=beq_iff_eq.2 e1;have e2':(x.ret.name.toList==y.ret.name.toList)=true:=by rw[e2];simp
            have GH:Zs (M.gH p low high x=(decide (x.args=y.args)&&M.eD p low.keeper high.keeper x)):=Ys (by rw[HT.o,HR.o];simp[e1,e2]);clear e1 e2;cases hq:decide (x.args=y.args)
            · have Zt:Zs (M.gH p low high x=false):=Ys (by rw[GH.o,hq];rfl);have HQ:=Ys hq;clear hq;go_wp2_with fail;refine(CB _ _ _ _ _ _ _ ((Q3.o.1.ext jm.stays (hE.trans hB1.o)).ext jm.stays ((Kp.refl _ _).alloc _)) (Q3.o.2.ext jm.stays ((Kp.refl _ _).alloc _))).mono ?_;rintro e w2 ⟨rfl,hB2⟩;rw[HQ.o];go_wp2;go_ret;exact⟨ag (by rw[HL.o,mD HX.o Zt.o];simp),(by repeat (first|with_reducible exact Kp.refl _ _|with_reducible assumption|with_reducible refine Kp.alloc ?_ _|with_reducible refine Kp.drew ?_|with_reducible refine Kp.drewN ?_ _|with_reducible refine Kp.setCell ?_ (fun h=>absurd h (by simp<;>omega)) _|with_reducible refine Kp.trans ?_ (by with_reducible assumption)|exact Kp.refl _ _|assumption|refine Kp.alloc ?_ _|refine Kp.drew ?_|refine Kp.drewN ?_ _|(refine Kp.setCell ?_ (fun h=>absurd h (by simp;done)) _)|(refine Kp.setCell ?_ (fun h=>absurd h (by simp;omega)) _)|refine Kp.trans ?_ (by assumption)))⟩
            · have XN:Zs (M.gH p low high x=M.eD p low.keeper high.keeper x):=Ys (by rw[GH.o,hq];rfl);have HQ:=Ys hq;clear hq;go_wp2_with fail;refine(CB _ _ _ _ _ _ _ ((Q3.o.1.ext jm.stays (hE.trans hB1.o)).ext jm.stays ((Kp.refl _ _).alloc _)) (Q3.o.2.ext jm.stays ((Kp.refl _ _).alloc _))).mono ?_;rintro e w2 ⟨rfl,hB2⟩;rw[HQ.o];have Mk:=Ys (((Kp.refl _ w1).alloc (.cells #[.string y.name,.slice a1' y.args.length c1',.int .i64 y.ret.kind,.string y.ret.name,.int .i64 y.locals,.int .i64 y.stack,.slice a2' y.code.length c2',.slice a3' y.maps.length c3'] 54):Ext w1 _).trans hB2);have n0:=Mk.o.aA m0;have n1:=Mk.o.aA m1;have n2:=Mk.o.aA m2;have n3:=Mk.o.aA m3;have n4:=Mk.o.aA m4;have n5:=Mk.o.aA m5;have n6:=Mk.o.aA m6;have n7:=Mk.o.aA m7;have u0:=Mk.o.aA o0;have u1:=Mk.o.aA o1;have IC:=Ys (bQ.ext aH.stays Mk.o HAM.o);have zA:=Ys (HLo.o.ext (Jd.trans Mk.o));clear m0 m1 m2 m3 m4 m5 m6 m7 q0 q1 q2 q3 q4 q5 q6 q7 o0 o1 t3;cases hm:M.eD p low.keeper high.keeper x
              all_goals
               have HAg:=Ys hm;clear hm;go_wp2_with fail;refine(qZ _ _ _ zA.o _ _ _ _ _ IC.o).mono ?_;rintro e w3 ⟨rfl,GM⟩;rw[HAg.o];go_wp2
              · go_ret;exact⟨ag (by rw[HL.o,mD HX.o (XN.o.trans HAg.o)];simp),(by repeat (first|with_reducible exact Kp.refl _ _|with_reducible assumption|with_reducible refine Kp.alloc ?_ _|with_reducible refine Kp.drew ?_|with_reducible refine Kp.drewN ?_ _|with_reducible refine Kp.setCell ?_ (fun h=>absurd h (by simp<;>omega)) _|with_reducible refine Kp.trans ?_ (by with_reducible assumption)|exact Kp.refl _ _|assumption|refine Kp.alloc ?_ _|refine Kp.drew ?_|refine Kp.drewN ?_ _|(refine Kp.setCell ?_ (fun h=>absurd h (by simp;done)) _)|(refine Kp.setCell ?_ (fun h=>absurd h (by simp;omega)) _)|refine Kp.trans ?_ (by assumption)))⟩
              · go_roundw
                case rel=>exact⟨k+1,by omega,by go_num,(by repeat (first|with_reducible exact Kp.refl _ _|with_reducible assumption|with_reducible refine Kp.alloc ?_ _|with_reducible refine Kp.drew ?_|with_reducible refine Kp.drewN ?_ _|with_reducible refine Kp.setCell ?_ (fun h=>absurd h (by simp<;>omega)) _|with_reducible refine Kp.trans ?_ (by with_reducible assumption)|exact Kp.refl _ _|assumption|refine Kp.alloc ?_ _|refine Kp.drew ?_|refine Kp.drewN ?_ _|(refine Kp.setCell ?_ (fun h=>absurd h (by simp;done)) _)|(refine Kp.setCell ?_ (fun h=>absurd h (by simp;omega)) _)|refine Kp.trans ?_ (by assumption))),Ys (all_succ HA.o HX.o (XN.o.trans HAg.o))⟩
                case measure=>simp[intOf];omega
          · have Zt:Zs (M.gH p low high x=false):=Ys (by rw[HT.o,HR.o];simp[xR]);have e1':(x.ret.kind==y.ret.kind)=true:=beq_iff_eq.2 e1;clear xR e1;go_wp2;go_ret;exact⟨ag (by rw[HL.o,mD HX.o Zt.o];simp),(by repeat (first|with_reducible exact Kp.refl _ _|with_reducible assumption|with_reducible refine Kp.alloc ?_ _|with_reducible refine Kp.drew ?_|with_reducible refine Kp.drewN ?_ _|with_reducible refine Kp.setCell ?_ (fun h=>absurd h (by simp<;>omega)) _|with_reducible refine Kp.trans ?_ (by with_reducible assumption)|exact Kp.refl _ _|assumption|refine Kp.alloc ?_ _|refine Kp.drew ?_|refine Kp.drewN ?_ _|(refine Kp.setCell ?_ (fun h=>absurd h (by simp;done)) _)|(refine Kp.setCell ?_ (fun h=>absurd h (by simp;omega)) _)|refine Kp.trans ?_ (by assumption)))⟩
          · have Zt:Zs (M.gH p low high x=false):=Ys (by rw[HT.o,HR.o];simp[qJ]);clear qJ;go_wp2;go_ret;exact⟨ag (by rw[HL.o,mD HX.o Zt.o];simp),(by repeat (first|with_reducible exact Kp.refl _ _|with_reducible assumption|with_reducible refine Kp.alloc ?_ _|with_reducible refine Kp.drew ?_|with_reducible refine Kp.drewN ?_ _|with_reducible refine Kp.setCell ?_ (fun h=>absurd h (by simp<;>omega)) _|with_reducible refine Kp.trans ?_ (by with_reducible assumption)|exact Kp.refl _ _|assumption|refine Kp.alloc ?_ _|refine Kp.drew ?_|refine Kp.drewN ?_ _|(refine Kp.setCell ?_ (fun h=>absurd h (by simp;done)) _)|(refine Kp.setCell ?_ (fun h=>absurd h (by simp;omega)) _)|refine Kp.trans ?_ (by assumption)))⟩
      · go_wp2;go_ret;exact⟨ag (by rw[HL.o,HF.o,kH HA.o (by omega)];rfl),(by repeat (first|with_reducible exact Kp.refl _ _|with_reducible assumption|with_reducible refine Kp.alloc ?_ _|with_reducible refine Kp.drew ?_|with_reducible refine Kp.drewN ?_ _|with_reducible refine Kp.setCell ?_ (fun h=>absurd h (by simp<;>omega)) _|with_reducible refine Kp.trans ?_ (by with_reducible assumption)|exact Kp.refl _ _|assumption|refine Kp.alloc ?_ _|refine Kp.drew ?_|refine Kp.drewN ?_ _|(refine Kp.setCell ?_ (fun h=>absurd h (by simp;done)) _)|(refine Kp.setCell ?_ (fun h=>absurd h (by simp;omega)) _)|refine Kp.trans ?_ (by assumption)))⟩
theorem SliceOf.drop{α:Type}{k:Nat}{R:fP α}{w:World}{I:Nat→Prop}{b off n cap:Nat}{xs:List α}(h:SliceOf k R w I (.slice (some ⟨b,off,none⟩) n cap) xs){i:Nat}(hi:i≤xs.length):
    SliceOf k R w I (.slice (some ⟨b,off+i*k,none⟩) (xs.length - i) (cap - i)) (xs.drop i):=by
 obtain⟨a',cap',e,h1,h2,h3⟩:=h;cases e;refine⟨some ⟨b,off+i*k,none⟩,cap - i,by rw[List.length_drop],by rw[List.length_drop];omega,by rw[List.length_drop];omega,fun j x hx=>?_⟩;rw[List.getElem?_drop]at hx;obtain⟨b',off',cs,ea,hI,hr,hl,hc⟩:=h3 _ x hx;cases ea;refine⟨b,_,cs,rfl,hI,hr,hl,?_⟩;rw[Nat.add_assoc,←Nat.add_mul];exact hc
theorem jS{α:Type}{xs:List α}{k:Nat}{x:α}(hx:xs[k]?=some x):xs.drop k=x::xs.drop (k+1):=by
 obtain⟨h,rfl⟩:=List.getElem?_eq_some_iff.1 hx;exact List.drop_eq_getElem_cons h
theorem uT (w : World) (l : aI) (p : M.au) (h : aF w l p) (I : Nat → Prop) (v : Value) (xs : List M.Ref) (hs : SliceOf 2 A7 w I v xs) (dX : ∀ r ∈ xs, ∃ c, M.cls? p r = some c) :
    Calls Tryz.prog 87 #[.pointer (some ⟨l.L,0,none⟩),v] w fun e w'=>
     e=.returned (.bool (M.iw p xs))∧Ext w w':=by
 have H:=Ys h;clear h;have HO:=Ys dX;clear dX;obtain⟨a,cap,rfl,hn,dn⟩:=hs.form;go_enter Tryz.func87,Tryz.ntmps87;go_wp2;go_loopw [11] (fun i wr=>∃k:Nat,k≤xs.length∧i=.int .i64 k∧Ext w wr∧Zs (M.iw p xs=M.iw p (xs.drop k))) (fun i _=>xs.length - (intOf i).toNat)
 case atStart=>exact⟨0,Nat.zero_le _,rfl,Kp.refl _ _,Ys rfl⟩
 case round =>
  obtain⟨k,hk,rfl,hE,HA⟩:=hrel;by_cases bZ:k<xs.length
  · obtain ⟨x, hx⟩ := get_some bZ; obtain ⟨b, off, cs, rfl, hI, rfl, -, hc⟩ := hs.get hx; obtain ⟨g0, g1⟩ := (hc.ext hE).two; have HX := Ys hx; have tY : (0 : Int) ≤ (k : Int) + 1 := by omega
    have qJ:(k:Int)+1≤xs.length:=by omega
    have rF:(xs.length:Int)≤cap:=by omega
    have HD:Zs (M.iw p xs=((xs.drop (k+1)).all (M.kW p x)&&M.iw p (xs.drop (k+1)))):=Ys (by
     rw[HA.o,jS hx];rfl)
    obtain⟨cx,uO⟩:=HO.o x (List.mem_of_getElem? hx);have Vx:=Ys uO;clear hx hc uO;by_cases hcp:cap=k+1
    · have hz:xs.length - (k+1)=0:=by omega
      have P6:Zs (xs.drop (k+1)=[]):=Ys (List.drop_eq_nil_of_le (by omega));go_wp2;go_loopw [21] (fun i wi=>i=.int .i64 0∧Ext wr wi) (fun i _=>0)
      case atStart=>exact⟨rfl,kx⟩
      case round=>
       obtain⟨rfl,U8⟩:=hrel;go_wp2;go_roundw
       case rel=>exact⟨k+1,by omega,by go_num,(by repeat (first|assumption|exact Kp.refl _ _|apply Kp.alloc|apply Kp.drew|apply Kp.drewN|refine Kp.trans ?_ (by assumption))),Ys (by rw[HD.o,P6.o];rfl)⟩
       case measure=>simp[intOf];omega
    · have sd := hs.drop (i := k + 1) (by omega); have hlen : (xs.drop (k + 1)).length = xs.length - (k + 1) := List.length_drop; have HY : Zs (∀ r ∈ xs.drop (k + 1), ∃ c, M.cls? p r = some c) := Ys (fun r hr => HO.o r (List.mem_of_mem_drop hr)); have Y6 : Zs (M.iw p xs = ((xs.drop (k + 1)).all (M.kW p x) && M.iw p (xs.drop (k + 1)))) := HD; obtain ⟨wo, rfl⟩ : ∃ wo : World, wo = wr := ⟨_, rfl⟩; go_wp2; have bx := aC.new wo 40 #[.int .i64 x.keeper, .string x.name]; have XZ : Ext w (wo.alloc (.cells #[.int .i64 x.keeper, .string x.name] 40)) := kx; have HLw := Ys (H.o.ext XZ); have j6 : (wo.alloc (.cells #[.int .i64 x.keeper, .string x.name] 40)).heap.size = wo.heap.size + 1 := by simp
      go_loopw [21] (fun i wi=>∃j:Nat,j≤xs.length - (k+1)∧i=.int .i64 j∧Ext (wo.alloc (.cells #[.int .i64 x.keeper,.string x.name] 40)) wi∧Zs (((xs.drop (k+1)).take j).all (M.kW p x)=true)) (fun i _=>xs.length - (k+1) - (intOf i).toNat)
      case atStart=>exact⟨0,Nat.zero_le _,rfl,Kp.refl _ _,Ys (by simp)⟩
      case round =>
       obtain⟨j,hj,rfl,U8,HB⟩:=hrel;by_cases hjt:j<xs.length - (k+1)
       · obtain⟨y,hy⟩:=get_some (l:=xs.drop (k+1)) (k:=j) (by rw[hlen];exact hjt);obtain⟨b',off',cs',he,Wl,rfl, -,zW⟩:=sd.get hy;obtain⟨rfl,rfl⟩:b'=b∧off'=off+(k+1)*2:=by simp only[Option.some.injEq,Addr.mk.injEq,and_true]at he;exact⟨he.1.symm,he.2.symm⟩
         obtain⟨q0,q1⟩:=(zW.ext (XZ.trans U8)).two;have bxi:=bx.ext U8;have x0:=bxi.c 0 (.int .i64 x.keeper) rfl;have x1:=bxi.c 1 (.string x.name) rfl;have zx:=bxi.lt;obtain⟨cy,Vk⟩:=HY.o y (List.mem_of_getElem? hy);have HCY:=Ys Vk;have HYy:=Ys hy;have HLi:=Ys ((HLw.o.ext U8).ext ((Kp.refl _ _).alloc (.cells #[.int .i64 y.keeper,.string y.name] 40)));clear zW he bxi Vk hy g0 g1;cases hp:M.kW p x y
         all_goals
          have HP:=Ys hp;clear hp;go_wp2_with fail;refine(Ff _ _ _ HLi.o x y _ _ Vx.o HCY.o).mono ?_;rintro e w1 ⟨rfl,hB⟩;rw[HP.o];go_wp2
         · go_ret;exact⟨ag (by rw[HD.o,mD HYy.o HP.o];rfl),(by repeat (first|assumption|exact Kp.refl _ _|apply Kp.alloc|apply Kp.drew|apply Kp.drewN|refine Kp.trans ?_ (by assumption)))⟩
         · go_roundw
           case rel=>exact⟨j+1,by omega,by go_num,(by repeat (first|assumption|exact Kp.refl _ _|apply Kp.alloc|apply Kp.drew|apply Kp.drewN|refine Kp.trans ?_ (by assumption))),Ys (all_succ HB.o HYy.o HP.o)⟩
           case measure=>simp[intOf];omega
       · have lD:=Ys (kH HB.o (by rw[hlen];omega));go_wp2;go_roundw
         case rel=>exact⟨k+1,by omega,by go_num,(by repeat (first|assumption|exact Kp.refl _ _|apply Kp.alloc|apply Kp.drew|apply Kp.drewN|refine Kp.trans ?_ (by assumption))),Ys (by rw[HD.o,lD.o];rfl)⟩
         case measure=>simp[intOf];omega
  · go_wp2;go_ret;exact⟨ag (by rw[HA.o,List.drop_eq_nil_of_le (by omega)];rfl),kx⟩
end Go.Proofs.YtcepdbbapgfcdaaGreat
