/- Walks. -/
import Derived.Test.YtlhlnddgfcmfkaaGreatRsCoreLi
import Derived.Deep.CutRange
set_option maxRecDepth 100000
set_option maxHeartbeats 4000000
set_option linter.all false
namespace Go.Proofs.YtlhlnddgfcmfkaaGreat
open Go Go.RowKit Tryz
attribute [local go_sem] Oper.semAt_some
def FE(r:M.Ref):List Value:=[.int .i64 r.keeper,.string r.name]
theorem I7{p:M.hZ}:∀(f:Nat) (b:List M.Ref) (r:M.Ref),(∀a,items p (b.length+a) r=b.map some)->b.length<=f->M.kv p f r=some b:=by
 intro f;induction f with
 |zero=>
  intro b r d j;have k:b=[]:=List.length_eq_zero_iff.1 Zm;subst k;have:=d 1;simp[items]at this
 | succ f l =>
  intro b r d j;cases b with
  |nil=>have:=d 1;simp[items]at this
  | cons h c =>
   have m:=d;have g:∀a,(if M.jl p r=M.none_ then []else if(M.resolve p r.keeper (M.jl p r)).2=1 then items p (c.length+a) (M.resolve p r.keeper (M.jl p r)).1 else [none])=c.map some∧h=r:=by
    intro a;have:=d a;rw[List.length_cons,show c.length+1+a=(c.length+a)+1 from by omega]at this;simp only[items,List.map_cons,List.cons.injEq,Option.some.injEq]at this;exact⟨this.2,this.1.symm⟩
   obtain rfl:=(g 0).2;unfold M.kv;by_cases e:M.jl p h=M.none_
   . rw[if_pos e];have:=(g 0).1;rw[if_pos e]at this;have:c=[]:=by
      cases c with
      |nil=>rfl
      |cons _ _=>simp at this
     rw[this]
   . rw[if_neg e];by_cases i:(M.resolve p h.keeper (M.jl p h)).2=1
     . rw[if_pos i,l c _ (fun a=>by have:=(g a).1;rw[if_neg e,if_pos i]at this;exact this) (by simpa using j)];rfl
     . have:=(g 0).1;rw[if_neg e,if_neg i]at this;cases c<;>simp at this
def Pp(pre:List (Option M.Ref)):Prop:=(∃refs:List M.Ref,pre=refs.map some++[none])∨(∃refs:List M.Ref,pre=refs.map some∧refs.length=7)
theorem EZ {p : M.hZ} : ∀ (f : Nat) (c : List M.Ref) (t : List (Option M.Ref)) (r : M.Ref) (n : Nat), items p n r = c.map some ++ t -> (t.head? = some none ∨ f < c.length) -> M.kv p f r = none := by
 intro f;induction f with
 |zero=>intro c t r n _ _;rfl
 | succ f i =>
  intro c t r n b a;cases n with
  |zero=>
   simp only[items]at b;cases c with
   | nil => rcases a with a | a
            . simp at b;rw[b]at a;simp at a
            . simp at a
   |cons _ _=>simp at b
  | succ n =>
   cases c with
   |nil=>
    simp only[items,List.map_nil,List.nil_append]at b;rcases a with a|a
    . rw[<-b]at a;simp at a
    . simp at a
   |cons k j=>
    simp only[items,List.map_cons,List.cons_append,List.cons.injEq,Option.some.injEq]at b;obtain⟨rfl,d⟩:=b;unfold M.kv;by_cases h:M.jl p r=M.none_
    . rw[if_pos h]at d;have e:=congrArg List.length d;rcases a with a|a
      . cases t with
        |nil=>simp at a
        |cons _ _=>simp at e
      . simp at e;simp at a;omega
    . rw[if_neg h]at d ⊢;by_cases g:(M.resolve p r.keeper (M.jl p r)).2=1
      . rw[if_pos g]at d ⊢;rw[i j t _ n d (a.imp id fun b=>by simpa using b)];rfl
      . rw[if_neg g]
theorem Jd{w:World}{base e k n:Nat}{v:Value}{xs:List Value}(c:w.ownsRow base e k v n xs){b:Nat}(a:v.ownBlock=some b):base<=b:=by
 rcases c.2 with⟨rfl,_⟩|⟨h,f,g,rfl,d,_⟩
 . cases a
 . cases a;exact d
theorem Je{w:World}{base e k n:Nat}{v:Value}{xs:List Value}(c:w.ownsRow base e k v n xs):∃a b,v=.slice a n b:=by
 rcases c.2 with⟨rfl,d⟩|⟨h,f,g,rfl,i,_⟩
 . exact⟨none,0,by rw[d]⟩
 . exact⟨_,_,rfl⟩
def LF(w W0:World)(B4 B5 B6:Nat)(pre:List (Option M.Ref))(W:World):Prop:=∃(refs:List M.Ref) (v:Value),pre=refs.map some∧refs.length<=6∧hV W B6 130 #[v]∧W.ownsRow (W0.heap.size+2) 63 2 v refs.length (refs.flatMap FE)∧hV W B4 130 #[.slice none 0 0]∧hV W B5 4 #[.bool false]∧Ext w W
def Pq(w:World)(B4 B5:Nat)(c:Code)(pre:List (Option M.Ref))(W:World):Prop:=c=.ret∧Pp pre∧hV W B4 130 #[.slice none 0 0]∧hV W B5 4 #[.bool false]∧Ext w W
def EJ(x:Option M.Ref):M.Ref:=x.getD M.vB
theorem IY(x:Option M.Ref):zR x=#[.agg #[.int .i64 (EJ x).keeper,.string (EJ x).name],.bool x.isSome]:=by cases x<;>rfl
theorem BK{w:World}{l:jh}{p:M.hZ}(F:jg w l p){r:M.Ref}(aT:∃ax,M.cls? p r=some ax):Calls prog 104 #[some l.L,.agg #[r.keeper,r.name]] w fun aI w'=>(∃e,aI=.returned (.tuple #[e,.bool (M.uo p r).isSome])∧SliceOf 2 xu w' (fun au=>w<=au) e ((M.uo p r).getD []))∧Ext w w':=by
 have bf:=F.lt;have aP:=Zy F;clear F;refine(callsIn_wide (n:=10)).1 ?_;refine callsIn_of_wp_marks func104 rfl trivial ?_ rfl;simp only[ntmps104,List.size_toArray,List.length_cons,List.length_nil,Nat.reduceAdd,Nat.reduceSub,Array.replicate_succ,Array.replicate_zero,List.push_toArray,List.append_toArray,List.nil_append,List.cons_append];gi_wp2_with fail;refine⟨trivial,?_⟩;refine(callsIn_wide.2 (Ha)).mono ?_;rintro aI w1 ⟨rfl,aU⟩;gi_wp2_with fail;have b3:=hV.new w 63 #[r.keeper,r.name];have K:=hV.new (w.alloc (.cells #[r.keeper,r.name] 63)) 130 #[()];have H:=hV.new ((w.alloc (.cells #[r.keeper,r.name] 63)).alloc (.cells #[()] 130)) 4 #[.bool false];have D:=hV.new (((w.alloc (.cells #[r.keeper,r.name] 63)).alloc (.cells #[()] 130)).alloc (.cells #[.bool false] 4)) 130 #[()];have B:=hV.new ((((w.alloc (.cells #[r.keeper,r.name] 63)).alloc (.cells #[()] 130)).alloc (.cells #[.bool false] 4)).alloc (.cells #[()] 130)) 58 #[some l.L];have E:=hV.new (((((w.alloc (.cells #[r.keeper,r.name] 63)).alloc (.cells #[()] 130)).alloc (.cells #[.bool false] 4)).alloc (.cells #[()] 130)).alloc (.cells #[some l.L] 58)) 63 #[r.keeper,r.name];replace K:=K.ext (((jr (.cells #[.bool false] 4)).alloc (.cells #[()] 130)).alloc (.cells #[some l.L] 58)|>.alloc (.cells #[r.keeper,r.name] 63));replace H:=H.ext ((jr (.cells #[()] 130)).alloc (.cells #[some l.L] 58)|>.alloc (.cells #[r.keeper,r.name] 63));replace D:=D.ext ((jr (.cells #[some l.L] 58))|>.alloc (.cells #[r.keeper,r.name] 63));replace B:=B.ext (jr (.cells #[r.keeper,r.name] 63));clear b3;have aJ:Ext w ((((((w.alloc (.cells #[r.keeper,r.name] 63)).alloc (.cells #[()] 130)).alloc (.cells #[.bool false] 4)).alloc (.cells #[()] 130)).alloc (.cells #[some l.L] 58)).alloc (.cells #[r.keeper,r.name] 63)):=kx;have ak:((((((w.alloc (.cells #[r.keeper,r.name] 63)).alloc (.cells #[()] 130)).alloc (.cells #[.bool false] 4)).alloc (.cells #[()] 130)).alloc (.cells #[some l.L] 58)).alloc (.cells #[r.keeper,r.name] 63)).heap.size=w+6:=by simp
 generalize ((((((w.alloc (.cells #[r.keeper,r.name] 63)).alloc (.cells #[()] 130)).alloc (.cells #[.bool false] 4)).alloc (.cells #[()] 130)).alloc (.cells #[some l.L] 58)).alloc (.cells #[r.keeper,r.name] 63))=W0 at*;simp only[World.size_alloc]at K H D B E;obtain⟨b,ay⟩:∃b,b=w.heap.size+1:=⟨_,rfl⟩;rw[<-ay]at K H D B E ⊢;obtain⟨c,az⟩:∃c,c=b+1:=⟨_,rfl⟩;rw[<-az]at H D B E ⊢;obtain⟨h,ae⟩:∃h,h=c+1:=⟨_,rfl⟩;rw[<-ae]at D B E ⊢;obtain⟨W,aA⟩:∃W,W=h+1:=⟨_,rfl⟩;rw[<-aA]at B E ⊢;obtain⟨J,aB⟩:∃J,J=W+1:=⟨_,rfl⟩;rw[<-aB]at E ⊢;clear aU;have y:=Zy (And.intro ay (And.intro az (And.intro ae (And.intro aA (And.intro aB ak)))));have bq:b≠h:=by omega
 have bn:b≠c:=by omega
 have bu:c≠h:=by omega
 have aQ:=Zy (aP.ext aJ);have g0:W0.heap.size=J+1:=by omega
 have k:=Zy g0;clear ay az ae aA aB ak g0;refine DW (gf:=178) (lb:=#[.pointer (some ⟨J,0,none⟩),.pointer (some ⟨W,0,none⟩)]) (α:=Option M.Ref) rfl (enters_of func178 Zo rfl) (encs:=zR)
  (fun j=>by cases j<;>rfl) (Bb:=fun a=>a=b∨a=c∨a=h∨W0+2<=a)
  (IJ l p r J W ?hBd ?hRL ?hR 6 aT) ?hIt ?hD1 ?hD2 ?hB1 ?hB2
  (LF w W0 b c h) (Pq w b c) ?hI ?hIx ?h0 ?hIB
  (fun ah j g a₁ W₁=>LF w W0 b c h ah g∧
   (W0:Nat)+1<(g:Nat)∧W₁=g.alloc (.cells #[.int .i64 (EJ j).keeper,.string (EJ j).name] 63)∧
   a₁={tmps:=#[some l.L,.agg #[r.keeper,r.name],undef,some w,.pointer (some ⟨b,0,none⟩),.pointer (some ⟨c,0,none⟩),.pointer (some ⟨h,0,none⟩),some g,.bool j.isSome,
    some l.L,.agg #[r.keeper,r.name],.func (.func 178) #[] #[.pointer (some ⟨J,0,none⟩),.pointer (some ⟨W,0,none⟩)],.agg #[.int .i64 (EJ j).keeper,.string (EJ j).name],.bool j.isSome,
    undef,undef,undef,undef,undef,undef,undef,undef,undef,undef,undef,undef],defers:=[]}) ?hassign ?hAx ?hbody ?hdone ?hstop
 case hBd=>
  obtain⟨q,s,t,u,v,i⟩:=y.o;have x:=k.o;intro a f;have bg:(a=b∨a=c∨a=h∨W0+2<=a)∨a=W0+1:=f;omega
 case hRL=>obtain⟨q,s,t,u,v,i⟩:=y.o;have x:=k.o;omega
 case hR=>obtain⟨q,s,t,u,v,i⟩:=y.o;have x:=k.o;omega
 case hIt=>exact fun g hW=>⟨aQ.ext hW,E.ext hW,B.ext hW⟩
 case hD1=>have:=k.o;show¬W0.heap.size=J;omega
 case hD2=>have:=k.o;show¬W0.heap.size+1=J;omega
 case hB1=>obtain⟨q,s,t,u,v,i⟩:=y.o;have x:=k.o;show¬(W0.heap.size=b∨W0.heap.size=c∨W0.heap.size=h∨(W0:Nat)+2<=(W0:Nat));omega
 case hB2=>obtain⟨q,s,t,u,v,i⟩:=y.o;have x:=k.o;show¬(W0.heap.size+1=b∨W0.heap.size+1=c∨W0.heap.size+1=h∨(W0:Nat)+2<=(W0:Nat)+1);omega
 case hI=>
  obtain⟨q,s,t,u,v,i⟩:=y.o;have x:=k.o;rintro aN aG aO ⟨d,e,T,O,P,Q,m,o,z⟩ f;exact⟨d,e,T,O,P.kp f Zm,iZ Q f (fun aa _ U=>by omega),m.kp f Zm,o.kp f Zm,z.own f (fun a f=>by omega)⟩
 case hIx=>
  obtain⟨q,s,t,u,v,i⟩:=y.o;have x:=k.o;rintro ax aN aG aO ⟨T,O,m,o,z⟩ f;exact⟨T,O,m.kp f Zm,o.kp f Zm,z.own f (fun a f=>by omega)⟩
 case h0=>exact⟨[],(),rfl,by simp,D,World.ownsRow_nil _ _ _ _,K,H,aJ⟩
 case hIB=>
  rintro aN aG ⟨d,e,rfl,O,_⟩;simpa using O
 case hassign=>
  intro ah j g aX _ hi aS R;rw[IY];gi_wp2
 case hAx=>
  rintro ah j g a₁ W₁ ⟨_,_,rfl,_⟩;exact((Kp.refl _ g).alloc _)
 case hbody=>
  rintro ah j g a₁ W₁ G ⟨⟨d,e,T,O,P,Q,m,o,z⟩,aS,rfl,rfl⟩ V aD;obtain⟨q,s,t,u,v,i⟩:=y.o;have x:=k.o;have c3:=(P.ext (jr _)).kp V Zm;have c5:=(m.ext (jr _)).kp V Zm;have c6:=(o.ext (jr _)).kp V Zm;have c4:=iZ (iZ Q ((Kp.refl (fun _=>False) g).alloc (.cells #[.int .i64 (EJ j).keeper,.string (EJ j).name] 63)) (fun _ _ _ F=>F)) V (fun aa _ U=>by omega);have c7:=(z.alloc _).own V (fun a f=>by omega);have cb:=(hV.new g 63 #[.int .i64 (EJ j).keeper,.string (EJ j).name]).kp V Zm;simp only[World.size_alloc]at aD;have C:=Zy (And.intro c3 (And.intro c4 (And.intro c5 (And.intro c6 (And.intro c7 cb)))));have k3:=c3.c 0 e rfl;have f3:=c3.frozen 0;have k5:=c5.c 0 () rfl;have f5:=c5.frozen 0;have k6:=c6.c 0 (.bool false) rfl;have f6:=c6.frozen 0;obtain⟨aR,aV,aW,-⟩:=cb.ca;have ae:h<G.heap.size:=c3.lt;have ak:=Zy aD;clear P Q m o z c3 c4 c5 c6 c7 cb V aD K H D B E q s t u v i x;have aC:∀(A e:Value),Kp (fun a=>a=b∨a=c∨a=h∨W0+2<=a) G ((G.setCell ⟨b,0,none⟩ A).setCell ⟨c,0,none⟩ e):=fun A e=>
   ((Kp.refl _ G).setCell (p:=⟨b,0,none⟩) (fun _=>.inl rfl) A).setCell (p:=⟨c,0,none⟩) (fun _=>.inr (.inl rfl)) e
  have aL:∀(A e:Value),hV ((G.setCell ⟨b,0,none⟩ A).setCell ⟨c,0,none⟩ e) b 130 #[A]∧hV ((G.setCell ⟨b,0,none⟩ A).setCell ⟨c,0,none⟩ e) c 4 #[e]∧Ext w ((G.setCell ⟨b,0,none⟩ A).setCell ⟨c,0,none⟩ e):=fun A e=>by
   obtain⟨q,s,t,u,v,i⟩:=y.o;have x:=k.o;refine⟨?_,?_,C.2.2.2.2.1.own (aC A e) (fun a f=>by omega)⟩
   . exact(C.2.2.1.jk 0 A).kp ((Kp.refl (·=c) _).setCell (p:=⟨c,0,none⟩) (fun _=>rfl) e) Zm
   . exact(C.2.2.2.1.kp ((Kp.refl (·=b) _).setCell (p:=⟨b,0,none⟩) (fun _=>rfl) A) Zm).jk 0 e
  have X:=Zy (And.intro aC aL);clear aC aL;cases j with
  |none=>
   gi_wp2;exact⟨X.1 _ _,rfl,.inl ⟨d,by rw[T]⟩,X.2 _ _⟩
  | some aF =>
   have hv:∃aH cp,e=.slice aH d.length cp:=by
    rcases C.o.2.1.2 with⟨rfl,h0⟩|⟨aa,aY,aZ,rfl,_⟩
    . exact⟨none,0,by rw[h0]⟩
    . exact⟨_,_,rfl⟩
   obtain⟨aH,cp,rfl⟩:=hv;by_cases i:d.length=6
   . have ai:((d.length:Int)==6)=true:=by simp[i]
     have H6:=Zy i;clear i;gi_wp2;exact⟨X.1 _ _,rfl,.inr ⟨d++[aF],by rw[T];simp,by simp[H6.o]⟩,X.2 _ _⟩
   . have ai:((d.length:Int)==6)=false:=beq_eq_false_iff_ne.2 Zm;have H6:=Zy i;gi_wp2_with (gi_at_builtin;refine yR Mg _ rfl _ _ rfl (W0+2) _ _ _ rfl (C.2.1.alloc _) G 1 (FE aF) rfl rfl ?c1 ?c2 ?c3 ?c4 ?_)
     case c1=>exact hH.DJ (hV.new ..) _ rfl
     case c2=>simp[FE,Value.oneCell']
     case c3=>omega
     case c4=>have:=ak.o;simp only[World.size_alloc];omega
     intro v' w' aM R g' c' hv U hl;subst hv;have Z:=((Kp.refl _ G).alloc _).trans (R.weak fun a _ f=>Jd C.2.1 f);obtain⟨q,s,t,u,v,ai⟩:=y.o;have x:=k.o;have L:=C.1.kp Z Zm;have Y:=C.2.2.1.kp Z Zm;have N:=C.2.2.2.1.kp Z Zm;have I:=C.2.2.2.2.1.own Z (fun a f=>by omega);obtain⟨qz,q3,-⟩:=L.ca;have qf:=L.frozen 0;have⟨HD,HG⟩:=je (And.intro L (And.intro Y (And.intro N (And.intro I (And.intro aM Z))))) (And.intro U hl);clear L Y N I q s t u v ai x aM R Z U hl k3 f3 k5 f5 k6 f6 aV aW ae aR i;gi_wp2;have ag:Kp (·=h) w' (w'.setCell ⟨h,0,none⟩ (g',d.length+1,c')):=(Kp.refl (·=h) w').setCell (p:=⟨h,0,none⟩) (fun _=>rfl) _;obtain⟨q,s,t,u,v,ai⟩:=y.o;have x:=k.o;obtain⟨L,Y,N,I,d8,d9⟩:=HD.o;refine⟨(d9.weak fun _ _ F=>.inr (.inr (.inr F))).trans (ag.weak fun _ _ F=>.inr (.inr (.inl F))),d++[aF],_,by rw[T];simp,by have:=H6.o;simp;omega,L.jk 0 _,?_,Y.kp ag Zm,N.kp ag Zm,I.own ag (fun a f=>by omega)⟩;have:=iZ d8 ag (fun aa _ U=>by omega);simpa using this
 case hdone=>
  rintro xs g hS ⟨d,e,rfl,O,P,Q,m,o,z⟩ R;have k3:=P.c 0 e rfl;obtain⟨z5,k5,-⟩:=m.ca;have f5:=m.frozen 0;obtain⟨z6,k6,-⟩:=o.ca;have f6:=o.frozen 0;have⟨HD,X⟩:=je (And.intro P (And.intro Q (And.intro m (And.intro o z)))) hS;have hv:=Je Q;clear P Q m o z hS K H D B E;obtain⟨av,cv,rfl⟩:=hv;simp only[Exit.inBlock,Exit.then];gi_wp2;obtain⟨q,s,t,u,v,i⟩:=y.o;have x:=k.o;obtain⟨L,Y,N,d6,I⟩:=HD.o;have aj:Kp (fun a=>a=b∨a=c) g ((g.setCell ⟨b,0,none⟩ (.slice av d.length cv)).setCell ⟨c,0,none⟩ (.bool true)):=
   ((Kp.refl (fun a=>a=b∨a=c) g).setCell (p:=⟨b,0,none⟩) (fun _=>.inl rfl) _).setCell (p:=⟨c,0,none⟩) (fun _=>.inr rfl) _
  have g5:=(N.jk 0 (.slice av d.length cv)).kp ((Kp.refl (·=c) _).setCell (p:=⟨c,0,none⟩) (fun _=>rfl) (.bool true)) Zm;have g6:=(d6.kp ((Kp.refl (·=b) g).setCell (p:=⟨b,0,none⟩) (fun _=>rfl) (.slice av d.length cv)) Zm).jk 0 (.bool true);have aK:=(aj.block W0 (by have:=I.size;have:=L.lt;exact(Array.getElem?_eq_some_iff.1 R).1) Zm).trans R;generalize (g.setCell ⟨b,0,none⟩ (.slice av d.length cv)).setCell ⟨c,0,none⟩ (.bool true)=W5 at aj g5 g6 aK ⊢;refine⟨by simp,.inl ⟨_,_,rfl,run_takeDeferred aK,?_⟩⟩;have S:=Kp.putObj W5 W0 (.deferred none);have m5:=(g5.kp S Zm).c 0 _ rfl;have m6:=(g6.kp S Zm).c 0 _ rfl;have af:M.uo p r=some d:=I7 6 d r (fun n=>by have:=X.o n;rwa[List.length_map]at this) O;refine⟨.tuple #[.slice av d.length cv,.bool true],?_,⟨_,by rw[af];rfl,?_⟩,?_⟩
  . simp[results,Tryz.f104,go_sem,m5,m6]
  . rw[af];refine SliceOf.lJ FE (iZ (iZ Y aj (fun aa _ U=>by omega)) S (fun aa _ U=>by omega)) rfl rfl (fun _ _=>rfl) (fun _ _=>rfl) (fun au F h'=>by show w.heap.size<=au;omega) (by show d.length<=_;omega)
  . exact(I.own aj (fun a f=>by omega)).own S (fun a f=>by omega)
 case hstop=>
  rintro ax ah g hS ⟨rfl,hb,m,o,z⟩ R;have HD:=Zy (And.intro m (And.intro o z));clear m o z K H D B E;gi_wp2;obtain⟨q,s,t,u,v,i⟩:=y.o;have x:=k.o;obtain⟨N,d6,I⟩:=HD.o;refine⟨by simp,.inl ⟨_,_,rfl,run_takeDeferred R,?_⟩⟩;have S:=Kp.putObj g W0 (.deferred none);have m5:=(N.kp S Zm).c 0 _ rfl;have m6:=(d6.kp S Zm).c 0 _ rfl;obtain⟨n,bz,hit⟩:=hS;have af:M.uo p r=none:=by
   rcases hb with⟨d,rfl⟩|⟨d,rfl,hl⟩
   . exact EZ 6 d _ r n (by rw[hit,List.append_assoc]) (.inl rfl)
   . exact EZ 6 d _ r n hit (.inr Zm)
  refine⟨.tuple #[(),.bool false],?_,⟨_,by rw[af];rfl,?_⟩,?_⟩
  . simp[results,Tryz.f104,go_sem,m5,m6]
  . rw[af];exact SliceOf.nil _ _ _ _
  . exact I.own S (fun a f=>by omega)
end Go.Proofs.YtlhlnddgfcmfkaaGreat
namespace Go.Proofs.YtlhlnddgfcmfkaaGreat
open Go Go.RowKit Tryz
theorem ng(w:World)(l:jh)(p:M.hZ)(y:jg w l p)(k:Int)(n:ByteArray):Calls prog 48 #[some l.L,k,n] w fun m H=>m=.returned (.tuple #[.agg #[.int .i64 (M.find p k n).1.keeper,.string (M.find p k n).1.name],.int .i64 (M.find p k n).2])∧Ext w H:=by
 have F:Ext w (w.alloc (.cells #[.int .i64 0, ""] 63)):=(jr _);have q:=Zy (y.ext F);clear y;have e:=hV.new w 63 #[.int .i64 0, ""];go_enter func48,ntmps48;go_wp2_with fail;refine(yZ q).mono ?_;rintro m D ⟨rfl,z⟩;have c:=e.ext z;obtain⟨G,i,j,-⟩:=c.ca;obtain⟨u,x,-⟩:=c.fz;by_cases a:(M.resolve p k n).2=1
 . obtain⟨h,o⟩:=mK a;have E:=Zy (q.ext z);have b:Zz (M.find p k n=if(M.uo p (M.resolve p k n).1).isSome then((M.resolve p k n).1,1)else(M.vB,4)):=Zy (by unfold M.find;rw[if_pos a]);rw[a];clear a;generalize (M.resolve p k n).1=r at*;have f:=hV.new D 63 #[r.keeper,r.name];go_wp2_with fail;refine(BK (E.ext (jr _)) ⟨h,o⟩).mono ?_;rintro m Q ⟨⟨v,rfl,C⟩,A⟩;have d:=(c.ext (jr (.cells #[r.keeper,r.name] 63))).ext A;have g:=f.ext A;obtain⟨P,s,t,-⟩:=d.ca;obtain⟨K,L,-⟩:=d.fz;obtain⟨-,I,J,-⟩:=g.ca;have O:¬(D:Nat)=w:=by omega
   cases B:(M.uo p r).isSome
   . rw[B]at b;clear i j u x C o e c f d g;go_wp2;refine bodyPost_ret (v:=.tuple #[.agg #[.int .i64 0, ""],.int .i64 4]) (by simp[results,results48,go_sem,s,t]) rfl ?_;exact⟨by rw[b.o];rfl,Zw⟩
   . rw[B]at b;clear i j u x C o e c f d g;go_wp2;refine bodyPost_ret (v:=.tuple #[.agg #[r.keeper,r.name],.int .i64 1]) (by simp[results,results48,go_sem,s,t]) rfl ?_;exact⟨by rw[b.o];rfl,Zw⟩
 . have b:Zz (M.find p k n=(M.vB,(M.resolve p k n).2)):=Zy (by unfold M.find;rw[if_neg a]);have N:=beq_eq_false_iff_ne.2 a;clear a;generalize (M.resolve p k n).2=h at*;go_wp2;refine bodyPost_ret (v:=.tuple #[.agg #[.int .i64 0, ""],h]) (by simp[results,results48,go_sem,i,j,G]) rfl ?_;exact⟨by rw[b.o];rfl,Zw⟩
theorem qV {w: World} {l: jh} {p: M.hZ} (a : jg w l p) (r : M.Ref) :Calls prog 50 #[some l.L,.agg #[r.keeper,r.name]] w fun m u=>(∃v,m=.returned v∧SliceOf 2 xu u (fun j=>w<=j) v (M.chain p r))∧Ext w u:=by
 have E:Ext w (w.alloc (.cells #[r.keeper,r.name] 63)):=(jr _);have o:=Zy (a.ext E);clear a;have k:=hV.new w 63 #[r.keeper,r.name];obtain⟨-,z,A,-⟩:=k.ca;go_enter func50,ntmps50;go_wp2_with fail;refine(ng _ _ _ o _ _).mono ?_;rintro m Q ⟨rfl,n⟩;have y:=k.ext n;obtain⟨P,I,J,-⟩:=y.ca;have x:=Zy (o.ext n);clear k z A;have c:Zz (M.chain p r=if(M.find p r.keeper r.name).2=1∧(M.find p r.keeper r.name).1=r then(M.uo p r).getD []else []):=Zy (by
  unfold M.chain M.nH;simp)
 have hF:Zz ((M.find p r.keeper r.name).2=1->(M.find p r.keeper r.name).1=r->∃f,M.cls? p r=some f):=Zy (by
  intro d h;unfold M.find at d h;by_cases b:(M.resolve p r.keeper r.name).2=1
  . rw[if_pos b]at d h;obtain⟨f,i⟩:=mK b;split at d
    . rename_i D;rw[if_pos D]at h;have C:(M.resolve p r.keeper r.name).1=r:=h;rw[C]at i;exact⟨f,i⟩
    . simp at d
  . rw[if_neg b]at d;exact absurd d b)
 generalize M.find p r.keeper r.name=F at*;obtain⟨⟨q,s⟩,B⟩:=F;simp only at*;by_cases b:B=1
 . subst b;by_cases g:q=r.keeper∧s=r.name
   . obtain⟨rfl,rfl⟩:=g;obtain⟨f,i⟩:=hF.o rfl rfl;have e:Zz (M.chain p r=(M.uo p r).getD []):=Zy (by rw[c.o,if_pos ⟨rfl,rfl⟩]);clear c hF;go_wp2_with fail;refine(BK (x.ext (jr _)) ⟨f,i⟩).mono ?_;rintro m R ⟨⟨v,rfl,H⟩,K⟩;go_wp2;refine bodyPost_ret (v:=v) (by simp[results,results50,go_sem]) rfl ?_;refine⟨⟨v,rfl,?_⟩,Zv⟩;rw[e.o];exact H.keep xu.stays (fun _ _ _ _ a=>a) (fun j G=>by have:=n.size;simp only[World.size_alloc]at G this;show w.heap.size<=j;omega)
   . have e:Zz (M.chain p r=[]):=Zy (by
      rw[c.o,if_neg];rintro⟨-,a⟩;exact g ⟨congrArg M.Ref.keeper a,congrArg M.Ref.name a⟩)
     by_cases t:q=r.keeper
     . subst t;have O:(s.toList==r.name.toList)=false:=by
        rw[nC];exact decide_eq_false (fun a=>g ⟨rfl,a⟩)
       clear c hF g;go_wp2;refine bodyPost_ret (v:=()) (by simp[results,results50,go_sem]) rfl ?_;refine⟨⟨_,rfl,?_⟩,Zv⟩;rw[e.o];exact SliceOf.nil _ _ _ _
     . have N:=beq_eq_false_iff_ne.2 t;clear c hF g;go_wp2;refine bodyPost_ret (v:=()) (by simp[results,results50,go_sem]) rfl ?_;refine⟨⟨_,rfl,?_⟩,Zv⟩;rw[e.o];exact SliceOf.nil _ _ _ _
 . have e:Zz (M.chain p r=[]):=Zy (by rw[c.o,if_neg (fun a=>b a.1)]);have L:=bne_iff_ne.2 b;clear c hF b;go_wp2;refine bodyPost_ret (v:=()) (by simp[results,results50,go_sem]) rfl ?_;refine⟨⟨_,rfl,?_⟩,Zv⟩;rw[e.o];exact SliceOf.nil _ _ _ _
theorem yN(a b:Int)(m n:ByteArray):(a=b∧m=n)∨(a=b∧(m.toList==n.toList)=false∧m≠n)∨((a==b)=false∧a≠b):=by
 by_cases c:a=b
 . by_cases d:m=n
   . exact .inl ⟨c,d⟩
   . exact .inr (.inl ⟨c,by rw[nC];exact decide_eq_false d,d⟩)
 . exact .inr (.inr ⟨beq_eq_false_iff_ne.2 c,c⟩)
theorem Ga{α:Type} [BEq α] [LawfulBEq α]{l:List α}{x:α}{k:Nat}(a:∀d∈l.take k,d≠x)(c:l.length<=k):l.contains x=false:=by
 rw[List.take_of_length_le c]at a;cases b:l.contains x
 . rfl
 . exact absurd rfl (a x (by simpa using b))
theorem uN{w:World}{l:jh}{p:M.hZ}(a:jg w l p)(r t:M.Ref):Calls prog 133 #[some l.L,.agg #[r.keeper,r.name],.agg #[t.keeper,t.name]] w fun s E=>s=.returned (.bool (M.under p r t))∧Ext w E:=by
 have k:Ext w ((w.alloc (.cells #[r.keeper,r.name] 63)).alloc (.cells #[t.keeper,t.name] 63)):=kx;have A:=Zy (a.ext k);clear a;have c:=hV.new (w.alloc (.cells #[r.keeper,r.name] 63)) 63 #[t.keeper,t.name];simp only[World.size_alloc]at c;go_enter func133,ntmps133;go_wp2_with fail;refine(qV A _).mono ?_;rintro s F ⟨⟨aa,rfl,m⟩,j⟩;replace c:=c.ext j;obtain⟨J,L,rfl,V,S⟩:=m.form;have v:Zz (M.under p r t=(M.chain p r).contains t):=Zy rfl;have Q:=k.trans j;clear k j;generalize M.chain p r=f at*;go_wp2;go_loopw [13] (fun o wr=>∃b:Nat,b<=f.length∧o=.int .i64 b∧Ext F wr∧Zz (∀e∈f.take b,e≠t)) (fun o _=>f.length - (intOf o).toNat)
 case atStart=>exact⟨0,Nat.zero_le _,rfl,Kp.rr,Zy Zl⟩
 case round =>
  obtain⟨b,T,rfl,u,g⟩:=hrel;have q:=c.ext u;obtain⟨X,Z,t1,-⟩:=q.ca;by_cases B:b<f.length
  . obtain⟨G,n⟩:=get_some B;obtain⟨K,Y,N,rfl,R,rfl,-,x⟩:=m.get n;obtain⟨O,P⟩:=(x.ext u).two;have i:=Zy n;clear n x m c q;obtain⟨H,I⟩:=G;obtain⟨C,D⟩:=t;simp only at*;rcases yN H C I D with⟨rfl,rfl⟩|⟨rfl,W,z⟩|⟨U,y⟩
    . go_wp2;go_ret;exact⟨hQ (by rw[v.o];simpa using List.mem_of_getElem? i.o),Zv⟩
    . have h:=Zy z;clear z;go_wp2;go_roundw
      case rel=>
       refine⟨b+1,by omega,by go_num,kx,Zy ?_⟩;intro e d;rw[List.take_add_one,i.o]at d;rcases List.mem_append.1 d with a|a
       . exact g e a
       . simp at a;subst a;intro a;exact h (congrArg M.Ref.name a)
      case measure=>simp[intOf];omega
    . have h:=Zy y;clear y;go_wp2;go_roundw
      case rel=>
       refine⟨b+1,by omega,by go_num,kx,Zy ?_⟩;intro e d;rw[List.take_add_one,i.o]at d;rcases List.mem_append.1 d with a|a
       . exact g e a
       . simp at a;subst a;intro a;exact h (congrArg M.Ref.keeper a)
      case measure=>simp[intOf];omega
  . go_wp2;go_ret;exact⟨hQ (by rw[v.o];exact(Ga g Zm).symm),Zv⟩
theorem uL{w:World}{l:jh}{p:M.hZ}(i:jg w l p)(a b:Int)(k:M.Kind):Calls prog 156 #[some l.L,a,b,.agg #[k.kind,k.name]] w fun h I=>h=.returned (.bool (M.agree p a b k))∧Ext w I:=by
 have F:Ext w (w.alloc (.cells #[k.kind,k.name] 137)):=kx;by_cases f:k.kind=1
 . have e:Zz (M.agree p a b k=true):=Zy (by unfold M.agree;rw[f];rfl);have u:=beq_iff_eq.2 f;clear f i;go_enter func156,ntmps156;go_wp2;go_ret;exact⟨hQ e.symm,kx⟩
 have j:=Zy (i.ext F);clear i;have m:=hV.new w 137 #[k.kind,k.name];have u:=beq_eq_false_iff_ne.2 f;have e:Zz (M.agree p a b k=(if(M.find p a k.name).2=1∧(M.find p b k.name).2=1 then decide ((M.find p a k.name).1=(M.find p b k.name).1)
  else decide ((M.find p a k.name).2≠1)&&decide ((M.find p b k.name).2≠1))):=Zy (by unfold M.agree;rw[u];rfl)
 clear f;go_enter func156,ntmps156;go_wp2_with fail;refine(ng _ _ _ j _ _).mono ?_;rintro h J ⟨rfl,t⟩;have n:=m.ext t;obtain⟨G,-,H,-⟩:=n.ca;have y:=Zy (j.ext t);generalize M.find p a k.name=F1 at*;obtain⟨⟨r,s⟩,A⟩:=F1;simp only at*;go_wp2_with fail;refine(ng _ _ _ (y.ext (jr _)) _ _).mono ?_;rintro h P ⟨rfl,E⟩;have o:=(hV.new J 63 #[r,s]).ext E;obtain⟨O,q0,q1,-⟩:=o.ca;generalize M.find p b k.name=F2 at*;obtain⟨⟨B,C⟩,q⟩:=F2;simp only at*;clear H n m o G;by_cases g:A=1
 . subst g;by_cases c:q=1
   . subst c;rcases yN r B s C with⟨rfl,rfl⟩|⟨rfl,N,x⟩|⟨L,v⟩
     . go_wp2;go_ret;exact⟨hQ (by rw[e.o];simp),Zv⟩
     . have d:=Zy x;clear x;go_wp2;go_ret;exact⟨hQ (by rw[e.o];simp[d.o]),Zv⟩
     . have d:=Zy v;clear v;go_wp2;go_ret;exact⟨hQ (by rw[e.o];simp[d.o]),Zv⟩
   . have D:=bne_iff_ne.2 c;have d:=Zy c;clear c;go_wp2;go_ret;exact⟨hQ (by rw[e.o];simp[d.o]),Zv⟩
 . have K:=bne_iff_ne.2 g;have d:=Zy g;clear g;by_cases c:q=1
   . subst c;go_wp2;go_ret;exact⟨hQ (by rw[e.o];simp[d.o]),Zv⟩
   . have D:=bne_iff_ne.2 c;have z:=Zy c;clear c;go_wp2;go_ret;exact⟨hQ (by rw[e.o];simp[d.o,z.o]),Zv⟩
theorem uM{w:World}{l:jh}{p:M.hZ}(t:jg w l p)(a b:Int){I:Nat->Prop}{cs:List Value}{m:M.Method}(F:jd w I m cs):Calls prog 147 #[some l.L,a,b,.agg cs.toArray] w fun h P=>h=.returned (.bool (M.kP p a b m))∧Ext w P:=by
 obtain⟨va,k,n,rfl,y,-,-⟩:=F;obtain⟨f,g,rfl,X,V⟩:=y.form;have u:Ext w (w.alloc (.cells #[m.name,.slice f m.args.length g,m.ret.kind,m.ret.name,m.locals,m.stack,k,n] 141)):=(jr _);have q:=Zy (t.ext u);clear t;have B:=Zy (hH.DJ (hV.new w 141 #[m.name,.slice f m.args.length g,m.ret.kind,m.ret.name,m.locals,m.stack,k,n]) _ rfl);go_enter func147,ntmps147;go_wp2;generalize (w.alloc (.cells #[m.name,.slice f m.args.length g,m.ret.kind,m.ret.name,m.locals,m.stack,k,n] 141))=w0 at*;go_loopw [14] (fun j wr=>∃c:Nat,c<=m.args.length∧j=.int .i64 c∧Ext w0 wr∧Zz ((m.args.take c).all (M.agree p a b)=true)) (fun j _=>m.args.length - (intOf j).toNat)
 case atStart=>exact⟨0,Nat.zero_le _,rfl,Kp.rr,Zy Zl⟩
 case round =>
  obtain⟨c,W,rfl,d,r⟩:=hrel;by_cases E:c<m.args.length
  . obtain⟨o,i⟩:=get_some E;obtain⟨R,Y,cs,rfl,U,rfl,-,v⟩:=y.get i;obtain⟨S,T⟩:=((v.ext u).ext d).two;have⟨s,z⟩:=je i (q.ext (d.alloc (.cells #[o.kind,o.name] 137)));clear i v;cases x:M.agree p a b o
    all_goals
     have e:=Zy x;clear x;go_wp2_with fail;refine(uL z _ _ _).mono ?_;rintro h Q ⟨rfl,D⟩;rw[e.o];go_wp2
    . go_ret;exact⟨hQ (by unfold M.kP;rw[rG s.o e.o];rfl),Zv⟩
    . go_roundw
      case rel=>exact⟨c+1,by omega,by go_num,Zv,Zy (all_succ r.o s.o e.o)⟩
      case measure=>simp[intOf];omega
  . have A:Zz (M.kP p a b m=M.agree p a b m.ret):=Zy (by unfold M.kP;rw[pU r.o Zm];rfl);have C:=Zy (B.ext d);obtain⟨Z,G,H,J,K,L,N,O⟩:=C.eight;simp only[Nat.zero_add]at G H J K L N O;go_wp2_with fail;refine(uL (q.ext d) _ _ m.ret).mono ?_;rintro h Q ⟨rfl,D⟩;go_wp2;go_ret;exact⟨hQ A.symm,Zv⟩
def LA(o:Option Nat):Int:=o.elim (-1) fun n=>n
theorem BC{α:Type}{f:α->Bool}{l:List α}{k:Nat}{x:α}(b:∀i∈l.take k,f i=false)(g:l[k]?=some x)(c:f x=true):l.findIdx? f=some k:=by
 obtain⟨e,h⟩:=List.getElem?_eq_some_iff.1 g;rw[List.findIdx?_eq_some_iff_getElem];refine⟨e,by rw[h];exact c,fun a d=>?_⟩;have:=b l[a] (by rw[List.mem_iff_getElem?];exact⟨a,by rw[List.getElem?_take,if_pos d];exact List.getElem?_eq_getElem _⟩);rw[this];decide
theorem zT{α:Type}{f:α->Bool}{l:List α}{k:Nat}(a:∀c∈l.take k,f c=false)(b:l.length<=k):l.findIdx? f=none:=by
 rw[List.take_of_length_le b]at a;rw[List.findIdx?_eq_none_iff];exact a
theorem Ap{α:Type}{f:α->Bool}{l:List α}{k:Nat}{x:α}(d:∀a∈l.take k,f a=false)(g:l[k]?=some x)(e:f x=false):∀a∈l.take (k+1),f a=false:=by
 intro a c;rw[List.take_add_one,g]at c;rcases List.mem_append.1 c with b|b
 . exact d a b
 . simp at b;subst b;exact e
theorem KN{w:World}{I:Nat->Prop}{cs:List Value}{m:M.Method}(d:jd w I m cs){b:Nat}{n:ByteArray}(c:w.cell? b=some (.string n)):Calls prog 154 #[.agg cs.toArray,some b] w fun a e=>a=.returned (.bool (decide (m.name=n)))∧Ext w e:=by
 obtain⟨g,h,i,rfl,-,-,-⟩:=d;have f:=iY c;go_enter func154,ntmps154;go_wp2;go_ret;exact⟨hQ (nC _ _),kx⟩
theorem Mi{w:World}{f:M.Field}{b:Nat}{n:ByteArray}(c:w.cell? b=some (.string n)):Calls prog 195 #[.agg #[f.name,f.kind.kind,f.kind.name],some b] w fun a d=>a=.returned (.bool (decide (f.name=n)))∧Ext w d:=by
 have e:=iY c;go_enter func195,ntmps195;go_wp2;go_ret;exact⟨hQ (nC _ _),kx⟩
theorem Ky{w:World}{I:Nat->Prop}{v:Value}{l:List M.Method}(c:SliceOf 8 jd w I v l){b:Nat}{n:ByteArray}(q:w.cell? b=some (.string n)):Calls prog 153 #[v,.func (.func 154) #[] #[some b]] w fun j u=>j=.returned (.int .i64 (LA (l.findIdx? fun t=>decide (t.name=n))))∧Ext w u:=by
 obtain⟨z,B,rfl,R,P⟩:=c.form;go_enter func153,ntmps153;go_wp2;go_loopw [8] (fun h wr=>∃a:Nat,a<=l.length∧h=.int .i64 a∧Ext w wr∧Zz (∀y∈l.take a,decide (M.Method.name y=n)=false)) (fun h _=>l.length - (intOf h).toNat)
 case atStart=>exact⟨0,Nat.zero_le _,rfl,Kp.rr,Zy Zl⟩
 case round =>
  obtain⟨a,Q,rfl,f,d⟩:=hrel;by_cases s:a<l.length
  . obtain⟨x,g⟩:=get_some s;obtain⟨A,S,C,rfl,O,m,-,k⟩:=c.get g;have p:=Zy (jd.stays _ _ _ _ _ _ f.same (fun _ c=>c) m);obtain⟨T,U,V,rfl,-,-,-⟩:=m;obtain⟨D,E,F,G,H,J,K,L⟩:=(k.ext f).eight;have r:=f.jb q;have i:=Zy g;clear g k;cases o:decide (x.name=n)
    all_goals
     have e:=Zy o;clear o;go_wp2_with (go_at_call 154;refine(KN p r).mono ?_;rintro j W ⟨rfl,N⟩;rw[e.o])
    . go_roundw
      case rel=>exact⟨a+1,by omega,by go_num,Zv,Zy (Ap d.o i.o e.o)⟩
      case measure=>simp[intOf];omega
    . go_ret;exact⟨by rw[BC d.o i.o e.o];rfl,Zv⟩
  . go_wp2;go_ret;exact⟨by rw[zT d.o Zm];rfl,kx⟩
theorem MH{w:World}{I:Nat->Prop}{v:Value}{l:List M.Field}(i:SliceOf 3 lh w I v l){b:Nat}{n:ByteArray}(o:w.cell? b=some (.string n)):Calls prog 194 #[v,.func (.func 195) #[] #[some b]] w fun h s=>h=.returned (.int .i64 (LA (l.findIdx? fun r=>decide (M.Field.name r=n))))∧Ext w s:=by
 obtain⟨x,z,rfl,J,G⟩:=i.form;go_enter func194,ntmps194;go_wp2;go_loopw [8] (fun f wr=>∃a:Nat,a<=l.length∧f=.int .i64 a∧Ext w wr∧Zz (∀u∈l.take a,decide (M.Field.name u=n)=false)) (fun f _=>l.length - (intOf f).toNat)
 case atStart=>exact⟨0,Nat.zero_le _,rfl,Kp.rr,Zy Zl⟩
 case round =>
  obtain⟨a,H,rfl,j,c⟩:=hrel;by_cases q:a<l.length
  . obtain⟨t,e⟩:=get_some q;obtain⟨y,K,A,rfl,F,rfl,-,k⟩:=i.get e;obtain⟨B,C,D⟩:=(k.ext j).three;have p:=j.jb o;have g:=Zy e;clear e k;cases m:decide (t.name=n)
    all_goals
     have d:=Zy m;clear m;go_wp2_with (go_at_call 195;refine(Mi p).mono ?_;rintro h L ⟨rfl,E⟩;rw[d.o])
    . go_roundw
      case rel=>exact⟨a+1,by omega,by go_num,Zv,Zy (Ap c.o g.o d.o)⟩
      case measure=>simp[intOf];omega
    . go_ret;exact⟨by rw[BC c.o g.o d.o];rfl,Zv⟩
  . go_wp2;go_ret;exact⟨by rw[zT c.o Zm];rfl,kx⟩
theorem yI{w:World}{I:Nat->Prop}{cs:List Value}(c:M.Class)(f:jv w I c cs)(n:ByteArray):Calls prog 108 #[.agg cs.toArray,n] w fun b i=>b=.returned (LA (M.og c n))∧Ext w i:=by
 obtain⟨d,e,rfl,k,h⟩:=f;have g:Ext w ((w.alloc (.cells #[c.name,c.jl,d,e] 95)).alloc (.cells #[n] 9)):=kx;have a:=(hV.new (w.alloc (.cells #[c.name,c.jl,d,e] 95)) 9 #[n]).c 0 n rfl;simp only[World.size_alloc]at a;go_enter func108,ntmps108;go_wp2_with fail;refine(Ky (h.ext jd.stays g) a).mono ?_;rintro b l ⟨rfl,j⟩;go_wp2;go_ret;exact⟨rfl,Zv⟩
theorem GV{w:World}{I:Nat->Prop}{cs:List Value}{c:M.Class}(f:jv w I c cs){n:ByteArray}:Calls prog 179 #[.agg cs.toArray,n] w fun b i=>b=.returned (LA (M.wu c n))∧Ext w i:=by
 obtain⟨d,e,rfl,h,k⟩:=f;have g:Ext w ((w.alloc (.cells #[c.name,c.jl,d,e] 95)).alloc (.cells #[n] 9)):=kx;have a:=(hV.new (w.alloc (.cells #[c.name,c.jl,d,e] 95)) 9 #[n]).c 0 n rfl;simp only[World.size_alloc]at a;go_enter func179,ntmps179;go_wp2_with fail;refine(MH (h.ext lh.stays g) a).mono ?_;rintro b l ⟨rfl,j⟩;go_wp2;go_ret;exact⟨rfl,Zv⟩
theorem IZ{α:Type}{a b:List α}(hl:a.length=b.length){k:Nat}(h:∀c f g,c<k->a[c]?=some f->b[c]?=some g->f=g)(j:a.length<=k):a=b:=by
 apply List.ext_getElem?;intro c;by_cases i:c<a.length
 . have d:=List.getElem?_eq_getElem i;have e:b[c]?=some b[c]:=List.getElem?_eq_getElem Zm;rw[d,e,h c _ _ Zm d e]
 . rw[List.getElem?_eq_none Zm,List.getElem?_eq_none Zm]
theorem BJ {w: World} {I J: Nat -> Prop} {v B: Value} {l m: List M.Kind} (a : SliceOf 2 l7 w I v l) (q : SliceOf 2 l7 w J B m) :Calls prog 180 #[v,B] w fun C G=>C=.returned (.bool (decide (l=m)))∧Ext w G:=by
 obtain⟨O,S,rfl,hn,aa⟩:=a.form;obtain⟨P,T,rfl,ag,ae⟩:=q.form;by_cases i:l.length=m.length
 . have p := Zy i; have E : (l.length : Int) = m.length := by omega
   clear i;go_enter func180,ntmps180;go_wp2;go_loopw [13] (fun n wr=>∃b:Nat,b<=l.length∧n=.int .i64 b∧Ext w wr∧Zz (∀c d e,c<b->l[c]?=some d->m[c]?=some e->d=e)) (fun n _=>l.length - (intOf n).toNat)
   case atStart=>exact⟨0,Nat.zero_le _,rfl,Kp.rr,Zy Zm⟩
   case round =>
    obtain⟨b,hk,rfl,t,o⟩:=hrel;by_cases z:b<l.length
    . have F:b<m.length:=by rw[<-p.o];exact z
      obtain⟨d,j⟩:=get_some z;obtain⟨e,k⟩:=get_some F;obtain⟨Q,ai,U,rfl,Y,rfl,-,u⟩:=a.get j;obtain⟨R,aj,V,rfl,Z,rfl,-,x⟩:=q.get k;obtain⟨W,X⟩:=(u.ext t).two;obtain⟨q0,q1⟩:=(x.ext t).two;have⟨g,h⟩:=je j k;clear j u k x;obtain⟨H,K⟩:=d;obtain⟨L,N⟩:=e;simp only at*;rcases yN H L K N with⟨rfl,rfl⟩|⟨rfl,ah,A⟩|⟨af,y⟩
      . go_wp2_with (first|(go_region_with (fail))|fail)
        all_goals
         go_roundw
         case rel=>
          refine⟨b+1,by omega,by go_num,kx,Zy (fun c d e hj r s=>?_)⟩;by_cases D:c=b
          . subst D;exact Option.some.inj ((r.symm.trans g).trans (h.symm.trans s))
          . exact o c d e Zm r s
         case measure=>simp[intOf];omega
      . have f:Zz (decide (l=m)=false):=Zy (decide_eq_false (fun a=>A (by
         subst a;exact congrArg M.Kind.name (Option.some.inj (g.symm.trans h)))))
        clear A;go_wp2_with (first|(go_region_with (fail))|fail)
        all_goals
         go_ret;exact⟨hQ f.symm,kx⟩
      . have f:Zz (decide (l=m)=false):=Zy (decide_eq_false (fun a=>y (by
         subst a;exact congrArg M.Kind.kind (Option.some.inj (g.symm.trans h)))))
        clear y;go_wp2_with (first|(go_region_with (fail))|fail)
        all_goals
         go_ret;exact⟨hQ f.symm,kx⟩
    . go_wp2;go_ret;exact⟨hQ (decide_eq_true (IZ p o Zm)).symm,kx⟩
 . have E:((l.length:Int)==m.length)=false:=beq_eq_false_iff_ne.2 Zm;go_enter func180,ntmps180;go_wp2;go_ret;exact⟨hQ (decide_eq_false (fun a=>i (congrArg List.length a))).symm,kx⟩
theorem hH.Rv{w:World}{b:Nat}{x y z c:Value}(h0:w.cell? b=some x)(d:w.cell? (b,1)=some y)(e:w.cell? (b,2)=some z)(f:w.cell? (b,3)=some c):hH w b 0 [x,y,z,c]:=by
 intro g h a;rw[Nat.zero_add];match g,a with
 |0,a=>cases a;exact h0
 |1,a=>cases a;exact d
 |2,a=>cases a;exact e
 |3,a=>cases a;exact f
theorem hH.Mr{w:World}{b:Nat}{x y z a:Value}(c:hH w b 0 [x,y,z,a]):w.cell? b=some x∧w.cell? (b,1)=some y∧w.cell? (b,2)=some z∧w.cell? (b,3)=some a:=c.four
theorem jL.ext{α:Type}{R:l6 α}(hR:jL R){w b:World}{I:Nat->Prop}{x:α}{cs:List Value}(c:Ext w b)(a:R w I x cs):R b I x cs:=hR _ _ _ _ _ _ (Ext.same c) (fun _ a=>a) a
theorem jL.kp{α:Type}{R:l6 α}(hR:jL R){D:Nat->Prop}{w c:World}{I:Nat->Prop}{x:α}{cs:List Value}(d:Kp D w c)(hI:∀b,I b->¬D b)(a:R w I x cs):R c I x cs:=hR _ _ _ _ _ _ (Kp.same d hI) (fun _ a=>a) a
theorem jd.args{w:World}{I:Nat->Prop}{x:M.Method}{a g b c d e j k:Value}(h:jd w I x [a,g,b,c,d,e,j,k]):SliceOf 2 l7 w I g x.args:=by
 obtain⟨l,m,n,f,i,-,-⟩:=h;simp only[List.cons.injEq,and_true,true_and]at f;obtain⟨-,rfl,-⟩:=f;exact i
theorem CY{α:Type}{f:α->Bool}{l:List α}{a:Option Nat}(b:l.findIdx? f=a):l.find? f=a.bind (l[·]?):=by
 subst b;induction l with
 |nil=>rfl
 |cons e d c=>
  rw[List.find?_cons,List.findIdx?_cons];cases g:f e
  . rw[c];cases d.findIdx? f<;>simp
  . simp
set_option maxHeartbeats 20000000 in theorem Dn {w: World} {l: jh} {p: M.hZ} (s : jg w l p) (e b : M.Ref) {c d: M.Class} (aH : M.cls? p e = some c) (aF : M.cls? p b = some d) :Calls prog 152 #[some l.L,.agg #[e.keeper,e.name],.agg #[b.keeper,b.name]] w fun o w'=>o=.returned (.bool (M.pE p e b))∧Ext w w':=by
 have ah:Ext w ((w.alloc (.cells #[e.keeper,e.name] 63)).alloc (.cells #[b.keeper,b.name] 63)):=Zx;have z:=Zy (s.ext ah);clear s;have W:=(hV.new w 63 #[e.keeper,e.name]).ext (jr (.cells #[b.keeper,b.name] 63));have I:=hV.new (w.alloc (.cells #[e.keeper,e.name] 63)) 63 #[b.keeper,b.name];simp only[World.size_alloc]at I;have F:=Zy (And.intro aH aF);clear aH aF;go_enter func152,ntmps152;go_upto_region 1 with(fail);generalize ((w.alloc (.cells #[e.keeper,e.name] 63)).alloc (.cells #[b.keeper,b.name] 63))=w0 at*;go_cut [7,8] (fun s7 s8 R=>∃b7 b8 vf vm uf um,s7=.pointer (some ⟨b7,0,none⟩)∧s8=.pointer (some ⟨b8,0,none⟩)∧hH R b7 0 [c.name,c.jl,vf,vm]∧
  hH R b8 0 [d.name,d.jl,uf,um]∧jv R (· <l.O) c [c.name,c.jl,vf,vm]∧jv R (· <l.O) d [d.name,d.jl,uf,um]∧Ext w0 R)
 case first=>
  obtain⟨-,p0,p1,-⟩:=W.ca;obtain⟨-,q0,q1,-⟩:=I.ca;clear W I;have hS:∀k,Ext w0 k->(Ext w0 k∧k.cell? w=some (.int .i64 e.keeper)∧k.cell? (w,1)=some (.string e.name)∧k.cell? ⟨w+1,0,none⟩=some (.int .i64 b.keeper)∧k.cell? ⟨w+1,1,none⟩=some (.string b.name)):=
   fun k J=>⟨J,J.jb p0,J.jb p1,J.jb q0,J.jb q1⟩
  have HS:=Zy hS;have bL:l.O<=w0:=by have:=z.lt;have:=z.ord;omega
  clear hS;go_region_held3 (fun k=>Ext w0 k∧k.cell? w=some (.int .i64 e.keeper)∧k.cell? (w,1)=some (.string e.name)∧k.cell? ⟨w+1,0,none⟩=some (.int .i64 b.keeper)∧k.cell? ⟨w+1,1,none⟩=some (.string b.name))
   ((refine HS _ ?_;repeat (first|with_reducible exact Kp.rr|with_reducible assumption|with_reducible refine Kp.alloc ?_ _|with_reducible refine Kp.drew ?_|with_reducible refine Kp.drewN ?_ _|with_reducible refine Kp.setCell ?_ (fun s=>absurd s Zs) _|with_reducible refine Kp.trans ?_ Zu)))
   (first|(go_at_call 51;first|(have bn:=i;clear bn;refine(sO l p (z.ext Zx) b.keeper b.name d F.2).mono ?_;rintro o y ⟨⟨bf,aD,rfl⟩,u⟩;obtain⟨bD,bF,bE,bG,rfl⟩:=aD.form;have cZ:=u.size;obtain⟨bN,bP⟩:=GM u;(have cK:(n:Nat)<=y:=by have:=u.size;(try simp at this);omega);(try have bZ:(w0:Nat)<y:=by have:=u.size;(try simp at this);omega);(try have cu:(w0:Nat)+1<(y:Nat):=by have:=u.size;(try simp at this);omega);(try have cz:(n:Nat)<y:=by have:=u.size;(try simp at this);omega);(try have cB:(n:Nat)+1<(y:Nat):=by have:=u.size;(try simp at this);omega))|(refine(sO l p (z.o.ext Zx) e.keeper e.name c F.o.1).mono ?_;rintro o n ⟨⟨cs,aC,rfl⟩,i⟩;obtain⟨y1,z1,y2,z2,rfl⟩:=aC.form;have cO:=i.size;obtain⟨bM,bO⟩:=GM i;(have bW:(w0:Nat)<=n:=by have:=i.size;(try simp at this);omega);(try have bX:(w0:Nat)<n:=by have:=i.size;(try simp at this);omega);(try have bY:(w0:Nat)+1<(n:Nat):=by have:=i.size;(try simp at this);omega))))
  all_goals (go_wp2_with fail)
  all_goals
   go_meet;refine⟨_,_,.slice y1 c.fields.length z1,.slice y2 c.methods.length z2,.slice bD d.fields.length bF,.slice bE d.methods.length bG,rfl,rfl,hH.Rv (by(try simp[go_sem, *])<;>refine World.cell?_setCell_same' _ _ _ (by simp[go_sem, *])) (by(try simp[go_sem, *])<;>refine World.cell?_setCell_same' _ _ _ (by simp[go_sem, *])) (by(try simp[go_sem, *])<;>refine World.cell?_setCell_same' _ _ _ (by simp[go_sem, *])) (by(try simp[go_sem, *])<;>refine World.cell?_setCell_same' _ _ _ (by simp[go_sem, *])),hH.Rv (by(try simp[go_sem, *])<;>refine World.cell?_setCell_same' _ _ _ (by simp[go_sem, *])) (by(try simp[go_sem, *])<;>refine World.cell?_setCell_same' _ _ _ (by simp[go_sem, *])) (by(try simp[go_sem, *])<;>refine World.cell?_setCell_same' _ _ _ (by simp[go_sem, *])) (by(try simp[go_sem, *])<;>refine World.cell?_setCell_same' _ _ _ (by simp[go_sem, *])),jL.kp (D:=fun g=>l.O<=g) jv.stays (by repeat (first|with_reducible exact Kp.rr|with_reducible refine Kp.alloc ?_ _|with_reducible refine Kp.drew ?_|with_reducible refine Kp.setCell ?_ (fun _=>by first|omega|(simp;done)|(simp;omega)) _|with_reducible refine Kp.trans ?_ (Kp.any Zu))) (fun _ s h'=>absurd s (Nat.not_lt_of_le h')) aC,jL.kp (D:=fun g=>l.O<=g) jv.stays (by repeat (first|with_reducible exact Kp.rr|with_reducible refine Kp.alloc ?_ _|with_reducible refine Kp.drew ?_|with_reducible refine Kp.setCell ?_ (fun _=>by first|omega|(simp;done)|(simp;omega)) _|with_reducible refine Kp.trans ?_ (Kp.any Zu))) (fun _ s h'=>absurd s (Nat.not_lt_of_le h')) aD,Zx⟩
 case rest =>
  obtain⟨b7,b8,vf,vm,uf,um,rfl,rfl,k7,k8,hc,hd,f⟩:=hcut;obtain⟨dx,dz,N,sf,sm⟩:=hc;simp only[List.cons.injEq,and_true,true_and]at N;obtain⟨rfl,rfl⟩:=N;obtain⟨fa,fc,rfl,bz,bQ⟩:=sf.form;obtain⟨ma,mc,rfl,bT,bS⟩:=sm.form;have⟨HD,HE⟩:=je hd f;have B:Zz (M.pE p e b=(c.fields.all (fun ag=>(M.wu d ag.name).isNone)&&c.methods.all (M.lX p e b))):=Zy (by
   unfold M.pE M.cls;rw[F.o.1,F.o.2];rfl)
  have ak:Zz (∀E,M.lX p e b E=match d.methods.find? (fun P=>P.name=E.name)with
   |none=>true
   |some P=>decide (E.ret=P.ret)&&decide (E.args=P.args)&&M.kP p e.keeper b.keeper E):=Zy (fun E=>by
   unfold M.lX M.cls;rw[F.o.2];rfl)
  have r7:=k7.Mr.2.2.1;have az:=ah.trans f;have j4:=W.ext f;have j5:=I.ext f;clear hd f W I ah;go_wp2;go_loopw [24] (fun x wr=>∃g:Nat,g<=c.fields.length∧x=.int .i64 g∧Ext wc wr∧Zz ((c.fields.take g).all (fun ag=>(M.wu d ag.name).isNone)=true)) (fun x _=>c.fields.length - (intOf x).toNat)
  case atStart=>exact⟨0,Nat.zero_le _,rfl,Kp.rr,Zy Zl⟩
  case round =>
   obtain⟨g,hk,rfl,f,t⟩:=hrel;have O:=k8.ext f;obtain⟨Q,s1,s2,s3⟩:=O.Mr;have aJ:=iY Q;by_cases ai:g<c.fields.length
   . obtain⟨a,v⟩:=get_some ai;obtain⟨aW,bB,cs,rfl,hI,rfl,-,L⟩:=sf.get v;obtain⟨g0,g1,g2⟩:=(L.ext f).three;have⟨r,A⟩:=je v (jL.ext jv.stays (f.alloc (.cells #[a.name,a.kind.kind,a.kind.name] 183)) HD);clear v L;cases j:M.wu d a.name
     . have q:Zz ((M.wu d a.name).isNone=true):=Zy (by rw[j];rfl);have H:=Zy j;clear j;go_wp2_with (go_at_call 179;refine(GV A).mono ?_;rintro o n ⟨rfl,i⟩;rw[H.o];simp only[LA,Option.elim]);go_roundw
       case rel=>exact⟨g+1,by omega,by go_num,Zx,Zy (all_succ t.o r.o q.o)⟩
       case measure=>simp[intOf];omega
     . rename_i af;have q:Zz ((M.wu d a.name).isNone=false):=Zy (by rw[j];rfl);have H:=Zy j;clear j;go_wp2_with (go_at_call 179;refine(GV A).mono ?_;rintro o n ⟨rfl,i⟩;rw[H.o];simp only[LA,Option.elim]);go_ret;exact⟨hQ (by rw[B.o,rG r.o q.o];rfl),Zx⟩
   . have HF := Zy (pU t (by omega : c.fields.length <= g)); have dm := (k7.ext f).Mr.2.2.2; clear Q s1 s2 s3 O aJ; have bJ := az.trans f; have aO := Zy (jL.ext jv.stays f HD); have bC := sm.ext jd.stays f; have aL := k8.ext f; have bA := j4.ext f; have aK := j5.ext f; have aQ := Zy (z.ext (HE.trans f)); clear t az HE z HD sm sf k8 k7 f bz j4 j5 r7; obtain ⟨wo, rfl⟩ : ∃ wo : World, wo = wr := ⟨_, rfl⟩; go_wp2; go_loopw [37] (fun x wr => ∃ g : Nat, g <= c.methods.length ∧ x = .int .i64 g ∧ Ext wo wr ∧ Zz ((c.methods.take g).all (M.lX p e b) = true)) (fun x _ => c.methods.length - (intOf x).toNat)
     case atStart=>exact⟨0,Nat.zero_le _,rfl,Kp.rr,Zy Zl⟩
     case round =>
      obtain⟨g,hk,rfl,f,t⟩:=hrel;by_cases ai:g<c.methods.length
      . obtain ⟨a, v⟩ := get_some ai; obtain ⟨aW, bB, cs, rfl, hI, aa,-, L⟩ := bC.get v; have ⟨r, aS⟩ := je v (jL.ext jd.stays f aa); obtain ⟨T, X, U, Y, V, Z, rfl⟩ := aa.form; have ha := aa.args; clear aa; obtain ⟨g0, g1, g2, g3, g4, g5, g6, g7⟩ := (L.ext f).eight; have O := aL.ext f; obtain ⟨Q, s1, s2, s3⟩ := O.Mr; have aJ := iY Q; have HW := Zy (f.alloc (.cells #[a.name, .slice T a.args.length X, a.ret.kind, a.ret.name, a.locals, a.stack, .slice U a.code.length Y, .slice V a.maps.length Z] 141)); have A := Zy (jL.ext jv.stays HW aO); clear v L O; cases j : M.og d a.name
        . have q:Zz (M.lX p e b a=true):=Zy (by rw[ak.o,CY j];rfl);have H:=Zy j;clear j;go_wp2_with (go_at_call 108;refine(yI _ A _).mono ?_;rintro o n ⟨rfl,i⟩;rw[H.o];simp only[LA,Option.elim]);go_roundw
          case rel=>exact⟨g+1,by omega,by go_num,Zx,Zy (all_succ t.o r.o q.o)⟩
          case measure=>simp[intOf];omega
        . rename_i af;go_wp2_with fail;refine(yI _ A _).mono ?_;rintro o n ⟨rfl,i⟩;rw[j];simp only[LA,Option.elim];have bu:af<d.methods.length:=by
           have:=List.findIdx?_eq_some_iff_getElem.1 j;exact this.1
          obtain⟨h,hy⟩:=get_some bu;have q:Zz (M.lX p e b a=(decide (a.ret=h.ret)&&decide (a.args=h.args)&&M.kP p e.keeper b.keeper a)):=Zy (by
           rw[ak.o,CY j];show(match d.methods[af]? with|none=>true|some P=>_)=_
           rw[hy])
          have bq:=jL.ext jv.stays i A;obtain⟨dn,dw,N,-,tm⟩:=bq;simp only[List.cons.injEq,and_true,true_and]at N;obtain⟨rfl,rfl⟩:=N;obtain⟨na,nc,rfl,bV,-⟩:=tm.form;obtain⟨b',di,bf,rfl,bK,aj,-,aB⟩:=tm.get hy;obtain⟨aT,aX,aU,aY,aV,aZ,rfl⟩:=aj.form;have aA:=aj.args;clear aj;obtain⟨q0,q1,q2,q3,q4,q5,q6,q7⟩:=aB.eight;have S:=Zy (And.intro (ha) aA);have K:=HW.trans i;have ax:=Zy (((Kp.refl _ wr).alloc (.cells #[a.name,.slice T a.args.length X,a.ret.kind,a.ret.name,a.locals,a.stack,.slice U a.code.length Y,.slice V a.maps.length Z] 141):Ext wr _).trans i);have aM:=aL.ext K;have t3:=aM.Mr.2.2.2;have df:=iY t3;have bm:=(hV.new wr 141 #[a.name,.slice T a.args.length X,a.ret.kind,a.ret.name,a.locals,a.stack,.slice U a.code.length Y,.slice V a.maps.length Z]).ext i;obtain⟨dh,m0,m1,m2,m3,m4,m5,m6,m7,-⟩:=bm.ca;clear hy aB tm ha aA Q s1 s2 s3 g0 g1 g2 g3 g4 g5 g6 g7 aM j bm;have aN:=Zy (jL.ext jd.stays ((Kp.refl _ wr).alloc (.cells #[a.name,.slice T a.args.length X,a.ret.kind,a.ret.name,a.locals,a.stack,.slice U a.code.length Y,.slice V a.maps.length Z] 141)) aS |> jL.ext jd.stays i);have o0:=((bA.ext K).c 0 e.keeper rfl);have o1:=((aK.ext K).c 0 b.keeper rfl);have oz:=(aK.ext K).lt;have HR:Zz (decide (a.ret=h.ret)=decide (a.ret.kind=h.ret.kind∧a.ret.name=h.ret.name)):=Zy (decide_eq_decide.2 M.Kind.nX);rcases yN a.ret.kind h.ret.kind a.ret.name h.ret.name with⟨C,e2⟩|⟨C,bU,aI⟩|⟨bR,aG⟩
          . have bg:=beq_iff_eq.2 C;have bH:(a.ret.name.toList==h.ret.name.toList)=true:=by rw[e2];simp
            have au:Zz (M.lX p e b a=(decide (a.args=h.args)&&M.kP p e.keeper b.keeper a)):=Zy (by rw[q.o,HR.o];simp[C,e2]);clear C e2;cases D:decide (a.args=h.args)
            . have G:Zz (M.lX p e b a=false):=Zy (by rw[au.o,D];rfl);have HQ:=Zy D;clear D;go_wp2_with fail;refine(BJ ((S.1.ext l7.stays (f.trans ax)).ext l7.stays (jr _)) (S.2.ext l7.stays (jr _))).mono ?_;rintro o y ⟨rfl,ay⟩;rw[HQ.o];go_wp2;go_ret;exact⟨hQ (by rw[B.o,rG r.o G.o];simp),Zx⟩
            . have av:Zz (M.lX p e b a=M.kP p e.keeper b.keeper a):=Zy (by rw[au.o,D];rfl);have HQ:=Zy D;clear D;go_wp2_with fail;refine(BJ ((S.1.ext l7.stays (f.trans ax)).ext l7.stays (jr _)) (S.2.ext l7.stays (jr _))).mono ?_;rintro o y ⟨rfl,ay⟩;rw[HQ.o];have m:=Zy (((Kp.refl _ n).alloc (.cells #[h.name,.slice aT h.args.length aX,h.ret.kind,h.ret.name,h.locals,h.stack,.slice aU h.code.length aY,.slice aV h.maps.length aZ] 141):Ext n _).trans ay);have n0:=m.jb m0;have n1:=m.jb m1;have n2:=m.jb m2;have n3:=m.jb m3;have n4:=m.jb m4;have n5:=m.jb m5;have n6:=m.jb m6;have n7:=m.jb m7;have u0:=m.jb o0;have u1:=m.jb o1;have⟨aR,aP⟩:=je (jL.ext jd.stays m aN) (aQ.ext (K.trans m));clear m0 m1 m2 m3 m4 m5 m6 m7 q0 q1 q2 q3 q4 q5 q6 q7 o0 o1 t3;cases hm:M.kP p e.keeper b.keeper a
              all_goals
               have ae:=Zy hm;clear hm;go_wp2_with fail;refine(uM aP _ _ aR).mono ?_;rintro o w3 ⟨rfl,bI⟩;rw[ae.o];go_wp2
              . go_ret;exact⟨hQ (by rw[B.o,rG r.o (av.o.trans ae.o)];simp),Zx⟩
              . go_roundw
                case rel=>exact⟨g+1,by omega,by go_num,Zx,Zy (all_succ t.o r.o (av.o.trans ae.o))⟩
                case measure=>simp[intOf];omega
          . have G:Zz (M.lX p e b a=false):=Zy (by rw[q.o,HR.o];simp[aI]);have bg:=beq_iff_eq.2 C;clear aI C;go_wp2;go_ret;exact⟨hQ (by rw[B.o,rG r.o G.o];simp),Zx⟩
          . have G:Zz (M.lX p e b a=false):=Zy (by rw[q.o,HR.o];simp[aG]);clear aG;go_wp2;go_ret;exact⟨hQ (by rw[B.o,rG r.o G.o];simp),Zx⟩
      . go_wp2;go_ret;exact⟨hQ (by rw[B.o,HF.o,pU t.o Zm];rfl),Zx⟩
theorem SliceOf.drop{α:Type}{k:Nat}{R:l6 α}{w:World}{I:Nat->Prop}{b c n a:Nat}{xs:List α}(h:SliceOf k R w I (.slice (some ⟨b,c,none⟩) n a) xs){i:Nat}(x:i<=xs.length):SliceOf k R w I (.slice (some ⟨b,c+i*k,none⟩) (xs.length - i) (a - i)) (xs.drop i):=by
 obtain⟨r,t,f,u,v,j⟩:=h;cases f;refine⟨some ⟨b,c+i*k,none⟩,a - i,by rw[List.length_drop],by rw[List.length_drop];omega,by rw[List.length_drop];omega,fun y q d=>?_⟩;rw[List.getElem?_drop]at d;obtain⟨s,z,e,g,l,p,o,m⟩:=j _ q d;cases g;refine⟨b,_,e,rfl,l,p,o,?_⟩;rw[Nat.add_assoc,<-Nat.add_mul];exact m
theorem oG{α:Type}{xs:List α}{k:Nat}{x:α}(b:xs[k]?=some x):xs.drop k=x::xs.drop (k+1):=by
 obtain⟨a,rfl⟩:=List.getElem?_eq_some_iff.1 b;exact List.drop_eq_getElem_cons a
theorem wW {w: World} {l: jh} {p: M.hZ} (B : jg w l p) {I: Nat -> Prop} {v: Value} {xs: List M.Ref} (q : SliceOf 2 xu w I v xs) (J : ∀ e ∈ xs, ∃ o, M.cls? p e = some o) :Calls prog 107 #[some l.L,v] w fun A w'=>A=.returned (.bool (M.mq p xs))∧Ext w w':=by
 have L:=Zy B;clear B;have u:=Zy J;clear J;obtain⟨ai,z,rfl,hn,au⟩:=q.form;go_enter func107,ntmps107;go_wp2;go_loopw [11] (fun i wr=>∃k:Nat,k<=xs.length∧i=.int .i64 k∧Ext w wr∧Zz (M.mq p xs=M.mq p (xs.drop k))) (fun i _=>xs.length - (intOf i).toNat)
 case atStart=>exact⟨0,Nat.zero_le _,rfl,Kp.rr,Zy rfl⟩
 case round =>
  obtain⟨k,hk,rfl,Y,s⟩:=hrel;by_cases aa:k<xs.length
  . obtain ⟨a, d⟩ := get_some aa; obtain ⟨T, af, cs, rfl, hI, rfl,-, D⟩ := q.get d; obtain ⟨W, X⟩ := (D.ext Y).two; have HX := Zy d; have ax : (0 : Int) <= (k : Int) + 1 := by omega
    have ay:(k:Int)+1<=xs.length:=by omega
    have az:(xs.length:Int)<=z:=by omega
    have g:Zz (M.mq p xs=((xs.drop (k+1)).all (M.pE p a)&&M.mq p (xs.drop (k+1)))):=Zy (by
     rw[s.o,oG d];rfl)
    obtain⟨cx,F⟩:=u.o a (List.mem_of_getElem? d);have O:=Zy F;clear d D F;by_cases av:z=k+1
    . have hz:xs.length - (k+1)=0:=by omega
      have ae:Zz (xs.drop (k+1)=[]):=Zy (List.drop_eq_nil_of_le Zm);go_wp2;go_loopw [21] (fun i r=>i=.int .i64 0∧Ext wr r) (fun i _=>0)
      case atStart=>exact⟨rfl,kx⟩
      case round=>
       obtain⟨rfl,h⟩:=hrel;go_wp2;go_roundw
       case rel=>exact⟨k+1,by omega,by go_num,Zv,Zy (by rw[g.o,ae.o];rfl)⟩
       case measure=>simp[intOf];omega
    . have sd := q.drop (i := k + 1) Zm; have H : (xs.drop (k + 1)).length = xs.length - (k + 1) := List.length_drop; have S : Zz (∀ e ∈ xs.drop (k + 1), ∃ o, M.cls? p e = some o) := Zy (fun e hr => u.o e (List.mem_of_mem_drop hr)); have ah : Zz (M.mq p xs = ((xs.drop (k + 1)).all (M.pE p a) && M.mq p (xs.drop (k + 1)))) := g; obtain ⟨c, rfl⟩ : ∃ c : World, c = wr := ⟨_, rfl⟩; go_wp2; have V := hV.new c 63 #[a.keeper, a.name]; have C : Ext w (c.alloc (.cells #[a.keeper, a.name] 63)) := kx; have R := Zy (L.ext C); have aA : (c.alloc (.cells #[a.keeper, a.name] 63)).heap.size = c + 1 := by simp
      go_loopw [21] (fun i r=>∃b:Nat,b<=xs.length - (k+1)∧i=.int .i64 b∧Ext (c.alloc (.cells #[a.keeper,a.name] 63)) r∧Zz (((xs.drop (k+1)).take b).all (M.pE p a)=true)) (fun i _=>xs.length - (k+1) - (intOf i).toNat)
      case atStart=>exact⟨0,Nat.zero_le _,rfl,Kp.rr,Zy Zl⟩
      case round =>
       obtain⟨b,hj,rfl,h,t⟩:=hrel;by_cases Z:b<xs.length - (k+1)
       . obtain⟨f,m⟩:=get_some (l:=xs.drop (k+1)) (k:=b) (by rw[H];exact Z);obtain⟨U,ag,aj,j,ak,rfl,-,E⟩:=sd.get m;obtain⟨rfl,rfl⟩:U=T∧ag=af+(k+1)*2:=by simp only[Option.some.injEq,Addr.mk.injEq,and_true]at j;exact⟨j.1.symm,j.2.symm⟩
         obtain⟨q0,q1⟩:=(E.ext (C.trans h)).two;have y:=V.ext h;obtain⟨zx,x0,x1,-⟩:=y.ca;obtain⟨cy,G⟩:=S.o f (List.mem_of_getElem? m);have⟨P,x,Q⟩:=jy G m ((R.ext h).ext (jr (.cells #[f.keeper,f.name] 63)));clear E j y G m W X;cases K:M.pE p a f
         all_goals
          have n:=Zy K;clear K;go_wp2_with fail;refine(Dn Q a f O P).mono ?_;rintro A w1 ⟨rfl,hB⟩;rw[n.o];go_wp2
         . go_ret;exact⟨hQ (by rw[g.o,rG x.o n.o];rfl),Zv⟩
         . go_roundw
           case rel=>exact⟨b+1,by omega,by go_num,Zv,Zy (all_succ t.o x.o n.o)⟩
           case measure=>simp[intOf];omega
       . have N:=Zy (pU t (by rw[H];omega));go_wp2;go_roundw
         case rel=>exact⟨k+1,by omega,by go_num,Zv,Zy (by rw[g.o,N.o];rfl)⟩
         case measure=>simp[intOf];omega
  . go_wp2;go_ret;exact⟨hQ (by rw[s.o,List.drop_eq_nil_of_le Zm];rfl),kx⟩
theorem Eu{p:M.hZ}:∀(f:Nat) (r:M.Ref) (c:List M.Ref),M.kv p f r=some c->(∃d,M.cls? p r=some d)->∀g∈c,∃d,M.cls? p g=some d:=by
 intro f;induction f with
 |zero=>intro r c a;simp[M.kv]at a
 |succ f j=>
  intro r c a h g b;unfold M.kv at a;split at a
  . cases a;simp at b;subst b;exact h
  . split at a
    . rename_i i;cases e:M.kv p f (M.resolve p r.keeper (M.jl p r)).1 with
      |none=>rw[e]at a;simp at a
      |some k=>
       rw[e]at a;simp at a;subst a;rcases List.mem_cons.1 b with rfl|b
       . exact h
       . exact j _ _ e (mK i) g b
    . cases a
theorem Dm{p:M.hZ}{r:M.Ref}(a:M.nH p r=true):∃c,M.cls? p r=some c:=by
 unfold M.nH M.find at a;by_cases b:(M.resolve p r.keeper r.name).2=1
 . rw[if_pos b]at a;split at a
   . simp at a;rw[<-a];exact mK b
   . simp at a
 . rw[if_neg b]at a;simp at a;exact absurd a.1 b
theorem mR{p:M.hZ}{r:M.Ref}:∀c∈M.chain p r,∃d,M.cls? p c=some d:=by
 intro c a;unfold M.chain at a;split at a
 . rename_i e;cases b:M.uo p r with
   |none=>rw[b]at a;simp at a
   |some f=>
    rw[b]at a;exact Eu 6 r f b (Dm e) c (by simpa using a)
 . simp at a
theorem jg.OW{w f:World}{l:jh}{p:M.hZ}(a:jg w l p)(c:Kp (·=l.D) w f)(n:∃b,kH f l.D b∧∀h i j,look b (h,i)=some j->j=if M.kg p ⟨h,i⟩then 1 else 2):jg f l p:=by
 obtain⟨s,t,u⟩:=a.ord;refine⟨a.ok,a.ord,?_,?_,?_,n⟩
 . obtain⟨k,m,g,o⟩:=a.blk;exact⟨k,m,g.kp c Zm,o.keep jc.stays (Kp.same c fun q g r=>by omega) fun _ a=>a⟩
 . obtain⟨b,d,e⟩:=a.own;exact⟨b,d.kp c Zm,e⟩
 . obtain⟨b,d,e⟩:=a.ask;exact⟨b,d.kp c Zm,e⟩
theorem mJ{w:World}{l:jh}{p:M.hZ}(h:jg w l p)(r:M.Ref):Calls prog 52 #[some l.L,.agg #[r.keeper,r.name]] w fun y Y=>y=.returned (.bool (M.kg p r))∧jg Y l p∧Kp (·=l.D) w Y:=by
 obtain⟨u,s,q⟩:=h.laid;have z:Ext w (w.alloc (.cells #[r.keeper,r.name] 63)).drew:=kx;have t:=wL (s.kp z fun a=>a) r.keeper r.name;obtain⟨au,av,f,c0,c1,c2,x⟩:=h.cells;have R:=x _ (Kp.refl _ w);have aB:=iY R;have⟨D,aa⟩:=je h (h.ext z);have O:=(hV.new w 63 #[r.keeper,r.name]);clear f c0 c1 c2 h;cases m:look u (r.keeper,r.name)with
 | some L =>
  have g:=q _ _ _ m;rw[m]at t;simp only[Option.getD_some]at t;have d:=Zy (And.intro s q);clear s q m x;cases I:M.kg p r
  all_goals
   have S:M.kg p ⟨r.keeper,r.name⟩=_:=I;rw[S]at g;have HC:=Zy I;clear I S;simp at g;subst g;go_enter func52,ntmps52;go_wp2;refine om 6 Zo Zo ?_;(simp only[List.take_succ_cons,List.take_zero,List.drop_succ_cons,List.drop_zero]);(repeat still_step);refine wpStill_nil ?_;go_wp2;go_ret;exact⟨rfl,D.ext kx |> fun h=>h,(kx:Ext w _).any⟩
 | none =>
  rw[m]at t;simp only[Option.getD_none]at t;have⟨d,E⟩:=je (And.intro s (And.intro q m)) x;clear s q m x;go_enter func52,ntmps52;go_wp2;refine om 6 Zo Zo ?_;(simp only[List.take_succ_cons,List.take_zero,List.drop_succ_cons,List.drop_zero]);(repeat still_step);refine wpStill_nil ?_;go_wp2_with fail;refine(qV aa _).mono ?_;rintro y w1 ⟨⟨L,rfl,f⟩,H⟩;obtain⟨a',ax,rfl,hn,ay⟩:=f.form;have e:=z.trans H;have Q:=E.o _ e;have⟨N,ae⟩:=je (D.ext e) (d.1.kp e fun a=>a);have P:=((O.ext (jf)).ext H);obtain⟨W,q0,q1,-⟩:=P.ca;have J:Zz (M.kg p r=(!(M.chain p r).isEmpty&&M.mq p (M.chain p r))):=Zy rfl;have T:Zz (∀a∈M.chain p r,∃af,M.cls? p a=some af):=Zy mR;have j:Zz (∀G v,Ext w G->kH v l.D (u++[((r.keeper,r.name),if M.kg p r then 1 else 2)])->Kp (·=l.D) G v->jg v l p):=Zy (fun G v hW ai ag=>(D.ext hW).OW ag ⟨_,ai,fun V X L g=>by
   by_cases A:((V,X):Key)=(r.keeper,r.name)
   . rw[A,uy d.o.2.2]at g;cases g;simp only[Prod.mk.injEq]at A;obtain⟨rfl,rfl⟩:=A;rfl
   . rw[sZ A]at g;exact d.2.1 V X L g⟩)
  clear H O P t R z;generalize M.chain p r=xs at*;cases xs with
  |nil=>
   have c:M.kg p r=false:=J.o;rw[c]at j;have n:=Zy c;clear c;clear f;go_wp2;refine om 5 Zo Zo ?_;(simp only[List.take_succ_cons,List.take_zero,List.drop_succ_cons,List.drop_zero]);(repeat still_step);refine wpStill_nil ?_;refine lN rfl rfl l.D u r.keeper r.name 2 rfl rfl rfl (ae.kp ((Kp.refl (fun _=>False) _).drew) fun a=>a) d.2.2 ?_;intro Z aj U aA;go_wp2;go_ret;exact⟨hQ n.symm,j _ _ ((e).drew) aj U,((e.drew).any:Kp (·=l.D) w _).trans U⟩
  |cons B C=>
   have ah:((B::C).length:Int)≠0:=by simp;omega
   have az:=beq_eq_false_iff_ne.2 ah;cases k:M.mq p (B::C)
   . have c:M.kg p r=false:=by rw[J.o,k];rfl
     rw[c]at j;have⟨n,F⟩:=je c k;clear c k;generalize (B::C)=xs at*;go_wp2_with fail;refine(wW N f T).mono ?_;rintro y Z ⟨rfl,b⟩;rw[F.o];have d2:=E.o _ (e.trans b);have p0:=b.jb q0;have p1:=b.jb q1;have i:=e.trans b;clear q0 q1 Q b W f;go_wp2;refine om 5 Zo Zo ?_;(simp only[List.take_succ_cons,List.take_zero,List.drop_succ_cons,List.drop_zero]);(repeat still_step);refine wpStill_nil ?_;refine lN rfl rfl l.D u r.keeper r.name 2 rfl rfl rfl ((d.1.kp i fun a=>a).kp ((Kp.refl (fun _=>False) _).drew) fun a=>a) d.2.2 ?_;intro w3 K o ak;go_wp2;go_ret;exact⟨hQ n.symm,j _ _ ((i).drew) K o,((i.drew).any:Kp (·=l.D) w _).trans o⟩
   . have c:M.kg p r=true:=by rw[J.o,k];rfl
     rw[c]at j;have⟨n,F⟩:=je c k;clear c k;generalize (B::C)=xs at*;go_wp2_with fail;refine(wW N f T).mono ?_;rintro y Z ⟨rfl,b⟩;rw[F.o];have d2:=E.o _ (e.trans b);have p0:=b.jb q0;have p1:=b.jb q1;have i:=e.trans b;clear q0 q1 Q b W f;go_wp2;refine om 5 Zo Zo ?_;(simp only[List.take_succ_cons,List.take_zero,List.drop_succ_cons,List.drop_zero]);(repeat still_step);refine wpStill_nil ?_;refine lN rfl rfl l.D u r.keeper r.name 1 rfl rfl rfl ((d.1.kp i fun a=>a).kp ((Kp.refl (fun _=>False) _).drew) fun a=>a) d.2.2 ?_;intro w3 K o ak;go_wp2;go_ret;exact⟨hQ n.symm,j _ _ ((i).drew) K o,((i.drew).any:Kp (·=l.D) w _).trans o⟩
end Go.Proofs.YtlhlnddgfcmfkaaGreat
