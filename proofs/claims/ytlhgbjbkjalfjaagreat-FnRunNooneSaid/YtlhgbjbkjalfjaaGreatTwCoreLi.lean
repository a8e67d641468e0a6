/- Walks. -/
import Derived.Test.YtlhgbjbkjalfjaaGreatTwCoreLh
set_option maxRecDepth 100000
set_option maxHeartbeats 4000000
set_option linter.all false
namespace Go.Proofs.YtlhgbjbkjalfjaaGreat
open Go Go.RowKit Tryz M
variable {xs: List Value}{e k n: Nat}{v: Value}{w: World}{p: iZ}
attribute [local go_sem] Oper.semAt_some
def Gm(r:Ref):List Value:=[.int .i64 r.keeper,.string r.name]
theorem JM:∀(f:Nat) (b:List Ref) (r:Ref),(∀a,items p (b.length+a) r=b.map some)->b.length<=f->ky p f r=some b:=by
 intro f;induction f with
 |zero=>
  intro b r d j;have k:b=[]:=UN.1 Zm;subst k;have:=d 1;simp[items]at this
 | succ f l =>
  intro b r d j;cases b with
  |nil=>have:=d 1;simp[items]at this
  | cons h c =>
   have m:=d;have g:∀a,(if jl p r=none_ then []else if(M.resolve p r.keeper (jl p r)).2=1 then items p (c.length+a) (M.resolve p r.keeper (jl p r)).1 else [none])=c.map some/\h=r:=by
    intro a;have:=d a;rw[TE,show c.length+1+a=(c.length+a)+1 from by omega]at this;simp only[items,UU,TH,TT]at this;exact⟨this.2,this.1.symm⟩
   obtain rfl:=(g 0).2;unfold ky;by_cases e:jl p h=none_
   . rw[Tv e];have:=(g 0).1;rw[Tv e]at this;have:c=[]:=by
      cases c with
      |nil=>rfl
      |cons _ _=>simp at this
     rw[this]
   . rw[Tt e];by_cases i:(M.resolve p h.keeper (jl p h)).2=1
     . rw[Tv i,l c _ (fun a=>by have:=(g a).1;rw[Tt e,Tv i]at this;exact this) (by simpa using j)];rfl
     . have:=(g 0).1;rw[Tt e,Tt i]at this;cases c<;>simp at this
def Qw(pre:List (Option Ref)):Prop:=(∃refs:List Ref,pre=refs.map some++[none])\/(∃refs:List Ref,pre=refs.map some/\refs.length=7)
theorem FQ : ∀ (f : Nat) (c : List Ref) (t : List (Option Ref)) (r : Ref) (n : Nat), items p n r = c.map some ++ t -> (t.head? = some none \/ f < c.length) -> ky p f r = none := by
 intro f;induction f with
 |zero=>intro c t r n _ _;rfl
 | succ f i =>
  intro c t r n b a;cases n with
  |zero=>
   simp only[items]at b;cases c with
   | nil => rcases a with a | a
            . simp at b;rw[b]at a;simp at a
            . simp at a
   |cons _ _=>simp at b
  | succ n =>
   cases c with
   |nil=>
    simp only[items,VR,TW]at b;rcases a with a|a
    . rw[<-b]at a;simp at a
    . simp at a
   |cons k j=>
    simp only[items,UU,TF,TH,TT]at b;obtain⟨rfl,d⟩:=b;unfold ky;by_cases h:jl p r=none_
    . rw[Tv h]at d;have e:=congrArg List.length d;rcases a with a|a
      . cases t with
        |nil=>simp at a
        |cons _ _=>simp at e
      . simp at e;simp at a;omega
    . rw[Tt h]at d |-;by_cases g:(M.resolve p r.keeper (jl p r)).2=1
      . rw[Tv g]at d |-;rw[i j t _ n d (a.imp id fun b=>by simpa using b)];rfl
      . rw[Tt g]
theorem JV{base: Nat}(c:w.ownsRow base e k v n xs){b:Nat}(a:v.ownBlock=some b):base<=b:=by
 rcases c.2 with⟨rfl,_⟩|⟨h,f,g,rfl,d,_⟩
 . cases a
 . cases a;exact d
theorem JW{base: Nat}(c:w.ownsRow base e k v n xs):∃a b,v=.slice a n b:=by
 rcases c.2 with⟨rfl,d⟩|⟨h,f,g,rfl,i,_⟩
 . exact⟨none,0,by rw[d]⟩
 . exact⟨_,_,rfl⟩
def ML(w W0:World)(B4 B5 B6:Nat)(pre:List (Option Ref))(W:World):Prop:=∃(refs:List Ref) (v:Value),pre=refs.map some/\refs.length<=6/\hZ W B6 121 #[v]/\W.ownsRow (W0.heap.size+2) 60 2 v refs.length (refs.flatMap Gm)/\hZ W B4 121 #[.slice none 0 0]/\hZ W B5 4 #[.bool false]/\Ext w W
def Qx(w:World)(B4 B5:Nat)(c:Code)(pre:List (Option Ref))(W:World):Prop:=c=.ret/\Qw pre/\hZ W B4 121 #[.slice none 0 0]/\hZ W B5 4 #[.bool false]/\Ext w W
def Fz(x:Option Ref):Ref:=x.getD vL
theorem JI(x:Option Ref):Ap x=#[.agg #[.int .i64 (Fz x).keeper,.string (Fz x).name],.bool x.isSome]:=by cases x<;>rfl
theorem Ck{l:jk}(F:ji w l p){r:Ref}(aT:∃ax,cls? p r=some ax):Calls prog 94 #[some l.L,.agg #[r.keeper,r.name]] w fun aI w'=>(∃e,aI=.returned (.tuple #[e,.bool (uC p r).isSome])/\SliceOf 2 xI w' (fun au=>w<=au) e ((uC p r).getD []))/\Ext w w':=by
 have bf:=F.lt;have aP:=Zy F;clear F;refine(Ur (n:=10)).1 ?_;refine callsIn_of_wp_marks func94 rfl trivial ?_ rfl;simp only[ntmps94,UY,TE,Uj,Nat.reduceAdd,Nat.reduceSub,Um,Ul,UX,Ug,TW,TF];gi_wp2_with fail;refine⟨trivial,?_⟩;refine(Ur.2 (Ig)).mono ?_;rintro aI w1 ⟨rfl,aU⟩;gi_wp2_with fail;have b3:=hZ.new w 60 #[r.keeper,r.name];have K:=hZ.new (w.alloc (.cells #[r.keeper,r.name] 60)) 121 #[()];have H:=hZ.new ((w.alloc (.cells #[r.keeper,r.name] 60)).alloc (.cells #[()] 121)) 4 #[.bool false];have D:=hZ.new (((w.alloc (.cells #[r.keeper,r.name] 60)).alloc (.cells #[()] 121)).alloc (.cells #[.bool false] 4)) 121 #[()];have B:=hZ.new ((((w.alloc (.cells #[r.keeper,r.name] 60)).alloc (.cells #[()] 121)).alloc (.cells #[.bool false] 4)).alloc (.cells #[()] 121)) 73 #[some l.L];have E:=hZ.new (((((w.alloc (.cells #[r.keeper,r.name] 60)).alloc (.cells #[()] 121)).alloc (.cells #[.bool false] 4)).alloc (.cells #[()] 121)).alloc (.cells #[some l.L] 73)) 60 #[r.keeper,r.name];replace K:=K.ext (((jw (.cells #[.bool false] 4)).alloc (.cells #[()] 121)).alloc (.cells #[some l.L] 73)|>.alloc (.cells #[r.keeper,r.name] 60));replace H:=H.ext ((jw (.cells #[()] 121)).alloc (.cells #[some l.L] 73)|>.alloc (.cells #[r.keeper,r.name] 60));replace D:=D.ext ((jw (.cells #[some l.L] 73))|>.alloc (.cells #[r.keeper,r.name] 60));replace B:=B.ext (jw (.cells #[r.keeper,r.name] 60));clear b3;have aJ:Ext w ((((((w.alloc (.cells #[r.keeper,r.name] 60)).alloc (.cells #[()] 121)).alloc (.cells #[.bool false] 4)).alloc (.cells #[()] 121)).alloc (.cells #[some l.L] 73)).alloc (.cells #[r.keeper,r.name] 60)):=kx;have ak:((((((w.alloc (.cells #[r.keeper,r.name] 60)).alloc (.cells #[()] 121)).alloc (.cells #[.bool false] 4)).alloc (.cells #[()] 121)).alloc (.cells #[some l.L] 73)).alloc (.cells #[r.keeper,r.name] 60)).heap.size=w+6:=by simp
 generalize ((((((w.alloc (.cells #[r.keeper,r.name] 60)).alloc (.cells #[()] 121)).alloc (.cells #[.bool false] 4)).alloc (.cells #[()] 121)).alloc (.cells #[some l.L] 73)).alloc (.cells #[r.keeper,r.name] 60))=W0 at*;simp only[Tp]at K H D B E;obtain⟨b,ay⟩:∃b,b=w.heap.size+1:=⟨_,rfl⟩;rw[<-ay]at K H D B E |-;obtain⟨c,az⟩:∃c,c=b+1:=⟨_,rfl⟩;rw[<-az]at H D B E |-;obtain⟨i,ae⟩:∃i,i=c+1:=⟨_,rfl⟩;rw[<-ae]at D B E |-;obtain⟨W,aA⟩:∃W,W=i+1:=⟨_,rfl⟩;rw[<-aA]at B E |-;obtain⟨J,aB⟩:∃J,J=W+1:=⟨_,rfl⟩;rw[<-aB]at E |-;clear aU;have y:=Zy (Tn ay (Tn az (Tn ae (Tn aA (Tn aB ak)))));have bq:b≠i:=Zm
 have bn:b≠c:=Zm
 have bu:c≠i:=Zm
 have aQ:=Zy (aP.ext aJ);have g0:W0.heap.size=J+1:=Zm
 have k:=Zy g0;clear ay az ae aA aB ak g0;refine En (gf:=192) (lb:=#[.pointer (some ⟨J,0,none⟩),.pointer (some ⟨W,0,none⟩)]) (α:=Option Ref) rfl (enters_of func192 Zo rfl) (encs:=Ap)
  (fun j=>by cases j<;>rfl) (Bb:=fun a=>a=b\/a=c\/a=i\/W0+2<=a)
  (Jz l p r J W ?hBd ?hRL ?hR 6 aT) ?hIt ?hD1 ?hD2 ?hB1 ?hB2
  (ML w W0 b c i) (Qx w b c) ?hI ?hIx ?h0 ?hIB
  (fun ah j g a₁ W₁=>ML w W0 b c i ah g/\
   (W0:Nat)+1<(g:Nat)/\W₁=g.alloc (.cells #[.int .i64 (Fz j).keeper,.string (Fz j).name] 60)/\
   a₁={tmps:=#[some l.L,.agg #[r.keeper,r.name],undef,some w,.pointer (some ⟨b,0,none⟩),.pointer (some ⟨c,0,none⟩),.pointer (some ⟨i,0,none⟩),some g,.bool j.isSome,
    some l.L,.agg #[r.keeper,r.name],.func (.func 192) #[] #[.pointer (some ⟨J,0,none⟩),.pointer (some ⟨W,0,none⟩)],.agg #[.int .i64 (Fz j).keeper,.string (Fz j).name],.bool j.isSome,
    undef,undef,undef,undef,undef,undef,undef,undef,undef,undef,undef,undef],defers:=[]}) ?hassign ?hAx ?hbody ?hdone ?hstop
 case hBd=>
  obtain⟨q,s,t,u,v,h⟩:=y.o;have x:=k.o;intro a f;have bg:(a=b\/a=c\/a=i\/W0+2<=a)\/a=W0+1:=f;omega
 case hRL=>obtain⟨q,s,t,u,v,h⟩:=y.o;have x:=k.o;omega
 case hR=>obtain⟨q,s,t,u,v,h⟩:=y.o;have x:=k.o;omega
 case hIt=>exact fun g hW=>⟨aQ.ext hW,E.ext hW,B.ext hW⟩
 case hD1=>have:=k.o;show¬W0.heap.size=J;omega
 case hD2=>have:=k.o;show¬W0.heap.size+1=J;omega
 case hB1=>obtain⟨q,s,t,u,v,h⟩:=y.o;have x:=k.o;show¬(W0.heap.size=b\/W0.heap.size=c\/W0.heap.size=i\/(W0:Nat)+2<=(W0:Nat));omega
 case hB2=>obtain⟨q,s,t,u,v,h⟩:=y.o;have x:=k.o;show¬(W0.heap.size+1=b\/W0.heap.size+1=c\/W0.heap.size+1=i\/(W0:Nat)+2<=(W0:Nat)+1);omega
 case hI=>
  obtain⟨q,s,t,u,v,h⟩:=y.o;have x:=k.o;rintro aN aG aO ⟨d,e,T,O,P,Q,m,o,z⟩ f;exact⟨d,e,T,O,P.kp f Zm,jb Q f (fun aa _ U=>Zm),m.kp f Zm,o.kp f Zm,z.own f (fun a f=>Zm)⟩
 case hIx=>
  obtain⟨q,s,t,u,v,h⟩:=y.o;have x:=k.o;rintro ax aN aG aO ⟨T,O,m,o,z⟩ f;exact⟨T,O,m.kp f Zm,o.kp f Zm,z.own f (fun a f=>Zm)⟩
 case h0=>exact⟨[],(),rfl,by simp,D,Tf _ _ _ _,K,H,aJ⟩
 case hIB=>
  rintro aN aG ⟨d,e,rfl,O,_⟩;simpa using O
 case hassign=>
  intro ah j g aX _ hi aS R;rw[JI];gi_wp2
 case hAx=>
  rintro ah j g a₁ W₁ ⟨_,_,rfl,_⟩;exact((Kp.refl _ g).alloc _)
 case hbody=>
  rintro ah j g a₁ W₁ G ⟨⟨d,e,T,O,P,Q,m,o,z⟩,aS,rfl,rfl⟩ V aD;obtain⟨q,s,t,u,v,h⟩:=y.o;have x:=k.o;have c3:=(P.ext (jw _)).kp V Zm;have c5:=(m.ext (jw _)).kp V Zm;have c6:=(o.ext (jw _)).kp V Zm;have c4:=jb (jb Q ((Kp.refl (fun _=>False) g).alloc (.cells #[.int .i64 (Fz j).keeper,.string (Fz j).name] 60)) (fun _ _ _ F=>F)) V (fun aa _ U=>Zm);have c7:=(z.alloc _).own V (fun a f=>Zm);have cb:=(hZ.new g 60 #[.int .i64 (Fz j).keeper,.string (Fz j).name]).kp V Zm;simp only[Tp]at aD;have C:=Zy (Tn c3 (Tn c4 (Tn c5 (Tn c6 (Tn c7 cb)))));have k3:=c3.c 0 e rfl;have f3:=c3.frozen 0;have k5:=c5.c 0 () rfl;have f5:=c5.frozen 0;have k6:=c6.c 0 (.bool false) rfl;have f6:=c6.frozen 0;obtain⟨aR,aV,aW,-⟩:=cb.ca;have ae:i<G.heap.size:=c3.lt;have ak:=Zy aD;clear P Q m o z c3 c4 c5 c6 c7 cb V aD K H D B E q s t u v h x;have aC:∀(A e:Value),Kp (fun a=>a=b\/a=c\/a=i\/W0+2<=a) G ((G.setCell ⟨b,0,none⟩ A).setCell ⟨c,0,none⟩ e):=fun A e=>
   ((Kp.refl _ G).setCell (p:=⟨b,0,none⟩) (fun _=>.inl rfl) A).setCell (p:=⟨c,0,none⟩) (fun _=>.inr (.inl rfl)) e
  have aL:∀(A e:Value),hZ ((G.setCell ⟨b,0,none⟩ A).setCell ⟨c,0,none⟩ e) b 121 #[A]/\hZ ((G.setCell ⟨b,0,none⟩ A).setCell ⟨c,0,none⟩ e) c 4 #[e]/\Ext w ((G.setCell ⟨b,0,none⟩ A).setCell ⟨c,0,none⟩ e):=fun A e=>by
   obtain⟨q,s,t,u,v,h⟩:=y.o;have x:=k.o;refine⟨?_,?_,C.2.2.2.2.1.own (aC A e) (fun a f=>Zm)⟩
   . exact(C.2.2.1.jy 0 A).kp ((Kp.refl (·=c) _).setCell (p:=⟨c,0,none⟩) (fun _=>rfl) e) Zm
   . exact(C.2.2.2.1.kp ((Kp.refl (·=b) _).setCell (p:=⟨b,0,none⟩) (fun _=>rfl) A) Zm).jy 0 e
  have X:=Zy (Tn aC aL);clear aC aL;cases j with
  |none=>
   gi_wp2;exact⟨X.1 _ _,rfl,.inl ⟨d,by rw[T]⟩,X.2 _ _⟩
  | some aF =>
   have hv:∃aH cp,e=.slice aH d.length cp:=by
    rcases C.o.2.1.2 with⟨rfl,h0⟩|⟨aa,aY,aZ,rfl,_⟩
    . exact⟨none,0,by rw[h0]⟩
    . exact⟨_,_,rfl⟩
   obtain⟨aH,cp,rfl⟩:=hv;by_cases h:d.length=6
   . have ai:((d.length:Int)==6)=true:=by simp[h]
     have H6:=Zy h;clear h;gi_wp2;exact⟨X.1 _ _,rfl,.inr ⟨d++[aF],by rw[T];simp,by simp[H6.o]⟩,X.2 _ _⟩
   . have ai:((d.length:Int)==6)=false:=SF.2 Zm;have H6:=Zy h;gi_wp2_with (gi_at_builtin;refine zm Nh _ rfl _ _ rfl (W0+2) _ _ _ rfl (C.2.1.alloc _) G 1 (Gm aF) rfl rfl ?c1 ?c2 ?c3 ?c4 ?_)
     case c1=>exact hH.Ef (hZ.new ..) _ rfl
     case c2=>simp[Gm,Value.oneCell']
     case c3=>omega
     case c4=>have:=ak.o;simp only[Tp];omega
     intro v' w' aM R g' c' hv U hl;subst hv;have Z:=((Kp.refl _ G).alloc _).trans (R.weak fun a _ f=>JV C.2.1 f);obtain⟨q,s,t,u,v,ai⟩:=y.o;have x:=k.o;have L:=C.1.kp Z Zm;have Y:=C.2.2.1.kp Z Zm;have N:=C.2.2.2.1.kp Z Zm;have I:=C.2.2.2.2.1.own Z (fun a f=>Zm);obtain⟨qz,q3,-⟩:=L.ca;have qf:=L.frozen 0;have⟨HD,HG⟩:=jf (Tn L (Tn Y (Tn N (Tn I (Tn aM Z))))) (Tn U hl);clear L Y N I q s t u v ai x aM R Z U hl k3 f3 k5 f5 k6 f6 aV aW ae aR h;gi_wp2;have ag:Kp (·=i) w' (w'.setCell ⟨i,0,none⟩ (g',d.length+1,c')):=nH;obtain⟨q,s,t,u,v,ai⟩:=y.o;have x:=k.o;obtain⟨L,Y,N,I,d8,d9⟩:=HD.o;refine⟨(d9.weak fun _ _ F=>.inr (.inr (.inr F))).trans (ag.weak fun _ _ F=>.inr (.inr (.inl F))),d++[aF],_,by rw[T];simp,by have:=H6.o;simp;omega,L.jy 0 _,?_,Y.kp ag Zm,N.kp ag Zm,I.own ag (fun a f=>Zm)⟩;have:=jb d8 ag (fun aa _ U=>Zm);simpa using this
 case hdone=>
  rintro xs g hS ⟨d,e,rfl,O,P,Q,m,o,z⟩ R;have k3:=P.c 0 e rfl;obtain⟨z5,k5,-⟩:=m.ca;have f5:=m.frozen 0;obtain⟨z6,k6,-⟩:=o.ca;have f6:=o.frozen 0;have⟨HD,X⟩:=jf (Tn P (Tn Q (Tn m (Tn o z)))) hS;have hv:=JW Q;clear P Q m o z hS K H D B E;obtain⟨av,cv,rfl⟩:=hv;simp only[Exit.inBlock,Exit.then];gi_wp2;obtain⟨q,s,t,u,v,h⟩:=y.o;have x:=k.o;obtain⟨L,Y,N,d6,I⟩:=HD.o;have aj:Kp (fun a=>a=b\/a=c) g ((g.setCell ⟨b,0,none⟩ (.slice av d.length cv)).setCell ⟨c,0,none⟩ (.bool true)):=
   ((Kp.refl (fun a=>a=b\/a=c) g).setCell (p:=⟨b,0,none⟩) (fun _=>.inl rfl) _).setCell (p:=⟨c,0,none⟩) (fun _=>.inr rfl) _
  have g5:=(N.jy 0 (.slice av d.length cv)).kp ((Kp.refl (·=c) _).setCell (p:=⟨c,0,none⟩) (fun _=>rfl) (.bool true)) Zm;have g6:=(d6.kp ((Kp.refl (·=b) g).setCell (p:=⟨b,0,none⟩) (fun _=>rfl) (.slice av d.length cv)) Zm).jy 0 (.bool true);have aK:=(aj.block W0 (by have:=I.size;have:=L.lt;exact(Tg.1 R).1) Zm).trans R;generalize (g.setCell ⟨b,0,none⟩ (.slice av d.length cv)).setCell ⟨c,0,none⟩ (.bool true)=W5 at aj g5 g6 aK |-;refine⟨by simp,.inl ⟨_,_,rfl,run_takeDeferred aK,?_⟩⟩;have S:=Kp.putObj W5 W0 (.deferred none);have m5:=(g5.kp S Zm).c 0 _ rfl;have m6:=(g6.kp S Zm).c 0 _ rfl;have af:uC p r=some d:=JM 6 d r (fun n=>by have:=X.o n;rwa[UH]at this) O;refine⟨.tuple #[.slice av d.length cv,.bool true],?_,⟨_,by rw[af];rfl,?_⟩,?_⟩
  . simp[results,Tryz.f94,go_sem,m5,m6]
  . rw[af];refine SliceOf.lS Gm (jb (jb Y aj (fun aa _ U=>Zm)) S (fun aa _ U=>Zm)) rfl rfl (fun _ _=>rfl) (fun _ _=>rfl) (fun au F h'=>by show w.heap.size<=au;omega) (by show d.length<=_;omega)
  . exact(I.own aj (fun a f=>Zm)).own S (fun a f=>Zm)
 case hstop=>
  rintro ax ah g hS ⟨rfl,hb,m,o,z⟩ R;have HD:=Zy (Tn m (Tn o z));clear m o z K H D B E;gi_wp2;obtain⟨q,s,t,u,v,h⟩:=y.o;have x:=k.o;obtain⟨N,d6,I⟩:=HD.o;refine⟨by simp,.inl ⟨_,_,rfl,run_takeDeferred R,?_⟩⟩;have S:=Kp.putObj g W0 (.deferred none);have m5:=(N.kp S Zm).c 0 _ rfl;have m6:=(d6.kp S Zm).c 0 _ rfl;obtain⟨n,bz,hit⟩:=hS;have af:uC p r=none:=by
   rcases hb with⟨d,rfl⟩|⟨d,rfl,hl⟩
   . exact FQ 6 d _ r n (by rw[hit,U1]) (.inl rfl)
   . exact FQ 6 d _ r n hit (.inr Zm)
  refine⟨.tuple #[(),.bool false],?_,⟨_,by rw[af];rfl,?_⟩,?_⟩
  . simp[results,Tryz.f94,go_sem,m5,m6]
  . rw[af];exact SliceOf.nil _ _ _ _
  . exact I.own S (fun a f=>Zm)
end Go.Proofs.YtlhgbjbkjalfjaaGreat
namespace Go.Proofs.YtlhgbjbkjalfjaaGreat
open Go Go.RowKit Tryz M
variable {A Z cs: List Value}{m x: M.Method}{b k: Nat}{I J: Nat->Prop}{α: Type}{v y z: Value}{W w: World}{p: iZ}{l: jk}
theorem mJ(w:World)(l:jk)(p:iZ)(y:ji w l p)(k:Int)(n:ByteArray):Calls prog 49 #[some l.L,k,n] w fun m H=>m=.returned (.tuple #[.agg #[.int .i64 (find p k n).1.keeper,.string (find p k n).1.name],.int .i64 (find p k n).2])/\Ext w H:=by
 have F:Ext w (w.alloc (.cells #[Tc, ""] 60)):=(jw _);have q:=Zy (y.ext F);clear y;have e:=hZ.new w 60 #[Tc, ""];go_enter func49,ntmps49;go_wp2_with fail;refine(zD q).mono ?_;rintro m D ⟨rfl,z⟩;have c:=e.ext z;obtain⟨G,i,j,-⟩:=c.ca;obtain⟨u,x,-⟩:=c.fz;by_cases a:(M.resolve p k n).2=1
 . obtain⟨h,o⟩:=l8 a;have E:=Zy (q.ext z);have b:Zz (find p k n=if(uC p (M.resolve p k n).1).isSome then((M.resolve p k n).1,1)else(vL,4)):=Zy (by unfold find;rw[Tv a]);rw[a];clear a;generalize (M.resolve p k n).1=r at*;have f:=hZ.new D 60 #[r.keeper,r.name];go_wp2_with fail;refine(Ck (E.ext (jw _)) ⟨h,o⟩).mono ?_;rintro m Q ⟨⟨v,rfl,C⟩,A⟩;have d:=(c.ext (jw (.cells #[r.keeper,r.name] 60))).ext A;have g:=f.ext A;obtain⟨P,s,t,-⟩:=d.ca;obtain⟨K,L,-⟩:=d.fz;obtain⟨-,I,J,-⟩:=g.ca;have O:¬(D:Nat)=w:=Zm
   cases B:(uC p r).isSome
   . rw[B]at b;clear i j u x C o e c f d g;go_wp2;refine Cv (v:=.tuple #[.agg #[Tc, ""],.int .i64 4]) (by simp[results,results49,go_sem,s,t]) rfl ?_;exact⟨by rw[b.o];rfl,Zw⟩
   . rw[B]at b;clear i j u x C o e c f d g;go_wp2;refine Cv (v:=.tuple #[.agg #[r.keeper,r.name],.int .i64 1]) (by simp[results,results49,go_sem,s,t]) rfl ?_;exact⟨by rw[b.o];rfl,Zw⟩
 . have b:Zz (find p k n=(vL,(M.resolve p k n).2)):=Zy (by unfold find;rw[Tt a]);have N:=SF.2 a;clear a;generalize (M.resolve p k n).2=h at*;go_wp2;refine Cv (v:=.tuple #[.agg #[Tc, ""],h]) (by simp[results,results49,go_sem,i,j,G]) rfl ?_;exact⟨by rw[b.o];rfl,Zw⟩
theorem q9 (a : ji w l p) (r : Ref) :Calls prog 51 #[some l.L,.agg #[r.keeper,r.name]] w fun m u=>(∃v,m=.returned v/\SliceOf 2 xI u (fun j=>w<=j) v (chain p r))/\Ext w u:=by
 have E:Ext w (w.alloc (.cells #[r.keeper,r.name] 60)):=(jw _);have o:=Zy (a.ext E);clear a;have k:=hZ.new w 60 #[r.keeper,r.name];obtain⟨-,z,A,-⟩:=k.ca;go_enter func51,ntmps51;go_wp2_with fail;refine(mJ _ _ _ o _ _).mono ?_;rintro m Q ⟨rfl,n⟩;have y:=k.ext n;obtain⟨P,I,J,-⟩:=y.ca;have x:=Zy (o.ext n);clear k z A;have c:Zz (chain p r=if(find p r.keeper r.name).2=1/\(find p r.keeper r.name).1=r then(uC p r).getD []else []):=Zy (by
  unfold chain nT;simp)
 have hF:Zz ((find p r.keeper r.name).2=1->(find p r.keeper r.name).1=r->∃f,cls? p r=some f):=Zy (by
  intro d h;unfold find at d h;by_cases b:(M.resolve p r.keeper r.name).2=1
  . rw[Tv b]at d h;obtain⟨f,i⟩:=l8 b;split at d
    . rename_i D;rw[Tv D]at h;have C:(M.resolve p r.keeper r.name).1=r:=h;rw[C]at i;exact⟨f,i⟩
    . simp at d
  . rw[Tt b]at d;exact absurd d b)
 generalize find p r.keeper r.name=F at*;obtain⟨⟨q,s⟩,B⟩:=F;simp only at*;by_cases b:B=1
 . subst b;by_cases g:q=r.keeper/\s=r.name
   . obtain⟨rfl,rfl⟩:=g;obtain⟨f,i⟩:=hF.o rfl rfl;have e:Zz (chain p r=(uC p r).getD []):=Zy (by rw[c.o,Tv ⟨rfl,rfl⟩]);clear c hF;go_wp2_with fail;refine(Ck (x.ext (jw _)) ⟨f,i⟩).mono ?_;rintro m R ⟨⟨v,rfl,H⟩,K⟩;go_wp2;refine Cv (v:=v) (by simp[results,results51,go_sem]) rfl ?_;refine⟨⟨v,rfl,?_⟩,Zv⟩;rw[e.o];exact H.keep xI.stays (fun _ _ _ _ a=>a) (fun j G=>by have:=n.size;simp only[Tp]at G this;show w.heap.size<=j;omega)
   . have e:Zz (chain p r=[]):=Zy (by
      rw[c.o,Tt];rintro⟨-,a⟩;exact g ⟨congrArg Ref.keeper a,congrArg Ref.name a⟩)
     by_cases t:q=r.keeper
     . subst t;have O:(s.toList==r.name.toList)=false:=by
        rw[kI];exact SL (fun a=>g ⟨rfl,a⟩)
       clear c hF g;go_wp2;refine Cv (v:=()) (by simp[results,results51,go_sem]) rfl ?_;refine⟨⟨_,rfl,?_⟩,Zv⟩;rw[e.o];exact SliceOf.nil _ _ _ _
     . have N:=SF.2 t;clear c hF g;go_wp2;refine Cv (v:=()) (by simp[results,results51,go_sem]) rfl ?_;refine⟨⟨_,rfl,?_⟩,Zv⟩;rw[e.o];exact SliceOf.nil _ _ _ _
 . have e:Zz (chain p r=[]):=Zy (by rw[c.o,Tt (fun a=>b a.1)]);have L:=TI.2 b;clear c hF b;go_wp2;refine Cv (v:=()) (by simp[results,results51,go_sem]) rfl ?_;refine⟨⟨_,rfl,?_⟩,Zv⟩;rw[e.o];exact SliceOf.nil _ _ _ _
theorem wT(a b:Int)(m n:ByteArray):(a=b/\m=n)\/(a=b/\(m.toList==n.toList)=false/\m≠n)\/((a==b)=false/\a≠b):=by
 by_cases c:a=b
 . by_cases d:m=n
   . exact .inl ⟨c,d⟩
   . exact .inr (.inl ⟨c,by rw[kI];exact SL d,d⟩)
 . exact .inr (.inr ⟨SF.2 c,c⟩)
theorem GQ [BEq α] [LawfulBEq α]{l:List α}{x:α}(a:∀d∈l.take k,d≠x)(c:l.length<=k):l.contains x=false:=by
 rw[TV c]at a;cases b:l.contains x
 . rfl
 . exact absurd rfl (a x (by simpa using b))
theorem uW(a:ji w l p)(r t:Ref):Calls prog 171 #[some l.L,.agg #[r.keeper,r.name],.agg #[t.keeper,t.name]] w fun s E=>s=.returned (.bool (under p r t))/\Ext w E:=by
 have k:Ext w ((w.alloc (.cells #[r.keeper,r.name] 60)).alloc (.cells #[t.keeper,t.name] 60)):=kx;have A:=Zy (a.ext k);clear a;have c:=hZ.new (w.alloc (.cells #[r.keeper,r.name] 60)) 60 #[t.keeper,t.name];simp only[Tp]at c;go_enter func171,ntmps171;go_wp2_with fail;refine(q9 A _).mono ?_;rintro s F ⟨⟨aa,rfl,m⟩,j⟩;replace c:=c.ext j;obtain⟨J,L,rfl,V,S⟩:=m.form;have v:Zz (under p r t=(chain p r).contains t):=Zy rfl;have Q:=k.trans j;clear k j;generalize chain p r=f at*;go_wp2;go_loopw [13] (fun o wr=>∃b:Nat,b<=f.length/\o=.int .i64 b/\Ext F wr/\Zz (∀e∈f.take b,e≠t)) (fun o _=>f.length - (intOf o).toNat)
 case atStart=>exact⟨0,SV _,rfl,Kp.rr,Zy Zl⟩
 case round =>
  obtain⟨b,T,rfl,u,g⟩:=hrel;have q:=c.ext u;obtain⟨X,Z,t1,-⟩:=q.ca;by_cases B:b<f.length
  . obtain⟨G,n⟩:=get_some B;obtain⟨K,Y,N,rfl,R,rfl,-,x⟩:=m.get n;obtain⟨O,P⟩:=(x.ext u).two;have i:=Zy n;clear n x m c q;obtain⟨H,I⟩:=G;obtain⟨C,D⟩:=t;simp only at*;rcases wT H C I D with⟨rfl,rfl⟩|⟨rfl,W,z⟩|⟨U,y⟩
    . go_wp2;go_ret;exact⟨hQ (by rw[v.o];simpa using RA i.o),Zv⟩
    . have h:=Zy z;clear z;go_wp2;go_roundw
      case rel=>
       refine⟨b+1,Zm,by go_num,kx,Zy ?_⟩;intro e d;rw[TQ,i.o]at d;rcases TZ.1 d with a|a
       . exact g e a
       . simp at a;subst a;intro a;exact h (congrArg Ref.name a)
      case measure=>simp[intOf];omega
    . have h:=Zy y;clear y;go_wp2;go_roundw
      case rel=>
       refine⟨b+1,Zm,by go_num,kx,Zy ?_⟩;intro e d;rw[TQ,i.o]at d;rcases TZ.1 d with a|a
       . exact g e a
       . simp at a;subst a;intro a;exact h (congrArg Ref.keeper a)
      case measure=>simp[intOf];omega
  . go_wp2;go_ret;exact⟨hQ (by rw[v.o];exact(GQ g Zm).symm),Zv⟩
theorem uU(i:ji w l p)(a b:Int)(k:Kind):Calls prog 127 #[some l.L,a,b,.agg #[k.kind,k.name]] w fun h I=>h=.returned (.bool (agree p a b k))/\Ext w I:=by
 have F:Ext w (w.alloc (.cells #[k.kind,k.name] 128)):=kx;by_cases f:k.kind=1
 . have e:Zz (agree p a b k=true):=Zy (by unfold agree;rw[f];rfl);have u:=Uq.2 f;clear f i;go_enter func127,ntmps127;go_wp2;go_ret;exact⟨hQ e.symm,kx⟩
 have j:=Zy (i.ext F);clear i;have m:=hZ.new w 128 #[k.kind,k.name];have u:=SF.2 f;have e:Zz (agree p a b k=(if(find p a k.name).2=1/\(find p b k.name).2=1 then decide ((find p a k.name).1=(find p b k.name).1)
  else decide ((find p a k.name).2≠1)&&decide ((find p b k.name).2≠1))):=Zy (by unfold agree;rw[u];rfl)
 clear f;go_enter func127,ntmps127;go_wp2_with fail;refine(mJ _ _ _ j _ _).mono ?_;rintro h J ⟨rfl,t⟩;have n:=m.ext t;obtain⟨G,-,H,-⟩:=n.ca;have y:=Zy (j.ext t);generalize find p a k.name=F1 at*;obtain⟨⟨r,s⟩,A⟩:=F1;simp only at*;go_wp2_with fail;refine(mJ _ _ _ (y.ext (jw _)) _ _).mono ?_;rintro h P ⟨rfl,E⟩;have o:=(hZ.new J 60 #[r,s]).ext E;obtain⟨O,q0,q1,-⟩:=o.ca;generalize find p b k.name=F2 at*;obtain⟨⟨B,C⟩,q⟩:=F2;simp only at*;clear H n m o G;by_cases g:A=1
 . subst g;by_cases c:q=1
   . subst c;rcases wT r B s C with⟨rfl,rfl⟩|⟨rfl,N,x⟩|⟨L,v⟩
     . go_wp2;go_ret;exact⟨hQ (by rw[e.o];simp),Zv⟩
     . have d:=Zy x;clear x;go_wp2;go_ret;exact⟨hQ (by rw[e.o];simp[d.o]),Zv⟩
     . have d:=Zy v;clear v;go_wp2;go_ret;exact⟨hQ (by rw[e.o];simp[d.o]),Zv⟩
   . have D:=TI.2 c;have d:=Zy c;clear c;go_wp2;go_ret;exact⟨hQ (by rw[e.o];simp[d.o]),Zv⟩
 . have K:=TI.2 g;have d:=Zy g;clear g;by_cases c:q=1
   . subst c;go_wp2;go_ret;exact⟨hQ (by rw[e.o];simp[d.o]),Zv⟩
   . have D:=TI.2 c;have z:=Zy c;clear c;go_wp2;go_ret;exact⟨hQ (by rw[e.o];simp[d.o,z.o]),Zv⟩
theorem uV(t:ji w l p)(a b:Int){I:Nat->Prop}{cs:List Value}{m:M.Method}(F:jd w I m cs):Calls prog 143 #[some l.L,a,b,.agg cs.toArray] w fun h P=>h=.returned (.bool (kT p a b m))/\Ext w P:=by
 obtain⟨va,k,n,rfl,y,-,-⟩:=F;obtain⟨f,g,rfl,X,V⟩:=y.form;have u:Ext w (w.alloc (.cells #[m.name,.slice f m.args.length g,m.ret.kind,m.ret.name,m.locals,m.stack,k,n] 132)):=(jw _);have q:=Zy (t.ext u);clear t;have B:=Zy (hH.Ef (hZ.new w 132 #[m.name,.slice f m.args.length g,m.ret.kind,m.ret.name,m.locals,m.stack,k,n]) _ rfl);go_enter func143,ntmps143;go_wp2;generalize (w.alloc (.cells #[m.name,.slice f m.args.length g,m.ret.kind,m.ret.name,m.locals,m.stack,k,n] 132))=w0 at*;go_loopw [14] (fun j wr=>∃c:Nat,c<=m.args.length/\j=.int .i64 c/\Ext w0 wr/\Zz ((m.args.take c).all (agree p a b)=true)) (fun j _=>m.args.length - (intOf j).toNat)
 case atStart=>exact⟨0,SV _,rfl,Kp.rr,Zy Zl⟩
 case round =>
  obtain⟨c,W,rfl,d,r⟩:=hrel;by_cases E:c<m.args.length
  . obtain⟨o,i⟩:=get_some E;obtain⟨R,Y,cs,rfl,U,rfl,-,v⟩:=y.get i;obtain⟨S,T⟩:=((v.ext u).ext d).two;have⟨s,z⟩:=jf i (q.ext (d.alloc (.cells #[o.kind,o.name] 128)));clear i v;cases x:agree p a b o
    all_goals
     have e:=Zy x;clear x;go_wp2_with fail;refine(uU z _ _ _).mono ?_;rintro h Q ⟨rfl,D⟩;rw[e.o];go_wp2
    . go_ret;exact⟨hQ (by unfold kT;rw[rM s.o e.o];rfl),Zv⟩
    . go_roundw
      case rel=>exact⟨c+1,Zm,by go_num,Zv,Zy (all_succ r.o s.o e.o)⟩
      case measure=>simp[intOf];omega
  . have A:Zz (kT p a b m=agree p a b m.ret):=Zy (by unfold kT;rw[qg r.o Zm];rfl);have C:=Zy (B.ext d);obtain⟨Z,G,H,J,K,L,N,O⟩:=C.eight;simp only[Tm]at G H J K L N O;go_wp2_with fail;refine(uU (q.ext d) _ _ m.ret).mono ?_;rintro h Q ⟨rfl,D⟩;go_wp2;go_ret;exact⟨hQ A.symm,Zv⟩
def Hh(o:Option Nat):Int:=o.elim (-1) fun n=>n
theorem uQ{f:α->Bool}{l:List α}{x:α}(b:∀i∈l.take k,f i=false)(g:l[k]?=some x)(c:f x=true):l.findIdx? f=some k:=by
 obtain⟨e,h⟩:=Tw.1 g;rw[Uy];refine⟨e,by rw[h];exact c,fun a d=>?_⟩;have:=b l[a] (by rw[UE];exact⟨a,by rw[Uu,Tv d];exact Ou _⟩);rw[this];decide
theorem tV{f:α->Bool}{l:List α}(a:∀c∈l.take k,f c=false)(b:l.length<=k):l.findIdx? f=none:=by
 rw[TV b]at a;rw[List.findIdx?_eq_none_iff];exact a
theorem tZ{f:α->Bool}{l:List α}{x:α}(d:∀a∈l.take k,f a=false)(g:l[k]?=some x)(e:f x=false):∀a∈l.take (k+1),f a=false:=by
 intro a c;rw[TQ,g]at c;rcases TZ.1 c with b|b
 . exact d a b
 . simp at b;subst b;exact e
theorem LU(d:jd w I m cs){b:Nat}{n:ByteArray}(c:w.cell? b=some (.string n)):Calls prog 153 #[.agg cs.toArray,some b] w fun a e=>a=.returned (.bool (decide (m.name=n)))/\Ext w e:=by
 obtain⟨g,h,i,rfl,-,-,-⟩:=d;have f:=jc c;go_enter func153,ntmps153;go_wp2;go_ret;exact⟨hQ (kI _ _),kx⟩
theorem Ni{f:M.Field}{n:ByteArray}(c:w.cell? b=some (.string n)):Calls prog 210 #[.agg #[f.name,f.kind.kind,f.kind.name],some b] w fun a d=>a=.returned (.bool (decide (f.name=n)))/\Ext w d:=by
 have e:=jc c;go_enter func210,ntmps210;go_wp2;go_ret;exact⟨hQ (kI _ _),kx⟩
theorem Lx{l:List M.Method}(c:SliceOf 8 jd w I v l){b:Nat}{n:ByteArray}(q:w.cell? b=some (.string n)):Calls prog 152 #[v,.func (.func 153) #[] #[some b]] w fun j u=>j=.returned (.int .i64 (Hh (l.findIdx? fun t=>decide (t.name=n))))/\Ext w u:=by
 obtain⟨z,B,rfl,R,P⟩:=c.form;go_enter func152,ntmps152;go_wp2;go_loopw [8] (fun h wr=>∃a:Nat,a<=l.length/\h=.int .i64 a/\Ext w wr/\Zz (∀y∈l.take a,decide (M.Method.name y=n)=false)) (fun h _=>l.length - (intOf h).toNat)
 case atStart=>exact⟨0,SV _,rfl,Kp.rr,Zy Zl⟩
 case round =>
  obtain⟨a,Q,rfl,f,d⟩:=hrel;by_cases s:a<l.length
  . obtain⟨x,g⟩:=get_some s;obtain⟨A,S,C,rfl,O,m,-,k⟩:=c.get g;have p:=Zy (jd.stays _ _ _ _ _ _ f.same (fun _ c=>c) m);obtain⟨T,U,V,rfl,-,-,-⟩:=m;obtain⟨D,E,F,G,H,J,K,L⟩:=(k.ext f).eight;have r:=f.je q;have i:=Zy g;clear g k;cases o:decide (x.name=n)
    all_goals
     have e:=Zy o;clear o;go_wp2_with (go_at_call 153;refine(LU p r).mono ?_;rintro j W ⟨rfl,N⟩;rw[e.o])
    . go_roundw
      case rel=>exact⟨a+1,Zm,by go_num,Zv,Zy (tZ d.o i.o e.o)⟩
      case measure=>simp[intOf];omega
    . go_ret;exact⟨by rw[uQ d.o i.o e.o];rfl,Zv⟩
  . go_wp2;go_ret;exact⟨by rw[tV d.o Zm];rfl,kx⟩
theorem NF{l:List M.Field}(i:SliceOf 3 lv w I v l){b:Nat}{n:ByteArray}(o:w.cell? b=some (.string n)):Calls prog 209 #[v,.func (.func 210) #[] #[some b]] w fun h s=>h=.returned (.int .i64 (Hh (l.findIdx? fun r=>decide (M.Field.name r=n))))/\Ext w s:=by
 obtain⟨x,z,rfl,J,G⟩:=i.form;go_enter func209,ntmps209;go_wp2;go_loopw [8] (fun f wr=>∃a:Nat,a<=l.length/\f=.int .i64 a/\Ext w wr/\Zz (∀u∈l.take a,decide (M.Field.name u=n)=false)) (fun f _=>l.length - (intOf f).toNat)
 case atStart=>exact⟨0,SV _,rfl,Kp.rr,Zy Zl⟩
 case round =>
  obtain⟨a,H,rfl,j,c⟩:=hrel;by_cases q:a<l.length
  . obtain⟨t,e⟩:=get_some q;obtain⟨y,K,A,rfl,F,rfl,-,k⟩:=i.get e;obtain⟨B,C,D⟩:=(k.ext j).three;have p:=j.je o;have g:=Zy e;clear e k;cases m:decide (t.name=n)
    all_goals
     have d:=Zy m;clear m;go_wp2_with (go_at_call 210;refine(Ni p).mono ?_;rintro h L ⟨rfl,E⟩;rw[d.o])
    . go_roundw
      case rel=>exact⟨a+1,Zm,by go_num,Zv,Zy (tZ c.o g.o d.o)⟩
      case measure=>simp[intOf];omega
    . go_ret;exact⟨by rw[uQ c.o g.o d.o];rfl,Zv⟩
  . go_wp2;go_ret;exact⟨by rw[tV c.o Zm];rfl,kx⟩
theorem yV(c:Class)(f:jh w I c cs)(n:ByteArray):Calls prog 97 #[.agg cs.toArray,n] w fun b i=>b=.returned (Hh (oC c n))/\Ext w i:=by
 obtain⟨d,e,rfl,k,h⟩:=f;have g:Ext w ((w.alloc (.cells #[c.name,c.jl,d,e] 47)).alloc (.cells #[n] 9)):=kx;have a:=(hZ.new (w.alloc (.cells #[c.name,c.jl,d,e] 47)) 9 #[n]).c 0 n rfl;simp only[Tp]at a;go_enter func97,ntmps97;go_wp2_with fail;refine(Lx (h.ext jd.stays g) a).mono ?_;rintro b l ⟨rfl,j⟩;go_wp2;go_ret;exact⟨rfl,Zv⟩
theorem Hz{c:Class}(f:jh w I c cs){n:ByteArray}:Calls prog 193 #[.agg cs.toArray,n] w fun b i=>b=.returned (Hh (wI c n))/\Ext w i:=by
 obtain⟨d,e,rfl,h,k⟩:=f;have g:Ext w ((w.alloc (.cells #[c.name,c.jl,d,e] 47)).alloc (.cells #[n] 9)):=kx;have a:=(hZ.new (w.alloc (.cells #[c.name,c.jl,d,e] 47)) 9 #[n]).c 0 n rfl;simp only[Tp]at a;go_enter func193,ntmps193;go_wp2_with fail;refine(NF (h.ext lv.stays g) a).mono ?_;rintro b l ⟨rfl,j⟩;go_wp2;go_ret;exact⟨rfl,Zv⟩
theorem sj{a b:List α}(hl:a.length=b.length){k:Nat}(h:∀c f g,c<k->a[c]?=some f->b[c]?=some g->f=g)(j:a.length<=k):a=b:=by
 apply List.ext_getElem?;intro c;by_cases i:c<a.length
 . have d:=Ou i;have e:b[c]?=some b[c]:=Ou Zm;rw[d,e,h c _ _ Zm d e]
 . rw[U9 Zm,U9 Zm]
theorem xW (w : World) (I J : Nat -> Prop) {v B: Value} {l m: List Kind} (a : SliceOf 2 nC w I v l) (q : SliceOf 2 nC w J B m) :Calls prog 172 #[v,B] w fun C G=>C=.returned (.bool (decide (l=m)))/\Ext w G:=by
 obtain⟨O,S,rfl,hn,aa⟩:=a.form;obtain⟨P,T,rfl,ag,ae⟩:=q.form;by_cases i:l.length=m.length
 . have p := Zy i; have E : (l.length : Int) = m.length := by omega
   clear i;go_enter func172,ntmps172;go_wp2;go_loopw [13] (fun n wr=>∃b:Nat,b<=l.length/\n=.int .i64 b/\Ext w wr/\Zz (∀c d e,c<b->l[c]?=some d->m[c]?=some e->d=e)) (fun n _=>l.length - (intOf n).toNat)
   case atStart=>exact⟨0,SV _,rfl,Kp.rr,Zy Zm⟩
   case round =>
    obtain⟨b,hk,rfl,t,o⟩:=hrel;by_cases z:b<l.length
    . have F:b<m.length:=by rw[<-p.o];exact z
      obtain⟨d,j⟩:=get_some z;obtain⟨e,k⟩:=get_some F;obtain⟨Q,ai,U,rfl,Y,rfl,-,u⟩:=a.get j;obtain⟨R,aj,V,rfl,Z,rfl,-,x⟩:=q.get k;obtain⟨W,X⟩:=(u.ext t).two;obtain⟨q0,q1⟩:=(x.ext t).two;have⟨g,h⟩:=jf j k;clear j u k x;obtain⟨H,K⟩:=d;obtain⟨L,N⟩:=e;simp only at*;rcases wT H L K N with⟨rfl,rfl⟩|⟨rfl,ah,A⟩|⟨af,y⟩
      . go_wp2_with (first|(go_region_with (fail))|fail)
        all_goals
         go_roundw
         case rel=>
          refine⟨b+1,Zm,by go_num,kx,Zy (fun c d e hj r s=>?_)⟩;by_cases D:c=b
          . subst D;exact TG ((r.symm.trans g).trans (h.symm.trans s))
          . exact o c d e Zm r s
         case measure=>simp[intOf];omega
      . have f:Zz (decide (l=m)=false):=Zy (SL (fun a=>A (by
         subst a;exact congrArg Kind.name (TG (g.symm.trans h)))))
        clear A;go_wp2_with (first|(go_region_with (fail))|fail)
        all_goals
         go_ret;exact⟨hQ f.symm,kx⟩
      . have f:Zz (decide (l=m)=false):=Zy (SL (fun a=>y (by
         subst a;exact congrArg Kind.kind (TG (g.symm.trans h)))))
        clear y;go_wp2_with (first|(go_region_with (fail))|fail)
        all_goals
         go_ret;exact⟨hQ f.symm,kx⟩
    . go_wp2;go_ret;exact⟨hQ (Tz (sj p o Zm)).symm,kx⟩
 . have E:((l.length:Int)==m.length)=false:=SF.2 Zm;go_enter func172,ntmps172;go_wp2;go_ret;exact⟨hQ (SL (fun a=>i (congrArg List.length a))).symm,kx⟩
theorem hH.SH{x c: Value}(h0:w.cell? b=some x)(d:w.cell? (b,1)=some y)(e:w.cell? (b,2)=some z)(f:w.cell? (b,3)=some c):hH w b 0 [x,y,z,c]:=by
 intro g h a;rw[Tm];match g,a with
 |0,a=>cases a;exact h0
 |1,a=>cases a;exact d
 |2,a=>cases a;exact e
 |3,a=>cases a;exact f
theorem hH.Nr{x a: Value}(c:hH w b 0 [x,y,z,a]):w.cell? b=some x/\w.cell? (b,1)=some y/\w.cell? (b,2)=some z/\w.cell? (b,3)=some a:=c.four
theorem jM.ext{R:lZ α}(hR:jM R){w b:World}{I:Nat->Prop}{x:α}{cs:List Value}(c:Ext w b)(a:R w I x cs):R b I x cs:=hR _ _ _ _ _ _ (Ext.same c) (fun _ a=>a) a
theorem jM.kp{R:lZ α}(hR:jM R){D:Nat->Prop}{w c:World}{I:Nat->Prop}{x:α}{cs:List Value}(d:Kp D w c)(hI:∀b,I b->¬D b)(a:R w I x cs):R c I x cs:=hR _ _ _ _ _ _ (Kp.same d hI) (fun _ a=>a) a
theorem jd.args{a va b c d e i j:Value}(g:jd w I x [a,va,b,c,d,e,i,j]):SliceOf 2 nC w I va x.args:=by
 obtain⟨k,l,m,f,h,-,-⟩:=g;simp only[TH,UF,V8]at f;obtain⟨-,rfl,-⟩:=f;exact h
theorem Dq{f:α->Bool}{l:List α}{a:Option Nat}(b:l.findIdx? f=a):l.find? f=a.bind (l[·]?):=by
 subst b;induction l with
 |nil=>rfl
 |cons e d c=>
  rw[List.find?_cons,VY];cases g:f e
  . rw[c];cases d.findIdx? f<;>simp
  . simp
set_option maxHeartbeats 20000000 in theorem DV (s : ji w l p) (e b : Ref) {c d: Class} (aH : cls? p e = some c) (aF : cls? p b = some d) :Calls prog 151 #[some l.L,.agg #[e.keeper,e.name],.agg #[b.keeper,b.name]] w fun o w'=>o=.returned (.bool (pQ p e b))/\Ext w w':=by
 have ah:Ext w ((w.alloc (.cells #[e.keeper,e.name] 60)).alloc (.cells #[b.keeper,b.name] 60)):=Zx;have z:=Zy (s.ext ah);clear s;have W:=(hZ.new w 60 #[e.keeper,e.name]).ext (jw (.cells #[b.keeper,b.name] 60));have I:=hZ.new (w.alloc (.cells #[e.keeper,e.name] 60)) 60 #[b.keeper,b.name];simp only[Tp]at I;have F:=Zy (Tn aH aF);clear aH aF;go_enter func151,ntmps151;go_upto_region 1 with(fail);generalize ((w.alloc (.cells #[e.keeper,e.name] 60)).alloc (.cells #[b.keeper,b.name] 60))=w0 at*;go_cut [7,8] (fun s7 s8 R=>∃b7 b8 vf vm uf um,s7=.pointer (some ⟨b7,0,none⟩)/\s8=.pointer (some ⟨b8,0,none⟩)/\hH R b7 0 [c.name,c.jl,vf,vm]/\
  hH R b8 0 [d.name,d.jl,uf,um]/\jh R (· <l.O) c [c.name,c.jl,vf,vm]/\jh R (· <l.O) d [d.name,d.jl,uf,um]/\Ext w0 R)
 case first=>
  obtain⟨-,p0,p1,-⟩:=W.ca;obtain⟨-,q0,q1,-⟩:=I.ca;clear W I;have hS:∀k,Ext w0 k->(Ext w0 k/\k.cell? w=some (.int .i64 e.keeper)/\k.cell? (w,1)=some (.string e.name)/\k.cell? ⟨w+1,0,none⟩=some (.int .i64 b.keeper)/\k.cell? ⟨w+1,1,none⟩=some (.string b.name)):=
   fun k J=>⟨J,J.je p0,J.je p1,J.je q0,J.je q1⟩
  have HS:=Zy hS;have bL:l.O<=w0:=SY z.lt z.ord
  clear hS;go_region_held3 (fun k=>Ext w0 k/\k.cell? w=some (.int .i64 e.keeper)/\k.cell? (w,1)=some (.string e.name)/\k.cell? ⟨w+1,0,none⟩=some (.int .i64 b.keeper)/\k.cell? ⟨w+1,1,none⟩=some (.string b.name))
   ((refine HS _ ?_;repeat (first|with_reducible exact Kp.rr|with_reducible assumption|with_reducible refine Kp.alloc ?_ _|with_reducible refine Kp.drew ?_|with_reducible refine Kp.drewN ?_ _|with_reducible refine Kp.setCell ?_ (fun s=>absurd s Zs) _|with_reducible refine Kp.trans ?_ Zu)))
   (first|(go_at_call 52;first|(have bn:=i;clear bn;refine(p9 l p (z.ext Zx) b.keeper b.name d F.2).mono ?_;rintro o y ⟨⟨bf,aD,rfl⟩,u⟩;obtain⟨bD,bF,bE,bG,rfl⟩:=aD.form;have cZ:=u.size;obtain⟨bN,bP⟩:=Hu u;(have cK:(n:Nat)<=y:=by have:=u.size;(try simp at this);omega);(try have bZ:(w0:Nat)<y:=by have:=u.size;(try simp at this);omega);(try have cu:(w0:Nat)+1<(y:Nat):=by have:=u.size;(try simp at this);omega);(try have cz:(n:Nat)<y:=by have:=u.size;(try simp at this);omega);(try have cB:(n:Nat)+1<(y:Nat):=by have:=u.size;(try simp at this);omega))|(refine(p9 l p (z.o.ext Zx) e.keeper e.name c F.o.1).mono ?_;rintro o n ⟨⟨cs,aC,rfl⟩,i⟩;obtain⟨y1,z1,y2,z2,rfl⟩:=aC.form;have cO:=i.size;obtain⟨bM,bO⟩:=Hu i;(have bW:(w0:Nat)<=n:=by have:=i.size;(try simp at this);omega);(try have bX:(w0:Nat)<n:=by have:=i.size;(try simp at this);omega);(try have bY:(w0:Nat)+1<(n:Nat):=by have:=i.size;(try simp at this);omega))))
  all_goals (go_wp2_with fail)
  all_goals
   go_meet;refine⟨_,_,.slice y1 c.fields.length z1,.slice y2 c.methods.length z2,.slice bD d.fields.length bF,.slice bE d.methods.length bG,rfl,rfl,hH.SH (by(try simp[go_sem, *])<;>refine World.cell?_setCell_same' _ _ _ (by simp[go_sem, *])) (by(try simp[go_sem, *])<;>refine World.cell?_setCell_same' _ _ _ (by simp[go_sem, *])) (by(try simp[go_sem, *])<;>refine World.cell?_setCell_same' _ _ _ (by simp[go_sem, *])) (by(try simp[go_sem, *])<;>refine World.cell?_setCell_same' _ _ _ (by simp[go_sem, *])),hH.SH (by(try simp[go_sem, *])<;>refine World.cell?_setCell_same' _ _ _ (by simp[go_sem, *])) (by(try simp[go_sem, *])<;>refine World.cell?_setCell_same' _ _ _ (by simp[go_sem, *])) (by(try simp[go_sem, *])<;>refine World.cell?_setCell_same' _ _ _ (by simp[go_sem, *])) (by(try simp[go_sem, *])<;>refine World.cell?_setCell_same' _ _ _ (by simp[go_sem, *])),jM.kp (D:=fun g=>l.O<=g) jh.stays (by repeat (first|with_reducible exact Kp.rr|with_reducible refine Kp.alloc ?_ _|with_reducible refine Kp.drew ?_|with_reducible refine Kp.setCell ?_ (fun _=>by first|omega|(simp;done)|(simp;omega)) _|with_reducible refine Kp.trans ?_ (Kp.any Zu))) (fun _ s h'=>absurd s (Nat.not_lt_of_le h')) aC,jM.kp (D:=fun g=>l.O<=g) jh.stays (by repeat (first|with_reducible exact Kp.rr|with_reducible refine Kp.alloc ?_ _|with_reducible refine Kp.drew ?_|with_reducible refine Kp.setCell ?_ (fun _=>by first|omega|(simp;done)|(simp;omega)) _|with_reducible refine Kp.trans ?_ (Kp.any Zu))) (fun _ s h'=>absurd s (Nat.not_lt_of_le h')) aD,Zx⟩
 case rest =>
  obtain⟨b7,b8,vf,vm,uf,um,rfl,rfl,k7,k8,hc,hd,f⟩:=hcut;obtain⟨dx,dz,N,sf,sm⟩:=hc;simp only[TH,UF,V8]at N;obtain⟨rfl,rfl⟩:=N;obtain⟨fa,fc,rfl,bz,bQ⟩:=sf.form;obtain⟨ma,mc,rfl,bT,bS⟩:=sm.form;have⟨HD,HE⟩:=jf hd f;have B:Zz (pQ p e b=(c.fields.all (fun ag=>(wI d ag.name).isNone)&&c.methods.all (l9 p e b))):=Zy (by
   unfold pQ cls;rw[F.o.1,F.o.2];rfl)
  have ak:Zz (∀E,l9 p e b E=match d.methods.find? (fun P=>P.name=E.name)with
   |none=>true
   |some P=>decide (E.ret=P.ret)&&decide (E.args=P.args)&&kT p e.keeper b.keeper E):=Zy (fun E=>by
   unfold l9 cls;rw[F.o.2];rfl)
  have r7:=k7.Nr.2.2.1;have az:=ah.trans f;have j4:=W.ext f;have j5:=I.ext f;clear hd f W I ah;go_wp2;go_loopw [24] (fun x wr=>∃g:Nat,g<=c.fields.length/\x=.int .i64 g/\Ext wc wr/\Zz ((c.fields.take g).all (fun ag=>(wI d ag.name).isNone)=true)) (fun x _=>c.fields.length - (intOf x).toNat)
  case atStart=>exact⟨0,SV _,rfl,Kp.rr,Zy Zl⟩
  case round =>
   obtain⟨g,hk,rfl,f,t⟩:=hrel;have O:=k8.ext f;obtain⟨Q,s1,s2,s3⟩:=O.Nr;have aJ:=jc Q;by_cases ai:g<c.fields.length
   . obtain⟨a,v⟩:=get_some ai;obtain⟨aW,bB,cs,rfl,hI,rfl,-,L⟩:=sf.get v;obtain⟨g0,g1,g2⟩:=(L.ext f).three;have⟨r,A⟩:=jf v (jM.ext jh.stays (f.alloc (.cells #[a.name,a.kind.kind,a.kind.name] 216)) HD);clear v L;cases j:wI d a.name
     . have q:Zz ((wI d a.name).isNone=true):=Zy (by rw[j];rfl);have H:=Zy j;clear j;go_wp2_with (go_at_call 193;refine(Hz A).mono ?_;rintro o n ⟨rfl,i⟩;rw[H.o];simp only[Hh,Option.elim]);go_roundw
       case rel=>exact⟨g+1,Zm,by go_num,Zx,Zy (all_succ t.o r.o q.o)⟩
       case measure=>simp[intOf];omega
     . rename_i af;have q:Zz ((wI d a.name).isNone=false):=Zy (by rw[j];rfl);have H:=Zy j;clear j;go_wp2_with (go_at_call 193;refine(Hz A).mono ?_;rintro o n ⟨rfl,i⟩;rw[H.o];simp only[Hh,Option.elim]);go_ret;exact⟨hQ (by rw[B.o,rM r.o q.o];rfl),Zx⟩
   . have HF := Zy (qg t (by omega : c.fields.length <= g)); have dm := (k7.ext f).Nr.2.2.2; clear Q s1 s2 s3 O aJ; have bJ := az.trans f; have aO := Zy (jM.ext jh.stays f HD); have bC := sm.ext jd.stays f; have aL := k8.ext f; have bA := j4.ext f; have aK := j5.ext f; have aQ := Zy (z.ext (HE.trans f)); clear t az HE z HD sm sf k8 k7 f bz j4 j5 r7; obtain ⟨wo, rfl⟩ : ∃ wo : World, wo = wr := ⟨_, rfl⟩; go_wp2; go_loopw [37] (fun x wr => ∃ g : Nat, g <= c.methods.length /\ x = .int .i64 g /\ Ext wo wr /\ Zz ((c.methods.take g).all (l9 p e b) = true)) (fun x _ => c.methods.length - (intOf x).toNat)
     case atStart=>exact⟨0,SV _,rfl,Kp.rr,Zy Zl⟩
     case round =>
      obtain⟨g,hk,rfl,f,t⟩:=hrel;by_cases ai:g<c.methods.length
      . obtain ⟨a, v⟩ := get_some ai; obtain ⟨aW, bB, cs, rfl, hI, aa,-, L⟩ := bC.get v; have ⟨r, aS⟩ := jf v (jM.ext jd.stays f aa); obtain ⟨T, X, U, Y, V, Z, rfl⟩ := aa.form; have ha := aa.args; clear aa; obtain ⟨g0, g1, g2, g3, g4, g5, g6, g7⟩ := (L.ext f).eight; have O := aL.ext f; obtain ⟨Q, s1, s2, s3⟩ := O.Nr; have aJ := jc Q; have HW := Zy (f.alloc (.cells #[a.name, .slice T a.args.length X, a.ret.kind, a.ret.name, a.locals, a.stack, .slice U a.code.length Y, .slice V a.maps.length Z] 132)); have A := Zy (jM.ext jh.stays HW aO); clear v L O; cases j : oC d a.name
        . have q:Zz (l9 p e b a=true):=Zy (by rw[ak.o,Dq j];rfl);have H:=Zy j;clear j;go_wp2_with (go_at_call 97;refine(yV _ A _).mono ?_;rintro o n ⟨rfl,i⟩;rw[H.o];simp only[Hh,Option.elim]);go_roundw
          case rel=>exact⟨g+1,Zm,by go_num,Zx,Zy (all_succ t.o r.o q.o)⟩
          case measure=>simp[intOf];omega
        . rename_i af;go_wp2_with fail;refine(yV _ A _).mono ?_;rintro o n ⟨rfl,i⟩;rw[j];simp only[Hh,Option.elim];have bu:af<d.methods.length:=by
           have:=Uy.1 j;exact this.1
          obtain⟨h,hy⟩:=get_some bu;have q:Zz (l9 p e b a=(decide (a.ret=h.ret)&&decide (a.args=h.args)&&kT p e.keeper b.keeper a)):=Zy (by
           rw[ak.o,Dq j];show(match d.methods[af]? with|none=>true|some P=>_)=_
           rw[hy])
          have bq:=jM.ext jh.stays i A;obtain⟨dn,dw,N,-,tm⟩:=bq;simp only[TH,UF,V8]at N;obtain⟨rfl,rfl⟩:=N;obtain⟨na,nc,rfl,bV,-⟩:=tm.form;obtain⟨b',di,bf,rfl,bK,aj,-,aB⟩:=tm.get hy;obtain⟨aT,aX,aU,aY,aV,aZ,rfl⟩:=aj.form;have aA:=aj.args;clear aj;obtain⟨q0,q1,q2,q3,q4,q5,q6,q7⟩:=aB.eight;have S:=Zy (Tn (ha) aA);have K:=HW.trans i;have ax:=Zy (((Kp.refl _ wr).alloc (.cells #[a.name,.slice T a.args.length X,a.ret.kind,a.ret.name,a.locals,a.stack,.slice U a.code.length Y,.slice V a.maps.length Z] 132):Ext wr _).trans i);have aM:=aL.ext K;have t3:=aM.Nr.2.2.2;have df:=jc t3;have bm:=(hZ.new wr 132 #[a.name,.slice T a.args.length X,a.ret.kind,a.ret.name,a.locals,a.stack,.slice U a.code.length Y,.slice V a.maps.length Z]).ext i;obtain⟨dh,m0,m1,m2,m3,m4,m5,m6,m7,-⟩:=bm.ca;clear hy aB tm ha aA Q s1 s2 s3 g0 g1 g2 g3 g4 g5 g6 g7 aM j bm;have aN:=Zy (jM.ext jd.stays ((Kp.refl _ wr).alloc (.cells #[a.name,.slice T a.args.length X,a.ret.kind,a.ret.name,a.locals,a.stack,.slice U a.code.length Y,.slice V a.maps.length Z] 132)) aS |> jM.ext jd.stays i);have o0:=((bA.ext K).c 0 e.keeper rfl);have o1:=((aK.ext K).c 0 b.keeper rfl);have oz:=(aK.ext K).lt;have HR:Zz (decide (a.ret=h.ret)=decide (a.ret.kind=h.ret.kind/\a.ret.name=h.ret.name)):=Zy (decide_eq_decide.2 Kind.lD);rcases wT a.ret.kind h.ret.kind a.ret.name h.ret.name with⟨C,e2⟩|⟨C,bU,aI⟩|⟨bR,aG⟩
          . have bg:=Uq.2 C;have bH:(a.ret.name.toList==h.ret.name.toList)=true:=by rw[e2];simp
            have au:Zz (l9 p e b a=(decide (a.args=h.args)&&kT p e.keeper b.keeper a)):=Zy (by rw[q.o,HR.o];simp[C,e2]);clear C e2;cases D:decide (a.args=h.args)
            . have G:Zz (l9 p e b a=false):=Zy (by rw[au.o,D];rfl);have HQ:=Zy D;clear D;go_wp2_with fail;refine(xW _ _ _ ((S.1.ext nC.stays (f.trans ax)).ext nC.stays (jw _)) (S.2.ext nC.stays (jw _))).mono ?_;rintro o y ⟨rfl,ay⟩;rw[HQ.o];go_wp2;go_ret;exact⟨hQ (by rw[B.o,rM r.o G.o];simp),Zx⟩
            . have av:Zz (l9 p e b a=kT p e.keeper b.keeper a):=Zy (by rw[au.o,D];rfl);have HQ:=Zy D;clear D;go_wp2_with fail;refine(xW _ _ _ ((S.1.ext nC.stays (f.trans ax)).ext nC.stays (jw _)) (S.2.ext nC.stays (jw _))).mono ?_;rintro o y ⟨rfl,ay⟩;rw[HQ.o];have m:=Zy (((Kp.refl _ n).alloc (.cells #[h.name,.slice aT h.args.length aX,h.ret.kind,h.ret.name,h.locals,h.stack,.slice aU h.code.length aY,.slice aV h.maps.length aZ] 132):Ext n _).trans ay);have n0:=m.je m0;have n1:=m.je m1;have n2:=m.je m2;have n3:=m.je m3;have n4:=m.je m4;have n5:=m.je m5;have n6:=m.je m6;have n7:=m.je m7;have u0:=m.je o0;have u1:=m.je o1;have⟨aR,aP⟩:=jf (jM.ext jd.stays m aN) (aQ.ext (K.trans m));clear m0 m1 m2 m3 m4 m5 m6 m7 q0 q1 q2 q3 q4 q5 q6 q7 o0 o1 t3;cases hm:kT p e.keeper b.keeper a
              all_goals
               have ae:=Zy hm;clear hm;go_wp2_with fail;refine(uV aP _ _ aR).mono ?_;rintro o w3 ⟨rfl,bI⟩;rw[ae.o];go_wp2
              . go_ret;exact⟨hQ (by rw[B.o,rM r.o (av.o.trans ae.o)];simp),Zx⟩
              . go_roundw
                case rel=>exact⟨g+1,Zm,by go_num,Zx,Zy (all_succ t.o r.o (av.o.trans ae.o))⟩
                case measure=>simp[intOf];omega
          . have G:Zz (l9 p e b a=false):=Zy (by rw[q.o,HR.o];simp[aI]);have bg:=Uq.2 C;clear aI C;go_wp2;go_ret;exact⟨hQ (by rw[B.o,rM r.o G.o];simp),Zx⟩
          . have G:Zz (l9 p e b a=false):=Zy (by rw[q.o,HR.o];simp[aG]);clear aG;go_wp2;go_ret;exact⟨hQ (by rw[B.o,rM r.o G.o];simp),Zx⟩
      . go_wp2;go_ret;exact⟨hQ (by rw[B.o,HF.o,qg t.o Zm];rfl),Zx⟩
theorem Bh{t:TypeId}(w:World){c:Array Oper}{rest:List Oper}{b:Oper}{a:Act}{Q:Exit->Act->World->Prop}(f:b.guard=none)(s:Operand)
    (g:b.op=.call {callee:=.builtin .clear,args:=#[s],argTypes:=#[t]}) (W:World) (h:(Builtin.clear_ #[t] b.type #[a.eval s]).run prog w=.ok (.tuple #[]) W)
    (d:wpList prog c Q rest (a.put b.dst (.tuple #[])) W):wpList prog c Q (b::rest) a w:=by
 refine VS f fun i e=>?_;unfold Oper.wp;simp[execOp,g,resolve,invoke,builtin,h,Result.andThen];exact e _ _ d
theorem Qp{f:α->Bool}{l:List α}{i:Nat}(a:l.findIdx? f=some i):i<l.length:=(Uy.1 a).1
theorem NI{l:List Value}(e:l.length=4):∃a b c d,l=[a,b,c,d]:=by
 match l,e with|[a,b,c,d],_=>exact⟨a,b,c,d,rfl⟩
theorem Px{l:List Value}(c:l.length=2):∃a b,l=[a,b]:=by
 match l,c with|[a,b],_=>exact⟨a,b,rfl⟩
theorem NA(w:World){I:Nat->Prop}{cs:List Value}{x:Class}(d:jh w I x cs)(b:Nat)(n:ByteArray)(c:w.cell? b=some (.string n)):Calls prog 268 #[.agg cs.toArray,some b] w fun a e=>a=.returned (.bool (decide (x.name=n)))/\Ext w e:=by
 obtain⟨q1,q2,q3,q4,rfl⟩:=jh.form d;have f:=jc c;go_enter func268,ntmps268;go_wp2;go_ret;exact⟨hQ (kI _ _),Zx⟩
theorem Q9(w:World)(I:Nat->Prop){v:Value}(l:List Class)(i:SliceOf 4 jh w I v l)(b:Nat)(n:ByteArray)(q:w.cell? b=some (.string n)):Calls prog 269 #[v,.func (.func 268) #[] #[some b]] w fun h u=>h=.returned (.int .i64 (Hh (l.findIdx? fun t=>decide (Class.name t=n))))/\Ext w u:=by
 obtain⟨z,B,rfl,N,K⟩:=i.form;go_enter func269,ntmps269;go_wp2;go_loopw [8] (fun f wr=>∃a:Nat,a<=l.length/\f=.int .i64 a/\Ext w wr/\Zz (∀y∈l.take a,decide (Class.name y=n)=false)) (fun f _=>l.length - (intOf f).toNat)
 case atStart=>exact⟨0,SV _,rfl,Kp.rr,Zy Zl⟩
 case round =>
  obtain⟨a,L,rfl,j,c⟩:=hrel;by_cases s:a<l.length
  . obtain⟨x,e⟩:=get_some s;obtain⟨A,O,C,rfl,J,m,-,k⟩:=(i.ext jh.stays j).get e;have p:=Zy m;obtain⟨q1,q2,q3,q4,rfl⟩:=jh.form m;obtain⟨D,E,F,G⟩:=k.four;have r:=j.je q;have g:=Zy e;clear e k;cases o:decide (x.name=n)
    all_goals
     have d:=Zy o;clear o;go_wp2_with (go_at_call 268;refine(NA _ p _ _ r).mono ?_;rintro h P ⟨rfl,H⟩;rw[d.o])
    . go_roundw
      case rel=>exact⟨a+1,Zm,by go_num,Zx,Zy (tZ c.o g.o d.o)⟩
      case measure=>simp[intOf];omega
    . go_ret;exact⟨by rw[uQ c.o g.o d.o];rfl,Zx⟩
  . go_wp2;go_ret;exact⟨by rw[tV c.o Zm];rfl,Zx⟩
theorem O9(w:World)(I:Nat->Prop)(base:Nat)(v:Value)(css:List (List Value))(xs:List Class)(a:kv 47 4 jh w I base v css xs)(hl:xs.length<=4294967296)(hI:∀b,I b->v.ownBlock≠some b)(b:Nat) (n:ByteArray) (i:w.cell? ⟨b,0,none⟩=some (.string n)) (aa:v.ownBlock≠some b):Calls prog 267 #[v,.func (.func 268) #[] #[.pointer (some ⟨b,0,none⟩)]] w fun d w'=>(∃K aO ay,d=.returned K/\K.ownBlock=v.ownBlock/\kv 47 4 jh w' I base K aO ay/\ay.length<=xs.length)/\Kp (fun k=>v.ownBlock=some k) w w':=by
 obtain⟨aN,E,rfl⟩:=jA a.own;have r:=Q9 w (fun _=>True) xs ((a.keep (D:=fun _=>False) (J:=fun _=>True) jh.stays Kp.rr (fun _ _ a=>a) (fun _ _ a=>a) fun _ _=>trivial).slice Zn (fun _ _ _=>trivial) hl) b n i;cases A:xs.findIdx? (fun aX=>decide (Class.name aX=n))with
 |none=>
  rw[A]at r;go_enter func267,ntmps267;go_wp2_with fail;refine r.mono ?_;rintro d w1 ⟨rfl,l⟩;have u:=Zy l;have G:Hh none= -1:=rfl;clear l;go_wp2;go_ret;exact⟨⟨_,css,xs,rfl,rfl,a.ext jh.stays u,T9 _⟩,u.any⟩
 | some s =>
  have hr:=Qp A;rw[A]at r;obtain⟨k,rfl⟩:∃k,aN=some ⟨k,0,none⟩:=by
   rcases a.own.2 with⟨g,-⟩|⟨Q,cp,aP,g,-⟩
   . have:=(Value.slice.inj g).2.1;omega
   . exact⟨Q,(Value.slice.inj g).1⟩
  have bf:xs.length<=E:=by
   rcases a.own.2 with⟨g,-⟩|⟨Q,cp,aP,g,-,-,hn,-⟩
   . cases g
   . cases g;exact hn
  have⟨L,HR,HB,aA,aC⟩:=ni hI a i aa r;have bg:((s:Int)== -1)=false:=SF.2 Zm;clear hI a i aa r A;go_enter func267,ntmps267;go_wp2_with fail;refine aC.mono ?_;rintro d w1 ⟨rfl,l⟩;have G:Hh (some s)=(s:Int):=rfl;rw[G];have⟨u,H1⟩:=jf l (HR.ext jh.stays l);clear l G;go_wp2;go_loopw [5,6] (fun s5 J wr=>∃(c e:Nat) (F:List (List Value)) (j:List Class),s5=.int .i64 c/\J=.int .i64 e/\c<e/\e<=xs.length/\Zz (j.length=xs.length)/\kv 47 4 jh wr I base (.slice (some ⟨k,0,none⟩) xs.length E) F j/\Kp (·=k) w wr) (fun _ J _=>xs.length - (intOf J).toNat)
  case atStart=>exact⟨s,s+1,css,xs,rfl,by go_num,Zm,Zm,Zy rfl,H1.o,u.o.any⟩
  case round=>
   obtain⟨c,e,F,j,rfl,rfl,aV,hj,f,q,p⟩:=hrel;by_cases aW:e<xs.length
   . obtain⟨t,H⟩:=get_some (show e<j.length by rw[f.o];exact aW);obtain⟨aY,aU,aZ,ak,ag⟩:=q.get H;have O:=Zy ak;obtain⟨q1,q2,q3,q4,rfl⟩:=jh.form ak;obtain⟨R,S,T,U⟩:=ag.four;obtain⟨w5,av,y,D⟩:=nu wr #[t.name,t.jl,.slice q1 t.fields.length q2,.slice q3 t.methods.length q4] 47;have Z:=y.je (p.lL HB (fun d=>aA.o (by rw[d];rfl)));have x:=Zy (NA w5 (jh.stays _ _ _ _ _ _ (Ext.same y) (fun _ a=>a) O) b n Z);obtain⟨-,k0,k1,k2,k3,-⟩:=D.ca;have⟨aL,C,az,P,N,HX⟩:=nE av y D q p H;clear av y D q p H ag aU Z;go_upto_region 8 with(fail);rw[<-aL.o];cases B:decide (t.name=n)
     . simp only[B]at x;clear B;go_wp2_with fail;refine x.mono ?_;rintro d w6 ⟨rfl,h⟩;have z:=P.ext jh.stays (C.trans h);obtain⟨x6,ax⟩:=get_some (show c<j.length by rw[f.o];omega);obtain⟨c6,ae,af,-,ah⟩:=z.get ax;obtain⟨u0,u1,u2,u3,rfl⟩:=NI af;obtain⟨V,h1,h2,h3⟩:=ah.four;have gz:=jc V;have m:=z.own;rw[f.o]at m;have aQ:=m.frozenAt (c*4);have aR:=m.frozenAt (c*4+1);have aS:=m.frozenAt (c*4+2);have aT:=m.frozenAt (c*4+3);clear m;obtain⟨-,m0,m1,m2,m3,-⟩:=(az.ext h).ca;have⟨aI,o,aB⟩:=jB z (C.trans h) ae;clear h z ax af ah ae k0 k1 k2 k3 R S T U;go_upto_region 10 with(fail);obtain⟨Y,aj⟩:=aI.Sa f.symm jh.stays (fun b i d=>L.o b i (by rw[d];rfl)) aB (jh.stays _ _ _ _ _ _ (Ext.same o) (fun _ a=>a) O);have⟨aJ,aF⟩:=jf Y ((N.trans o.any).trans aj);clear Y aj V h1 h2 h3 aQ aR aS aT gz;go_wp2_with fail;exact⟨⟨c+1,e+1,_,_,by go_num,by go_num,Zm,Zm,Zy (by rw[Ux];exact f),aJ,aF⟩,by simp[intOf];omega⟩
     . simp only[B]at x;clear B;go_wp2_with fail;refine x.mono ?_;rintro d w6 ⟨rfl,h⟩;have o:=Zy (C.trans h);clear h k0 k1 k2 k3 R S T U;go_wp2_with fail;exact⟨⟨c,e+1,F,j,rfl,by go_num,Zm,Zm,f,P.o.ext jh.stays o.o,N.o.trans o.o.any⟩,by simp[intOf];omega⟩
   . obtain rfl:e=xs.length:=Zm
     obtain⟨aM,au,X,ai⟩:=q.clear JH (z:=.agg #["", "",(),()]) (ty:=47) Zo (by simp[Value.cells,Value.oneCell']) jh.stays f.symm (fun b i d=>L.o b i (by rw[d];rfl)) c (E - c) (VL aV);have⟨aK,aH,aD⟩:=jB au X (p.trans ai);have W:(j.take c).length=c:=by rw[Tj,f.o];omega
     have aG:=Zy W;clear au X ai q p W;go_wp2_with (refine Bh _ rfl _ rfl aM aK ?_);go_ret;exact⟨⟨_,_,_,rfl,rfl,aH,by rw[aG.o];omega⟩,aD.o.weak fun b _ d=>by rw[d];rfl⟩
theorem Ia(w:World){I:Nat->Prop}{cs:List Value}{x:M.Ask}(d:mQ w I x cs)(b:Nat)(n:ByteArray)(c:w.cell? b=some (.string n)):Calls prog 273 #[.agg cs.toArray,some b] w fun a e=>a=.returned (.bool (decide (x.name=n)))/\Ext w e:=by
 obtain rfl:=d;have f:=jc c;go_enter func273,ntmps273;go_wp2;go_ret;exact⟨hQ (kI _ _),Zx⟩
theorem ND(w:World)(I:Nat->Prop){v:Value}(l:List M.Ask)(i:SliceOf 2 mQ w I v l)(b:Nat)(n:ByteArray)(q:w.cell? b=some (.string n)):Calls prog 274 #[v,.func (.func 273) #[] #[some b]] w fun h u=>h=.returned (.int .i64 (Hh (l.findIdx? fun t=>decide (M.Ask.name t=n))))/\Ext w u:=by
 obtain⟨z,B,rfl,K,H⟩:=i.form;go_enter func274,ntmps274;go_wp2;go_loopw [8] (fun f wr=>∃a:Nat,a<=l.length/\f=.int .i64 a/\Ext w wr/\Zz (∀y∈l.take a,decide (M.Ask.name y=n)=false)) (fun f _=>l.length - (intOf f).toNat)
 case atStart=>exact⟨0,SV _,rfl,Kp.rr,Zy Zl⟩
 case round =>
  obtain⟨a,J,rfl,j,c⟩:=hrel;by_cases s:a<l.length
  . obtain⟨x,e⟩:=get_some s;obtain⟨A,L,C,rfl,G,m,-,k⟩:=(i.ext mQ.stays j).get e;have p:=Zy m;obtain rfl:=m;obtain⟨D,E⟩:=k.two;have r:=j.je q;have g:=Zy e;clear e k;cases o:decide (x.name=n)
    all_goals
     have d:=Zy o;clear o;go_wp2_with (go_at_call 273;refine(Ia _ p _ _ r).mono ?_;rintro h N ⟨rfl,F⟩;rw[d.o])
    . go_roundw
      case rel=>exact⟨a+1,Zm,by go_num,Zx,Zy (tZ c.o g.o d.o)⟩
      case measure=>simp[intOf];omega
    . go_ret;exact⟨by rw[uQ c.o g.o d.o];rfl,Zx⟩
  . go_wp2;go_ret;exact⟨by rw[tV c.o Zm];rfl,Zx⟩
theorem K8(w:World)(I:Nat->Prop)(base:Nat)(v:Value)(css:List (List Value))(xs:List M.Ask)(a:kv 150 2 mQ w I base v css xs)(hl:xs.length<=4294967296)(hI:∀b,I b->v.ownBlock≠some b)(b:Nat) (n:ByteArray) (i:w.cell? ⟨b,0,none⟩=some (.string n)) (Y:v.ownBlock≠some b):Calls prog 272 #[v,.func (.func 273) #[] #[.pointer (some ⟨b,0,none⟩)]] w fun c w'=>(∃J aM av,c=.returned J/\J.ownBlock=v.ownBlock/\kv 150 2 mQ w' I base J aM av/\av.length<=xs.length)/\Kp (fun k=>v.ownBlock=some k) w w':=by
 obtain⟨aL,D,rfl⟩:=jA a.own;have q:=ND w (fun _=>True) xs ((a.keep (D:=fun _=>False) (J:=fun _=>True) mQ.stays Kp.rr (fun _ _ a=>a) (fun _ _ a=>a) fun _ _=>trivial).slice Zn (fun _ _ _=>trivial) hl) b n i;cases z:xs.findIdx? (fun aT=>decide (M.Ask.name aT=n))with
 |none=>
  rw[z]at q;go_enter func272,ntmps272;go_wp2_with fail;refine q.mono ?_;rintro c w1 ⟨rfl,l⟩;have s:=Zy l;have F:Hh none= -1:=rfl;clear l;go_wp2;go_ret;exact⟨⟨_,css,xs,rfl,rfl,a.ext mQ.stays s,T9 _⟩,s.any⟩
 | some r =>
  have hr:=Qp z;rw[z]at q;obtain⟨k,rfl⟩:∃k,aL=some ⟨k,0,none⟩:=by
   rcases a.own.2 with⟨g,-⟩|⟨Q,cp,aN,g,-⟩
   . have:=(Value.slice.inj g).2.1;omega
   . exact⟨Q,(Value.slice.inj g).1⟩
  have aW:xs.length<=D:=by
   rcases a.own.2 with⟨g,-⟩|⟨Q,cp,aN,g,-,-,hn,-⟩
   . cases g
   . cases g;exact hn
  have⟨L,HR,HB,ay,aA⟩:=ni hI a i Y q;have aX:((r:Int)== -1)=false:=SF.2 Zm;clear hI a i Y q z;go_enter func272,ntmps272;go_wp2_with fail;refine aA.mono ?_;rintro c w1 ⟨rfl,l⟩;have F:Hh (some r)=(r:Int):=rfl;rw[F];have⟨s,H1⟩:=jf l (HR.ext mQ.stays l);clear l F;go_wp2;go_loopw [5,6] (fun s5 H wr=>∃(d e:Nat) (E:List (List Value)) (j:List M.Ask),s5=.int .i64 d/\H=.int .i64 e/\d<e/\e<=xs.length/\Zz (j.length=xs.length)/\kv 150 2 mQ wr I base (.slice (some ⟨k,0,none⟩) xs.length D) E j/\Kp (·=k) w wr) (fun _ H _=>xs.length - (intOf H).toNat)
  case atStart=>exact⟨r,r+1,css,xs,rfl,by go_num,Zm,Zm,Zy rfl,H1.o,s.o.any⟩
  case round=>
   obtain⟨d,e,E,j,rfl,rfl,aR,hj,f,p,o⟩:=hrel;by_cases aS:e<xs.length
   . obtain⟨K,G⟩:=get_some (show e<j.length by rw[f.o];exact aS);obtain⟨aU,aQ,aV,ai,ae⟩:=p.get G;have O:=Zy ai;obtain rfl:=ai;obtain⟨R,S⟩:=ae.two;obtain⟨w5,ak,u,C⟩:=nu wr #[K.name,K.keeper] 150;have X:=u.je (o.lL HB (fun c=>ay.o (by rw[c];rfl)));have t:=Zy (Ia w5 (mQ.stays _ _ _ _ _ _ (Ext.same u) (fun _ a=>a) O) b n X);obtain⟨-,k0,k1,-⟩:=C.ca;have⟨aJ,B,ax,P,N,HX⟩:=nE ak u C p o G;clear ak u C p o G ae aQ X;go_upto_region 8 with(fail);rw[<-aJ.o];cases A:decide (K.name=n)
     . simp only[A]at t;clear A;go_wp2_with fail;refine t.mono ?_;rintro c w6 ⟨rfl,h⟩;have y:=P.ext mQ.stays (B.trans h);obtain⟨x6,au⟩:=get_some (show d<j.length by rw[f.o];omega);obtain⟨c6,Z,aa,-,af⟩:=y.get au;obtain⟨u0,u1,rfl⟩:=Px aa;obtain⟨T,h1⟩:=af.two;have gz:=jc T;have x:=y.own;rw[f.o]at x;have aO:=x.frozenAt (d*2);have aP:=x.frozenAt (d*2+1);clear x;obtain⟨-,m0,m1,-⟩:=(ax.ext h).ca;have⟨aG,m,az⟩:=jB y (B.trans h) Z;clear h y au aa af Z k0 k1 R S;go_upto_region 10 with(fail);obtain⟨W,ah⟩:=aG.R4 f.symm mQ.stays (fun b i c=>L.o b i (by rw[c];rfl)) az (mQ.stays _ _ _ _ _ _ (Ext.same m) (fun _ a=>a) O);have⟨aH,aC⟩:=jf W ((N.trans m.any).trans ah);clear W ah T h1 aO aP gz;go_wp2_with fail;exact⟨⟨d+1,e+1,_,_,by go_num,by go_num,Zm,Zm,Zy (by rw[Ux];exact f),aH,aC⟩,by simp[intOf];omega⟩
     . simp only[A]at t;clear A;go_wp2_with fail;refine t.mono ?_;rintro c w6 ⟨rfl,h⟩;have m:=Zy (B.trans h);clear h k0 k1 R S;go_wp2_with fail;exact⟨⟨d,e+1,E,j,rfl,by go_num,Zm,Zm,f,P.o.ext mQ.stays m.o,N.o.trans m.o.any⟩,by simp[intOf];omega⟩
   . obtain rfl:e=xs.length:=Zm
     obtain⟨aK,aj,V,ag⟩:=p.clear JG (z:=.agg #["",Tc]) (ty:=150) Zo (by simp[Value.cells,Value.oneCell']) mQ.stays f.symm (fun b i c=>L.o b i (by rw[c];rfl)) d (D - d) (VL aR);have⟨aI,aF,aB⟩:=jB aj V (o.trans ag);have U:(j.take d).length=d:=by rw[Tj,f.o];omega
     have aD:=Zy U;clear aj V ag p o U;go_wp2_with (refine Bh _ rfl _ rfl aK aI ?_);go_ret;exact⟨⟨_,_,_,rfl,rfl,aF,by rw[aD.o];omega⟩,aB.o.weak fun b _ c=>by rw[c];rfl⟩
theorem Gp (w : World) (I J : Nat -> Prop) {v C: Value} {l m: List M.Field} (b : SliceOf 3 lv w I v l) (s : SliceOf 3 lv w J C m) :Calls prog 128 #[v,C] w fun L Q=>L=.returned (.bool (decide (l=m)))/\Ext w Q:=by
 obtain⟨R,V,rfl,hn,ae⟩:=b.form;obtain⟨S,W,rfl,ag,af⟩:=s.form;by_cases k:l.length=m.length
 . have r := Zy k; have O : (l.length : Int) = m.length := by omega
   clear k;go_enter func128,ntmps128;go_wp2;go_loopw [13] (fun p wr=>∃c:Nat,c<=l.length/\p=.int .i64 c/\Ext w wr/\Zz (∀d e f,d<c->l[d]?=some e->m[d]?=some f->e=f)) (fun p _=>l.length - (intOf p).toNat)
   case atStart=>exact⟨0,SV _,rfl,Kp.rr,Zy Zm⟩
   case round =>
    obtain⟨c,hk,rfl,x,q⟩:=hrel;by_cases A:c<l.length
    . have P:c<m.length:=by rw[<-r.o];exact A
      obtain⟨e,n⟩:=get_some A;obtain⟨f,o⟩:=get_some P;obtain⟨T,ah,X,rfl,hI,rfl,-,y⟩:=b.get n;obtain⟨U,ai,Y,rfl,aa,rfl,-,z⟩:=s.get o;obtain⟨Z,g1,g2⟩:=(y.ext x).three;obtain⟨q0,q1,q2⟩:=(z.ext x).three;have⟨h,i⟩:=jf n o;clear n y o z;obtain⟨F,⟨D,E⟩⟩:=e;obtain⟨K,⟨G,H⟩⟩:=f;simp only at*;by_cases a:F=K;rotate_left
      . have g:Zz (decide (l=m)=false):=Zy (SL fun b=>a (by
         subst b;exact congrArg M.Field.name (TG (h.symm.trans i))))
        have B:(F.toList==K.toList)=false:=by rw[kI];exact SL a
        clear a;go_wp2_with (first|(go_region_with (fail))|fail)
        all_goals
         go_ret;exact⟨hQ g.symm,Zx⟩
      subst a;by_cases a:D=G;rotate_left
      . have g:Zz (decide (l=m)=false):=Zy (SL fun b=>a (by
         subst b;exact congrArg (fun j=>j.kind.kind) (TG (h.symm.trans i))))
        have B:(D==G)=false:=SF.2 a;clear a;go_wp2_with (first|(go_region_with (fail))|fail)
        all_goals
         go_ret;exact⟨hQ g.symm,Zx⟩
      subst a;by_cases a:E=H;rotate_left
      . have g:Zz (decide (l=m)=false):=Zy (SL fun b=>a (by
         subst b;exact congrArg (fun j=>j.kind.name) (TG (h.symm.trans i))))
        have B:(E.toList==H.toList)=false:=by rw[kI];exact SL a
        clear a;go_wp2_with (first|(go_region_with (fail))|fail)
        all_goals
         go_ret;exact⟨hQ g.symm,Zx⟩
      subst a;go_wp2_with (first|(go_region_with (fail))|fail)
      all_goals
       go_roundw
       case rel=>
        refine⟨c+1,Zm,by go_num,Zx,Zy (fun d e f hj t u=>?_)⟩;by_cases N:d=c
        . subst N;exact TG ((t.symm.trans h).trans (i.symm.trans u))
        . exact q d e f Zm t u
       case measure=>simp[intOf];omega
    . go_wp2;go_ret;exact⟨hQ (Tz (sj r q Zm)).symm,Zx⟩
 . have O:((l.length:Int)==m.length)=false:=SF.2 Zm;go_enter func128,ntmps128;go_wp2;go_ret;exact⟨hQ (SL (fun b=>k (congrArg List.length b))).symm,Zx⟩
theorem EH (w : World) (I J : Nat -> Prop) {v A: Value} {l m: List Tag} (b : SliceOf 2 kF w I v l) (r : SliceOf 2 kF w J A m) :Calls prog 195 #[v,A] w fun F N=>F=.returned (.bool (decide (l=m)))/\Ext w N:=by
 obtain⟨O,S,rfl,hn,aa⟩:=b.form;obtain⟨P,T,rfl,af,ae⟩:=r.form;by_cases j:l.length=m.length
 . have q := Zy j; have H : (l.length : Int) = m.length := by omega
   clear j;go_enter func195,ntmps195;go_wp2;go_loopw [13] (fun o wr=>∃c:Nat,c<=l.length/\o=.int .i64 c/\Ext w wr/\Zz (∀d e f,d<c->l[d]?=some e->m[d]?=some f->e=f)) (fun o _=>l.length - (intOf o).toNat)
   case atStart=>exact⟨0,SV _,rfl,Kp.rr,Zy Zm⟩
   case round =>
    obtain⟨c,hk,rfl,u,p⟩:=hrel;by_cases z:c<l.length
    . have K:c<m.length:=by rw[<-q.o];exact z
      obtain⟨e,k⟩:=get_some z;obtain⟨f,n⟩:=get_some K;obtain⟨Q,ag,U,rfl,Y,rfl,-,x⟩:=b.get k;obtain⟨R,ah,V,rfl,Z,rfl,-,y⟩:=r.get n;obtain⟨W,X⟩:=(x.ext u).two;obtain⟨q0,q1⟩:=(y.ext u).two;have⟨h,i⟩:=jf k n;clear k x n y;obtain⟨B,C⟩:=e;obtain⟨D,E⟩:=f;simp only at*;by_cases a:B=D;rotate_left
      . have g:Zz (decide (l=m)=false):=Zy (SL fun b=>a (by
         subst b;exact congrArg Tag.kind (TG (h.symm.trans i))))
        have L:(B==D)=false:=SF.2 a;clear a;go_wp2_with (first|(go_region_with (fail))|fail)
        all_goals
         go_ret;exact⟨hQ g.symm,Zx⟩
      subst a;by_cases a:C=E;rotate_left
      . have g:Zz (decide (l=m)=false):=Zy (SL fun b=>a (by
         subst b;exact congrArg Tag.name (TG (h.symm.trans i))))
        have L:(C.toList==E.toList)=false:=by rw[kI];exact SL a
        clear a;go_wp2_with (first|(go_region_with (fail))|fail)
        all_goals
         go_ret;exact⟨hQ g.symm,Zx⟩
      subst a;go_wp2_with (first|(go_region_with (fail))|fail)
      all_goals
       go_roundw
       case rel=>
        refine⟨c+1,Zm,by go_num,Zx,Zy (fun d e f hj s t=>?_)⟩;by_cases G:d=c
        . subst G;exact TG ((s.symm.trans h).trans (i.symm.trans t))
        . exact p d e f Zm s t
       case measure=>simp[intOf];omega
    . go_wp2;go_ret;exact⟨hQ (Tz (sj q p Zm)).symm,Zx⟩
 . have H:((l.length:Int)==m.length)=false:=SF.2 Zm;go_enter func195,ntmps195;go_wp2;go_ret;exact⟨hQ (SL (fun b=>j (congrArg List.length b))).symm,Zx⟩
theorem Lp (w : World) (I J : Nat -> Prop) {v B: Value} {l m: List Ins} (b : SliceOf 4 uN w I v l) (s : SliceOf 4 uN w J B m) :Calls prog 173 #[v,B] w fun N R=>N=.returned (.bool (decide (l=m)))/\Ext w R:=by
 obtain⟨S,W,rfl,hn,ae⟩:=b.form;obtain⟨T,X,rfl,ag,af⟩:=s.form;by_cases j:l.length=m.length
 . have r := Zy j; have P : (l.length : Int) = m.length := by omega
   clear j;go_enter func173,ntmps173;go_wp2;go_loopw [13] (fun o wr=>∃c:Nat,c<=l.length/\o=.int .i64 c/\Ext w wr/\Zz (∀e f g,e<c->l[e]?=some f->m[e]?=some g->f=g)) (fun o _=>l.length - (intOf o).toNat)
   case atStart=>exact⟨0,SV _,rfl,Kp.rr,Zy Zm⟩
   case round =>
    obtain⟨c,hk,rfl,x,q⟩:=hrel;by_cases A:c<l.length
    . have Q:c<m.length:=by rw[<-r.o];exact A
      obtain⟨f,k⟩:=get_some A;obtain⟨g,n⟩:=get_some Q;obtain⟨U,ah,Y,rfl,hI,rfl,-,y⟩:=b.get k;obtain⟨V,ai,Z,rfl,aa,rfl,-,z⟩:=s.get n;obtain⟨g0,g1,g2,g3⟩:=(y.ext x).four;obtain⟨q0,q1,q2,q3⟩:=(z.ext x).four;have⟨h,i⟩:=jf k n;clear k y n z;obtain⟨F,C,E,D⟩:=f;obtain⟨L,G,K,H⟩:=g;simp only at*;by_cases a:F=L;rotate_left
      . have d:Zz (decide (l=m)=false):=Zy (SL fun b=>a (by
         subst b;exact congrArg Ins.op (TG (h.symm.trans i))))
        have p:(F==L)=false:=SF.2 a;clear a;go_wp2_with (first|(go_region_with (fail))|fail)
        all_goals
         go_ret;exact⟨hQ d.symm,Zx⟩
      subst a;by_cases a:C=G;rotate_left
      . have d:Zz (decide (l=m)=false):=Zy (SL fun b=>a (by
         subst b;exact congrArg Ins.a (TG (h.symm.trans i))))
        have p:(C==G)=false:=SF.2 a;clear a;go_wp2_with (first|(go_region_with (fail))|fail)
        all_goals
         go_ret;exact⟨hQ d.symm,Zx⟩
      subst a;by_cases a:E=K;rotate_left
      . have d:Zz (decide (l=m)=false):=Zy (SL fun b=>a (by
         subst b;exact congrArg Ins.name (TG (h.symm.trans i))))
        have p:(E.toList==K.toList)=false:=by rw[kI];exact SL a
        clear a;go_wp2_with (first|(go_region_with (fail))|fail)
        all_goals
         go_ret;exact⟨hQ d.symm,Zx⟩
      subst a;by_cases a:D=H;rotate_left
      . have d:Zz (decide (l=m)=false):=Zy (SL fun b=>a (by
         subst b;exact congrArg Ins.member (TG (h.symm.trans i))))
        have p:(D.toList==H.toList)=false:=by rw[kI];exact SL a
        clear a;go_wp2_with (first|(go_region_with (fail))|fail)
        all_goals
         go_ret;exact⟨hQ d.symm,Zx⟩
      subst a;go_wp2_with (first|(go_region_with (fail))|fail)
      all_goals
       go_roundw
       case rel=>
        refine⟨c+1,Zm,by go_num,Zx,Zy (fun e f g hj t u=>?_)⟩;by_cases O:e=c
        . subst O;exact TG ((t.symm.trans h).trans (i.symm.trans u))
        . exact q e f g Zm t u
       case measure=>simp[intOf];omega
    . go_wp2;go_ret;exact⟨hQ (Tz (sj r q Zm)).symm,Zx⟩
 . have P:((l.length:Int)==m.length)=false:=SF.2 Zm;go_enter func173,ntmps173;go_wp2;go_ret;exact⟨hQ (SL (fun b=>j (congrArg List.length b))).symm,Zx⟩
theorem hZ.new'{g:Nat}(t:TypeId)(cs:Array Value)(a:W=g):hZ (W.alloc (.cells cs t)) g t cs:=by subst a;exact hZ.new _ _ _
theorem M.SMap.lD{a b:SMap}:a=b↔a.at_=b.at_/\a.locals=b.locals/\a.stack=b.stack:=by
 cases a;cases b;simp
instance:DecidableEq SMap:=fun _ _=>decidable_of_iff' _ SMap.lD
theorem M.Method.lD{a b:M.Method}:a=b↔a.name=b.name/\a.ret.kind=b.ret.kind/\a.ret.name=b.ret.name/\a.locals=b.locals/\a.stack=b.stack/\a.args=b.args/\a.code=b.code/\a.maps=b.maps:=by
 obtain⟨_,_,⟨_,_⟩,_,_,_,_⟩:=a;obtain⟨_,_,⟨_,_⟩,_,_,_,_⟩:=b;simp[and_assoc,and_comm,and_left_comm]
instance:DecidableEq M.Method:=fun _ _=>decidable_of_iff' _ M.Method.lD
theorem M.Class.lD{a b:Class}:a=b↔a.name=b.name/\a.jl=b.jl/\a.fields=b.fields/\a.methods=b.methods:=by
 cases a;cases b;simp
instance:DecidableEq Class:=fun _ _=>decidable_of_iff' _ Class.lD
theorem OH(x y:SMap):decide (x=y)=(decide (x.at_=y.at_)&&(decide (x.locals=y.locals)&&decide (x.stack=y.stack))):=by
 rw[UI];simp[SMap.lD]
theorem Oy{x y:SMap}(R:kM w I x cs)(S:kM w J y A):Calls prog 175 #[.agg cs.toArray,.agg A.toArray] w fun n Z=>n=.returned (.bool (decide (x=y)))/\Ext w Z:=by
 rw[OH];obtain⟨vl,vw,rfl,o,p⟩:=R;obtain⟨ul,uw,rfl,q,r⟩:=S;obtain⟨s,z,rfl,-,-⟩:=o.form;obtain⟨u,C,rfl,-,-⟩:=q.form;obtain⟨t,B,rfl,-,-⟩:=p.form;obtain⟨v,D,rfl,-,-⟩:=r.form;have P:=fun f (g:Ext w f)=>Zy (EH f I J (o.ext kF.stays g) (q.ext kF.stays g));have Q:=fun f (g:Ext w f)=>Zy (EH f I J (p.ext kF.stays g) (r.ext kF.stays g));obtain⟨j,i⟩:=SS ((w.alloc (.cells #[x.at_,.slice s x.locals.length z,.slice t x.stack.length B] 137)).alloc (.cells #[y.at_,.slice u y.locals.length C,.slice v y.stack.length D] 137));have E:Ext w j:=by rw[i];exact kx
 have l:hZ j w 137 #[x.at_,.slice s x.locals.length z,.slice t x.stack.length B]:=by rw[i];exact(hZ.new _ _ _).ext kx
 have m:hZ j (w+1) 137 #[y.at_,.slice u y.locals.length C,.slice v y.stack.length D]:=by rw[i];exact hZ.new' _ _ Zl
 obtain⟨K,F,G,H,-⟩:=l.ca;obtain⟨L,q0,q1,q2,-⟩:=m.ca;have⟨O,c,d,e⟩:=jU i E l m;clear i E l m o q p r;go_enter func175,ntmps175;go_upto_region 1 with(fail);rw[<-O.o];cases a:decide (x.at_=y.at_)
 . have n0:(x.at_==y.at_)=false:=by rw[<-a];rfl
   have D0:=Zy a;clear a;go_wp2;go_ret;exact⟨hQ (by rw[D0.o];rfl),c⟩
 have m0:(x.at_==y.at_)=true:=by rw[<-a];rfl
 have D0:=Zy a;clear a;go_wp2_with fail;refine(P _ c).o.mono ?_;rintro n w2 ⟨rfl,b⟩;have h:=c.trans b;obtain⟨z3,T,U,V,-⟩:=(d.ext b).ca;obtain⟨z4,W,X,Y,-⟩:=(e.ext b).ca;replace d:=Zy (d.ext b);replace e:=Zy (e.ext b);replace c:=Zy h;clear b h K L F q0 G q1 H q2;cases a:decide (x.locals=y.locals)
 . have k:=Zy a;clear a;go_wp2;go_ret;exact⟨hQ (by rw[D0.o,k.o];rfl),c⟩
 have k:=Zy a;clear a;go_wp2_with fail;refine(Q _ c).o.mono ?_;rintro n w3 ⟨rfl,b⟩;have h:=c.trans b;obtain⟨K,F,G,H,-⟩:=(d.ext b).ca;obtain⟨L,q0,q1,q2,-⟩:=(e.ext b).ca;replace d:=Zy (d.ext b);replace e:=Zy (e.ext b);replace c:=Zy h;clear b h z3 z4 T W U X V Y;cases a:decide (x.stack=y.stack)
 all_goals
  have N:=Zy a;clear a;go_wp2;go_ret;exact⟨hQ (by rw[D0.o,k.o,N.o];rfl),c⟩
theorem JR (w : World) (I J : Nat -> Prop) {v D: Value} {l m: List SMap} (a : SliceOf 3 kM w I v l) (t : SliceOf 3 kM w J D m) :Calls prog 174 #[v,D,.func (.func 175) #[] #[]] w fun s N=>s=.returned (.bool (decide (l=m)))/\Ext w N:=by
 obtain⟨O,S,rfl,hn,ae⟩:=a.form;obtain⟨P,T,rfl,ag,af⟩:=t.form;by_cases i:l.length=m.length
 . have p := Zy i; have K : (l.length : Int) = m.length := by omega
   clear i;go_enter func174,ntmps174;go_wp2;go_loopw [17] (fun n wr=>∃b:Nat,b<=l.length/\n=.int .i64 b/\Ext w wr/\Zz (∀c d e,c<b->l[c]?=some d->m[c]?=some e->d=e)) (fun n _=>l.length - (intOf n).toNat)
   case atStart=>exact⟨0,SV _,rfl,Kp.rr,Zy Zm⟩
   case round =>
    obtain⟨b,hk,rfl,u,o⟩:=hrel;by_cases z:b<l.length
    . have L:b<m.length:=by rw[<-p.o];exact z
      obtain⟨d,j⟩:=get_some z;obtain⟨e,k⟩:=get_some L;obtain⟨Q,ah,U,rfl,hI,A,-,x⟩:=(a.ext kM.stays u).get j;obtain⟨R,ai,V,rfl,aa,B,-,y⟩:=(t.ext kM.stays u).get k;have E:=Zy A;have F:=Zy B;obtain⟨t1,t2,t3,t4,rfl⟩:=A.form;obtain⟨t5,t6,t7,t8,rfl⟩:=B.form;obtain⟨G,W,X⟩:=x.three;obtain⟨q0,q1,q2⟩:=y.three;have Y:=jc G;have qz:=jc q0;have⟨q,r⟩:=jf j k;clear j x k y;cases C:decide (d=e)
      all_goals
       have f:=Zy C;clear C;go_wp2_with (go_at_call 175;refine(Oy (kM.stays _ _ _ _ _ _ (Ext.same Zx) (fun _ a=>a) E) (kM.stays _ _ _ _ _ _ (Ext.same Zx) (fun _ a=>a) F)).mono ?_;rintro s w1 ⟨rfl,Z⟩;rw[f.o])
      . go_ret;exact⟨hQ (SL (fun a=>of_decide_eq_false f (by subst a;exact TG (q.symm.trans r)))).symm,Zx⟩
      . go_roundw
        case rel=>
         refine⟨b+1,Zm,by go_num,Zx,Zy (fun c d e hj g h=>?_)⟩;by_cases H:c=b
         . subst H;rw[q.o]at g;rw[r.o]at h;cases g;cases h;exact Uo f
         . exact o c d e Zm g h
        case measure=>simp[intOf];omega
    . go_wp2;go_ret;exact⟨hQ (Tz (sj p o Zm)).symm,Zx⟩
 . have K:((l.length:Int)==m.length)=false:=SF.2 Zm;go_enter func174,ntmps174;go_wp2;go_ret;exact⟨hQ (SL (fun a=>i (congrArg List.length a))).symm,Zx⟩
theorem JS(x y:M.Method):decide (x=y)=(decide (x.name=y.name)&&(decide (x.ret.kind=y.ret.kind)&&(decide (x.ret.name=y.ret.name)&&(decide (x.locals=y.locals)&&(decide (x.stack=y.stack)&&(decide (x.args=y.args)&&(decide (x.code=y.code)&&decide (x.maps=y.maps)))))))):=by
 rw[UI];simp[M.Method.lD]
theorem I5{y: M.Method}(ag:jd w I x cs)(h':jd w J y Z):Calls prog 130 #[.agg cs.toArray,.agg Z.toArray] w fun p w'=>p=.returned (.bool (decide (x=y)))/\Ext w w':=by
 rw[JS];obtain⟨va,vi,vm,rfl,u,v,z⟩:=ag;obtain⟨ua,ui,um,rfl,A,B,C⟩:=h';obtain⟨Q,W,rfl,-,-⟩:=u.form;obtain⟨T,da,rfl,-,-⟩:=A.form;obtain⟨R,X,rfl,-,-⟩:=v.form;obtain⟨U,di,rfl,-,-⟩:=B.form;obtain⟨S,Y,rfl,-,-⟩:=z.form;obtain⟨V,dm,rfl,-,-⟩:=C.form;have Ha:=fun g (h:Ext w g)=>Zy (xW g I J (u.ext nC.stays h) (A.ext nC.stays h));have Hi:=fun g (h:Ext w g)=>Zy (Lp g I J (v.ext uN.stays h) (B.ext uN.stays h));have Hm:=fun g (h:Ext w g)=>Zy (JR g I J (z.ext kM.stays h) (C.ext kM.stays h));obtain⟨n,m⟩:=SS ((w.alloc (.cells #[x.name,.slice Q x.args.length W,x.ret.kind,x.ret.name,x.locals,x.stack,.slice R x.code.length X,.slice S x.maps.length Y] 132)).alloc (.cells #[y.name,.slice T y.args.length da,y.ret.kind,y.ret.name,y.locals,y.stack,.slice U y.code.length di,.slice V y.maps.length dm] 132));have ae:Ext w n:=by rw[m];exact kx
 have s:hZ n w 132 #[x.name,.slice Q x.args.length W,x.ret.kind,x.ret.name,x.locals,x.stack,.slice R x.code.length X,.slice S x.maps.length Y]:=by rw[m];exact(hZ.new _ _ _).ext kx
 have t:hZ n (w+1) 132 #[y.name,.slice T y.args.length da,y.ret.kind,y.ret.name,y.locals,y.stack,.slice U y.code.length di,.slice V y.maps.length dm]:=by rw[m];exact hZ.new' _ _ Zl
 obtain⟨O,D,E,F,G,H,K,L,N,-⟩:=s.ca;obtain⟨P,q0,q1,q2,q3,q4,q5,q6,q7,-⟩:=t.ca;have⟨af,c,d,e⟩:=jU m ae s t;clear m ae s t u A v B z C;go_enter func130,ntmps130;go_upto_region 1 with(fail);rw[<-af.o];cases a:decide (x.name=y.name)
 . have q:(x.name.toList==y.name.toList)=false:=by rw[kI];exact a
   have D0:=Zy a;clear a;go_wp2;go_ret;exact⟨hQ (by rw[D0.o];rfl),c⟩
 have m0:(x.name.toList==y.name.toList)=true:=by rw[kI];exact a
 have D0:=Zy a;clear a;cases a:decide (x.ret.kind=y.ret.kind)
 . have q:(x.ret.kind==y.ret.kind)=false:=by rw[<-a];rfl
   have f:=Zy a;clear a;go_wp2;go_ret;exact⟨hQ (by rw[D0.o,f.o];rfl),c⟩
 have m1:(x.ret.kind==y.ret.kind)=true:=by rw[<-a];rfl
 have f:=Zy a;clear a;cases a:decide (x.ret.name=y.ret.name)
 . have q:(x.ret.name.toList==y.ret.name.toList)=false:=by rw[kI];exact a
   have j:=Zy a;clear a;go_wp2;go_ret;exact⟨hQ (by rw[D0.o,f.o,j.o];rfl),c⟩
 have m2:(x.ret.name.toList==y.ret.name.toList)=true:=by rw[kI];exact a
 have j:=Zy a;clear a;cases a:decide (x.locals=y.locals)
 . have q:(x.locals==y.locals)=false:=by rw[<-a];rfl
   have k:=Zy a;clear a;go_wp2;go_ret;exact⟨hQ (by rw[D0.o,f.o,j.o,k.o];rfl),c⟩
 have m3:(x.locals==y.locals)=true:=by rw[<-a];rfl
 have k:=Zy a;clear a;cases a:decide (x.stack=y.stack)
 . have q:(x.stack==y.stack)=false:=by rw[<-a];rfl
   have l:=Zy a;clear a;go_wp2;go_ret;exact⟨hQ (by rw[D0.o,f.o,j.o,k.o,l.o];rfl),c⟩
 have m4:(x.stack==y.stack)=true:=by rw[<-a];rfl
 have l:=Zy a;clear a;go_wp2_with fail;refine(Ha _ c).o.mono ?_;rintro p w6 ⟨rfl,b⟩;have i:=c.trans b;obtain⟨z3,r0,r1,r2,r3,r4,r5,r6,r7,-⟩:=(d.ext b).ca;obtain⟨z4,s0,s1,s2,s3,s4,s5,s6,s7,-⟩:=(e.ext b).ca;replace d:=Zy (d.ext b);replace e:=Zy (e.ext b);replace c:=Zy i;clear b i O P D q0 E q1 F q2 G q3 H q4 K q5 L q6 N q7;cases a:decide (x.args=y.args)
 . have o:=Zy a;clear a;go_wp2;go_ret;exact⟨hQ (by rw[D0.o,f.o,j.o,k.o,l.o,o.o];rfl),c⟩
 have o:=Zy a;clear a;go_wp2_with fail;refine(Hi _ c).o.mono ?_;rintro p w7 ⟨rfl,b⟩;have i:=c.trans b;obtain⟨O,D,E,F,G,H,K,L,N,-⟩:=(d.ext b).ca;obtain⟨P,q0,q1,q2,q3,q4,q5,q6,q7,-⟩:=(e.ext b).ca;replace d:=Zy (d.ext b);replace e:=Zy (e.ext b);replace c:=Zy i;clear b i z3 z4 r0 s0 r1 s1 r2 s2 r3 s3 r4 s4 r5 s5 r6 s6 r7 s7;cases a:decide (x.code=y.code)
 . have r:=Zy a;clear a;go_wp2;go_ret;exact⟨hQ (by rw[D0.o,f.o,j.o,k.o,l.o,o.o,r.o];rfl),c⟩
 have r:=Zy a;clear a;go_wp2_with fail;refine(Hm _ c).o.mono ?_;rintro p w8 ⟨rfl,b⟩;have i:=c.trans b;obtain⟨z3,r0,r1,r2,r3,r4,r5,r6,r7,-⟩:=(d.ext b).ca;obtain⟨z4,s0,s1,s2,s3,s4,s5,s6,s7,-⟩:=(e.ext b).ca;replace d:=Zy (d.ext b);replace e:=Zy (e.ext b);replace c:=Zy i;clear b i O P D q0 E q1 F q2 G q3 H q4 K q5 L q6 N q7;cases a:decide (x.maps=y.maps)
 all_goals
  have D7:=Zy a;clear a;go_wp2;go_ret;exact⟨hQ (by rw[D0.o,f.o,j.o,k.o,l.o,o.o,r.o,D7.o];rfl),c⟩
theorem Fg (w : World) (I J : Nat -> Prop) {v D: Value} {l m: List M.Method} (a : SliceOf 8 jd w I v l) (t : SliceOf 8 jd w J D m) :Calls prog 129 #[v,D,.func (.func 130) #[] #[]] w fun s N=>s=.returned (.bool (decide (l=m)))/\Ext w N:=by
 obtain⟨O,S,rfl,hn,ae⟩:=a.form;obtain⟨P,T,rfl,ag,af⟩:=t.form;by_cases i:l.length=m.length
 . have p := Zy i; have K : (l.length : Int) = m.length := by omega
   clear i;go_enter func129,ntmps129;go_wp2;go_loopw [17] (fun n wr=>∃b:Nat,b<=l.length/\n=.int .i64 b/\Ext w wr/\Zz (∀c d e,c<b->l[c]?=some d->m[c]?=some e->d=e)) (fun n _=>l.length - (intOf n).toNat)
   case atStart=>exact⟨0,SV _,rfl,Kp.rr,Zy Zm⟩
   case round =>
    obtain⟨b,hk,rfl,u,o⟩:=hrel;by_cases z:b<l.length
    . have L:b<m.length:=by rw[<-p.o];exact z
      obtain⟨d,j⟩:=get_some z;obtain⟨e,k⟩:=get_some L;obtain⟨Q,ah,U,rfl,hI,A,-,x⟩:=(a.ext jd.stays u).get j;obtain⟨R,ai,V,rfl,aa,B,-,y⟩:=(t.ext jd.stays u).get k;have E:=Zy A;have F:=Zy B;obtain⟨t1,t2,t3,t4,t5,t6,rfl⟩:=A.form;obtain⟨s1,s2,s3,s4,s5,s6,rfl⟩:=B.form;obtain⟨G,W,X,Y,Z,g5,g6,g7⟩:=x.eight;obtain⟨q0,q1,q2,q3,q4,q5,q6,q7⟩:=y.eight;have gz:=jc G;have qz:=jc q0;have⟨q,r⟩:=jf j k;clear j x k y;cases C:decide (d=e)
      all_goals
       have f:=Zy C;clear C;go_wp2_with (go_at_call 130;refine(I5 (jd.stays _ _ _ _ _ _ (Ext.same Zx) (fun _ a=>a) E) (jd.stays _ _ _ _ _ _ (Ext.same Zx) (fun _ a=>a) F)).mono ?_;rintro s w1 ⟨rfl,hB⟩;rw[f.o])
      . go_ret;exact⟨hQ (SL (fun a=>of_decide_eq_false f (by subst a;exact TG (q.symm.trans r)))).symm,Zx⟩
      . go_roundw
        case rel=>
         refine⟨b+1,Zm,by go_num,Zx,Zy (fun c d e hj g h=>?_)⟩;by_cases H:c=b
         . subst H;rw[q.o]at g;rw[r.o]at h;cases g;cases h;exact Uo f
         . exact o c d e Zm g h
        case measure=>simp[intOf];omega
    . go_wp2;go_ret;exact⟨hQ (Tz (sj p o Zm)).symm,Zx⟩
 . have K:((l.length:Int)==m.length)=false:=SF.2 Zm;go_enter func129,ntmps129;go_wp2;go_ret;exact⟨hQ (SL (fun a=>i (congrArg List.length a))).symm,Zx⟩
theorem K7(x y:Class):decide (x=y)=(decide (x.name=y.name)&&(decide (x.jl=y.jl)&&(decide (x.fields=y.fields)&&decide (x.methods=y.methods)))):=by
 rw[UI];simp[Class.lD]
theorem Es(w:World){I J:Nat->Prop}(x y:Class){cs C:List Value}(T:jh w I x cs)(U:jh w J y C):Calls prog 79 #[.agg cs.toArray,.agg C.toArray] w fun o w'=>o=.returned (.bool (decide (x=y)))/\Ext w w':=by
 rw[K7];obtain⟨vf,vm,rfl,p,q⟩:=T;obtain⟨uf,um,rfl,r,s⟩:=U;obtain⟨t,A,rfl,-,-⟩:=p.form;obtain⟨v,D,rfl,-,-⟩:=r.form;obtain⟨u,B,rfl,-,-⟩:=q.form;obtain⟨z,E,rfl,-,-⟩:=s.form;have R:=fun f (g:Ext w f)=>Zy (Gp f I J (p.ext lv.stays g) (r.ext lv.stays g));have S:=fun f (g:Ext w f)=>Zy (Fg f I J (q.ext jd.stays g) (s.ext jd.stays g));obtain⟨j,i⟩:=SS ((w.alloc (.cells #[x.name,x.jl,.slice t x.fields.length A,.slice u x.methods.length B] 47)).alloc (.cells #[y.name,y.jl,.slice v y.fields.length D,.slice z y.methods.length E] 47));have F:Ext w j:=by rw[i];exact kx
 have m:hZ j w 47 #[x.name,x.jl,.slice t x.fields.length A,.slice u x.methods.length B]:=by rw[i];exact(hZ.new _ _ _).ext kx
 have n:hZ j (w+1) 47 #[y.name,y.jl,.slice v y.fields.length D,.slice z y.methods.length E]:=by rw[i];exact hZ.new' _ _ Zl
 obtain⟨N,G,H,K,L,-⟩:=m.ca;obtain⟨O,q0,q1,q2,q3,-⟩:=n.ca;have⟨Q,c,d,e⟩:=jU i F m n;clear i F m n p r q s;go_enter func79,ntmps79;go_upto_region 1 with(fail);rw[<-Q.o];cases a:decide (x.name=y.name)
 . have V:(x.name.toList==y.name.toList)=false:=by rw[kI];exact a
   have D0:=Zy a;clear a;go_wp2;go_ret;exact⟨hQ (by rw[D0.o];rfl),c⟩
 have m0:(x.name.toList==y.name.toList)=true:=by rw[kI];exact a
 have D0:=Zy a;clear a;cases a:decide (x.jl=y.jl)
 . have V:(x.jl.toList==y.jl.toList)=false:=by rw[kI];exact a
   have k:=Zy a;clear a;go_wp2;go_ret;exact⟨hQ (by rw[D0.o,k.o];rfl),c⟩
 have m1:(x.jl.toList==y.jl.toList)=true:=by rw[kI];exact a
 have k:=Zy a;clear a;go_wp2_with fail;refine(R _ c).o.mono ?_;rintro o w3 ⟨rfl,b⟩;have h:=c.trans b;obtain⟨z3,W,X,Y,Z,-⟩:=(d.ext b).ca;obtain⟨z4,s0,s1,s2,s3,-⟩:=(e.ext b).ca;replace d:=Zy (d.ext b);replace e:=Zy (e.ext b);replace c:=Zy h;clear b h N O G q0 H q1 K q2 L q3;cases a:decide (x.fields=y.fields)
 . have l:=Zy a;clear a;go_wp2;go_ret;exact⟨hQ (by rw[D0.o,k.o,l.o];rfl),c⟩
 have l:=Zy a;clear a;go_wp2_with fail;refine(S _ c).o.mono ?_;rintro o w4 ⟨rfl,b⟩;have h:=c.trans b;obtain⟨N,G,H,K,L,-⟩:=(d.ext b).ca;obtain⟨O,q0,q1,q2,q3,-⟩:=(e.ext b).ca;replace d:=Zy (d.ext b);replace e:=Zy (e.ext b);replace c:=Zy h;clear b h z3 z4 W s0 X s1 Y s2 Z s3;cases a:decide (x.methods=y.methods)
 all_goals
  have P:=Zy a;clear a;go_wp2;go_ret;exact⟨hQ (by rw[D0.o,k.o,l.o,P.o];rfl),c⟩
end Go.Proofs.YtlhgbjbkjalfjaaGreat
