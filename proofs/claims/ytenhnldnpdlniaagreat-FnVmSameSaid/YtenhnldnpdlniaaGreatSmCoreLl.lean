/- Walks. -/
import Derived.Test.YtenhnldnpdlniaaGreatSmCoreLj
set_option maxRecDepth 100000
set_option maxHeartbeats 4000000
set_option linter.all false
namespace Go.Proofs.YtenhnldnpdlniaaGreat
open Go Go.RowKit Tryz M
variable {xs: List Value}{c k n: Nat}{v: Value}{w: World}{p: jl}
attribute [local go_sem] Oper.semAt_some
def wX(r:Ref):List Value:=[.int .i64 r.keeper,.string r.name]
theorem KF:∀(f:Nat)(b:List Ref)(r:Ref),(∀a,items p (b.length+a) r=b.map some)->b.length<=f->ku p f r=some b:=by
 intro f;induction f with
 |zero=>
  intro b r d j;have k:b=[]:=Us.1 Zm;subst k;have:=d 1;simp[items]at this
 | succ f l =>
  intro b r d j;cases b with
  |nil=>have:=d 1;simp[items]at this
  | cons h c =>
   have m:=d;have g:∀a,(if jE p r=none_ then []else if(M.resolve p r.keeper (jE p r)).2=1 then items p (c.length+a) (M.resolve p r.keeper (jE p r)).1 else [none])=c.map some/\h=r:=by
    intro a;have:=d a;rw[TL,show c.length+1+a=(c.length+a)+1 from by omega]at this;simp only[items,Ur,U2,TQ]at this;exact⟨this.2,this.1.symm⟩
   obtain rfl:=(g 0).2;unfold ku;by_cases e:jE p h=none_
   . rw[Ty e];have:=(g 0).1;rw[Ty e]at this;have:c=[]:=by
      cases c with
      |nil=>rfl
      |cons _ _=>simp at this
     rw[this]
   . rw[T9 e];by_cases i:(M.resolve p h.keeper (jE p h)).2=1
     . rw[Ty i,l c _ (fun a=>by have:=(g a).1;rw[T9 e,Ty i]at this;exact this) (by simpa using j)];rfl
     . have:=(g 0).1;rw[T9 e,T9 i]at this;cases c<;>simp at this
def Rc(pre:List (Option Ref)):Prop:=(∃refs:List Ref,pre=refs.map some++[none])\/(∃refs:List Ref,pre=refs.map some/\refs.length=7)
theorem Gw : ∀ (f : Nat) (c : List Ref) (t : List (Option Ref)) (r : Ref) (n : Nat), items p n r = c.map some ++ t -> (t.head? = some none \/ f < c.length) -> ku p f r = none := by
 intro f;induction f with
 |zero=>intro c t r n _ _;rfl
 | succ f i =>
  intro c t r n b a;cases n with
  |zero=>
   simp only[items]at b;cases c with
   | nil => rcases a with a | a
            . simp at b;rw[b]at a;simp at a
            . simp at a
   |cons _ _=>simp at b
  | succ n =>
   cases c with
   |nil=>
    simp only[items,Vb,TZ]at b;rcases a with a|a
    . rw[<-b]at a;simp at a
    . simp at a
   |cons k j=>
    simp only[items,Ur,TR,U2,TQ]at b;obtain⟨rfl,d⟩:=b;unfold ku;by_cases h:jE p r=none_
    . rw[Ty h]at d;have e:=congrArg List.length d;rcases a with a|a
      . cases t with
        |nil=>simp at a
        |cons _ _=>simp at e
      . simp at e;simp at a;omega
    . rw[T9 h]at d |-;by_cases g:(M.resolve p r.keeper (jE p r)).2=1
      . rw[Ty g]at d |-;rw[i j t _ n d (a.imp id fun b=>by simpa using b)];rfl
      . rw[T9 g]
theorem KQ{base: Nat}(d:w.ownsRow base c k v n xs){b:Nat}(a:v.ownBlock=some b):base<=b:=by
 rcases d.2 with⟨rfl,_⟩|⟨h,f,g,rfl,e,_⟩
 . cases a
 . cases a;exact e
theorem KR{base: Nat}(d:w.ownsRow base c k v n xs):∃a b,v=.slice a n b:=by
 rcases d.2 with⟨rfl,e⟩|⟨h,f,g,rfl,i,_⟩
 . exact⟨none,0,by rw[e]⟩
 . exact⟨_,_,rfl⟩
def NV(w W0:World)(B4 B5 B6:Nat)(pre:List (Option Ref))(W:World):Prop:=∃(refs:List Ref)(v:Value),pre=refs.map some/\refs.length<=6/\jq W B6 80 #[v]/\W.ownsRow (W0.heap.size+2) 64 2 v refs.length (refs.flatMap wX)/\jq W B4 80 #[.slice none 0 0]/\jq W B5 4 #[.bool false]/\Ext w W
def Re(w:World)(B4 B5:Nat)(c:Code)(pre:List (Option Ref))(W:World):Prop:=c=.ret/\Rc pre/\jq W B4 80 #[.slice none 0 0]/\jq W B5 4 #[.bool false]/\Ext w W
def Gb(x:Option Ref):Ref:=x.getD q9
theorem Kw(x:Option Ref):AL x=#[.agg #[.int .i64 (Gb x).keeper,.string (Gb x).name],.bool x.isSome]:=by cases x<;>rfl
theorem CG{l:jB}(F:jD w l p){r:Ref}(aT:∃ax,cls? p r=some ax):Calls prog 93 #[some l.L,.agg #[r.keeper,r.name]] w fun aI w'=>(∃e,aI=.returned (.tuple #[e,.bool (nk p r).isSome])/\SliceOf 2 qN w' (fun au=>w<=au) e ((nk p r).getD []))/\Ext w w':=by
 have bf:=F.lt;have aP:=Zy F;clear F;refine(Ut (n:=10)).1 ?_;refine callsIn_of_wp_marks func93 rfl trivial ?_ rfl;simp only[ntmps93,UE,TL,U8,Nat.reduceAdd,Nat.reduceSub,Un,Um,UR,Uf,TZ,TR];gi_wp2_with fail;refine⟨trivial,?_⟩;refine(Ut.2 (Jg)).mono ?_;rintro aI w1 ⟨rfl,aU⟩;gi_wp2_with fail;have b3:=jq.new w 64 #[r.keeper,r.name];have K:=jq.new (w.alloc (.cells #[r.keeper,r.name] 64)) 80 #[()];have H:=jq.new ((w.alloc (.cells #[r.keeper,r.name] 64)).alloc (.cells #[()] 80)) 4 #[.bool false];have D:=jq.new (((w.alloc (.cells #[r.keeper,r.name] 64)).alloc (.cells #[()] 80)).alloc (.cells #[.bool false] 4)) 80 #[()];have B:=jq.new ((((w.alloc (.cells #[r.keeper,r.name] 64)).alloc (.cells #[()] 80)).alloc (.cells #[.bool false] 4)).alloc (.cells #[()] 80)) 58 #[some l.L];have E:=jq.new (((((w.alloc (.cells #[r.keeper,r.name] 64)).alloc (.cells #[()] 80)).alloc (.cells #[.bool false] 4)).alloc (.cells #[()] 80)).alloc (.cells #[some l.L] 58)) 64 #[r.keeper,r.name];replace K:=K.ext (((jJ (.cells #[.bool false] 4)).alloc (.cells #[()] 80)).alloc (.cells #[some l.L] 58)|>.alloc (.cells #[r.keeper,r.name] 64));replace H:=H.ext ((jJ (.cells #[()] 80)).alloc (.cells #[some l.L] 58)|>.alloc (.cells #[r.keeper,r.name] 64));replace D:=D.ext ((jJ (.cells #[some l.L] 58))|>.alloc (.cells #[r.keeper,r.name] 64));replace B:=B.ext (jJ (.cells #[r.keeper,r.name] 64));clear b3;have aJ:Ext w ((((((w.alloc (.cells #[r.keeper,r.name] 64)).alloc (.cells #[()] 80)).alloc (.cells #[.bool false] 4)).alloc (.cells #[()] 80)).alloc (.cells #[some l.L] 58)).alloc (.cells #[r.keeper,r.name] 64)):=kx;have ak:((((((w.alloc (.cells #[r.keeper,r.name] 64)).alloc (.cells #[()] 80)).alloc (.cells #[.bool false] 4)).alloc (.cells #[()] 80)).alloc (.cells #[some l.L] 58)).alloc (.cells #[r.keeper,r.name] 64)).heap.size=w+6:=by simp
 generalize ((((((w.alloc (.cells #[r.keeper,r.name] 64)).alloc (.cells #[()] 80)).alloc (.cells #[.bool false] 4)).alloc (.cells #[()] 80)).alloc (.cells #[some l.L] 58)).alloc (.cells #[r.keeper,r.name] 64))=W0 at*;simp only[Tp]at K H D B E;obtain⟨b,ay⟩:∃b,b=w.heap.size+1:=⟨_,rfl⟩;rw[<-ay]at K H D B E |-;obtain⟨c,az⟩:∃c,c=b+1:=⟨_,rfl⟩;rw[<-az]at H D B E |-;obtain⟨i,ae⟩:∃i,i=c+1:=⟨_,rfl⟩;rw[<-ae]at D B E |-;obtain⟨W,aA⟩:∃W,W=i+1:=⟨_,rfl⟩;rw[<-aA]at B E |-;obtain⟨J,aB⟩:∃J,J=W+1:=⟨_,rfl⟩;rw[<-aB]at E |-;clear aU;have y:=Zy (Tm ay (Tm az (Tm ae (Tm aA (Tm aB ak)))));have bq:b≠i:=Zm
 have bn:b≠c:=Zm
 have bu:c≠i:=Zm
 have aQ:=Zy (aP.ext aJ);have g0:W0.heap.size=J+1:=Zm
 have k:=Zy g0;clear ay az ae aA aB ak g0;refine ER (gf:=173) (lb:=#[.pointer (some ⟨J,0,none⟩),.pointer (some ⟨W,0,none⟩)]) (α:=Option Ref) rfl (enters_of func173 Zo rfl) (encs:=AL)
  (fun j=>by cases j<;>rfl) (Bb:=fun a=>a=b\/a=c\/a=i\/W0+2<=a)
  (Kc l p r J W ?hBd ?hRL ?hR 6 aT) ?hIt ?hD1 ?hD2 ?hB1 ?hB2
  (NV w W0 b c i) (Re w b c) ?hI ?hIx ?h0 ?hIB
  (fun ah j g a₁ W₁=>NV w W0 b c i ah g/\
   (W0:Nat)+1<(g:Nat)/\W₁=g.alloc (.cells #[.int .i64 (Gb j).keeper,.string (Gb j).name] 64)/\
   a₁={tmps:=#[some l.L,.agg #[r.keeper,r.name],undef,some w,.pointer (some ⟨b,0,none⟩),.pointer (some ⟨c,0,none⟩),.pointer (some ⟨i,0,none⟩),some g,.bool j.isSome,
    some l.L,.agg #[r.keeper,r.name],.func (.func 173) #[] #[.pointer (some ⟨J,0,none⟩),.pointer (some ⟨W,0,none⟩)],.agg #[.int .i64 (Gb j).keeper,.string (Gb j).name],.bool j.isSome,
    undef,undef,undef,undef,undef,undef,undef,undef,undef,undef,undef,undef],defers:=[]}) ?hassign ?hAx ?hbody ?hdone ?hstop
 case hBd=>
  obtain⟨q,s,t,u,v,h⟩:=y.o;have x:=k.o;intro a f;have bg:(a=b\/a=c\/a=i\/W0+2<=a)\/a=W0+1:=f;omega
 case hRL=>obtain⟨q,s,t,u,v,h⟩:=y.o;have x:=k.o;omega
 case hR=>obtain⟨q,s,t,u,v,h⟩:=y.o;have x:=k.o;omega
 case hIt=>exact fun g hW=>⟨aQ.ext hW,E.ext hW,B.ext hW⟩
 case hD1=>have:=k.o;show¬W0.heap.size=J;omega
 case hD2=>have:=k.o;show¬W0.heap.size+1=J;omega
 case hB1=>obtain⟨q,s,t,u,v,h⟩:=y.o;have x:=k.o;show¬(W0.heap.size=b\/W0.heap.size=c\/W0.heap.size=i\/(W0:Nat)+2<=(W0:Nat));omega
 case hB2=>obtain⟨q,s,t,u,v,h⟩:=y.o;have x:=k.o;show¬(W0.heap.size+1=b\/W0.heap.size+1=c\/W0.heap.size+1=i\/(W0:Nat)+2<=(W0:Nat)+1);omega
 case hI=>
  obtain⟨q,s,t,u,v,h⟩:=y.o;have x:=k.o;rintro aN aG aO ⟨d,e,T,O,P,Q,m,o,z⟩ f;exact⟨d,e,T,O,P.kp f Zm,jr Q f (fun aa _ U=>Zm),m.kp f Zm,o.kp f Zm,z.own f (fun a f=>Zm)⟩
 case hIx=>
  obtain⟨q,s,t,u,v,h⟩:=y.o;have x:=k.o;rintro ax aN aG aO ⟨T,O,m,o,z⟩ f;exact⟨T,O,m.kp f Zm,o.kp f Zm,z.own f (fun a f=>Zm)⟩
 case h0=>exact⟨[],(),rfl,Zl,D,Uw _ _ _ _,K,H,aJ⟩
 case hIB=>
  rintro aN aG ⟨d,e,rfl,O,_⟩;simpa using O
 case hassign=>
  intro ah j g aX _ hi aS R;rw[Kw];gi_wp2
 case hAx=>
  rintro ah j g a₁ W₁ ⟨_,_,rfl,_⟩;exact((Kp.refl _ g).alloc _)
 case hbody=>
  rintro ah j g a₁ W₁ G ⟨⟨d,e,T,O,P,Q,m,o,z⟩,aS,rfl,rfl⟩ V aD;obtain⟨q,s,t,u,v,h⟩:=y.o;have x:=k.o;have c3:=(P.ext (jJ _)).kp V Zm;have c5:=(m.ext (jJ _)).kp V Zm;have c6:=(o.ext (jJ _)).kp V Zm;have c4:=jr (jr Q ((Kp.refl (fun _=>False) g).alloc (.cells #[.int .i64 (Gb j).keeper,.string (Gb j).name] 64)) (fun _ _ _ F=>F)) V (fun aa _ U=>Zm);have c7:=(z.alloc _).own V (fun a f=>Zm);have cb:=(jq.new g 64 #[.int .i64 (Gb j).keeper,.string (Gb j).name]).kp V Zm;simp only[Tp]at aD;have C:=Zy (Tm c3 (Tm c4 (Tm c5 (Tm c6 (Tm c7 cb)))));have k3:=c3.c 0 e rfl;have f3:=c3.frozen 0;have k5:=c5.c 0 () rfl;have f5:=c5.frozen 0;have k6:=c6.c 0 (.bool false) rfl;have f6:=c6.frozen 0;obtain⟨aR,aV,aW,-⟩:=cb.ca;have ae:i<G.heap.size:=c3.lt;have ak:=Zy aD;clear P Q m o z c3 c4 c5 c6 c7 cb V aD K H D B E q s t u v h x;have aC:∀(A e:Value),Kp (fun a=>a=b\/a=c\/a=i\/W0+2<=a) G ((G.setCell ⟨b,0,none⟩ A).setCell ⟨c,0,none⟩ e):=fun A e=>
   ((Kp.refl _ G).setCell (p:=⟨b,0,none⟩) (fun _=>.inl rfl) A).setCell (p:=⟨c,0,none⟩) (fun _=>.inr (.inl rfl)) e
  have aL:∀(A e:Value),jq ((G.setCell ⟨b,0,none⟩ A).setCell ⟨c,0,none⟩ e) b 80 #[A]/\jq ((G.setCell ⟨b,0,none⟩ A).setCell ⟨c,0,none⟩ e) c 4 #[e]/\Ext w ((G.setCell ⟨b,0,none⟩ A).setCell ⟨c,0,none⟩ e):=fun A e=>by
   obtain⟨q,s,t,u,v,h⟩:=y.o;have x:=k.o;refine⟨?_,?_,C.2.2.2.2.1.own (aC A e) (fun a f=>Zm)⟩
   . exact(C.2.2.1.jR 0 A).kp ((Kp.refl (·=c) _).setCell (p:=⟨c,0,none⟩) (fun _=>rfl) e) Zm
   . exact(C.2.2.2.1.kp ((Kp.refl (·=b) _).setCell (p:=⟨b,0,none⟩) (fun _=>rfl) A) Zm).jR 0 e
  have X:=Zy (Tm aC aL);clear aC aL;cases j with
  |none=>
   gi_wp2;exact⟨X.1 _ _,rfl,.inl ⟨d,by rw[T]⟩,X.2 _ _⟩
  | some aF =>
   have hv:∃aH cp,e=.slice aH d.length cp:=by
    rcases C.o.2.1.2 with⟨rfl,h0⟩|⟨aa,aY,aZ,rfl,_⟩
    . exact⟨none,0,by rw[h0]⟩
    . exact⟨_,_,rfl⟩
   obtain⟨aH,cp,rfl⟩:=hv;by_cases h:d.length=6
   . have ai:((d.length:Int)==6)=true:=by simp[h]
     have H6:=Zy h;clear h;gi_wp2;exact⟨X.1 _ _,rfl,.inr ⟨d++[aF],by rw[T];simp,by simp[H6.o]⟩,X.2 _ _⟩
   . have ai:((d.length:Int)==6)=false:=SK.2 Zm;have H6:=Zy h;gi_wp2_with (gi_at_builtin;refine zP AB _ rfl _ _ rfl (W0+2) _ _ _ rfl (C.2.1.alloc _) G 1 (wX aF) rfl rfl ?c1 ?c2 ?c3 ?c4 ?_)
     case c1=>exact hQ.EJ (jq.new ..) _ rfl
     case c2=>simp[wX,Value.oneCell']
     case c3=>omega
     case c4=>have:=ak.o;simp only[Tp];omega
     intro v' w' aM R g' c' hv U hl;subst hv;have Z:=((Kp.refl _ G).alloc _).trans (R.weak fun a _ f=>KQ C.2.1 f);obtain⟨q,s,t,u,v,ai⟩:=y.o;have x:=k.o;have L:=C.1.kp Z Zm;have Y:=C.2.2.1.kp Z Zm;have N:=C.2.2.2.1.kp Z Zm;have I:=C.2.2.2.2.1.own Z (fun a f=>Zm);obtain⟨qz,q3,-⟩:=L.ca;have qf:=L.frozen 0;have⟨HD,HG⟩:=jw (Tm L (Tm Y (Tm N (Tm I (Tm aM Z))))) (Tm U hl);clear L Y N I q s t u v ai x aM R Z U hl k3 f3 k5 f5 k6 f6 aV aW ae aR h;gi_wp2;have ag:Kp (·=i) w' (w'.setCell ⟨i,0,none⟩ (g',d.length+1,c')):=qM;obtain⟨q,s,t,u,v,ai⟩:=y.o;have x:=k.o;obtain⟨L,Y,N,I,d8,d9⟩:=HD.o;refine⟨(d9.weak fun _ _ F=>.inr (.inr (.inr F))).trans (ag.weak fun _ _ F=>.inr (.inr (.inl F))),d++[aF],_,by rw[T];simp,by have:=H6.o;simp;omega,L.jR 0 _,?_,Y.kp ag Zm,N.kp ag Zm,I.own ag (fun a f=>Zm)⟩;have:=jr d8 ag (fun aa _ U=>Zm);simpa using this
 case hdone=>
  rintro xs g hS ⟨d,e,rfl,O,P,Q,m,o,z⟩ R;have k3:=P.c 0 e rfl;obtain⟨z5,k5,-⟩:=m.ca;have f5:=m.frozen 0;obtain⟨z6,k6,-⟩:=o.ca;have f6:=o.frozen 0;have⟨HD,X⟩:=jw (Tm P (Tm Q (Tm m (Tm o z)))) hS;have hv:=KR Q;clear P Q m o z hS K H D B E;obtain⟨av,cv,rfl⟩:=hv;simp only[Exit.inBlock,Exit.then];gi_wp2;obtain⟨q,s,t,u,v,h⟩:=y.o;have x:=k.o;obtain⟨L,Y,N,d6,I⟩:=HD.o;have aj:Kp (fun a=>a=b\/a=c) g ((g.setCell ⟨b,0,none⟩ (.slice av d.length cv)).setCell ⟨c,0,none⟩ (.bool true)):=
   ((Kp.refl (fun a=>a=b\/a=c) g).setCell (p:=⟨b,0,none⟩) (fun _=>.inl rfl) _).setCell (p:=⟨c,0,none⟩) (fun _=>.inr rfl) _
  have g5:=(N.jR 0 (.slice av d.length cv)).kp ((Kp.refl (·=c) _).setCell (p:=⟨c,0,none⟩) (fun _=>rfl) (.bool true)) Zm;have g6:=(d6.kp ((Kp.refl (·=b) g).setCell (p:=⟨b,0,none⟩) (fun _=>rfl) (.slice av d.length cv)) Zm).jR 0 (.bool true);have aK:=(aj.block W0 (by have:=I.size;have:=L.lt;exact(TW.1 R).1) Zm).trans R;generalize (g.setCell ⟨b,0,none⟩ (.slice av d.length cv)).setCell ⟨c,0,none⟩ (.bool true)=W5 at aj g5 g6 aK |-;refine⟨Zl,.inl ⟨_,_,rfl,run_takeDeferred aK,?_⟩⟩;have S:=Kp.putObj W5 W0 (.deferred none);have m5:=(g5.kp S Zm).c 0 _ rfl;have m6:=(g6.kp S Zm).c 0 _ rfl;have af:nk p r=some d:=KF 6 d r (fun n=>by have:=X.o n;rwa[UJ]at this) O;refine⟨.tuple #[.slice av d.length cv,.bool true],?_,⟨_,by rw[af];rfl,?_⟩,?_⟩
  . simp[results,Tryz.f93,go_sem,m5,m6]
  . rw[af];refine SliceOf.mD wX (jr (jr Y aj (fun aa _ U=>Zm)) S (fun aa _ U=>Zm)) rfl rfl (fun _ _=>rfl) (fun _ _=>rfl) (fun au F h'=>by show w.heap.size<=au;omega) (by show d.length<=_;omega)
  . exact(I.own aj (fun a f=>Zm)).own S (fun a f=>Zm)
 case hstop=>
  rintro ax ah g hS ⟨rfl,hb,m,o,z⟩ R;have HD:=Zy (Tm m (Tm o z));clear m o z K H D B E;gi_wp2;obtain⟨q,s,t,u,v,h⟩:=y.o;have x:=k.o;obtain⟨N,d6,I⟩:=HD.o;refine⟨Zl,.inl ⟨_,_,rfl,run_takeDeferred R,?_⟩⟩;have S:=Kp.putObj g W0 (.deferred none);have m5:=(N.kp S Zm).c 0 _ rfl;have m6:=(d6.kp S Zm).c 0 _ rfl;obtain⟨n,bz,hit⟩:=hS;have af:nk p r=none:=by
   rcases hb with⟨d,rfl⟩|⟨d,rfl,hl⟩
   . exact Gw 6 d _ r n (by rw[hit,TG]) (.inl rfl)
   . exact Gw 6 d _ r n hit (.inr Zm)
  refine⟨.tuple #[(),.bool false],?_,⟨_,by rw[af];rfl,?_⟩,?_⟩
  . simp[results,Tryz.f93,go_sem,m5,m6]
  . rw[af];exact SliceOf.nil _ _ _ _
  . exact I.own S (fun a f=>Zm)
end Go.Proofs.YtenhnldnpdlniaaGreat
namespace Go.Proofs.YtenhnldnpdlniaaGreat
open Go Go.RowKit Tryz M
variable {c: Class}{cs: List Value}{m x: M.Method}{b k: Nat}{I J: Nat->Prop}{r: Ref}{α: Type}{v y z: Value}{w: World}{l: jB}{p: jl}
theorem qj(w:World)(l:jB)(p:jl)(y:jD w l p)(k:Int)(n:ByteArray):Calls prog 42 #[some l.L,k,n] w fun m H=>m=.returned (.tuple #[.agg #[.int .i64 (find p k n).1.keeper,.string (find p k n).1.name],.int .i64 (find p k n).2])/\Ext w H:=by
 have F:Ext w (w.alloc (.cells #[Tj,""] 64)):=(jJ _);have q:=Zy (y.ext F);clear y;have e:=jq.new w 64 #[Tj,""];go_enter func42,ntmps42;go_wp2_with fail;refine(zZ q).mono ?_;rintro m D ⟨rfl,z⟩;have c:=e.ext z;obtain⟨G,i,j,-⟩:=c.ca;obtain⟨u,x,-⟩:=c.fz;by_cases a:(M.resolve p k n).2=1
 . obtain⟨h,o⟩:=nN a;have E:=Zy (q.ext z);have b:Zz (find p k n=if(nk p (M.resolve p k n).1).isSome then((M.resolve p k n).1,1)else(q9,4)):=Zy (by unfold find;rw[Ty a]);rw[a];clear a;generalize (M.resolve p k n).1=r at*;have f:=jq.new D 64 #[r.keeper,r.name];go_wp2_with fail;refine(CG (E.ext (jJ _)) ⟨h,o⟩).mono ?_;rintro m Q ⟨⟨v,rfl,C⟩,A⟩;have d:=(c.ext (jJ (.cells #[r.keeper,r.name] 64))).ext A;have g:=f.ext A;obtain⟨P,s,t,-⟩:=d.ca;obtain⟨K,L,-⟩:=d.fz;obtain⟨-,I,J,-⟩:=g.ca;have O:¬(D:Nat)=w:=Zm
   cases B:(nk p r).isSome
   . rw[B]at b;clear i j u x C o e c f d g;go_wp2;refine PG (v:=.tuple #[.agg #[Tj,""],.int .i64 4]) (by simp[results,results42,go_sem,s,t]) rfl ?_;exact⟨by rw[b.o];rfl,Zw⟩
   . rw[B]at b;clear i j u x C o e c f d g;go_wp2;refine PG (v:=.tuple #[.agg #[r.keeper,r.name],.int .i64 1]) (by simp[results,results42,go_sem,s,t]) rfl ?_;exact⟨by rw[b.o];rfl,Zw⟩
 . have b:Zz (find p k n=(q9,(M.resolve p k n).2)):=Zy (by unfold find;rw[T9 a]);have N:=SK.2 a;clear a;generalize (M.resolve p k n).2=h at*;go_wp2;refine PG (v:=.tuple #[.agg #[Tj,""],h]) (by simp[results,results42,go_sem,i,j,G]) rfl ?_;exact⟨by rw[b.o];rfl,Zw⟩
theorem sH(a:jD w l p)(r:Ref):Calls prog 73 #[some l.L,.agg #[r.keeper,r.name]] w fun m u=>(∃v,m=.returned v/\SliceOf 2 qN u (fun j=>w<=j) v (chain p r))/\Ext w u:=by
 have E:Ext w (w.alloc (.cells #[r.keeper,r.name] 64)):=(jJ _);have o:=Zy (a.ext E);clear a;have k:=jq.new w 64 #[r.keeper,r.name];obtain⟨-,z,A,-⟩:=k.ca;go_enter func73,ntmps73;go_wp2_with fail;refine(qj _ _ _ o _ _).mono ?_;rintro m Q ⟨rfl,n⟩;have y:=k.ext n;obtain⟨P,I,J,-⟩:=y.ca;have x:=Zy (o.ext n);clear k z A;have c:Zz (chain p r=if(find p r.keeper r.name).2=1/\(find p r.keeper r.name).1=r then(nk p r).getD []else []):=Zy (by
  unfold chain mE;simp)
 have hF:Zz ((find p r.keeper r.name).2=1->(find p r.keeper r.name).1=r->∃f,cls? p r=some f):=Zy (by
  intro d h;unfold find at d h;by_cases b:(M.resolve p r.keeper r.name).2=1
  . rw[Ty b]at d h;obtain⟨f,i⟩:=nN b;split at d
    . rename_i D;rw[Ty D]at h;have C:(M.resolve p r.keeper r.name).1=r:=h;rw[C]at i;exact⟨f,i⟩
    . simp at d
  . rw[T9 b]at d;exact absurd d b)
 generalize find p r.keeper r.name=F at*;obtain⟨⟨q,s⟩,B⟩:=F;simp only at*;by_cases b:B=1
 . subst b;by_cases g:q=r.keeper/\s=r.name
   . obtain⟨rfl,rfl⟩:=g;obtain⟨f,i⟩:=hF.o rfl rfl;have e:Zz (chain p r=(nk p r).getD []):=Zy (by rw[c.o,Ty ⟨rfl,rfl⟩]);clear c hF;go_wp2_with fail;refine(CG (x.ext (jJ _)) ⟨f,i⟩).mono ?_;rintro m R ⟨⟨v,rfl,H⟩,K⟩;go_wp2;refine PG (v:=v) (by simp[results,results73,go_sem]) rfl ?_;refine⟨⟨v,rfl,?_⟩,Zv⟩;rw[e.o];exact H.keep qN.stays (fun _ _ _ _ a=>a) (fun j G=>by have:=n.size;simp only[Tp]at G this;show w.heap.size<=j;omega)
   . have e:Zz (chain p r=[]):=Zy (by
      rw[c.o,T9];rintro⟨-,a⟩;exact g ⟨congrArg Ref.keeper a,congrArg Ref.name a⟩)
     by_cases t:q=r.keeper
     . subst t;have O:(s.toList==r.name.toList)=false:=by
        rw[oP];exact SS (fun a=>g ⟨rfl,a⟩)
       clear c hF g;go_wp2;refine PG (v:=()) (by simp[results,results73,go_sem]) rfl ?_;refine⟨⟨_,rfl,?_⟩,Zv⟩;rw[e.o];exact SliceOf.nil _ _ _ _
     . have N:=SK.2 t;clear c hF g;go_wp2;refine PG (v:=()) (by simp[results,results73,go_sem]) rfl ?_;refine⟨⟨_,rfl,?_⟩,Zv⟩;rw[e.o];exact SliceOf.nil _ _ _ _
 . have e:Zz (chain p r=[]):=Zy (by rw[c.o,T9 (fun a=>b a.1)]);have L:=TE.2 b;clear c hF b;go_wp2;refine PG (v:=()) (by simp[results,results73,go_sem]) rfl ?_;refine⟨⟨_,rfl,?_⟩,Zv⟩;rw[e.o];exact SliceOf.nil _ _ _ _
theorem zH(a b:Int)(m n:ByteArray):(a=b/\m=n)\/(a=b/\(m.toList==n.toList)=false/\m≠n)\/((a==b)=false/\a≠b):=by
 by_cases c:a=b
 . by_cases d:m=n
   . exact .inl ⟨c,d⟩
   . exact .inr (.inl ⟨c,by rw[oP];exact SS d,d⟩)
 . exact .inr (.inr ⟨SK.2 c,c⟩)
theorem Hu [BEq α][LawfulBEq α]{l:List α}{x:α}(a:∀d∈l.take k,d≠x)(c:l.length<=k):l.contains x=false:=by
 rw[Tq c]at a;cases b:l.contains x
 . rfl
 . exact absurd rfl (a x (by simpa using b))
theorem vU(a:jD w l p)(r t:Ref):Calls prog 113 #[some l.L,.agg #[r.keeper,r.name],.agg #[t.keeper,t.name]] w fun s E=>s=.returned (.bool (under p r t))/\Ext w E:=by
 have k:Ext w ((w.alloc (.cells #[r.keeper,r.name] 64)).alloc (.cells #[t.keeper,t.name] 64)):=kx;have A:=Zy (a.ext k);clear a;have c:=jq.new (w.alloc (.cells #[r.keeper,r.name] 64)) 64 #[t.keeper,t.name];simp only[Tp]at c;go_enter func113,ntmps113;go_wp2_with fail;refine(sH A _).mono ?_;rintro s F ⟨⟨aa,rfl,m⟩,j⟩;replace c:=c.ext j;obtain⟨J,L,rfl,V,S⟩:=m.form;have v:Zz (under p r t=(chain p r).contains t):=Zy rfl;have Q:=k.trans j;clear k j;generalize chain p r=f at*;go_wp2;go_loopw [13] (fun o wr=>∃b:Nat,b<=f.length/\o=.int .i64 b/\Ext F wr/\Zz (∀e∈f.take b,e≠t)) (fun o _=>f.length - (intOf o).toNat)
 case atStart=>exact⟨0,Tz _,rfl,Kp.rr,Zy Zl⟩
 case round=>
  obtain⟨b,T,rfl,u,g⟩:=hrel;have q:=c.ext u;obtain⟨X,Z,t1,-⟩:=q.ca;by_cases B:b<f.length
  . obtain⟨G,n⟩:=get_some B;obtain⟨K,Y,N,rfl,R,rfl,-,x⟩:=m.get n;obtain⟨O,P⟩:=(x.ext u).two;have i:=Zy n;clear n x m c q;obtain⟨H,I⟩:=G;obtain⟨C,D⟩:=t;simp only at*;rcases zH H C I D with⟨rfl,rfl⟩|⟨rfl,W,z⟩|⟨U,y⟩
    . go_wp2;go_ret;exact⟨hV (by rw[v.o];simpa using Tx i.o),Zv⟩
    . have h:=Zy z;clear z;go_wp2;go_roundw
      case rel=>
       refine⟨b+1,Zm,Zk,kx,Zy ?_⟩;intro e d;rw[Td,i.o]at d;rcases TU.1 d with a|a
       . exact g e a
       . simp at a;subst a;intro a;exact h (congrArg Ref.name a)
      case measure=>exact Zj
    . have h:=Zy y;clear y;go_wp2;go_roundw
      case rel=>
       refine⟨b+1,Zm,Zk,kx,Zy ?_⟩;intro e d;rw[Td,i.o]at d;rcases TU.1 d with a|a
       . exact g e a
       . simp at a;subst a;intro a;exact h (congrArg Ref.keeper a)
      case measure=>exact Zj
  . go_wp2;go_ret;exact⟨hV (by rw[v.o];exact(Hu g Zm).symm),Zv⟩
theorem yL(i:jD w l p)(a b:Int)(k:Kind):Calls prog 144 #[some l.L,a,b,.agg #[k.kind,k.name]] w fun h I=>h=.returned (.bool (agree p a b k))/\Ext w I:=by
 have F:Ext w (w.alloc (.cells #[k.kind,k.name] 109)):=kx;by_cases f:k.kind=1
 . have e:Zz (agree p a b k=true):=Zy (by unfold agree;rw[f];rfl);have u:=Ue.2 f;clear f i;go_enter func144,ntmps144;go_wp2;go_ret;exact⟨hV e.symm,kx⟩
 have j:=Zy (i.ext F);clear i;have m:=jq.new w 109 #[k.kind,k.name];have u:=SK.2 f;have e:Zz (agree p a b k=(if(find p a k.name).2=1/\(find p b k.name).2=1 then decide ((find p a k.name).1=(find p b k.name).1)
  else decide ((find p a k.name).2≠1)&&decide ((find p b k.name).2≠1))):=Zy (by unfold agree;rw[u];rfl)
 clear f;go_enter func144,ntmps144;go_wp2_with fail;refine(qj _ _ _ j _ _).mono ?_;rintro h J ⟨rfl,t⟩;have n:=m.ext t;obtain⟨G,-,H,-⟩:=n.ca;have y:=Zy (j.ext t);generalize find p a k.name=F1 at*;obtain⟨⟨r,s⟩,A⟩:=F1;simp only at*;go_wp2_with fail;refine(qj _ _ _ (y.ext (jJ _)) _ _).mono ?_;rintro h P ⟨rfl,E⟩;have o:=(jq.new J 64 #[r,s]).ext E;obtain⟨O,q0,q1,-⟩:=o.ca;generalize find p b k.name=F2 at*;obtain⟨⟨B,C⟩,q⟩:=F2;simp only at*;clear H n m o G;by_cases g:A=1
 . subst g;by_cases c:q=1
   . subst c;rcases zH r B s C with⟨rfl,rfl⟩|⟨rfl,N,x⟩|⟨L,v⟩
     . go_wp2;go_ret;exact⟨hV (by rw[e.o];simp),Zv⟩
     . have d:=Zy x;clear x;go_wp2;go_ret;exact⟨hV (by rw[e.o];simp[d.o]),Zv⟩
     . have d:=Zy v;clear v;go_wp2;go_ret;exact⟨hV (by rw[e.o];simp[d.o]),Zv⟩
   . have D:=TE.2 c;have d:=Zy c;clear c;go_wp2;go_ret;exact⟨hV (by rw[e.o];simp[d.o]),Zv⟩
 . have K:=TE.2 g;have d:=Zy g;clear g;by_cases c:q=1
   . subst c;go_wp2;go_ret;exact⟨hV (by rw[e.o];simp[d.o]),Zv⟩
   . have D:=TE.2 c;have z:=Zy c;clear c;go_wp2;go_ret;exact⟨hV (by rw[e.o];simp[d.o,z.o]),Zv⟩
theorem vT(t:jD w l p)(a b:Int){I:Nat->Prop}{cs:List Value}{m:M.Method}(F:jy w I m cs):Calls prog 97 #[some l.L,a,b,.agg cs.toArray] w fun h P=>h=.returned (.bool (jY p a b m))/\Ext w P:=by
 obtain⟨va,k,n,rfl,y,-,-⟩:=F;obtain⟨f,g,rfl,X,V⟩:=y.form;have u:Ext w (w.alloc (.cells #[m.name,.slice f m.args.length g,m.ret.kind,m.ret.name,m.locals,m.stack,k,n] 113)):=(jJ _);have q:=Zy (t.ext u);clear t;have B:=Zy (hQ.EJ (jq.new w 113 #[m.name,.slice f m.args.length g,m.ret.kind,m.ret.name,m.locals,m.stack,k,n]) _ rfl);go_enter func97,ntmps97;go_wp2;generalize (w.alloc (.cells #[m.name,.slice f m.args.length g,m.ret.kind,m.ret.name,m.locals,m.stack,k,n] 113))=w0 at*;go_loopw [14] (fun j wr=>∃c:Nat,c<=m.args.length/\j=.int .i64 c/\Ext w0 wr/\Zz ((m.args.take c).all (agree p a b)=true)) (fun j _=>m.args.length - (intOf j).toNat)
 case atStart=>exact⟨0,Tz _,rfl,Kp.rr,Zy Zl⟩
 case round=>
  obtain⟨c,W,rfl,d,r⟩:=hrel;by_cases E:c<m.args.length
  . obtain⟨o,i⟩:=get_some E;obtain⟨R,Y,cs,rfl,U,rfl,-,v⟩:=y.get i;obtain⟨S,T⟩:=((v.ext u).ext d).two;have⟨s,z⟩:=jw i (q.ext (d.alloc (.cells #[o.kind,o.name] 109)));clear i v;cases x:agree p a b o
    all_goals
     have e:=Zy x;clear x;go_wp2_with fail;refine(yL z _ _ _).mono ?_;rintro h Q ⟨rfl,D⟩;rw[e.o];go_wp2
    . go_ret;exact⟨hV (by unfold jY;rw[sj s.o e.o];rfl),Zv⟩
    . go_roundw
      case rel=>exact⟨c+1,Zm,Zk,Zv,Zy (all_succ r.o s.o e.o)⟩
      case measure=>exact Zj
  . have A:Zz (jY p a b m=agree p a b m.ret):=Zy (by unfold jY;rw[qG r.o Zm];rfl);have C:=Zy (B.ext d);obtain⟨Z,G,H,J,K,L,N,O⟩:=C.eight;simp only[Tk]at G H J K L N O;go_wp2_with fail;refine(yL (q.ext d) _ _ m.ret).mono ?_;rintro h Q ⟨rfl,D⟩;go_wp2;go_ret;exact⟨hV A.symm,Zv⟩
def De(o:Option Nat):Int:=o.elim (-1) fun n=>n
theorem Cw{f:α->Bool}{l:List α}{x:α}(b:∀i∈l.take k,f i=false)(g:l[k]?=some x)(c:f x=true):l.findIdx? f=some k:=by
 obtain⟨e,h⟩:=Tt.1 g;rw[TH];refine⟨e,by rw[h];exact c,fun a d=>?_⟩;have:=b l[a] (by rw[VY];exact⟨a,by rw[Ub,Ty d];exact CU _⟩);rw[this];decide
theorem AQ{f:α->Bool}{l:List α}(a:∀c∈l.take k,f c=false)(b:l.length<=k):l.findIdx? f=none:=by
 rw[Tq b]at a;rw[List.findIdx?_eq_none_iff];exact a
theorem Bn{f:α->Bool}{l:List α}{x:α}(d:∀a∈l.take k,f a=false)(g:l[k]?=some x)(e:f x=false):∀a∈l.take (k+1),f a=false:=by
 intro a c;rw[Td,g]at c;rcases TU.1 c with b|b
 . exact d a b
 . simp at b;subst b;exact e
theorem M8(d:jy w I m cs){b:Nat}{n:ByteArray}(c:w.cell? b=some (.string n)):Calls prog 177 #[.agg cs.toArray,some b] w fun a e=>a=.returned (.bool (decide (m.name=n)))/\Ext w e:=by
 obtain⟨g,h,i,rfl,-,-,-⟩:=d;have f:=jv c;go_enter func177,ntmps177;go_wp2;go_ret;exact⟨hV (oP _ _),kx⟩
theorem Ow{f:M.Field}{n:ByteArray}(c:w.cell? b=some (.string n)):Calls prog 215 #[.agg #[f.name,f.kind.kind,f.kind.name],some b] w fun a d=>a=.returned (.bool (decide (f.name=n)))/\Ext w d:=by
 have e:=jv c;go_enter func215,ntmps215;go_wp2;go_ret;exact⟨hV (oP _ _),kx⟩
theorem MP{l:List M.Method}(c:SliceOf 8 jy w I v l){b:Nat}{n:ByteArray}(q:w.cell? b=some (.string n)):Calls prog 176 #[v,.func (.func 177) #[] #[some b]] w fun j u=>j=.returned (.int .i64 (De (l.findIdx? fun t=>decide (t.name=n))))/\Ext w u:=by
 obtain⟨z,B,rfl,R,P⟩:=c.form;go_enter func176,ntmps176;go_wp2;go_loopw [8] (fun h wr=>∃a:Nat,a<=l.length/\h=.int .i64 a/\Ext w wr/\Zz (∀y∈l.take a,decide (M.Method.name y=n)=false)) (fun h _=>l.length - (intOf h).toNat)
 case atStart=>exact⟨0,Tz _,rfl,Kp.rr,Zy Zl⟩
 case round=>
  obtain⟨a,Q,rfl,f,d⟩:=hrel;by_cases s:a<l.length
  . obtain⟨x,g⟩:=get_some s;obtain⟨A,S,C,rfl,O,m,-,k⟩:=c.get g;have p:=Zy (jy.stays _ _ _ _ _ _ f.same (fun _ c=>c) m);obtain⟨T,U,V,rfl,-,-,-⟩:=m;obtain⟨D,E,F,G,H,J,K,L⟩:=(k.ext f).eight;have r:=f.jm q;have i:=Zy g;clear g k;cases o:decide (x.name=n)
    all_goals
     have e:=Zy o;clear o;go_wp2_with (go_at_call 177;refine(M8 p r).mono ?_;rintro j W ⟨rfl,N⟩;rw[e.o])
    . go_roundw
      case rel=>exact⟨a+1,Zm,Zk,Zv,Zy (Bn d.o i.o e.o)⟩
      case measure=>exact Zj
    . go_ret;exact⟨by rw[Cw d.o i.o e.o];rfl,Zv⟩
  . go_wp2;go_ret;exact⟨by rw[AQ d.o Zm];rfl,kx⟩
theorem OU{l:List M.Field}(i:SliceOf 3 lI w I v l){b:Nat}{n:ByteArray}(o:w.cell? b=some (.string n)):Calls prog 214 #[v,.func (.func 215) #[] #[some b]] w fun h s=>h=.returned (.int .i64 (De (l.findIdx? fun r=>decide (M.Field.name r=n))))/\Ext w s:=by
 obtain⟨x,z,rfl,J,G⟩:=i.form;go_enter func214,ntmps214;go_wp2;go_loopw [8] (fun f wr=>∃a:Nat,a<=l.length/\f=.int .i64 a/\Ext w wr/\Zz (∀u∈l.take a,decide (M.Field.name u=n)=false)) (fun f _=>l.length - (intOf f).toNat)
 case atStart=>exact⟨0,Tz _,rfl,Kp.rr,Zy Zl⟩
 case round=>
  obtain⟨a,H,rfl,j,c⟩:=hrel;by_cases q:a<l.length
  . obtain⟨t,e⟩:=get_some q;obtain⟨y,K,A,rfl,F,rfl,-,k⟩:=i.get e;obtain⟨B,C,D⟩:=(k.ext j).three;have p:=j.jm o;have g:=Zy e;clear e k;cases m:decide (t.name=n)
    all_goals
     have d:=Zy m;clear m;go_wp2_with (go_at_call 215;refine(Ow p).mono ?_;rintro h L ⟨rfl,E⟩;rw[d.o])
    . go_roundw
      case rel=>exact⟨a+1,Zm,Zk,Zv,Zy (Bn c.o g.o d.o)⟩
      case measure=>exact Zj
    . go_ret;exact⟨by rw[Cw c.o g.o d.o];rfl,Zv⟩
  . go_wp2;go_ret;exact⟨by rw[AQ c.o Zm];rfl,kx⟩
theorem BS(f:jT w I c cs){n:ByteArray}:Calls prog 143 #[.agg cs.toArray,n] w fun b i=>b=.returned (De (pY c n))/\Ext w i:=by
 obtain⟨d,e,rfl,k,h⟩:=f;have g:Ext w ((w.alloc (.cells #[c.name,c.jE,d,e] 38)).alloc (.cells #[n] 9)):=kx;have a:=(jq.new (w.alloc (.cells #[c.name,c.jE,d,e] 38)) 9 #[n]).c 0 n rfl;simp only[Tp]at a;go_enter func143,ntmps143;go_wp2_with fail;refine(MP (h.ext jy.stays g) a).mono ?_;rintro b l ⟨rfl,j⟩;go_wp2;go_ret;exact⟨rfl,Zv⟩
theorem I5(f:jT w I c cs){n:ByteArray}:Calls prog 174 #[.agg cs.toArray,n] w fun b i=>b=.returned (De (uu c n))/\Ext w i:=by
 obtain⟨d,e,rfl,h,k⟩:=f;have g:Ext w ((w.alloc (.cells #[c.name,c.jE,d,e] 38)).alloc (.cells #[n] 9)):=kx;have a:=(jq.new (w.alloc (.cells #[c.name,c.jE,d,e] 38)) 9 #[n]).c 0 n rfl;simp only[Tp]at a;go_enter func174,ntmps174;go_wp2_with fail;refine(OU (h.ext lI.stays g) a).mono ?_;rintro b l ⟨rfl,j⟩;go_wp2;go_ret;exact⟨rfl,Zv⟩
theorem Ky{a b:List α}(hl:a.length=b.length){k:Nat}(h:∀c f g,c<k->a[c]?=some f->b[c]?=some g->f=g)(j:a.length<=k):a=b:=by
 apply List.ext_getElem?;intro c;by_cases i:c<a.length
 . have d:=CU i;have e:b[c]?=some b[c]:=CU Zm;rw[d,e,h c _ _ Zm d e]
 . rw[Uz Zm,Uz Zm]
theorem Cz{B: Value}{l m:List Kind}(a:SliceOf 2 mV w I v l)(q:SliceOf 2 mV w J B m):Calls prog 175 #[v,B] w fun C G=>C=.returned (.bool (decide (l=m)))/\Ext w G:=by
 obtain⟨O,S,rfl,hn,aa⟩:=a.form;obtain⟨P,T,rfl,ag,ae⟩:=q.form;by_cases i:l.length=m.length
 . have p:=Zy i;have E:(l.length:Int)=m.length:=Zm
   clear i;go_enter func175,ntmps175;go_wp2;go_loopw [13] (fun n wr=>∃b:Nat,b<=l.length/\n=.int .i64 b/\Ext w wr/\Zz (∀c d e,c<b->l[c]?=some d->m[c]?=some e->d=e)) (fun n _=>l.length - (intOf n).toNat)
   case atStart=>exact⟨0,Tz _,rfl,Kp.rr,Zy Zm⟩
   case round=>
    obtain⟨b,hk,rfl,t,o⟩:=hrel;by_cases z:b<l.length
    . have F:b<m.length:=by rw[<-p.o];exact z
      obtain⟨d,j⟩:=get_some z;obtain⟨e,k⟩:=get_some F;obtain⟨Q,ai,U,rfl,Y,rfl,-,u⟩:=a.get j;obtain⟨R,aj,V,rfl,Z,rfl,-,x⟩:=q.get k;obtain⟨W,X⟩:=(u.ext t).two;obtain⟨q0,q1⟩:=(x.ext t).two;have⟨g,h⟩:=jw j k;clear j u k x;obtain⟨H,K⟩:=d;obtain⟨L,N⟩:=e;simp only at*;rcases zH H L K N with⟨rfl,rfl⟩|⟨rfl,ah,A⟩|⟨af,y⟩
      . go_wp2_with (first|(go_region_with (fail))|fail)
        all_goals
         go_roundw
         case rel=>
          refine⟨b+1,Zm,Zk,kx,Zy (fun c d e hj r s=>?_)⟩;by_cases D:c=b
          . subst D;exact Wz ((r.symm.trans g).trans (h.symm.trans s))
          . exact o c d e Zm r s
         case measure=>exact Zj
      . have f:Zz (decide (l=m)=false):=Zy (SS (fun a=>A (by
         subst a;exact congrArg Kind.name (Wz (g.symm.trans h)))))
        clear A;go_wp2_with (first|(go_region_with (fail))|fail)
        all_goals
         go_ret;exact⟨hV f.symm,kx⟩
      . have f:Zz (decide (l=m)=false):=Zy (SS (fun a=>y (by
         subst a;exact congrArg Kind.kind (Wz (g.symm.trans h)))))
        clear y;go_wp2_with (first|(go_region_with (fail))|fail)
        all_goals
         go_ret;exact⟨hV f.symm,kx⟩
    . go_wp2;go_ret;exact⟨hV (Tw (Ky p o Zm)).symm,kx⟩
 . have E:((l.length:Int)==m.length)=false:=SK.2 Zm;go_enter func175,ntmps175;go_wp2;go_ret;exact⟨hV (SS (fun a=>i (congrArg List.length a))).symm,kx⟩
theorem hQ.SI{x c: Value}(h0:w.cell? b=some x)(d:w.cell? (b,1)=some y)(e:w.cell? (b,2)=some z)(f:w.cell? (b,3)=some c):hQ w b 0 [x,y,z,c]:=by
 intro g h a;rw[Tk];match g,a with
 |0,a=>cases a;exact h0
 |1,a=>cases a;exact d
 |2,a=>cases a;exact e
 |3,a=>cases a;exact f
theorem hQ.OH{x a: Value}(c:hQ w b 0 [x,y,z,a]):w.cell? b=some x/\w.cell? (b,1)=some y/\w.cell? (b,2)=some z/\w.cell? (b,3)=some a:=c.four
theorem kE.ext{R:om α}(hR:kE R){w b:World}{I:Nat->Prop}{x:α}{cs:List Value}(c:Ext w b)(a:R w I x cs):R b I x cs:=hR _ _ _ _ _ _ (Ext.same c) (fun _ a=>a) a
theorem kE.kp{R:om α}(hR:kE R){D:Nat->Prop}{w c:World}{I:Nat->Prop}{x:α}{cs:List Value}(d:Kp D w c)(hI:∀b,I b->¬D b)(a:R w I x cs):R c I x cs:=hR _ _ _ _ _ _ (Kp.same d hI) (fun _ a=>a) a
theorem jy.args{a e b c f g j k:Value}(h:jy w I x [a,e,b,c,f,g,j,k]):SliceOf 2 mV w I e x.args:=by
 obtain⟨l,m,n,d,i,-,-⟩:=h;simp only[U2,Vm,VR]at d;obtain⟨-,rfl,-⟩:=d;exact i
theorem Ee{f:α->Bool}{l:List α}{a:Option Nat}(b:l.findIdx? f=a):l.find? f=a.bind (l[·]?):=by
 subst b;induction l with
 |nil=>rfl
 |cons e d c=>
  rw[List.find?_cons,VM];cases g:f e
  . rw[c];cases d.findIdx? f<;>simp
  . simp
set_option maxHeartbeats 20000000 in theorem Ev (r : jD w l p) (b a : Ref) {c g: Class} (aF : cls? p b = some c) (aC : cls? p a = some g) :Calls prog 142 #[some l.L,.agg #[b.keeper,b.name],.agg #[a.keeper,a.name]] w fun k w'=>k=.returned (.bool (mG p b a))/\Ext w w':=by
 have af:Ext w ((w.alloc (.cells #[b.keeper,b.name] 64)).alloc (.cells #[a.keeper,a.name] 64)):=Zx;have y:=Zy (r.ext af);clear r;have S:=(jq.new w 64 #[b.keeper,b.name]).ext (jJ (.cells #[a.keeper,a.name] 64));have H:=jq.new (w.alloc (.cells #[b.keeper,b.name] 64)) 64 #[a.keeper,a.name];simp only[Tp]at H;have E:=Zy (Tm aF aC);clear aF aC;go_enter func142,ntmps142;go_upto_region 1 with(fail);generalize ((w.alloc (.cells #[b.keeper,b.name] 64)).alloc (.cells #[a.keeper,a.name] 64))=w0 at*;go_cut [7,8] (fun s7 s8 P=>∃Z b8 vf vm uf um,s7=.pointer (some ⟨Z,0,none⟩)/\s8=.pointer (some ⟨b8,0,none⟩)/\hQ P Z 0 [c.name,c.jE,vf,vm]/\
  hQ P b8 0 [g.name,g.jE,uf,um]/\jT P (· <l.O) c [c.name,c.jE,vf,vm]/\jT P (· <l.O) g [g.name,g.jE,uf,um]/\Ext w0 P)
 case first=>
  obtain⟨-,p0,p1,-⟩:=S.ca;obtain⟨-,q0,q1,-⟩:=H.ca;clear S H;have HS:=Zy (fun t (I:Ext w0 t)=>Tm I (Tm (I.jm p0) (Tm (I.jm p1) (Tm (I.jm q0) (I.jm q1)))));have bK:l.O<=w0:=Tf y.lt y.ord
  go_region_held3 (fun t=>Ext w0 t/\t.cell? w=some (.int .i64 b.keeper)/\t.cell? (w,1)=some (.string b.name)/\t.cell? ⟨w+1,0,none⟩=some (.int .i64 a.keeper)/\t.cell? ⟨w+1,1,none⟩=some (.string a.name))
   ((refine HS _ ?_;repeat (first|with_reducible exact Kp.rr|with_reducible assumption|with_reducible refine Kp.alloc ?_ _|with_reducible refine Kp.drew ?_|with_reducible refine Kp.drewN ?_ _|with_reducible refine Kp.setCell ?_ (fun r=>absurd r Zs) _|with_reducible refine Kp.trans ?_ Zu)))
   (first|(go_at_call 74;first|(have aT:=m;clear aT;refine(sI l p (y.ext Zx) a.keeper a.name g E.2).mono ?_;rintro k x ⟨⟨aR,aB,rfl⟩,au⟩;obtain⟨bn,bu,bq,bz,rfl⟩:=aB.form;have aY:=au.size;obtain⟨bM,bO⟩:=IP au;(try simp at aY);(have cB:(j:Nat)<=x:=Zm);(try have bY:(w0:Nat)<x:=Zm);(try have bZ:(w0:Nat)+1<(x:Nat):=Zm);(try have cu:(j:Nat)<x:=Zm);(try have cz:(j:Nat)+1<(x:Nat):=Zm))|(refine(sI l p (y.ext Zx) b.keeper b.name c E.1).mono ?_;rintro k j ⟨⟨cs,aA,rfl⟩,m⟩;obtain⟨y1,z1,y2,z2,rfl⟩:=aA.form;have aX:=m.size;obtain⟨bL,bN⟩:=IP m;(try simp at aX);(have bV:(w0:Nat)<=j:=Zm);(try have bW:(w0:Nat)<j:=Zm);(try have bX:(w0:Nat)+1<(j:Nat):=Zm))))
  all_goals (go_wp2_with fail)
  all_goals
   go_meet;refine⟨_,_,.slice y1 c.fields.length z1,.slice y2 c.methods.length z2,.slice bn g.fields.length bu,.slice bq g.methods.length bz,rfl,rfl,hQ.SI ?_ ?_ ?_ ?_,hQ.SI ?_ ?_ ?_ ?_,kE.kp (D:=fun f=>l.O<=f) jT.stays ?_ (fun _ r h'=>absurd r (Nat.not_lt_of_le h')) aA,kE.kp (D:=fun f=>l.O<=f) jT.stays ?_ (fun _ r h'=>absurd r (Nat.not_lt_of_le h')) aB,Zx⟩
   any_goals (repeat (first|with_reducible exact Kp.rr|with_reducible refine Kp.alloc ?_ _|with_reducible refine Kp.drew ?_|with_reducible refine Kp.setCell ?_ (fun _=>by first|omega|(simp;done)|(simp;omega)) _|with_reducible refine Kp.trans ?_ (Kp.any Zu)));done
   all_goals ((try simp[go_sem, *])<;>refine World.cell?_setCell_same' _ _ _ (by simp[go_sem, *]))
 case rest=>
  obtain⟨Z,b8,vf,vm,uf,um,rfl,rfl,k7,k8,hc,hd,d⟩:=hcut;obtain⟨dm,dn,K,sf,sm⟩:=hc;simp only[U2,Vm,VR]at K;obtain⟨rfl,rfl⟩:=K;obtain⟨fa,fc,rfl,aW,bP⟩:=sf.form;obtain⟨ma,mc,rfl,bS,bR⟩:=sm.form;have⟨R,HE⟩:=jw hd d;have z:Zz (mG p b a=(c.fields.all (fun aa=>(uu g aa.name).isNone)&&c.methods.all (lh p b a))):=Zy (by
   unfold mG cls;rw[E.o.1,E.o.2];rfl)
  have ai:Zz (∀D,lh p b a D=match g.methods.find? (fun N=>N.name=D.name)with
   |none=>true
   |some N=>decide (D.ret=N.ret)&&decide (D.args=N.args)&&jY p b.keeper a.keeper D):=Zy (fun D=>by
   unfold lh cls;rw[E.o.2];rfl)
  have r7:=k7.OH.2.2.1;have ax:=af.trans d;have j4:=S.ext d;have j5:=H.ext d;clear hd d S H af;go_wp2;go_loopw [24] (fun v wr=>∃f:Nat,f<=c.fields.length/\v=.int .i64 f/\Ext wc wr/\Zz ((c.fields.take f).all (fun aa=>(uu g aa.name).isNone)=true)) (fun v _=>c.fields.length - (intOf v).toNat)
  case atStart=>exact⟨0,Tz _,rfl,Kp.rr,Zy Zl⟩
  case round=>
   obtain⟨f,hk,rfl,d,s⟩:=hrel;have L:=k8.ext d;obtain⟨O,s1,s2,s3⟩:=L.OH;have aH:=jv O;by_cases ag:f<c.fields.length
   . obtain⟨e,u⟩:=get_some ag;obtain⟨aQ,bf,cs,rfl,hI,rfl,-,J⟩:=sf.get u;obtain⟨g0,g1,g2⟩:=(J.ext d).three;have q:=Zy u;clear u J;cases h:uu g e.name
     . have o:Zz ((uu g e.name).isNone=true):=Zy (by rw[h];rfl);have G:=Zy h;clear h;go_wp2_with (go_at_call 174;refine(I5 (kE.ext jT.stays (d.alloc _) R)).mono ?_;rintro k j ⟨rfl,m⟩;rw[G.o];simp only[De,Option.elim]);go_roundw
       case rel=>exact⟨f+1,Zm,Zk,Zx,Zy (all_succ s.o q.o o.o)⟩
       case measure=>exact Zj
     . rename_i Y;have o:Zz ((uu g e.name).isNone=false):=Zy (by rw[h];rfl);have G:=Zy h;clear h;go_wp2_with (go_at_call 174;refine(I5 (kE.ext jT.stays (d.alloc _) R)).mono ?_;rintro k j ⟨rfl,m⟩;rw[G.o];simp only[De,Option.elim]);go_ret;exact⟨hV (by rw[z.o,sj q.o o.o];rfl),Zx⟩
   . have HF:=Zy (qG s (by omega:c.fields.length<=f));have df:=(k7.ext d).OH.2.2.2;clear O s1 s2 s3 L aH;have bI:=ax.trans d;have V:=Zy (kE.ext jT.stays d R);have bg:=sm.ext jy.stays d;have aJ:=k8.ext d;have aZ:=j4.ext d;have aI:=j5.ext d;have aN:=Zy (y.ext (HE.trans d));clear s ax HE y R sm sf k8 k7 d aW j4 j5 r7;obtain⟨wo,rfl⟩:∃wo:World,wo=wr:=⟨_,rfl⟩;go_wp2;go_loopw [37] (fun v wr=>∃f:Nat,f<=c.methods.length/\v=.int .i64 f/\Ext wo wr/\Zz ((c.methods.take f).all (lh p b a)=true)) (fun v _=>c.methods.length - (intOf v).toNat)
     case atStart=>exact⟨0,Tz _,rfl,Kp.rr,Zy Zl⟩
     case round=>
      obtain⟨f,hk,rfl,d,s⟩:=hrel;by_cases ag:f<c.methods.length
      . obtain ⟨e, u⟩ := get_some ag; obtain ⟨aQ, bf, cs, rfl, hI, T,-, J⟩ := bg.get u; have ⟨q, aP⟩ := jw u (kE.ext jy.stays d T); obtain ⟨a1, c1, a2, c2, a3, c3, rfl⟩ := T.form; have ha := T.args; clear T; obtain ⟨g0, g1, g2, g3, g4, g5, g6, g7⟩ := (J.ext d).eight; have L := aJ.ext d; obtain ⟨O, s1, s2, s3⟩ := L.OH; have aH := jv O; clear u J L; cases h : pY g e.name
        . have o:Zz (lh p b a e=true):=Zy (by rw[ai.o,Ee h];rfl);have G:=Zy h;clear h;go_wp2_with (go_at_call 143;refine(BS (kE.ext jT.stays (d.alloc _) V)).mono ?_;rintro k j ⟨rfl,m⟩;rw[G.o];simp only[De,Option.elim]);go_roundw
          case rel=>exact⟨f+1,Zm,Zk,Zx,Zy (all_succ s.o q.o o.o)⟩
          case measure=>exact Zj
        . rename_i Y;go_wp2_with fail;refine(BS (kE.ext jT.stays (d.alloc _) V)).mono ?_;rintro k j ⟨rfl,m⟩;rw[h];simp only[De,Option.elim];have aV:Y<g.methods.length:=by
           have:=TH.1 h;exact this.1
          obtain⟨n,hy⟩:=get_some aV;have o:Zz (lh p b a e=(decide (e.ret=n.ret)&&decide (e.args=n.args)&&jY p b.keeper a.keeper e)):=Zy (by
           rw[ai.o,Ee h];show(match g.methods[Y]? with|none=>true|some N=>_)=_
           rw[hy])
          have B:=Kp.trans (d.alloc _) m;have aU:=kE.ext jT.stays B V;obtain⟨dh,di,K,-,tm⟩:=aU;simp only[U2,Vm,VR]at K;obtain⟨rfl,rfl⟩:=K;obtain⟨na,nc,rfl,bU,-⟩:=tm.form;obtain⟨b',cZ,aR,rfl,bJ,ah,-,az⟩:=tm.get hy;obtain⟨bA,bD,bB,bE,bC,bF,rfl⟩:=ah.form;have ay:=ah.args;clear ah;obtain⟨q0,q1,q2,q3,q4,q5,q6,q7⟩:=az.eight;have⟨Q,ae⟩:=jw (Tm (ha) ay) (Kp.trans ((Kp.refl _ wr).alloc _) m);have aK:=aJ.ext B;have t3:=aK.OH.2.2.2;have cK:=jv t3;have bm:=(jq.new wr _ _).ext m;obtain⟨cO,m0,m1,m2,m3,m4,m5,m6,m7,-⟩:=bm.ca;clear hy az tm ha ay O s1 s2 s3 g0 g1 g2 g3 g4 g5 g6 g7 aK h bm;have aL:=Zy (kE.ext jy.stays ae aP);have o0:=((aZ.ext B).c 0 b.keeper rfl);have o1:=((aI.ext B).c 0 a.keeper rfl);have oz:=(aI.ext B).lt;have X:Zz (decide (e.ret=n.ret)=decide (e.ret.kind=n.ret.kind/\e.ret.name=n.ret.name)):=Zy (UH.2 Kind.oU);rcases zH e.ret.kind n.ret.kind e.ret.name n.ret.name with⟨A,e2⟩|⟨A,bT,aG⟩|⟨bQ,aD⟩
          . have aS:=Ue.2 A;have bG:(e.ret.name.toList==n.ret.name.toList)=true:=by rw[e2];simp
            have aj:Zz (lh p b a e=(decide (e.args=n.args)&&jY p b.keeper a.keeper e)):=Zy (by rw[o.o,X.o];simp[A,e2]);clear A e2;cases C:decide (e.args=n.args)
            . have F:Zz (lh p b a e=false):=Zy (by rw[aj.o,C];rfl);have W:=Zy C;clear C;go_wp2_with fail;refine(Cz ((Q.1.ext mV.stays (d.trans ae)).ext mV.stays (jJ _)) (Q.2.ext mV.stays (jJ _))).mono ?_;rintro k x ⟨rfl,av⟩;rw[W.o];go_wp2;go_ret;exact⟨hV (by rw[z.o,sj q.o F.o];simp),Zx⟩
            . have ak:Zz (lh p b a e=jY p b.keeper a.keeper e):=Zy (by rw[aj.o,C];rfl);have W:=Zy C;clear C;go_wp2_with fail;refine(Cz ((Q.1.ext mV.stays (d.trans ae)).ext mV.stays (jJ _)) (Q.2.ext mV.stays (jJ _))).mono ?_;rintro k x ⟨rfl,av⟩;rw[W.o];have i:=Zy (Kp.trans ((Kp.refl _ j).alloc _) av);have n0:=i.jm m0;have n1:=i.jm m1;have n2:=i.jm m2;have n3:=i.jm m3;have n4:=i.jm m4;have n5:=i.jm m5;have n6:=i.jm m6;have n7:=i.jm m7;have u0:=i.jm o0;have u1:=i.jm o1;have⟨aO,aM⟩:=jw (kE.ext jy.stays i aL) (aN.ext (B.trans i));clear m0 m1 m2 m3 m4 m5 m6 m7 q0 q1 q2 q3 q4 q5 q6 q7 o0 o1 t3;cases hm:jY p b.keeper a.keeper e
              all_goals
               have U:=Zy hm;clear hm;go_wp2_with fail;refine(vT aM _ _ aO).mono ?_;rintro k w3 ⟨rfl,bH⟩;rw[U.o];go_wp2
              . go_ret;exact⟨hV (by rw[z.o,sj q.o (ak.o.trans U.o)];simp),Zx⟩
              . go_roundw
                case rel=>exact⟨f+1,Zm,Zk,Zx,Zy (all_succ s.o q.o (ak.o.trans U.o))⟩
                case measure=>exact Zj
          . have F:Zz (lh p b a e=false):=Zy (by rw[o.o,X.o];simp[aG]);have aS:=Ue.2 A;clear aG A;go_wp2;go_ret;exact⟨hV (by rw[z.o,sj q.o F.o];simp),Zx⟩
          . have F:Zz (lh p b a e=false):=Zy (by rw[o.o,X.o];simp[aD]);clear aD;go_wp2;go_ret;exact⟨hV (by rw[z.o,sj q.o F.o];simp),Zx⟩
      . go_wp2;go_ret;exact⟨hV (by rw[z.o,HF.o,qG s.o Zm];rfl),Zx⟩
theorem SliceOf.drop{R:om α}{c n a: Nat}{xs:List α}(h:SliceOf k R w I (.slice (some ⟨b,c,none⟩) n a) xs){i:Nat}(x:i<=xs.length):SliceOf k R w I (.slice (some ⟨b,c+i*k,none⟩) (xs.length - i) (a - i)) (xs.drop i):=by
 obtain⟨r,t,f,u,v,j⟩:=h;cases f;refine⟨some ⟨b,c+i*k,none⟩,a - i,by rw[UW],by rw[UW];omega,by rw[UW];omega,fun y q d=>?_⟩;rw[V4]at d;obtain⟨s,z,e,g,l,p,o,m⟩:=j _ q d;cases g;refine⟨b,_,e,rfl,l,p,o,?_⟩;rw[Uj,<-Nat.add_mul];exact m
theorem mM{xs:List α}{x:α}(b:xs[k]?=some x):xs.drop k=x::xs.drop (k+1):=by
 obtain⟨a,rfl⟩:=Tt.1 b;exact Vq a
theorem xO(B:jD w l p){I:Nat->Prop}{v:Value}{xs:List Ref}(q:SliceOf 2 qN w I v xs)(J:∀e∈xs,∃o,cls? p e=some o):Calls prog 94 #[some l.L,v] w fun A w'=>A=.returned (.bool (kZ p xs))/\Ext w w':=by
 have L:=Zy B;clear B;have u:=Zy J;clear J;obtain⟨ai,z,rfl,hn,au⟩:=q.form;go_enter func94,ntmps94;go_wp2;go_loopw [11] (fun i wr=>∃k:Nat,k<=xs.length/\i=.int .i64 k/\Ext w wr/\Zz (kZ p xs=kZ p (xs.drop k))) (fun i _=>xs.length - (intOf i).toNat)
 case atStart=>exact⟨0,Tz _,rfl,Kp.rr,Zy rfl⟩
 case round=>
  obtain⟨k,hk,rfl,Y,s⟩:=hrel;by_cases aa:k<xs.length
  . obtain⟨a,d⟩:=get_some aa;obtain⟨T,af,cs,rfl,hI,rfl,-,D⟩:=q.get d;obtain⟨W,X⟩:=(D.ext Y).two;have HX:=Zy d;have ax:(0:Int)<=(k:Int)+1:=Zm
    have ay:(k:Int)+1<=xs.length:=Zm
    have az:(xs.length:Int)<=z:=Zm
    have g:Zz (kZ p xs=((xs.drop (k+1)).all (mG p a)&&kZ p (xs.drop (k+1)))):=Zy (by
     rw[s.o,mM d];rfl)
    obtain⟨cx,F⟩:=u.o a (Tx d);have O:=Zy F;clear d D F;by_cases av:z=k+1
    . have hz:xs.length - (k+1)=0:=Zm
      have ae:Zz (xs.drop (k+1)=[]):=Zy (U7 Zm);go_wp2;go_loopw [21] (fun i r=>i=.int .i64 0/\Ext wr r) (fun i _=>0)
      case atStart=>exact⟨rfl,kx⟩
      case round=>
       obtain⟨rfl,h⟩:=hrel;go_wp2;go_roundw
       case rel=>exact⟨k+1,Zm,Zk,Zv,Zy (by rw[g.o,ae.o];rfl)⟩
       case measure=>exact Zj
    . have sd:=q.drop (i:=k+1) Zm;have H:(xs.drop (k+1)).length=xs.length - (k+1):=UW;have S:Zz (∀e∈xs.drop (k+1),∃o,cls? p e=some o):=Zy (fun e hr=>u.o e (Vk hr));have ah:Zz (kZ p xs=((xs.drop (k+1)).all (mG p a)&&kZ p (xs.drop (k+1)))):=g;obtain⟨c,rfl⟩:∃c:World,c=wr:=⟨_,rfl⟩;go_wp2;have V:=jq.new c 64 #[a.keeper,a.name];have C:Ext w (c.alloc (.cells #[a.keeper,a.name] 64)):=kx;have R:=Zy (L.ext C);have aA:(c.alloc (.cells #[a.keeper,a.name] 64)).heap.size=c+1:=by simp
      go_loopw [21] (fun i r=>∃b:Nat,b<=xs.length - (k+1)/\i=.int .i64 b/\Ext (c.alloc (.cells #[a.keeper,a.name] 64)) r/\Zz (((xs.drop (k+1)).take b).all (mG p a)=true)) (fun i _=>xs.length - (k+1) - (intOf i).toNat)
      case atStart=>exact⟨0,Tz _,rfl,Kp.rr,Zy Zl⟩
      case round=>
       obtain⟨b,hj,rfl,h,t⟩:=hrel;by_cases Z:b<xs.length - (k+1)
       . obtain⟨f,m⟩:=get_some (l:=xs.drop (k+1)) (k:=b) (by rw[H];exact Z);obtain⟨U,ag,aj,j,ak,rfl,-,E⟩:=sd.get m;obtain⟨rfl,rfl⟩:U=T/\ag=af+(k+1)*2:=by simp only[TQ,Addr.mk.injEq,Vm]at j;exact⟨j.1.symm,j.2.symm⟩
         obtain⟨q0,q1⟩:=(E.ext (C.trans h)).two;have y:=V.ext h;obtain⟨zx,x0,x1,-⟩:=y.ca;obtain⟨cy,G⟩:=S.o f (Tx m);have⟨P,x,Q⟩:=jI G m ((R.ext h).ext (jJ (.cells #[f.keeper,f.name] 64)));clear E j y G m W X;cases K:mG p a f
         all_goals
          have n:=Zy K;clear K;go_wp2_with fail;refine(Ev Q a f O P).mono ?_;rintro A w1 ⟨rfl,hB⟩;rw[n.o];go_wp2
         . go_ret;exact⟨hV (by rw[g.o,sj x.o n.o];rfl),Zv⟩
         . go_roundw
           case rel=>exact⟨b+1,Zm,Zk,Zv,Zy (all_succ t.o x.o n.o)⟩
           case measure=>exact Zj
       . have N:=Zy (qG t (by rw[H];omega));go_wp2;go_roundw
         case rel=>exact⟨k+1,Zm,Zk,Zv,Zy (by rw[g.o,N.o];rfl)⟩
         case measure=>exact Zj
  . go_wp2;go_ret;exact⟨hV (by rw[s.o,U7 Zm];rfl),kx⟩
theorem zU:∀(f:Nat)(r:Ref)(c:List Ref),ku p f r=some c->(∃d,cls? p r=some d)->∀g∈c,∃d,cls? p g=some d:=by
 intro f;induction f with
 |zero=>intro r c a;simp[ku]at a
 |succ f j=>
  intro r c a h g b;unfold ku at a;split at a
  . cases a;simp at b;subst b;exact h
  . split at a
    . rename_i i;cases e:ku p f (M.resolve p r.keeper (jE p r)).1 with
      |none=>rw[e]at a;simp at a
      |some k=>
       rw[e]at a;simp at a;subst a;rcases Ui.1 b with rfl|b
       . exact h
       . exact j _ _ e (nN i) g b
    . cases a
theorem yK(a:mE p r=true):∃c,cls? p r=some c:=by
 unfold mE find at a;by_cases b:(M.resolve p r.keeper r.name).2=1
 . rw[Ty b]at a;split at a
   . simp at a;rw[<-a];exact nN b
   . simp at a
 . rw[T9 b]at a;simp at a;exact absurd a.1 b
theorem mr:∀c∈chain p r,∃d,cls? p c=some d:=by
 intro c a;unfold chain at a;split at a
 . rename_i e;cases b:nk p r with
   |none=>rw[b]at a;simp at a
   |some f=>
    rw[b]at a;exact zU 6 r f b (yK e) c (by simpa using a)
 . simp at a
theorem jD.QM{f: World}(a:jD w l p)(c:Kp (·=l.D) w f)(n:∃b,pE f l.D b/\∀h i j,look b (h,i)=some j->j=if jW p ⟨h,i⟩then 1 else 2):jD f l p:=by
 obtain⟨s,t,u⟩:=a.ord;refine⟨a.ok,a.ord,?_,?_,?_,n⟩
 . obtain⟨k,m,g,o⟩:=a.blk;exact⟨k,m,g.kp c Zm,o.keep jo.stays (Kp.same c fun q g r=>Zm) fun _ a=>a⟩
 . obtain⟨b,d,e⟩:=a.own;exact⟨b,d.kp c Zm,e⟩
 . obtain⟨b,d,e⟩:=a.ask;exact⟨b,d.kp c Zm,e⟩
theorem nM(h:jD w l p)(r:Ref):Calls prog 43 #[some l.L,.agg #[r.keeper,r.name]] w fun y Y=>y=.returned (.bool (jW p r))/\jD Y l p/\Kp (·=l.D) w Y:=by
 obtain⟨u,s,q⟩:=h.laid;have z:Ext w (w.alloc (.cells #[r.keeper,r.name] 64)).drew:=kx;have t:=Al (s.kp z fun a=>a) r.keeper r.name;obtain⟨au,av,f,c0,c1,c2,x⟩:=h.cells;have R:=x _ (Kp.refl _ w);have aB:=jv R;have⟨D,aa⟩:=jw h (h.ext z);have O:=(jq.new w 64 #[r.keeper,r.name]);clear f c0 c1 c2 h;cases m:look u (r.keeper,r.name)with
 | some L =>
  have g:=q _ _ _ m;rw[m]at t;simp only[TC]at t;have d:=Zy (Tm s q);clear s q m x;cases I:jW p r
  all_goals
   have S:jW p ⟨r.keeper,r.name⟩=_:=I;rw[S]at g;have HC:=Zy I;clear I S;simp at g;subst g;go_enter func43,ntmps43;go_wp2;refine pI 6 Zo Zo ?_;(simp only[Uh,UO,Ug,UF]);(repeat still_step);refine Vd ?_;go_wp2;go_ret;exact⟨rfl,D.ext kx |> fun h=>h,(kx:Ext w _).any⟩
 | none =>
  rw[m]at t;simp only[Vv]at t;have⟨d,E⟩:=jw (Tm s (Tm q m)) x;clear s q m x;go_enter func43,ntmps43;go_wp2;refine pI 6 Zo Zo ?_;(simp only[Uh,UO,Ug,UF]);(repeat still_step);refine Vd ?_;go_wp2_with fail;refine(sH aa _).mono ?_;rintro y w1 ⟨⟨L,rfl,f⟩,H⟩;obtain⟨a',ax,rfl,hn,ay⟩:=f.form;have e:=z.trans H;have Q:=E.o _ e;have⟨N,ae⟩:=jw (D.ext e) (d.1.kp e fun a=>a);have P:=((O.ext (jA)).ext H);obtain⟨W,q0,q1,-⟩:=P.ca;have J:Zz (jW p r=(!(chain p r).isEmpty&&kZ p (chain p r))):=Zy rfl;have T:Zz (∀a∈chain p r,∃af,cls? p a=some af):=Zy mr;have j:Zz (∀G v,Ext w G->pE v l.D (u++[((r.keeper,r.name),if jW p r then 1 else 2)])->Kp (·=l.D) G v->jD v l p):=Zy (fun G v hW ai ag=>(D.ext hW).QM ag ⟨_,ai,fun V X L g=>by
   by_cases A:((V,X):Key)=(r.keeper,r.name)
   . rw[A,yO d.o.2.2]at g;cases g;simp only[Wo]at A;obtain⟨rfl,rfl⟩:=A;rfl
   . rw[xQ A]at g;exact d.2.1 V X L g⟩)
  clear H O P t R z;generalize chain p r=xs at*;cases xs with
  |nil=>
   have c:jW p r=false:=J.o;rw[c]at j;have n:=Zy c;clear c;clear f;go_wp2;refine pI 5 Zo Zo ?_;(simp only[Uh,UO,Ug,UF]);(repeat still_step);refine Vd ?_;refine nT rfl rfl l.D u r.keeper r.name 2 rfl rfl rfl (ae.kp ((Kp.refl (fun _=>False) _).drew) fun a=>a) d.2.2 ?_;intro Z aj U aA;go_wp2;go_ret;exact⟨hV n.symm,j _ _ ((e).drew) aj U,((e.drew).any:Kp (·=l.D) w _).trans U⟩
  |cons B C=>
   have ah:((B::C).length:Int)≠0:=by simp;omega
   have az:=SK.2 ah;cases k:kZ p (B::C)
   . have c:jW p r=false:=by rw[J.o,k];rfl
     rw[c]at j;have⟨n,F⟩:=jw c k;clear c k;generalize (B::C)=xs at*;go_wp2_with fail;refine(xO N f T).mono ?_;rintro y Z ⟨rfl,b⟩;rw[F.o];have d2:=E.o _ (e.trans b);have p0:=b.jm q0;have p1:=b.jm q1;have i:=e.trans b;clear q0 q1 Q b W f;go_wp2;refine pI 5 Zo Zo ?_;(simp only[Uh,UO,Ug,UF]);(repeat still_step);refine Vd ?_;refine nT rfl rfl l.D u r.keeper r.name 2 rfl rfl rfl ((d.1.kp i fun a=>a).kp ((Kp.refl (fun _=>False) _).drew) fun a=>a) d.2.2 ?_;intro w3 K o ak;go_wp2;go_ret;exact⟨hV n.symm,j _ _ ((i).drew) K o,((i.drew).any:Kp (·=l.D) w _).trans o⟩
   . have c:jW p r=true:=by rw[J.o,k];rfl
     rw[c]at j;have⟨n,F⟩:=jw c k;clear c k;generalize (B::C)=xs at*;go_wp2_with fail;refine(xO N f T).mono ?_;rintro y Z ⟨rfl,b⟩;rw[F.o];have d2:=E.o _ (e.trans b);have p0:=b.jm q0;have p1:=b.jm q1;have i:=e.trans b;clear q0 q1 Q b W f;go_wp2;refine pI 5 Zo Zo ?_;(simp only[Uh,UO,Ug,UF]);(repeat still_step);refine Vd ?_;refine nT rfl rfl l.D u r.keeper r.name 1 rfl rfl rfl ((d.1.kp i fun a=>a).kp ((Kp.refl (fun _=>False) _).drew) fun a=>a) d.2.2 ?_;intro w3 K o ak;go_wp2;go_ret;exact⟨hV n.symm,j _ _ ((i).drew) K o,((i.drew).any:Kp (·=l.D) w _).trans o⟩
end Go.Proofs.YtenhnldnpdlniaaGreat
