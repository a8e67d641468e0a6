/- Walks. -/
import Derived.Test.YtlhlnddgfcmfkaaGreatRsCoreH
import Derived.Test.YtlhlnddgfcmfkaaGreatRsCoreLo
import Derived.Test.YtlhlnddgfcmfkaaGreatRsCoreLe
set_option maxRecDepth 100000
set_option maxHeartbeats 4000000
set_option linter.all false
namespace Go.Proofs.YtlhlnddgfcmfkaaGreat
open Go Go.RowKit Tryz M
def zH(n:Int):List PanicEntry:=[{v:=.iface 309 (.agg #[.int .i64 n]),recovered:=false}]
theorem mD{w:World}(a:Nat)(n:Int)(e:w.cell? (a,10)=some (.int .i64 n))(h0:0<=n)(d:n<=1000):Calls prog 214 #[some a] w fun b c=>b=.panicked (zH (n+1))/\w=c:=by
 go_enter func214,ntmps214;go_wp2;exact⟨rfl,rfl,rfl⟩
theorem AZ{w:World}{l:jh}{p:hZ}(g:jg w l p)(k:Int)(a b:Tag):Calls prog 232 #[some l.L,k,.agg #[a.kind,a.name],.agg #[b.kind,b.name]] w fun u w'=>u=.returned (.bool (may p k a b))/\Ext w w':=by
 obtain⟨e,c⟩:=a;obtain⟨h,d⟩:=b;have C:=Zy g;clear g;by_cases j:h=0
 . subst j;have f:Zz (may p k ⟨e,c⟩ ⟨0,d⟩=true):=Zy (by unfold may;rw[RV (.inl rfl)]);go_enter func232,ntmps232;go_wp2;go_ret;exact⟨hQ f.symm,kx⟩
 by_cases z:e=h/\c=d
 . obtain⟨rfl,rfl⟩:=z;have f:Zz (may p k ⟨e,c⟩ ⟨e,c⟩=true):=Zy (by unfold may;rw[RV (.inr rfl)]);have Z:=QC.2 j;clear j;go_enter func232,ntmps232;go_wp2;go_ret;exact⟨hQ f.symm,kx⟩
 have t:Zz (may p k ⟨e,c⟩ ⟨h,d⟩=if h≠2 then false else if e=3 then true else if e≠2 then false
  else decide ((find p k c).2=1)&&decide ((find p k d).2=1)&&under p (find p k c).1 (find p k d).1):=Zy (by
  unfold may;rw[RX (by
   rintro(g|g)
   . exact j g
   . rw[Tag.nX]at g;exact z g)])
 have Z:=QC.2 j;have r:(e==h)=false\/(e=h/\(c.toList==d.toList)=false):=by
  rcases yN e h c d with⟨i,D⟩|⟨i,D,_⟩|⟨i,_⟩
  . exact absurd ⟨i,D⟩ z
  . exact .inr ⟨i,D⟩
  . exact .inl i
 clear j z;by_cases x:h=2
 . subst x;by_cases o:e=3
   . subst o;have f:Zz (may p k ⟨3,c⟩ ⟨2,d⟩=true):=Zy (by rw[t.o];rfl);clear r;go_enter func232,ntmps232;go_wp2;go_ret;exact⟨hQ f.symm,kx⟩
   by_cases n:e=2
   . subst n;have av:(c.toList==d.toList)=false:=by
      rcases r with g|g
      . exact absurd g Zn
      . exact g.2
     have f:Zz (may p k ⟨2,c⟩ ⟨2,d⟩=(decide ((find p k c).2=1)&&decide ((find p k d).2=1)&&under p (find p k c).1 (find p k d).1)):=Zy (by rw[t.o];rfl);clear r o;obtain⟨B,A⟩:=Ry ((w.alloc (.cells #[.int .i64 2,c] 211)).alloc (.cells #[.int .i64 2,d] 211));have O:Ext w B:=by rw[A];exact kx
     have K:hV B (w+1) 211 #[.int .i64 2,d]:=by rw[A];exact hV.newAt _ _ Zl
     have⟨V,I⟩:=je A O;clear A O;go_enter func232,ntmps232;go_wp2_with fail;rw[<-V.o];refine(ng _ _ _ (C.ext I) k c).mono ?_;rintro u w1 ⟨rfl,E⟩;obtain⟨qz,q0,q1,-⟩:=(K.ext E).ca;have T:=Zy (I.trans E);clear E K;generalize find p k c=F1 at*;obtain⟨⟨G,H⟩,X⟩:=F1;simp only at*;obtain⟨w2,Q,v,L⟩:=nu w1 #[G,H] 63;have⟨W,J⟩:=je Q (T.trans v);have aa:=v.jb q0;have ae:=v.jb q1;clear Q v;go_wp2_with fail;rw[<-W.o];clear q0 q1 qz;refine(ng _ _ _ (C.ext J) k d).mono ?_;rintro u w3 ⟨rfl,F⟩;have N:=L.ext F;obtain⟨sz,s0,s1,-⟩:=N.ca;have s:=Zy (J.trans F);clear F L N aa ae;generalize find p k d=F2 at*;obtain⟨⟨R,S⟩,Y⟩:=F2;simp only at*;by_cases q:X=1
     . by_cases y:Y=1
       . subst q y;have m:Zz (may p k ⟨2,c⟩ ⟨2,d⟩=under p ⟨G,H⟩ ⟨R,S⟩):=Zy (by rw[f.o];rfl);go_wp2_with fail;refine(uN (C.ext (s.trans kx)) ⟨G,H⟩ ⟨R,S⟩).mono ?_;rintro u w4 ⟨rfl,P⟩;have U:=Zy ((s.alloc _).trans P);clear P;go_wp2_with fail;go_ret;exact⟨hQ m.symm,U⟩
       . have aj:=QC.2 y;subst q;have m:Zz (may p k ⟨2,c⟩ ⟨2,d⟩=false):=Zy (by rw[f.o];simp[y]);clear y;go_wp2_with fail;go_ret;exact⟨hQ m.symm,s.alloc _⟩
     . have ai:=QC.2 q;have m:Zz (may p k ⟨2,c⟩ ⟨2,d⟩=false):=Zy (by rw[f.o];simp[q]);clear q;go_wp2_with fail;go_ret;exact⟨hQ m.symm,s.alloc _⟩
   . have au:=QC.2 n;have af:=RS.2 n;have ag:=QC.2 o;have f:Zz (may p k ⟨e,c⟩ ⟨2,d⟩=false):=Zy (by rw[t.o];simp[n,o]);clear r n o;go_enter func232,ntmps232;go_wp2;go_ret;exact⟨hQ f.symm,kx⟩
 . have ah:=RS.2 x;have f:Zz (may p k ⟨e,c⟩ ⟨h,d⟩=false):=Zy (by rw[t.o,RV x]);clear x;rcases r with i|⟨rfl,i⟩
   all_goals
    go_enter func232,ntmps232;go_wp2;go_ret;exact⟨hQ f.symm,kx⟩
structure tX where
 a1:Option Addr
 c1:Nat
 a2:Option Addr
 c2:Nat
 a3:Option Addr
 c3:Nat
def mg(m:M.Method)(t:tX):List Value:=[.string m.name,.slice t.a1 m.args.length t.c1,.int .i64 m.ret.kind,.string m.ret.name,.int .i64 m.locals,.int .i64 m.stack,.slice t.a2 m.code.length t.c2,.slice t.a3 m.maps.length t.c3]
def I9(L:Nat)(k:Int)(m:M.Method)(t:tX)(at_:Int)(vl vs:Value):Array Value:=
 #[.pointer (some ⟨L,0,none⟩),.int .i64 k,.string m.name,.slice t.a1 m.args.length t.c1,.int .i64 m.ret.kind,.string m.ret.name,.int .i64 m.locals,.int .i64 m.stack,.slice t.a2 m.code.length t.c2,.slice t.a3 m.maps.length t.c3,.int .i64 at_,vl,vs]
structure jD(w:World)(l:jh)(p:hZ)(B kb:Nat)(k:Int)(m:M.Method)(t:tX)(at_:Int)(s:oM)(vl vs:Value):Prop where
 ku:jg w l p
 hB:l.L<B
 hk:B<=kb
 ml:jd w (· <l.O) m (mg m t)
 mi:JH m
 blk:hV w kb 305 (I9 l.L k m t at_ vl vs)
 loc:w.ownsRow B 211 2 vl s.locals.length (s.locals.flatMap lY)
 kI:w.ownsRow B 211 2 vs s.stack.length (s.stack.flatMap lY)
 ne:∀g,vl.ownBlock=some g->vs.ownBlock≠some g
 I6:0<=at_/\at_<=100
 Pk:(s.stack.length:Int)<=m.stack
 M5:(s.locals.length:Int)=m.locals
def qj(l:jh)(kb:Nat)(vl vs:Value)(b:Nat):Prop:=b=l.D\/b=kb\/vl.ownBlock=some b\/vs.ownBlock=some b
def jU(n:Nat)(vl vs vl' vs':Value):Prop:=∀g,(vl'.ownBlock=some g\/vs'.ownBlock=some g)->vl.ownBlock=some g\/vs.ownBlock=some g\/n<=g
theorem jU.refl(n:Nat)(b vs:Value):jU n b vs b vs:=fun _ a=>a.elim .inl fun a=>.inr (.inl a)
theorem jU.trans{n j:Nat}{a b c d e f:Value}(i:jU n a b c d)(k:jU j c d e f)(m:n<=j):jU n a b e f:=fun h l=>by
 rcases k h l with g|g|g
 . exact i h (.inl g)
 . exact i h (.inr g)
 . exact .inr (.inr Zm)
theorem jU.le{n f:Nat}{a b c d:Value}(h:jU f a b c d)(j:n<=f):jU n a b c d:=fun g i=>by
 rcases h g i with e|e|e
 . exact .inl e
 . exact .inr (.inl e)
 . exact .inr (.inr Zm)
theorem Kp.look{l:jh}{i:Nat}{j vs n vs':Value}{w a b:World}(e:Kp (qj l i j vs) w a)(f:Kp (qj l i n vs') a b)(k:jU w j vs n vs'):Kp (qj l i j vs) w b:=
 ⟨f.os.trans e.os,f.tape.trans e.tape,f.output.trans e.output,RP e.size f.size,
  fun h g m=>(f.block h (Nv g e.size) (fun d=>m (by
   rcases d with d|d|d|d
   . exact .inl d
   . exact .inr (.inl d)
   . rcases k h (.inl d)with c|c|c
     . exact .inr (.inr (.inl c))
     . exact .inr (.inr (.inr c))
     . exact absurd g (Te.2 c)
   . rcases k h (.inr d)with c|c|c
     . exact .inr (.inr (.inl c))
     . exact .inr (.inr (.inr c))
     . exact absurd g (Te.2 c)))).trans (e.block h g m)⟩
theorem Bf{w:World}{base e k n c g:Nat}{xs:List Value}(b:w.ownsRow base e k (g,n,c) n xs){j:Nat}(i:j<=n):w.ownsRow base e k (g,j,c) j (xs.take (j*k)):=by
 have l:j*k<=n*k:=Tv _ i;refine⟨by rw[Su,b.1];omega,?_⟩;rcases b.2 with⟨a,_⟩|⟨r,q,d,a,h,f,s,m,o,p⟩
 . cases a
 . cases a;refine .inr ⟨g,c,d,rfl,h,f,Zm,m,o,?_⟩;rw[<-p,List.take_take,SX l]
theorem EU{α:Type}{enc:α->List Value}{k:Nat}(a:∀x,(enc x).length=k)(st:List α)(x:α)(j:Nat):((st++[x]).flatMap enc)[st.length*k+j]?=(enc x)[j]?:=by
 rw[S9,Sv (by rw[nY a];omega),nY a,Nat.add_sub_cancel_left];simp
theorem AP{α:Type}{enc:α->List Value}{k:Nat}(a:∀b,(enc b).length=k)(st r:List α):((st++r).flatMap enc).take (st.length*k)=st.flatMap enc:=by
 rw[S9,<-nY a st,List.take_left]
section
variable {w w':World} {l:jh} {p:M.hZ} {B kb:Nat} {k:Int} {m:M.Method} {t:tX} {at_:Int} {s:M.oM} {vl vs:Value}
theorem jD.Pg(c:jD w l p B kb k m t at_ s vl vs):vl.ownBlock≠some kb/\vs.ownBlock≠some kb:=by
 constructor
 . intro a;rcases c.loc.2 with⟨b,_⟩|⟨e,g,d,b,h,f,_⟩
   . rw[b]at a;cases a
   . rw[b]at a;cases a;exact absurd (hV.inj (show hV w e 211 d from f) c.blk) Zn
 . intro a;rcases c.kI.2 with⟨b,_⟩|⟨e,g,d,b,h,f,_⟩
   . rw[b]at a;cases a
   . rw[b]at a;cases a;exact absurd (hV.inj (show hV w e 211 d from f) c.blk) Zn
theorem jD.kp{D:Nat->Prop}(a:jD w l p B kb k m t at_ s vl vs)(e:Kp D w w')(h:jg w' l p)(f:∀b,B<=b->b<w.heap.size->¬D b)(i:∀b,b<l.O->¬D b):jD w' l p B kb k m t at_ s vl vs:=
 ⟨h,a.hB,a.hk,jL.kp jd.stays e (fun b d=>i b d) a.ml,a.mi,a.blk.kp e (f _ a.hk a.blk.lt),iZ a.loc e (fun c g d=>f c d (a.loc.lt c g).2),iZ a.kI e (fun c g d=>f c d (a.kI.lt c g).2),a.ne,a.I6,a.Pk,a.M5⟩
theorem jD.ext(b:jD w l p B kb k m t at_ s vl vs)(c:Ext w w'):jD w' l p B kb k m t at_ s vl vs:=
 b.kp c (b.ku.ext c) (fun _ _ _ a=>a) (fun _ _ a=>a)
theorem jD.kp'{D:Nat->Prop}(a:jD w l p B kb k m t at_ s vl vs)(d:Kp D w w')(i:jg w' l p)(f:¬D kb)(g:∀b,vl.ownBlock=some b->¬D b)(h:∀b,vs.ownBlock=some b->¬D b)(j:∀c,c<l.O->¬D c):jD w' l p B kb k m t at_ s vl vs:=
 ⟨i,a.hB,a.hk,jL.kp jd.stays d (fun c n=>j c n) a.ml,a.mi,a.blk.kp d f,iZ a.loc d (fun b e _=>g b e),iZ a.kI d (fun b e _=>h b e),a.ne,a.I6,a.Pk,a.M5⟩
theorem jD.oJ(b:jD w l p B kb k m t at_ s vl vs)(f:Kp (·=l.D) w w')(a:jg w' l p):jD w' l p B kb k m t at_ s vl vs:=
 b.kp f a (fun c e _ d=>Z4 b.hB a.ord) (fun c e d=>Z0 a.ord)
theorem jD.setStack(b:jD w l p B kb k m t at_ s vl vs){st:List Tag}{vs':Value}(f:Kp (fun c=>c=kb\/vs.ownBlock=some c) w w')(g:hV w' kb 305 (I9 l.L k m t at_ vl vs')) (j:w'.ownsRow B 211 2 vs' st.length (st.flatMap lY)) (i:∀d,vs'.ownBlock=some d->vs.ownBlock=some d\/w.heap.size<=d) (n:(st.length:Int)<=m.stack):jD w' l p B kb k m t at_ ⟨s.locals,st⟩ vl vs'/\Kp (qj l kb vl vs) w w'/\jU w vl vs vl vs':=by
 have q:=b.hk;have o:=b.hB;have r:=b.ku.ord;have h:∀c,c<=l.L->¬(c=kb\/vs.ownBlock=some c):=fun c u a=>by
  rcases a with a|a
  . omega
  . have:=(b.kI.lt c a).1;omega
 refine⟨⟨b.ku.kp f h,b.hB,b.hk,jL.kp jd.stays f (fun c g=>h c Zm) b.ml,b.mi,g,?_,j,?_,b.I6,n,b.M5⟩,f.weak fun c _ a=>?_,fun d e=>?_⟩
 . refine iZ b.loc f fun d e _ a=>?_;rcases a with a|a
   . subst a;exact b.Pg.1 e
   . exact b.ne d e a
 . intro d e a;rcases i d a with a|a
   . exact b.ne d e a
   . have:=(b.loc.lt d e).2;omega
 . rcases a with a|a
   . exact .inr (.inl a)
   . exact .inr (.inr (.inr a))
 . rcases e with a|a
   . exact .inl a
   . rcases i d a with a|a
     . exact .inr (.inl a)
     . exact .inr (.inr a)
end
theorem wF{w:World}{l:jh}{p:hZ}{g c:Nat}{k:Int}{m:M.Method}{t:tX}{b:Int}{s:oM}{o vs:Value}(a:jD w l p g c k m t b s o vs)(f:s.stack=[]):Calls prog 222 #[some c] w fun d q=>d=.panicked (zH (b+1))/\Ext w q:=by
 obtain⟨h,i,rfl⟩:=jB a.kI;have e:s.stack.length=0:=by rw[f];rfl
 have r:=a.blk.c 12 (.slice h 0 i) (by rw[<-e];rfl);obtain⟨u,-,-,-,-,-,-,-,-,-,-,j,-⟩:=a.blk.ca;clear e;have n:=a.I6;clear a f;go_enter func222,ntmps222;go_wp2_with fail;refine(mD c b (Kp.jb (jr _:Ext w _) j) n.1 Zm).mono ?_;rintro d v ⟨rfl,rfl⟩;exact⟨rfl,rfl,kx⟩
theorem yH{w:World}{l:jh}{p:hZ}{L a:Nat}{k:Int}{m:M.Method}{t:tX}{O:Int}{s:oM}{A vs:Value}(f:jD w l p L a k m t O s A vs)(st:List Tag)(x:Tag)(y:s.stack=st++[x]):Calls prog 222 #[some a] w fun b w'=>b=.returned (.agg #[x.kind,x.name])/\(∃vs',jD w' l p L a k m t O ⟨s.locals,st⟩ A vs'/\jU w A vs A vs')/\Kp (qj l a A vs) w w':=by
 have v:s.stack.length=st.length+1:=by rw[y];simp
 have G:=f.kI;rw[v]at G;obtain⟨g,d,rfl,hg,aP,aD⟩:=jS G Zm;have I:=G.cells (g:=g) rfl;have x0:w.cell? (g,st.length*2)=some (.int .i64 x.kind):=by
  have:=I (st.length*2) x.kind (by rw[y];have:=EU (enc:=lY) (k:=2) (fun _=>rfl) st x 0;rw[Sb]at this;rw[this];rfl);simpa [Addr.add_lit]using this
 have x1:w.cell? (g,st.length*2+1)=some (.string x.name):=by
  have:=I (st.length*2+1) x.name (by rw[y,EU (enc:=lY) (k:=2) (fun _=>rfl) st x 1];rfl);simpa [Addr.add_lit]using this
 have aI:=f.Pk;have aF:=f.mi.stack;obtain⟨i,Y,u,P⟩:=nu w #[.int .i64 0, ""] 211;have H:=f.ext u;obtain⟨ak,av,aH,e⟩:=kY i;have K:=fun s=>(H.blk.ext (e.jm s)).c 12 (g,st.length+1,d) (by rw[<-v];rfl);have r0:=fun s=>(u.trans (e.jm s)).jb x0;have r1:=fun s=>(u.trans (e.jm s)).jb x1;have hw:IntKind.i64.wrap ((st.length:Int)+1 - 1)=(st.length:Int):=by rw[RQ _ Zm];omega
 have⟨r,N,HA,o,ah,ae,B,HS,ag⟩:=vL e Y H f u P v y aD;have aQ:(st.length:Int)<=5:=Zm
 have au:=f.blk.c 12 (g,st.length+1,d) (by rw[<-v];rfl);have hz:=f.blk.lt;clear Y H f u P v y I x0 x1 G e aI aF;go_enter func222,ntmps222;go_wp2_with fail;rw[<-N.o];refine kD r 13 [([0,1,2,3,4,5,6,7,8,9,10,11],12)] [] ?_ ?_
 . exact jf
 refine lS ?_;intro K2 T;go_wp2_with fail;refine kk r T kx ?_;clear T K2;refine kC ?_;go_wp2_with fail;obtain⟨c,z⟩:=Ry ((i.alloc (.cells #[x.kind,x.name] 211)).drew);have F:Ext i c:=by rw[z];exact kx
 have Q:hV c i 211 #[x.kind,x.name]:=by rw[z];exact(hV.new _ _ _).ext jf
 have j:=HA.ext F;have aa:c.heap.size=i+1:=by rw[z];simp
 have Z:(i:Nat)=w+1:=by rw[N.o];simp
 have HZ:=Zy (RJ aa Z);rw[<-z];clear z r K r0 r1;obtain⟨ak,av,aH,e⟩:=kY c;have K:=fun s=>(j.blk.ext (e.jm s)).c 12 (g,st.length+1,d) (by rw[<-B.o];rfl);have r:=Zy e;have aO:(st.length:Int)<=d:=Z0 ag.o
 refine kD r 12 [] [0,1,2,3,4,5,6,7,8,9,10,11] ?_ ?_
 . exact jf
 refine sP [_,_,_,_,_,_,_,_,_,_,_,_] rfl fun aj S=>?_;(repeat (go_big_quiet_step (fail)));refine qn S ?_;clear S aj;have aJ:=j.blk.c 12 (g,st.length+1,d) (by rw[<-B.o];rfl);have aK:=j.blk.frozen 12;have z3:=j.blk.lt;obtain⟨-,u0,u1,-⟩:=Q.ca;have E:=ae.ext F;obtain⟨i2,v0,v1,-⟩:=E.ca;obtain⟨i0,i1,-⟩:=E.fz;have⟨q,ai,af⟩:=jy j F E;have n1:¬i=a:=Zm
 have n2:¬w=a:=Zm
 have n3:¬a=i:=Zm
 have n4:¬a=w:=Zm
 clear j F Q E e K au Z aa;go_wp2_with fail;have V:Kp (fun C=>C=a\/(Value.slice (some ⟨g,0,none⟩) (st.length+1) d).ownBlock=some C) c (c.setCell (a,12) (g,st.length,d)):=(Kp.refl _ c).setCell (p:=⟨a,12,none⟩) (fun _=>.inl rfl) _;have W:=q.kI;rw[B.o,HS.o]at W;have X:=Bf W (j:=st.length) Zm;rw[AP (enc:=lY) (k:=2) (fun _=>rfl)]at X;have aA:=q.blk.jk 12 (g,st.length,d);have aG:=q.Pg;have ax:=q.o;obtain⟨U,ay,az⟩:=ax.setStack (st:=st) (vs':=(g,st.length,d)) V aA (iZ (D:=(·=a)) X ((Kp.refl (·=a) c).setCell (p:=⟨a,12,none⟩) (fun _=>rfl) _) (fun n h _ b=>by cases h;subst b;exact aG.2 rfl)) (fun n h=>.inl h) (by have:=q.Pk;rw[B.o]at this;omega);generalize c.setCell (a,12) (g,st.length,d)=w4 at*;have J:∀D:Nat->Prop,D w.heap.size->Kp D w4 ((w4.setCell w x.kind).setCell (w,1) x.name).drew:=fun D R=>
  (((Kp.refl D w4).setCell (p:=⟨w,0,none⟩) (fun _=>R) _).setCell (p:=⟨w,1,none⟩) (fun _=>R) _).drew
 have aB:=af.kp V (fun b=>by
  rcases b with b|b
  . omega
  . have e':g=w:=by simpa [Value.ownBlock]using b
    omega)
 have aC:=hH.lV ((aB.jk 0 x.kind).jk 1 x.name);refine DV (jw tL rfl w rfl (lY x) (aC.ext jf) rfl) rfl ?_;have aM:=o.hk;have aL:=o.hB;have aN:=o.ku.ord;have aR:=o.blk.lt;refine⟨rfl,⟨_,U.kp' (J (·=w) rfl) (U.ku.kp (J (·=w) rfl) (fun C hb b=>Zm)) Zm (fun n h b=>Z0 ((o.o.loc.lt n h).2)) (fun n h b=>by
  have e':g=n:=by simpa [Value.ownBlock]using h
  omega) (fun C hb b=>Zm),az.le Zm⟩,?_⟩
 exact(((ah.trans ai).any).trans ay).own (J (·=w) rfl) (fun n h=>Zm)
end Go.Proofs.YtlhlnddgfcmfkaaGreat
namespace Go.Proofs.YtlhlnddgfcmfkaaGreat
open Go Go.RowKit Tryz M
theorem Hg(w:World)(l:jh)(p:hZ)(r h:Nat)(k:Int)(m:M.Method)(t:tX)(d:Int)(s:oM)(C vs:Value)(b:jD w l p r h k m t d s C vs)(x:Tag)(o:m.stack<=s.stack.length):Calls prog 220 #[some h,.agg #[x.kind,x.name]] w fun n D=>n=.panicked (zH (d+1))/\Ext w D:=by
 obtain⟨y,z,rfl⟩:=jB b.kI;obtain⟨c,g⟩:=Ry (w.alloc (.cells #[x.kind,x.name] 211));have f:Ext w c:=by rw[g];exact kx
 have e:=b.ext f;obtain⟨E,F,H,a⟩:=kY c;have I:=fun i=>(e.blk.ext (a.jm i)).c 12 (.slice y s.stack.length z) rfl;obtain⟨-,-,-,-,-,-,-,-,J,-,-,B,-⟩:=hV.lL fun i=>(e.blk.ext (a.jm i));have⟨j,v,u⟩:=jy a g f;have A:=b.I6;have G:=R6 o;clear b o a g f e;go_enter func220,ntmps220;go_wp2_with fail;rw[<-v.o];refine Bl j ?_ ?_;rotate_left;(repeat (go_big_quiet_step ((fail))));refine Sw ?_;(rintro _ ⟨q,rfl⟩);rotate_left
 . exact jf
 go_wp2_with fail;refine(mD h d (B q) A.1 Zm).mono ?_;rintro n K ⟨rfl,rfl⟩;exact⟨rfl,rfl,u.trans (j.jm q)⟩
theorem MW(w:World)(l:jh)(p:hZ)(v f:Nat)(k:Int)(m:M.Method)(t:tX)(I:Int)(s:oM)(u vs:Value)(a:jD w l p v f k m t I s u vs)(x:Tag)(hs:(s.stack.length:Int)<m.stack):Calls prog 220 #[some f,.agg #[x.kind,x.name]] w fun d X=>d=.returned (.tuple #[])/\(∃vs',jD X l p v f k m t I ⟨s.locals,s.stack++[x]⟩ u vs'/\jU w u vs u vs')/\Kp (qj l f u vs) w X:=by
 obtain⟨i,j,rfl⟩:=jB a.kI;obtain⟨Y,U,C,K⟩:=nu w #[x.kind,x.name] 211;have z:=a.ext C;obtain⟨aj,N,az,b⟩:=kY Y;have F:=fun g=>(z.blk.ext (b.jm g)).c 12 (.slice i s.stack.length j) rfl;have r7:=fun g=>(z.blk.ext (b.jm g)).c 7 m.stack rfl;have⟨c,H,af,HA,ae,Z⟩:=nZ b U C z K a;have hd:decide (m.stack<=(s.stack.length:Int))=false:=R7 Zm;clear a b U C z K;go_enter func220,ntmps220;go_wp2_with fail;rw[<-H.o];refine Bl c ?_ ?_;rotate_left;(repeat (go_big_quiet_step ((fail))));refine Sw ?_;(rintro _ ⟨W,rfl⟩);rotate_left
 . exact jf
 go_wp2_with fail;have q:=c.jm W;generalize N W=w1 at*;clear c F r7;have e:=HA.ext q;have L:=ae.ext q;have aC:=q.size;have aD:(w:Nat)<Y:=by rw[H.o];simp
 obtain⟨aj,N,az,b⟩:=rA.ex (fun W'=>Kp (fun J=>(Value.slice i s.stack.length j).ownBlock=some J) w1 W') _ Kp.rr;have S:¬(Value.slice i s.stack.length j).ownBlock=some w.heap.size:=fun d=>Z0 ((Z.kI.lt _ d).2)
 have F:=fun g=>(e.blk.kp (b.jm g) e.Pg.2).c 12 (.slice i s.stack.length j) rfl;obtain⟨-,r0,r1,-⟩:=hV.lL fun g=>(L.kp (b.jm g) S);have⟨c,h,ag⟩:=jy b e q;have ay:s.stack.length+1<=4294967296:=Z0 e.mi.stack
 have aB:v<=w1:=Z4 e.blk.lt e.hk
 clear b e L q S;refine kD c 8 [([0,1,2,3,4,5],6),([],7)] [] ?_ ?_
 . exact jf
 refine lS ?_;intro y r;go_wp2_with fail;refine kk c r kx ?_;clear r y;refine lF rfl fun y r=>?_;refine jo vK rfl (.tmp 21) (.tmp 23) rfl v (.slice i s.stack.length j) s.stack.length _ rfl (iZ (D:=fun _=>False) h.kI kx fun _ _ _ x=>x) w1 1 (lY x) rfl rfl (hH.Hn _ _ rfl) (tO _) ay Zr ?_;intro n B w2 P O Q;change y _ _;have A:=(kx:Ext w1 _).any.trans O;refine kk c r A ?_;clear r y;have o:=h.blk.kp A h.Pg.2;have d0:=o.c 12 (.slice i s.stack.length j) rfl;have e0:=o.frozen 12;have z1:=o.lt;have⟨aa,ai,ah,G⟩:=jV o P A Q;clear P O A o Q F r0 r1;refine kC ?_;go_wp2_with fail;refine RA ?_;have T:=fun D hD aA=>(Kp.refl D w2).setCell (p:=⟨f,12,none⟩) (fun _=>hD) aA;have R:(s.stack++[x]).length=s.stack.length+1:=by simp
 have av:n≠f:=fun d=>by
  subst d;rcases G.o with a|a
  . exact h.Pg.2 a
  . have:=h.blk.lt;simp at a;omega
 obtain⟨hS,ak,au⟩:=h.setStack (st:=s.stack++[x]) (vs':=(n,s.stack.length+1,B)) ((ah.weak fun J _ a=>.inr a).trans (T _ (.inl rfl) (n,s.stack.length+1,B))) (aa.jk 12 _) (by
  have h2:=iZ ai (T (·=f) rfl (n,s.stack.length+1,B)) (fun V E _ d=>by cases E;exact av d);rw[R];simpa using h2) (fun V E=>by
   have ax:n=V:=by simpa [Value.ownBlock]using E
   subst ax;rcases G.o with a|a
   . exact .inl a
   . right;simp at a;omega) (by rw[R];omega)
 exact⟨rfl,⟨_,hS,au.le Zm⟩,((af.trans ag).any).trans ak⟩
def jK(w:World)(l:jh)(p:hZ)(B kb:Nat)(k:Int)(m:M.Method)(t:tX)(at_:Int)(vl vs:Value)(o:Option oM)(e:Ending)(w':World):Prop:=
 Kp (qj l kb vl vs) w w'/\jg w' l p/\
 ((o=none/\e=.panicked (zH (at_+1)))\/∃s',o=some s'/\e=.returned (.tuple #[])/\∃vl' vs',jD w' l p B kb k m t at_ s' vl' vs'/\jU w.heap.size vl vs vl' vs')
theorem qW(w:World){l:jh}{p:hZ}{b a:Nat}{k:Int}{m:M.Method}{t:tX}{c:Int}{s:oM}{d vs:Value}(e:jD w l p b a k m t c s d vs)(x:Tag):Calls prog 220 #[some a,.agg #[x.kind,x.name]] w (jK w l p b a k m t c d vs (nP m x s)):=by
 by_cases f:m.stack<=s.stack.length
 . refine(Hg w l p b a k m t c s d vs e x f).mono ?_;rintro i o ⟨rfl,g⟩;exact⟨g.any,e.ku.ext g,.inl ⟨by unfold nP;rw[RV f],rfl⟩⟩
 . refine(MW w l p b a k m t c s d vs e x Zm).mono ?_;rintro i o ⟨rfl,⟨q,h,n⟩,j⟩;exact⟨j,h.ku,.inr ⟨_,by unfold nP;rw[RX f],rfl,_,_,h,n⟩⟩
theorem nA(w:World){l:jh}{p:hZ}{z f:Nat}{k:Int}{m:M.Method}{t:tX}{q:Int}{s:oM}{v vs:Value}(e:jD w l p z f k m t q s v vs)(x:Tag):Calls prog 223 #[some f,.agg #[x.kind,x.name]] w (jK w l p z f k m t q v vs (oN p k x s)):=by
 obtain⟨w0,ae,I,G⟩:=nu w #[x.kind,x.name] 211;have H:=e.ext I;have av:=e.ku.ord;have au:=e.ku.lt;have ax:=e.blk.lt;have ai:=e.I6;obtain⟨ak,V,ay,h⟩:=rA.ex (fun U=>hV U w 211 #[x.kind,x.name]/\∃L O P,jD U l p z f k m t q L O P) w0 ⟨G,_,_,_,H⟩;have r0:∀b,(V b).cell? f=some (.pointer (some ⟨l.L,0,none⟩)):=fun b=>by
  obtain⟨_,L,O,P,K⟩:=h.jm b;exact K.blk.c 0 _ rfl
 have r1:∀b,(V b).cell? (f,1)=some (.int .i64 k):=fun b=>by
  obtain⟨_,L,O,P,K⟩:=h.jm b;exact K.blk.c 1 _ rfl
 obtain⟨-,r3,r4,-⟩:=hV.lL fun b=>(h.jm b).1;have⟨i,T,D,n,C,A⟩:=nZ h ae I H G e;clear e h ae I H G;rcases R8 s.stack with d|⟨N,y,d⟩
 . have o:Zz (oN p k x s=none):=Zy (by unfold oN uU;rw[d];rfl);have F:=Zy d;clear d;go_enter func223,ntmps223;go_wp2_with fail;rw[<-T.o];refine kD i 13 [([0,1,2,3,4,5,6,7,8,10],9),([],11)] [12] ?_ ?_
   . exact⟨C.ext jf,_,_,_,n.ext jf⟩
   refine lS ?_;intro j c;go_wp2_with fail;refine(wF (n.ext jf) F).mono ?_;rintro a w1 ⟨rfl,ah⟩;have X:=(D.trans jf).trans ah;exact⟨rfl,X.any,A.ku.ext X,.inl ⟨o,rfl⟩⟩
 . rw[R9]at d;have o:Zz (oN p k x s=if may p k y x then some ⟨s.locals,N⟩else none):=Zy (by unfold oN uU;rw[d];simp);have F:=Zy d;clear d;go_enter func223,ntmps223;go_wp2_with fail;rw[<-T.o];refine kD i 13 [([0,1,2,3,4,5,6,7,8,10],9),([],11)] [12] ?_ ?_
   . exact⟨C.ext jf,_,_,_,n.ext jf⟩
   refine lS ?_;intro j c;go_wp2_with fail;refine(yH (n.ext jf) N y F).mono ?_;rintro a w1 ⟨rfl,⟨aj,W,Z⟩,J⟩;have Y:=((D.trans jf).any).trans J;have aa:=(C.ext jf).kp J (fun a=>by
    rcases a with a|a|a|a
    . omega
    . omega
    . have:=(A.loc.lt _ a).2;omega
    . have:=(A.kI.lt _ a).2;omega)
   have⟨B,Q,af⟩:=jy W aa Y;have ag:Zz (jU w v vs v aj):=Zy (Z.le (by have:=D.size;exact this));clear W Z J Y aa;go_wp2_with fail;refine kk i c ⟨Q,_,_,_,B⟩ ?_;clear c j;refine lF rfl fun j c=>?_;go_wp2_with fail;refine(AZ B.ku k y x).mono ?_;rintro a w2 ⟨rfl,r⟩;have⟨g,S,R⟩:=jy (B.ext r) (af.trans r.any) (Q.ext r);clear r;cases u:may p k y x
   . have E:Zz (oN p k x s=none):=Zy (by rw[o.o,u];rfl);clear u;go_wp2_with fail;refine kk i c ⟨R,_,_,_,g⟩ ?_;clear c j;refine sK ?_;go_wp2_with fail;refine(mD f q (g.blk.c 10 _ rfl) ai.1 Zm).mono ?_;rintro a w3 ⟨rfl,rfl⟩;exact⟨rfl,S,g.ku,.inl ⟨E,rfl⟩⟩
   . have E:Zz (oN p k x s=some ⟨s.locals,N⟩):=Zy (by rw[o.o,u];rfl);clear u;go_wp2_with fail;refine kk i c ⟨R,_,_,_,g⟩ ?_;clear c j;refine sK ?_;go_wp2_with fail;refine RA ?_;exact⟨S,g.ku,.inr ⟨_,E,rfl,_,_,g,ag⟩⟩
theorem wY{w:World}{l:jh}{p:hZ}{B o:Nat}{k:Int}{m:M.Method}{t:tX}{v:Int}{s:oM}{D vs:Value}(y:jD w l p B o k m t v s D vs):Calls prog 227 #[some o] w (jK w l p B o k m t v D vs (xL s)):=by
 have G:=y.I6;have i:=Zy y;clear y;rcases R8 s.stack with b|⟨q,A,b⟩
 . have e:Zz (xL s=none):=Zy (by unfold xL uU;rw[b];rfl);have j:=Zy b;clear b;go_enter func227,ntmps227;go_wp2_with fail;refine(wF i j).mono ?_;rintro x E ⟨rfl,C⟩;exact⟨rfl,C.any,i.ku.ext C,.inl ⟨e,rfl⟩⟩
 . rw [R9] at b; have e : Zz (xL s = if A.kind = 2 \/ A.kind = 3 then some ⟨s.locals, q⟩ else none) := Zy (by unfold xL uU; rw [b]; simp); have j := Zy b; clear b; obtain ⟨c, K⟩ := A; have H : (c = 2 \/ (c = 3 /\ (c != 2) = true)) /\ xL s = some ⟨s.locals, q⟩ \/ ((c != 2) = true /\ (c != 3) = true) /\ xL s = none := by
    by_cases a:c=2
    . exact .inl ⟨.inl a,by rw[e.o,RV (.inl a)]⟩
    . by_cases f:c=3
      . exact .inl ⟨.inr ⟨f,RS.2 a⟩,by rw[e.o,RV (.inr f)]⟩
      . exact .inr ⟨⟨RS.2 a,RS.2 f⟩,by rw[e.o,RX (by simp[a,f])]⟩
   rcases H with⟨z,a⟩|⟨⟨z,f⟩,a⟩
   . have u:=Zy a;clear a;rcases z with rfl|⟨rfl,z⟩
     all_goals
      go_enter func227,ntmps227;go_wp2_with fail;refine(yH i q _ j).mono ?_;rintro x E ⟨rfl,⟨I,g,n⟩,h⟩;have⟨d,F,r⟩:=jy g n h;clear g n h;go_wp2_with fail;refine RA ?_;exact⟨r.alloc _,d.ku.ext kx,.inr ⟨_,u,rfl,_,_,d.ext kx,F⟩⟩
   . have u:=Zy a;clear a;go_enter func227,ntmps227;go_wp2_with fail;refine(yH i q _ j).mono ?_;rintro x E ⟨rfl,⟨I,g,n⟩,h⟩;have⟨d,r⟩:=je g h;clear g n h;go_wp2_with fail;refine(mD o v ((d.ext kx).blk.c 10 _ rfl) G.1 Zm).mono ?_;rintro x J ⟨rfl,rfl⟩;exact⟨rfl,r.alloc _,d.ku.ext kx,.inl ⟨u,rfl⟩⟩
theorem GI:ym 146 3:=⟨_,underlying146,by kernel_rfl⟩
theorem Du{w:World}{l:jh}{p:hZ}{P N:Nat}{k:Int}{m:M.Method}{t:tX}{U:Int}{s:oM}{vl vs:Value}(e:jD w l p P N k m t U s vl vs)(a:Int):Calls prog 228 #[some N,a] w fun u O=>((BO m a=none/\u=.returned (.tuple #[.agg #[.int .i64 0,(),()],.bool false]))\/∃d r,BO m a=some d/\d∈m.maps/\kX O (· <l.O) d r/\u=.returned (.tuple #[.agg r.toArray,.bool true]))/\Ext w O:=by
 obtain⟨w0,L,H,G⟩:=nu w #[.int .i64 0,(),()] 146;have ae:l.O<w:=Z4 e.ku.ord e.ku.lt
 obtain⟨hz,-,-,-,-,-,-,-,-,-,c9,-⟩:=e.blk.ca;obtain⟨_,_,vm,J,_,_,K⟩:=e.ml;simp only[mg,RG,SQ,SG]at J;obtain⟨-,-,rfl⟩:=J;have⟨R,Q,F,S⟩:=jV K G H L;have af:=e.mi.maps;obtain⟨ah,aj,ai,ak,ta,tc⟩:=t;simp only at*;clear K G H L e;go_enter func228,ntmps228;go_wp2_with fail;rw[<-S.o];go_loopw [14] (fun z wr=>∃c:Nat,c<=m.maps.length/\z=.int .i64 c/\Ext w0 wr/\Zz (BO m a=(m.maps.drop c).find? fun d=>d.at_=a)) (fun z _=>m.maps.length - (intOf z).toNat)
 case atStart=>exact⟨0,R4 _,rfl,Kp.rr,Zy rfl⟩
 case round =>
  obtain⟨c,hq,rfl,v,n⟩:=hrel;have i:=Q.ext v;obtain⟨yz,y0,y1,y2,-⟩:=i.ca;obtain⟨f0,f1,f2,-⟩:=i.fz;have⟨E,o⟩:=je i (F.trans v);clear i;by_cases Y:c<m.maps.length
  . obtain⟨b,x⟩:=nW m.maps c Y;obtain⟨V,ag,r,rfl,aa,y,-,I⟩:=R.get x;have T:=Zy y;obtain⟨A,C,B,D,rfl⟩:=y.form;obtain⟨W,g1,g2⟩:=(I.ext (F.trans v)).three;have gz:=iY W;have q:=Zy x;clear y I x;by_cases f:b.at_=a
    . have g:Zz (BO m a=some b):=Zy (by rw[n.o,oG q.o,List.find?_cons_of_pos (by simpa using f)]);have Z:(b.at_==a)=true:=by simpa using f
      clear f;go_wp2_with fail;have j:=Kp.uG (D:=(·=w)) (w:=wr) rfl b.at_ (.slice A b.locals.length C) (.slice B b.stack.length D);have h:=E.uG b.at_ (.slice A b.locals.length C) (.slice B b.stack.length D);refine DV (ja GI rfl w rfl [b.at_,.slice A b.locals.length C,.slice B b.stack.length D] ((hH.lV h).ext (jr _)) rfl) rfl ?_;exact⟨.inr ⟨b,_,g,R3 q,jL.ext kX.stays (jr _) (jL.kp kX.stays j (fun V h u=>Zm) (jL.ext kX.stays o.o T.o)),rfl⟩,(o.o.own j (fun k X=>Zm)).alloc _⟩
    . have g:Zz (BO m a=(m.maps.drop (c+1)).find? fun d=>d.at_=a):=Zy (by rw[n.o,oG q.o,List.find?_cons_of_neg (by simpa using f)]);have Z:=QC.2 f;clear f;go_wp2_with fail;go_roundw
      case rel=>exact⟨c+1,Zm,by go_num,kx,g⟩
      case measure=>simp[intOf];omega
  . have g:Zz (BO m a=none):=Zy (by rw[n.o,Sa Zm];rfl);go_wp2_with fail;have j:=Kp.uG (D:=(·=w)) (w:=wr) rfl (.int .i64 0) () ();have h:=E.uG (.int .i64 0) () ();refine DV (ja GI rfl w rfl [.int .i64 0,(),()] (hH.lV h) rfl) rfl ?_;exact⟨.inl ⟨g,rfl⟩,o.own j (fun k X=>Zm)⟩
theorem Oj{α:Type}{enc:α->List Value}{k:Nat}(e:∀x,(enc x).length=k):∀(l:List α) (i:Nat) (x:α),l[i]?=some x->∀a b,(enc x)[a]?=some b->(l.flatMap enc)[i*k+a]?=some b:=by
 intro l;induction l with
 |nil=>intro i x f;simp at f
 | cons j h g =>
  intro i x d a b c;rw[Tn];cases i with
  |zero=>
   simp at d;subst d;rw[RY (by rw[Sj,RO];exact(RZ.1 c).1),Sj,RO];exact c
  |succ i=>
   rw[Sv (by rw[e,Nat.succ_mul];omega),e,show(i+1)*k+a - k=i*k+a from by rw[Nat.succ_mul];omega];exact g i x (by simpa using d) a b c
theorem lK{α:Type}{enc:α->List Value}{k:Nat}(d:∀x,(enc x).length=k){w:World}{base e g n c:Nat}{l:List α}(a:w.ownsRow base e k (g,n,c) n (l.flatMap enc)){i:Nat}{x:α}(h:l[i]?=some x):hH w g (i*k) (enc x):=by
 intro j m f;have:=a.cells (g:=g) rfl _ _ (Oj d l i x h j m f);unfold Addr.add at this;split at this
 . rename_i b;rw[b];exact this
 . simpa using this
theorem BQ{p:hZ}{k:Int}{a b:List Tag}{q:Nat}{x y:Tag}(c:a[q]?=some x)(d:b[q]?=some y):oC p k (a.drop q) (b.drop q)=(may p k x y&&oC p k (a.drop (q+1)) (b.drop (q+1))):=by
 rw[oG c,oG d];rfl
theorem Dz{p:hZ}{k:Int}{a b:List Tag}{q:Nat}(d:b.length<=q):oC p k (a.drop q) (b.drop q)=true:=by
 have c:=Sa d;rw[c];cases a.drop q<;>rfl
theorem y9{w:World}{l:jh}{p:hZ}{aJ kb:Nat}{k:Int}{m:M.Method}{t:tX}{aP:Int}{s:oM}{vl vs:Value}(q:jD w l p aJ kb k m t aP s vl vs)(a:SMap){cs:List Value}(hf:kX w (· <l.O) a cs)(aC:a.locals.length=s.locals.length):Calls prog 229 #[some kb,.agg cs.toArray] w fun af w'=>af=.returned (.bool (mH p k s a))/\Ext w w':=by
 have bn:=Zy hf;obtain⟨aS,aT,ah,ai,rfl⟩:=hf.form;obtain⟨_,_,he,aF,aG⟩:=hf;simp only[RG,SQ,SG]at he;obtain⟨rfl,rfl⟩:=he;obtain⟨w0,aI,ak,b3⟩:=nu w #[a.at_,.slice aS a.locals.length aT,.slice ah a.stack.length ai] 146;have hA:=q.ext ak;obtain⟨sa,sc,rfl⟩:=jB q.kI;obtain⟨la,lc,rfl⟩:=jB q.loc;obtain⟨aA,ag,aD,c⟩:=kY w0;have bg:=fun b=>(hA.blk.ext (c.jm b)).c 12 (.slice sa s.stack.length sc) rfl;have r2:=fun b=>(b3.ext (c.jm b)).c 2 (.slice ah a.stack.length ai) rfl;have⟨f,az,av,HA,aN,ax⟩:=nZ c aI ak hA b3 (RJ aF aG);have bq:a.locals.length<=6:=Z4 q.M5 q.mi.locals
 have bu:s.stack.length<=5:=Z4 q.Pk q.mi.stack
 have aa:=Zy aC;clear q c aI ak hA b3 aF aG aC;by_cases E:a.stack.length=s.stack.length
 . have R:Zz (mH p k s a=(oC p k s.locals a.locals&&oC p k s.stack a.stack)):=Zy (by unfold mH;rw[R6 E];rfl);have aH:((a.stack.length:Int) !=(s.stack.length:Int))=false:=by simp[E]
   have Q:=Zy E;clear E;go_enter func229,ntmps229;go_wp2_with fail;rw[<-az.o];refine Bl f ?_ ?_;rotate_left;(repeat (go_big_quiet_step ((fail))));refine Sw ?_;(rintro _ ⟨T,rfl⟩);rotate_left
   . exact jf
   have S:=f.jm T;generalize ag T=w1 at*;clear f bg r2 aH;have aB:=HA.ext S;have aj:=aN.ext S;obtain⟨-,-,p1,p2,-⟩:=aj.ca;have⟨aK,aM,W⟩:=jy aB aj (av.trans S);clear aB aj S;go_wp2_with fail;go_loopw [21] (fun A wr=>∃b:Nat,b<=a.locals.length/\A=.int .i64 b/\Ext w1 wr/\Zz (oC p k s.locals a.locals=oC p k (s.locals.drop b) (a.locals.drop b))) (fun A _=>a.locals.length - (intOf A).toNat)
   case atStart=>exact⟨0,R4 _,rfl,Kp.rr,Zy rfl⟩
   case round=>
    obtain⟨b,hq,rfl,h,C⟩:=hrel;have g:=aK.ext h;have r:=aM.ext h;have bA:=r.c 2 (.slice ah a.stack.length ai) rfl;have⟨V,U,D⟩:=jy r g h;by_cases N:b<a.locals.length
    . obtain⟨i,z⟩:=nW a.locals b N;obtain⟨B,y⟩:=nW s.locals b (by rw[<-aa.o];exact N);obtain⟨aQ,bf,cs,rfl,aU,rfl,-,L⟩:=ax.1.get z;obtain⟨g0,g1⟩:=(L.ext (W.trans h)).two;have gz:=iY g0;have x:=g.loc;obtain⟨lg,aZ,au,aV,aW,aX⟩:=jS x (by rw[<-aa.o];omega);cases au;obtain⟨O,P⟩:=(lK (enc:=lY) (k:=2) (fun _=>rfl) x y).two;have G:Zz (oC p k s.locals a.locals=(may p k B i&&oC p k (s.locals.drop (b+1)) (a.locals.drop (b+1)))):=Zy (by rw[C.o,BQ y z]);obtain⟨I,K,e,J⟩:=nu wr #[i.kind,i.name] 211;obtain⟨aA,ag,aD,c⟩:=kY I;obtain⟨-,e0,e1,-,-,-,-,-,-,-,-,-,aR,-⟩:=hV.lL fun d=>(g.blk.ext (e.trans (c.jm d)));have e2:=fun d=>(e.trans (c.jm d)).jb O;have e3:=fun d=>(e.trans (c.jm d)).jb P;obtain⟨-,e6,e7,-⟩:=hV.lL fun d=>(J.ext (c.jm d));have⟨f,ae,Z,X⟩:=jV c K (g.ku.ext e) e;have aY:(b:Int)<s.locals.length:=Z0 aa.o
      clear L z y x O P K e J c g r;go_wp2_with fail;rw[<-ae.o];refine kD f 18 [([0,1,2,3,4,5,6,7,8,9,10,11,12,13,14,15],16)] [17] ?_ ?_
      . exact jf
      refine lS ?_;intro H n;go_wp2_with fail;refine(AZ (Z.ext jf) k B i).mono ?_;rintro af w5 ⟨rfl,v⟩;have u:=(jf:Ext I _).trans v;have F:=Zy (X.trans u);cases o:may p k B i
      . have j:Zz (mH p k s a=false):=Zy (by rw[R.o,G.o,o];rfl);clear o v;go_wp2_with fail;refine kk f n u ?_;clear n H;refine sK ?_;go_wp2_with fail;go_ret;exact⟨hQ j.symm,W.trans (D.trans F)⟩
      . have j:Zz (oC p k s.locals a.locals=oC p k (s.locals.drop (b+1)) (a.locals.drop (b+1))):=Zy (by rw[G.o,o];rfl);clear o v;go_wp2_with fail;refine kk f n u ?_;clear n H;refine sK ?_;go_wp2_with fail;refine⟨⟨b+1,Zm,by go_num,D.o.trans F.o,j⟩,by simp[intOf];omega⟩
    . have ay:Zz (mH p k s a=oC p k s.stack a.stack):=Zy (by rw[R.o,C.o,Dz Zm];rfl);obtain⟨wo,rfl⟩:∃wo:World,wo=wr:=⟨_,rfl⟩;have aL:=U;have aO:=V;have Y:=Zy (W.trans h);have bz:a.stack.length<=5:=Z0 Q.o
      clear U V D g r h C p1 p2;go_wp2_with fail;go_loopw [48] (fun A wr=>∃b:Nat,b<=a.stack.length/\A=.int .i64 b/\Ext wo wr/\Zz (oC p k s.stack a.stack=oC p k (s.stack.drop b) (a.stack.drop b))) (fun A _=>a.stack.length - (intOf A).toNat)
      case atStart=>exact⟨0,R4 _,rfl,Kp.rr,Zy rfl⟩
      case round=>
       obtain⟨b,hq,rfl,h,C⟩:=hrel;have g:=aL.ext h;have r:=aO.ext h;have⟨V,U,D⟩:=jy r g h;by_cases N:b<a.stack.length
       . obtain⟨i,z⟩:=nW a.stack b N;obtain⟨B,y⟩:=nW s.stack b (by rw[<-Q.o];exact N);obtain⟨aQ,bf,cs,rfl,aU,rfl,-,L⟩:=ax.2.get z;obtain⟨g0,g1⟩:=(L.ext (Y.trans h)).two;have gz:=iY g0;have x:=g.kI;obtain⟨lg,aZ,au,aV,aW,aX⟩:=jS x (by rw[<-Q.o];omega);cases au;obtain⟨O,P⟩:=(lK (enc:=lY) (k:=2) (fun _=>rfl) x y).two;have G:Zz (oC p k s.stack a.stack=(may p k B i&&oC p k (s.stack.drop (b+1)) (a.stack.drop (b+1)))):=Zy (by rw[C.o,BQ y z]);obtain⟨I,K,e,J⟩:=nu wr #[i.kind,i.name] 211;obtain⟨aA,ag,aD,c⟩:=kY I;obtain⟨-,e0,e1,-⟩:=hV.lL fun d=>(g.blk.ext (e.trans (c.jm d)));have aR:=fun d=>(g.blk.ext (e.trans (c.jm d))).c 12 (lg,s.stack.length,sc) rfl;have e2:=fun d=>(e.trans (c.jm d)).jb O;have e3:=fun d=>(e.trans (c.jm d)).jb P;obtain⟨-,e6,e7,-⟩:=hV.lL fun d=>(J.ext (c.jm d));have⟨f,ae,Z,X⟩:=jV c K (g.ku.ext e) e;have aY:(b:Int)<s.stack.length:=Z0 Q.o
         clear L z y x O P K e J c g r;go_wp2_with fail;rw[<-ae.o];refine kD f 18 [([0,1,2,3,4,5,6,7,8,9,10,11,12,13,14,15],16)] [17] ?_ ?_
         . exact jf
         refine lS ?_;intro H n;go_wp2_with fail;refine(AZ (Z.ext jf) k B i).mono ?_;rintro af w5 ⟨rfl,v⟩;have u:=(jf:Ext I _).trans v;have F:=Zy (X.trans u);cases o:may p k B i
         . have j:Zz (mH p k s a=false):=Zy (by rw[ay.o,G.o,o];rfl);clear o v;go_wp2_with fail;refine kk f n u ?_;clear n H;refine sK ?_;go_wp2_with fail;go_ret;exact⟨hQ j.symm,Y.trans (D.trans F)⟩
         . have j:Zz (oC p k s.stack a.stack=oC p k (s.stack.drop (b+1)) (a.stack.drop (b+1))):=Zy (by rw[G.o,o];rfl);clear o v;go_wp2_with fail;refine kk f n u ?_;clear n H;refine sK ?_;go_wp2_with fail;refine⟨⟨b+1,Zm,by go_num,D.o.trans F.o,j⟩,by simp[intOf];omega⟩
       . have j:Zz (mH p k s a=true):=Zy (by rw[ay.o,C.o,Dz Zm]);go_wp2_with fail;go_ret;exact⟨hQ j.symm,Y.trans h⟩
 . have R:Zz (mH p k s a=false):=Zy (by unfold mH;rw[R7 E];rfl);have aH:((a.stack.length:Int) !=(s.stack.length:Int))=true:=RS.2 Zm;clear E;go_enter func229,ntmps229;go_wp2_with fail;rw[<-az.o];refine Bl f ?_ ?_;rotate_left;(repeat (go_big_quiet_step ((fail))));refine Sw ?_;(rintro _ ⟨T,rfl⟩);rotate_left
   . exact jf
   go_wp2_with fail;go_ret;exact⟨hQ R.symm,av.trans (f.jm T)⟩
theorem A9{m:M.Method}{f:SMap}(a:uP m f=true):(f.locals.length:Int)=m.locals/\(f.stack.length:Int)<=m.stack:=by
 unfold uP at a;simp only[Sc,Tm]at a;exact⟨a.1.1.1.2,a.1.1.2⟩
theorem xN{w:World}{l:jh}{p:hZ}{v e:Nat}{k:Int}{m:M.Method}{t:tX}{h:Int}{s:oM}{C vs:Value}(j:jD w l p v e k m t h s C vs)(a:Int):Calls prog 226 #[some e,a] w (jK w l p v e k m t h C vs (nG p k m a s)):=by
 have y:=j.I6;have L:=j.M5;have b:=Zy j;clear j;go_enter func226,ntmps226;go_wp2_with fail;refine(Du b a).mono ?_;rintro r N ⟨(⟨A,rfl⟩|⟨i,F,B,z,u,rfl⟩),d⟩
 . have g:Zz (nG p k m a s=none):=Zy (by unfold nG;rw[A];rfl);have⟨f,o⟩:=je (b.ext d) d;clear A d;go_wp2_with fail;refine(mD e h ((f.ext kx).blk.c 10 _ rfl) y.1 Zm).mono ?_;rintro r E ⟨rfl,rfl⟩;exact⟨rfl,(o.alloc _).any,f.ku.ext kx,.inl ⟨g,rfl⟩⟩
 . have g:Zz (nG p k m a s=if mH p k s i then some s else none):=Zy (by unfold nG;rw[B];rfl);have K:=A9 (b.mi.uP i z);have D:=Zy u;obtain⟨G,I,H,J,rfl⟩:=u.form;have⟨f,o⟩:=je (b.ext d) d;clear B d u z;go_wp2_with fail;refine(y9 (f.ext kx) i (jL.ext kX.stays kx D) Zm).mono ?_;rintro r O ⟨rfl,x⟩;have c:=Zy ((o.alloc _).trans x);clear x;cases n:mH p k s i
   . have q:Zz (nG p k m a s=none):=Zy (by rw[g.o,n];rfl);clear n;go_wp2_with fail;refine(mD e h ((b.ext c).blk.c 10 _ rfl) y.1 Zm).mono ?_;rintro r E ⟨rfl,rfl⟩;exact⟨rfl,c.any,b.ku.ext c,.inl ⟨q,rfl⟩⟩
   . have q:Zz (nG p k m a s=some s):=Zy (by rw[g.o,n];rfl);clear n;go_wp2_with fail;refine RA ?_;exact⟨c.any,b.ku.ext c,.inr ⟨_,q,rfl,_,_,b.ext c,jU.refl _ _ _⟩⟩
theorem lM{w:World}{base base':Nat}{e:TypeId}{size:Nat}{v:Value}{n:Nat}{xs:List Value}(a:w.ownsRow base e size v n xs)(c:base'<=base):w.ownsRow base' e size v n xs:=
 ⟨a.1,a.2.imp id fun⟨b,cap,cur,e1,hg,r⟩=>⟨b,cap,cur,e1,RP c hg,r⟩⟩
theorem jD.fresh{w c:World}{l:jh}{p:hZ}{o e:Nat}{k:Int}{m:M.Method}{t:tX}{h:Int}{s s':oM}{n vs f g:Value}(a:jD w l p o e k m t h s n vs)(i:hV c e 305 (I9 l.L k m t h f g)) (j:Kp (·=e) w c) (u:c.ownsRow w 211 2 f s'.locals.length (s'.locals.flatMap lY)) (v:c.ownsRow w 211 2 g s'.stack.length (s'.stack.flatMap lY))(B:∀d,f.ownBlock=some d->g.ownBlock≠some d) (hl:(s'.locals.length:Int)=m.locals) (A:(s'.stack.length:Int)<=m.stack):Kp (qj l e n vs) w c/\jg c l p/\∃x y,jD c l p o e k m t h s' x y/\jU w n vs x y:=by
 have D:=a.hk;have C:=a.hB;have E:=a.ku.ord;have F:=a.blk.lt;have r:=a.ku.kp j (fun q i b=>Zm);refine⟨j.weak fun q _ b=>.inr (.inl b),r,f,g,⟨r,a.hB,a.hk,jL.kp jd.stays j (fun q i b=>Zm) a.ml,a.mi,i,lM u Zm,lM v Zm,B,a.I6,A,hl⟩,fun d z=>?_⟩;rcases z with b|b
 . exact .inr (.inr (u.lt d b).1)
 . exact .inr (.inr (v.lt d b).1)
theorem KF{w:World}{l:jh}{p:hZ}{aD b:Nat}{k:Int}{m:M.Method}{t:tX}{e:Int}{s:oM}{vl vs:Value}(g:jD w l p aD b k m t e s vl vs)(ax:Bool):Calls prog 213 #[some b,.bool ax] w (jK w l p aD b k m t e vl vs (si p k m ax e s)):=by
 have aI:=g.I6;have bu:=g.M5;have aH:=g.blk.c 10 e rfl;have bz:=g.ku.ord;have bn:=g.hB;have bq:=g.hk;have d:=Zy g;clear g;cases ax
 all_goals
  go_enter func213,ntmps213;go_wp2_with fail;refine(Du d e).mono ?_;rintro c P ⟨(⟨ae,rfl⟩|⟨a,cs,ag,aa,O,rfl⟩),h⟩
 . have r:Zz (si p k m false e s=none):=Zy (by unfold si;rw[ae];rfl);have⟨Q,aj⟩:=je (d.ext h) h;clear ae h;go_wp2_with fail;refine(mD b e ((Q.ext kx).blk.c 10 _ rfl) aI.1 Zm).mono ?_;rintro c v ⟨rfl,rfl⟩;exact⟨rfl,(aj.alloc _).any,Q.ku.ext kx,.inl ⟨r,rfl⟩⟩
 . have r:Zz (si p k m false e s=some ⟨a.locals,a.stack⟩):=Zy (by unfold si;rw[ag];rfl);have V:=A9 (d.mi.uP a aa);have aV:=Nv d.blk.lt h.size;have aW:=d.mi.locals;have aX:=d.mi.stack;have HF:=Zy O;obtain⟨G,I,H,J,rfl⟩:=O.form;obtain⟨Y,aK,az,F⟩:=nu P #[a.at_,.slice G a.locals.length I,.slice H a.stack.length J] 146;have⟨q,ak⟩:=je (h.trans az) (jL.ext kX.stays az HF);have y1:=F.c 1 (.slice G a.locals.length I) rfl;have ah:=Zy F;have aZ:=F.lt;have aO:=Zy aK;clear ag h O aa aH az F aK;go_wp2_with fail;rw[<-aO.o];have R:Zz (SliceOf 2 kE Y (· <l.O) (.slice G a.locals.length I) a.locals/\SliceOf 2 kE Y (· <l.O) (.slice H a.stack.length J) a.stack):=Zy (by
    obtain⟨_,_,T,aA,aB⟩:=ak.o;simp only[RG,SQ,SG]at T;obtain⟨rfl,rfl⟩:=T;exact⟨aA,aB⟩)
   refine(qO (SliceOf.toFlat (R:=kE) (fun _ _ _ _ c=>c) (fun _=>rfl) tO R.1) Zm).mono ?_;rintro c v ⟨⟨v1,rfl,f⟩,y⟩;obtain⟨S,X,rfl⟩:=jB f;have o:=(d.ext (q.trans y)).blk;have aQ:=o.c 11 vl rfl;have aS:=o.frozen 11;have bf:=o.lt;have L:=ah.ext y;have y2:=L.c 2 (.slice H a.stack.length J) rfl;have n1:¬P=b:=Zm
   have n2:¬b=P:=Zm
   have⟨au,aM,D,av⟩:=jV o L y f;clear o L y f;go_wp2_with fail;obtain⟨x,C⟩:=Ry (v.setCell (b,11) (.slice S a.locals.length X));have j:Kp (·=b) v x:=by rw[C];exact(Kp.refl (·=b) v).setCell (p:=⟨b,11,none⟩) (fun _=>rfl) _
   have u:hV x b 305 (I9 l.L k m t e (.slice S a.locals.length X) vs):=by rw[C];exact au.jk 11 _
   rw[<-C];have aU:v.heap.size<=x:=j.size;have W:=(R.2.ext kE.stays D).keep kE.stays (Kp.same j (fun aP K c=>Zm)) (fun _ g=>g);refine(qO (SliceOf.toFlat (R:=kE) (fun _ _ _ _ c=>c) (fun _=>rfl) tO W) Zm).mono ?_;rintro c N ⟨⟨v2,rfl,B⟩,z⟩;obtain⟨g2,k2,rfl⟩:=jB B;have n:=u.ext z;have aR:=n.c 12 vs rfl;have aT:=n.frozen 12;have bg:=n.lt;have f:=av.o;have A:Kp (·=b) N (N.setCell (b,12) (.slice g2 a.stack.length k2)):=(Kp.refl (·=b) N).setCell (p:=⟨b,12,none⟩) (fun _=>rfl) _;have aC:=q.size;have aY:=D.size;have hF:=d.fresh (s':=⟨a.locals,a.stack⟩) (n.jk 12 _) (((((q.trans D).any (D:=(·=b))).trans j).trans z.any).trans A)
    (lM (iZ (iZ (iZ f j (fun i U K c=>Zm)) z (fun _ _ _ c=>c)) A (fun i U K c=>Zm)) aC)
    (lM (iZ B A (fun i U K c=>Zm)) Zm)
    (fun i h1 h2=>Z4 ((f.lt i h1).2) ((B.lt i h2).1)) V.1 V.2
   have E:=Zy hF;clear hF A f B n z W u j C;go_wp2_with fail;refine RA ?_;exact⟨E.1,E.2.1,.inr ⟨_,r,rfl,E.2.2⟩⟩
 . have r:Zz (si p k m true e s=some s):=Zy (by unfold si;rw[ae];rfl);have⟨Q,aj⟩:=je (d.ext h) h;clear ae h;go_wp2_with fail;refine RA ?_;exact⟨(aj.alloc _).any,Q.ku.ext kx,.inr ⟨_,r,rfl,_,_,Q.ext kx,jU.refl _ _ _⟩⟩
 . have r:Zz (si p k m true e s=if !mH p k s a then none else some ⟨a.locals,a.stack⟩):=Zy (by unfold si;rw[ag];simp);have V:=A9 (d.mi.uP a aa);have aV:=Nv d.blk.lt h.size;have aW:=d.mi.locals;have aX:=d.mi.stack;have HF:=Zy O;obtain⟨G,I,H,J,rfl⟩:=O.form;obtain⟨wq,aJ,ay,F⟩:=nu P #[a.at_,.slice G a.locals.length I,.slice H a.stack.length J] 146;have⟨ai,aF,aL,aG⟩:=jV (h.trans ay) (jL.ext kX.stays ay HF) F aJ;clear ag h O aa aH ay F aJ;go_wp2_with fail;rw[<-aG.o];refine(y9 (d.ext ai) a aF Zm).mono ?_;rintro c Y ⟨rfl,Z⟩;have u:=aL.ext Z;have y1:=u.c 1 (.slice G a.locals.length I) rfl;have ah:=Zy u;have aZ:=u.lt;have⟨q,ak⟩:=je (ai.trans Z) (jL.ext kX.stays Z aF);clear Z u aG ai;cases af:mH p k s a
   . have aN:Zz (si p k m true e s=none):=Zy (by rw[r.o,af];rfl);clear af;go_wp2_with fail;refine(mD b e ((d.ext q).blk.c 10 _ rfl) aI.1 Zm).mono ?_;rintro c v ⟨rfl,rfl⟩;exact⟨rfl,q.any,d.ku.ext q,.inl ⟨aN,rfl⟩⟩
   replace r:Zz (si p k m true e s=some ⟨a.locals,a.stack⟩):=Zy (by rw[r.o,af];rfl);clear af;go_wp2_with fail;have R:Zz (SliceOf 2 kE Y (· <l.O) (.slice G a.locals.length I) a.locals/\SliceOf 2 kE Y (· <l.O) (.slice H a.stack.length J) a.stack):=Zy (by
    obtain⟨_,_,T,aA,aB⟩:=ak.o;simp only[RG,SQ,SG]at T;obtain⟨rfl,rfl⟩:=T;exact⟨aA,aB⟩)
   refine(qO (SliceOf.toFlat (R:=kE) (fun _ _ _ _ c=>c) (fun _=>rfl) tO R.1) Zm).mono ?_;rintro c v ⟨⟨v1,rfl,f⟩,y⟩;obtain⟨S,X,rfl⟩:=jB f;have o:=(d.ext (q.trans y)).blk;have aQ:=o.c 11 vl rfl;have aS:=o.frozen 11;have bf:=o.lt;have L:=ah.ext y;have y2:=L.c 2 (.slice H a.stack.length J) rfl;have n1:¬P=b:=Zm
   have n2:¬b=P:=Zm
   have⟨au,aM,D,av⟩:=jV o L y f;clear o L y f;go_wp2_with fail;obtain⟨x,C⟩:=Ry (v.setCell (b,11) (.slice S a.locals.length X));have j:Kp (·=b) v x:=by rw[C];exact(Kp.refl (·=b) v).setCell (p:=⟨b,11,none⟩) (fun _=>rfl) _
   have u:hV x b 305 (I9 l.L k m t e (.slice S a.locals.length X) vs):=by rw[C];exact au.jk 11 _
   rw[<-C];have aU:=j.size;have W:=(R.2.ext kE.stays D).keep kE.stays (Kp.same j (fun aP K c=>Zm)) (fun _ g=>g);refine(qO (SliceOf.toFlat (R:=kE) (fun _ _ _ _ c=>c) (fun _=>rfl) tO W) Zm).mono ?_;rintro c N ⟨⟨v2,rfl,B⟩,z⟩;obtain⟨g2,k2,rfl⟩:=jB B;have n:=u.ext z;have aR:=n.c 12 vs rfl;have aT:=n.frozen 12;have bg:=n.lt;have f:=av.o;have A:Kp (·=b) N (N.setCell (b,12) (.slice g2 a.stack.length k2)):=(Kp.refl (·=b) N).setCell (p:=⟨b,12,none⟩) (fun _=>rfl) _;have aC:=q.size;have aY:=D.size;have hF:=d.fresh (s':=⟨a.locals,a.stack⟩) (n.jk 12 _) (((((q.trans D).any (D:=(·=b))).trans j).trans z.any).trans A)
    (lM (iZ (iZ (iZ f j (fun i U K c=>Zm)) z (fun _ _ _ c=>c)) A (fun i U K c=>Zm)) aC)
    (lM (iZ B A (fun i U K c=>Zm)) Zm)
    (fun i h1 h2=>Z4 ((f.lt i h1).2) ((B.lt i h2).1)) V.1 V.2
   have E:=Zy hF;clear hF A f B n z W u j C;go_wp2_with fail;refine RA ?_;exact⟨E.1,E.2.1,.inr ⟨_,r,rfl,E.2.2⟩⟩
section
variable {w w1 w2:World} {l:jh} {p:M.hZ} {B kb:Nat} {k:Int} {m:M.Method} {t:tX} {at_:Int} {vl vs vl1 vs1:Value} {o:Option M.oM} {e:Ending} {s':M.oM}
theorem jK.after(d:Kp (qj l kb vl vs) w w1)(f:jU w vl vs vl1 vs1)(c:jK w1 l p B kb k m t at_ vl1 vs1 o e w2):jK w l p B kb k m t at_ vl vs o e w2:=
 ⟨d.look c.1 f,c.2.1,c.2.2.imp id fun⟨s',h1,h2,a,b,h3,h4⟩=>⟨s',h1,h2,a,b,h3,f.trans h4 d.size⟩⟩
theorem jK.behind(b:Ext w w1)(a:jK w1 l p B kb k m t at_ vl vs o e w2):jK w l p B kb k m t at_ vl vs o e w2:=
 jK.after b.any (jU.refl _ _ _) a
end
theorem yJ{w:World}:Calls prog 221 #[] w fun a b=>a=.returned (.agg #[nK.kind,nK.name])/\Ext w b:=by
 go_enter func221,ntmps221;go_wp2;refine DV (jw tL rfl w rfl [.int .i64 1,none_] (hH.lV (hV.new _ _ _)) rfl) rfl ?_;exact⟨rfl,kx⟩
theorem yx(w:World)(n:ByteArray):Calls prog 188 #[n] w fun a b=>a=.returned (.agg #[.int .i64 (lH n).kind,.string (lH n).name])/\Ext w b:=by
 go_enter func188,ntmps188;go_wp2;refine DV (jw tL rfl w rfl [.int .i64 2,n] (hH.lV (hV.new _ _ _)) rfl) rfl ?_;exact⟨rfl,kx⟩
theorem hV.set2{w:World}{b:Nat}{t:TypeId}{u0 u1:Value}(d:hV w b t #[u0,u1])(a c:Value):hV ((w.setCell b a).setCell (b,1) c) b t #[a,c]:=
 (d.jk 0 a).jk 1 c
theorem Kp.JR{D:Nat->Prop}{w a:World}{b:Nat}(e:Kp D w a)(g:w<=b)(c d:Value):Kp D w ((a.setCell b c).setCell (b,1) d):=
 e.own (D':=(·=b)) (((Kp.refl (·=b) a).setCell (p:=⟨b,0,none⟩) (fun _=>rfl) c).setCell (p:=⟨b,1,none⟩) (fun _=>rfl) d) (fun h f=>Zm)
theorem Bq(w:World)(x:Kind):Calls prog 189 #[.agg #[x.kind,x.name]] w fun l y=>l=.returned (.agg #[.int .i64 (l8 x).kind,.string (l8 x).name])/\Ext w y:=by
 obtain⟨b,c⟩:=x;obtain⟨g,f⟩:=Ry ((w.alloc (.cells #[b,c] 137)).alloc (.cells #[.int .i64 0, ""] 211));have r:Ext w g:=by rw[f];exact kx
 have p:hV g w 137 #[b,c]:=by rw[f];exact(hV.new _ _ _).ext kx
 have q:hV g (w+1) 211 #[.int .i64 0, ""]:=by rw[f];exact hV.newAt _ _ Zl
 have⟨o,n,t,m⟩:=jV f r p q;clear f r p q;cases e:lD ⟨b,c⟩
 . have j:Zz (l8 ⟨b,c⟩=Er):=Zy (by unfold l8;rw[e];rfl);have k:=Zy e;clear e;go_enter func189,ntmps189;go_wp2_with fail;rw[<-o.o];refine(AU ⟨b,c⟩).mono ?_;rintro l z ⟨rfl,d⟩;rw[k.o];have a:=m.ext d;obtain⟨C,A,B,-⟩:=a.ca;obtain⟨u,v,-⟩:=a.fz;have⟨h,i⟩:=je a (n.trans d);clear d a;go_wp2_with fail;refine DV (jw tL rfl (w+1) rfl [.int .i64 0, ""] (hH.lV (h.set2 _ _)) rfl) rfl ?_;exact⟨by rw[j.o];rfl,i.JR Zm _ _⟩
 . have j:Zz (l8 ⟨b,c⟩=⟨b,c⟩):=Zy (by unfold l8;rw[e];rfl);have k:=Zy e;clear e;go_enter func189,ntmps189;go_wp2_with fail;rw[<-o.o];refine(AU ⟨b,c⟩).mono ?_;rintro l z ⟨rfl,d⟩;rw[k.o];have a:=m.ext d;have s:=t.ext d;obtain⟨-,D,E,-⟩:=s.ca;obtain⟨C,A,B,-⟩:=a.ca;obtain⟨u,v,-⟩:=a.fz;have⟨h,i⟩:=je a (n.trans d);clear d a s;go_wp2_with fail;refine DV (jw tL rfl (w+1) rfl [b,c] (hH.lV (h.set2 _ _)) rfl) rfl ?_;exact⟨by rw[j.o],i.JR Zm _ _⟩
theorem MU{w:World}{l:jh}{p:hZ}{c b:Nat}{k:Int}{m:M.Method}{t:tX}{f:Int}{s:oM}{n vs:Value}(g:jD w l p c b k m t f s n vs)(i:Ins)(j:i.op=1):Calls prog 198 #[some b,.agg #[i.op,i.a,i.name,i.member]] w (jK w l p c b k m t f n vs (jM p k m i s)):=by
 have q:Zz (jM p k m i s=nP m nK s):=Zy (by unfold jM;rw[j];rfl);have o:=Zy g;clear g j;go_enter func198,ntmps198;go_wp2_with fail;refine(yJ).mono ?_;rintro r v ⟨rfl,h⟩;have d:=Zy ((kx:Ext w _).trans h);clear h;go_wp2_with fail;refine(qW _ (o.ext d) nK).mono ?_;rintro r x a;rw[<-q.o]at a;have e:=Zy (jK.behind d a);rcases a.2.2 with⟨-,rfl⟩|⟨u,-,rfl,-⟩
 . exact⟨rfl,e⟩
 . clear a;go_wp2_with fail;refine RA ?_;exact e
end Go.Proofs.YtlhlnddgfcmfkaaGreat
