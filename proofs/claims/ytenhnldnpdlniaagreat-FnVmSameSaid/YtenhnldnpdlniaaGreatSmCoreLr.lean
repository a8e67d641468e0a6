/- Walks. -/
import Derived.Test.YtenhnldnpdlniaaGreatSmCoreLp
import Derived.Tactics2
import Derived.Defers
import Derived.Recover
import Derived.Laws.CopyOwn
import Derived.Test.YtenhnldnpdlniaaGreatSmCoreLq
import Derived.Deep.LoopGhost
set_option maxRecDepth 100000
set_option maxHeartbeats 4000000
set_option linter.all false
namespace Go.Proofs.YtenhnldnpdlniaaGreat
open Go Go.RowKit Tryz M
variable {lk: Bool}{cs: List (Value×Value)}{xs: List Value}{m: M.Method}{C K L S U a b c d f g i j k n o q x y: Nat}{D I: Nat->Prop}{r: Nat×Nat}{R: Nat×Nat->Prop}{e: Option Addr}{P: Program}{α: Type}{v vs: Value}{W w: World}{l: jB}{p: jl}{s: lU}{t: uR}
theorem IZ:Elem 142 195 2:=oH (z:=.agg #[(),()]) (bytes:=48) underlying142 Zo rfl Zn Zn
def RG(x:Value×Value):List Value:=[x.1,x.2]
def J6(W:World)(S:Nat)(v vl vs:Value)(b:Nat):Prop:=S<=b/\b<W.heap.size/\v.ownBlock≠some b/\vl.ownBlock≠some b/\vs.ownBlock≠some b
def N8(W:World)(S:Nat)(v vl vs:Value)(known:List lU)(cs:List (Value×Value)):Prop:=
 cs.length=known.length/\W.ownsRow S 195 2 v known.length (cs.flatMap RG)/\
  ∀(j:Nat)(c:Value×Value)(f:lU),cs[j]?=some c->known[j]?=some f->SliceOf 2 jZ W (J6 W S v vl vs) c.1 f.locals/\SliceOf 2 jZ W (J6 W S v vl vs) c.2 f.stack
def Kn(W:World)(S:Nat)(v vl vs:Value)(known:List lU):Prop:=∃cs:List (Value×Value),N8 W S v vl vs known cs
theorem Kn.nil(W:World)(S:Nat)(b vs:Value):Kn W S () b vs []:=
 ⟨[],rfl,Uw _ _ _ _,fun e c d a=>by simp at a⟩
theorem pG{base: Nat}(e:w.ownsRow base d k v n xs){g:Nat}(a:v.ownBlock=some g):∃b,jq w g d b:=by
 rcases e.2 with⟨c,_⟩|⟨i,h,b,c,_,f,_⟩
 . rw[c]at a;cases a
 . rw[c]at a;cases a;exact⟨b,f⟩
theorem Kn.kp{f: World}{k:Int}{A:Int}{d n vs': Value}{r:List lU}(F:Kn W S v d vs r)(e:jO W l p x j k m t A s d vs)(i:Kp (rA l j d vs) W f)(q:kN W d vs n vs')(T:j<S):Kn f S v n vs' r:=by
 obtain⟨C,G,o,H⟩:=F;have P:=e.hB;have Q:=e.hk;have U:=e.lM.ord;refine⟨C,G,jr o i fun O K R a=>?_,fun L B E I J=>?_⟩
 . obtain⟨N,g⟩:=pG o K;rcases a with a|a|a|a
   . omega
   . omega
   . obtain⟨D,h⟩:=pG e.loc a;exact absurd (jq.inj g h) Zn
   . obtain⟨D,h⟩:=pG e.kY a;exact absurd (jq.inj g h) Zn
 . have u:Same (J6 W S v d vs) W f:=Kp.same i fun c g a=>by
    obtain⟨q1,q2,q3,q4,q5⟩:=g;rcases a with a|a|a|a
    . omega
    . omega
    . exact q4 a
    . exact q5 a
   have w:∀c,J6 W S v d vs c->J6 f S v n vs' c:=fun c ⟨q1,q2,q3,q4,q5⟩=>⟨q1,Ta q2 i.size,q3,fun a=>by
    rcases q c (.inl a)with b|b|b
    . exact q4 b
    . exact q5 b
    . omega,fun a=>by
    rcases q c (.inr a)with b|b|b
    . exact q4 b
    . exact q5 b
    . omega⟩
   obtain⟨y,z⟩:=H L B E I J;exact⟨y.keep jZ.stays u w,z.keep jZ.stays u w⟩
theorem N8.snoc{d: World}{j c c1 c2: Value}{m:List lU}{f:lU}(x:N8 W S v c vs m cs)(y:SliceOf 2 jZ W (J6 W S v c vs) c1 f.locals)(z:SliceOf 2 jZ W (J6 W S v c vs) c2 f.stack)(B:d.ownsRow S 195 2 j (m.length+1) (cs.flatMap RG++[c1,c2]))(o:Kp (fun a=>v.ownBlock=some a) W d)(C:∀l,j.ownBlock=some l->v.ownBlock=some l\/W.heap.size<=l):Kn d S j c vs (m++[f]):=by
 obtain⟨n,D,u⟩:=x;have h:Same (J6 W S v c vs) W d:=Kp.same o fun a A k=>A.2.2.1 k;have i:∀a,J6 W S v c vs a->J6 d S j c vs a:=fun a ⟨q1,q2,q3,q4,q5⟩=>⟨q1,Ta q2 o.size,fun k=>by
  rcases C a k with q|q
  . exact q3 q
  . omega,q4,q5⟩
 refine⟨cs++[(c1,c2)],by simp[n],?_,fun p t w b e=>?_⟩
 . rw[TK,TD];simpa [RG]using B
 . rcases V9 p cs.length with g|g|g
   . rw[TY g]at b;rw[TY Zm]at e;obtain⟨r,s⟩:=u p t w b e;exact⟨r.keep jZ.stays h i,s.keep jZ.stays h i⟩
   . subst g;rw[TF (Tu _)]at b;rw[n,TF (Tu _)]at e;simp at b e;subst b e;exact⟨y.keep jZ.stays h i,z.keep jZ.stays h i⟩
   . rw[Uz Zr]at b;cases b
theorem N8.ext{c: World}{b: Value}{e:List lU}(n:N8 W S v b vs e cs)(a:Ext W c):N8 c S v b vs e cs:=by
 obtain⟨j,k,l⟩:=n;have f:∀d,J6 W S v b vs d->J6 c S v b vs d:=fun d ⟨q1,q2,q3⟩=>⟨q1,Ta q2 a.size,q3⟩;refine⟨j,jr k a (fun _ _ _ r=>r),fun q i m o p=>?_⟩;obtain⟨g,h⟩:=l q i m o p;exact⟨g.keep jZ.stays (Ext.same a) f,h.keep jZ.stays (Ext.same a) f⟩
abbrev Own:=Nat->Option (Nat×Nat)
def nU(n:Nat)(own own':Own):Prop:=∀b,b<n->own' b=own b
theorem nU.refl(n:Nat)(a:Own):nU n a a:=fun _ _=>rfl
theorem nU.trans{e: Nat}{a b c:Own}(f:nU n a b)(g:nU e b c)(i:n<=e):nU n a c:=fun d h=>(g d Zm).trans (f d h)
def Own.add(own:Own)(g:Nat)(r:Nat×Nat):Own:=fun b=>if b=g then some r else own b
theorem Own.add_eq(a:Own)(g:Nat)(r:Nat×Nat):a.add g r g=some r:=by simp[Own.add]
theorem Own.mR{a:Own}(r:Nat×Nat)(c:b≠g):a.add g r b=a b:=by simp[Own.add,c]
theorem Own.zi{b:Own}(a:b g=some r\/n<=g):nU n b (b.add g r):=fun d e=>by
 by_cases c:d=g
 . subst c;rcases a with a|a
   . rw[Own.add_eq,a]
   . omega
 . exact Own.mR r c
def MO(l:jB)(own:Own)(b:Nat):Prop:=b=l.D\/own b≠none
def PO(own:Own)(R:Nat×Nat->Prop)(b:Nat):Prop:=∃r,own b=some r/\R r
theorem PO.mo{c:Own}(a:PO c R b):MO l c b:=by
 obtain⟨d,a,_⟩:=a;exact .inr (by rw[a];simp)
theorem Kp.mo{h j:Own}{a b: World}(c:Kp (MO l h) w a)(d:Kp (MO l j) a b)(k:nU w h j):Kp (MO l h) w b:=
 ⟨d.os.trans c.os,d.tape.trans c.tape,d.output.trans c.output,TV c.size d.size,
  fun g f i=>(d.block g (Ta f c.size) (fun e=>i (by
   rcases e with e|e
   . exact .inl e
   . exact .inr (by rw[<-k g f];exact e)))).trans (c.block g f i)⟩
structure mW(w:World)(own:Own)(B:Nat)(r:Nat×Nat)(e k:Nat)(v:Value)(n:Nat)(xs:List Value):Prop where
 row:w.ownsRow B e k v n xs
 role:∀g,v.ownBlock=some g->own g=some r
section
variable {w w':World}{own own':Own}{B:Nat}{r:Nat×Nat}{e k:Nat}{v:Value}{n:Nat}{xs:List Value}{R:Nat×Nat->Prop}{D:Nat->Prop}
theorem mW.keep(b:mW w own B r e k v n xs)(i:Kp D w w')(g:nU w own own')(f:∀d,own d=some r->B<=d->¬D d):mW w' own' B r e k v n xs:=
 ⟨jr b.row i (fun a c h=>f a (b.role a c) h),fun a c=>(g a (b.row.lt a c).2).trans (b.role a c)⟩
theorem mW.nil(w:World)(own:Own)(B:Nat)(r:Nat×Nat)(e k:Nat):mW w own B r e k () 0 []:=
 ⟨Uw _ _ _ _,fun b a=>by cases a⟩
theorem mW.form(c:mW w own B r e k v n xs):∃a b,v=.slice a n b:=jS c.row
theorem mW.take(a:mW w own B r e k (g,n,c) n xs){j:Nat}(b:j<=n):mW w own B r e k (g,j,c) j (xs.take (j*k)):=
 ⟨BZ a.row b,fun f d=>a.role f d⟩
theorem mW.ext(a:mW w own B r e k v n xs)(b:Ext w w'):mW w' own B r e k v n xs:=a.keep b (nU.refl _ _) fun _ _ _ c=>c
theorem mW.blk(a:mW w own B r e k v n xs){g:Nat}(b:v.ownBlock=some g):B<=g/\g<w:=a.row.lt g b
theorem mW.xX(a:mW w own B r e k v n xs)(d:Kp (PO own R) w w')(b:nU w own own')(f:¬R r):mW w' own' B r e k v n xs:=
 a.keep d b fun g c _ ⟨h,h1,h2⟩=>by rw[c]at h1;cases h1;exact f h2
end
structure GC where
 f:Fr
 cb:Nat
 t:uR
 vl:Value
 vs:Value
structure GO where
 o:ou
 v:Value
structure Gh where
 status:Int
 cs:List GC
 os:List GO
 outs:List Int
 back:Val
 vc:Value
 vh:Value
 vo:Value
def Gh.st(g:Gh):St:=⟨g.status,g.cs.map GC.f,g.os.map GO.o,g.outs,g.back⟩
def BA(p:jl)(c:GC):Array Value:=
 #[.int .i64 c.f.of.of.keeper,.string c.f.of.of.name,.int .i64 c.f.of.at_,.string (M.method p c.f.of).name,.slice c.t.a1 (M.method p c.f.of).args.length c.t.c1,.int .i64 (M.method p c.f.of).ret.kind,.string (M.method p c.f.of).ret.name,
  .int .i64 (M.method p c.f.of).locals,.int .i64 (M.method p c.f.of).stack,.slice c.t.a2 (M.method p c.f.of).code.length c.t.c2,.slice c.t.a3 (M.method p c.f.of).maps.length c.t.c3,.int .i64 c.f.pc,c.vl,c.vs,.int .i64 (M.method p c.f.of).stack]
def vY(c:GC):List Value:=[.pointer (some ⟨c.cb,0,none⟩)]
def q8(o:GO):List Value:=[.int .i64 o.o.of.keeper,.string o.o.of.name,o.v]
def yQ(l:jB)(lk:Bool)(g:Gh):Array Value:=#[.pointer (some ⟨l.L,0,none⟩),.bool lk,.int .i64 g.status,g.vc,g.vh,g.vo,.int .i64 g.back.kind,.int .i64 g.back.n]
structure rE(w:World)(l:jB)(p:jl)(own:Own)(B i:Nat)(c:GC):Prop where
 blk:jq w c.cb 129 (BA p c)
 role:own c.cb=some (4,i)
 low:B<=c.cb
 ml:jy w (· <l.O) (M.method p c.f.of) (oC (M.method p c.f.of) c.t)
 loc:mW w own B (5,i) 42 2 c.vl c.f.locals.length (c.f.locals.flatMap kI)
 kY:mW w own B (6,i) 42 2 c.vs c.f.stack.length (c.f.stack.flatMap kI)
def IA(w:World)(own:Own):Prop:=∀b i,own b=some (4,i)->∃k:Int,w.cell? ⟨b,0,none⟩=some (.int .i64 k)
theorem IA.kp{g: World}{c f:Own}(h:IA w c)(k:Kp D w g)(i:∀a b,c a=some (4,b)->¬D a)(e:∀a b,f a=some (4,b)->c a=some (4,b)):IA g f:=fun a b d=>by
 obtain⟨l,j⟩:=h a b (e a b d);exact⟨l,k.mJ j (i a b (e a b d))⟩
theorem Own.Ht{d:Own}(e:r.1≠4)(a:d.add g r b=some (4,i)):d b=some (4,i):=by
 by_cases c:b=g
 . subst c;rw[Own.add_eq]at a;cases a;exact absurd rfl e
 . rwa[Own.mR r c]at a
structure jG(w:World)(l:jB)(p:jl)(own:Own)(B mb:Nat)(lk:Bool)(g:Gh):Prop where
 lM:jD w l p
 hB:l.L<B
 blk:jq w mb 78 (yQ l lk g)
 role:own mb=some (0,0)
 low:B<=mb
 calls:mW w own B (1,0) 124 1 g.vc g.cs.length (g.cs.flatMap vY)
 call:∀i c,g.cs[i]?=some c->rE w l p own B i c
 heap:mW w own B (2,0) 72 3 g.vh g.os.length (g.os.flatMap q8)
 obj:∀j o,g.os[j]?=some o->mW w own B (7,j) 42 2 o.v o.o.fields.length (o.o.fields.flatMap kI)
 outs:mW w own B (3,0) 3 1 g.vo g.outs.length (g.outs.flatMap vR)
 dom:∀b,own b≠none->B<=b/\b<w.heap.size
 good:M.Good p g.st
 zY:IA w own
section
variable {w w':World}{l:jB}{p:M.jl}{own own':Own}{B mb:Nat}{lk:Bool}{g:Gh}{D:Nat->Prop}{R:Nat×Nat->Prop}
theorem rE.keep{c:GC}(b:rE w l p own B i c)(e:Kp D w w')(g:nU w own own')(f:∀a,(own a=some (4,i)\/own a=some (5,i)\/own a=some (6,i))->B<=a->¬D a)(h:∀a,a<l.O->¬D a):rE w' l p own' B i c:=
 ⟨b.blk.kp e (f _ (.inl b.role) b.low),(g _ b.blk.lt).trans b.role,b.low,kE.kp jy.stays e (fun a d=>h a d) b.ml,b.loc.keep e g (fun a d=>f a (.inr (.inl d))),b.kY.keep e g (fun a d=>f a (.inr (.inr d)))⟩
theorem jG.keep(c:jG w l p own B mb lk g)(d:Kp D w w')(f:nU w own own)(q:∀a,own a≠none->B<=a/\a<w'.heap.size)(m:jD w' l p)(k:∀a,own a≠none->¬D a)(n:∀a,a<l.O->¬D a):jG w' l p own B mb lk g:=by
 have e:∀a i,own a=some i->¬D a:=fun a i b=>k a (by rw[b];simp);exact⟨m,c.hB,c.blk.kp d (e _ _ c.role),(f _ c.blk.lt).trans c.role,c.low,c.calls.keep d f fun a b _=>e a _ b,
  fun h j o=>(c.call h j o).keep d f (fun a b _=>by rcases b with b|b|b<;>exact e a _ b) n,
  c.heap.keep d f fun a b _=>e a _ b,fun s t r=>(c.obj s t r).keep d f fun a b _=>e a _ b,c.outs.keep d f fun a b _=>e a _ b,q,c.good,c.zY.kp d (fun a h b=>e a _ b) fun _ _ u=>u⟩
theorem jG.Az(b:jG w l p own B mb lk g)(d:(w:Nat)<=w'):∀a,own a≠none->B<=a/\a<w'.heap.size:=fun a c=>⟨(b.dom a c).1,Ta (b.dom a c).2 d⟩
theorem jG.ext(a:jG w l p own B mb lk g)(b:Ext w w'):jG w' l p own B mb lk g:=
 a.keep b (nU.refl _ _) (a.Az b.size) (a.lM.ext b) (fun _ _ c=>c) (fun _ _ c=>c)
theorem jG.RB(a:jG w l p own B mb lk g){b:Nat}(d:b<=l.L):own b=none:=by
 cases c:own b with
 |none=>rfl
 |some e=>have:=(a.dom b (by rw[c];simp)).1;have:=a.hB;omega
theorem jG.qK(a:jG w l p own B mb lk g)(c:Kp (·=l.D) w w')(f:jD w' l p):jG w' l p own B mb lk g:=
 a.keep c (nU.refl _ _) (a.Az c.size) f (fun d b e=>by have:=a.lM.ord;exact b (a.RB Zm)) (fun d b e=>Te a.lM.ord)
theorem jG.Gx(a:jG w l p own B mb lk g)(b:Kp (PO own R) w w'):jD w' l p:=
 a.lM.kp b fun d c ⟨f,e,_⟩=>by rw[a.RB c]at e;cases e
theorem jG.yP(b:jG w l p own B mb lk g):∀a,a<l.O->¬PO own R a:=fun a c ⟨d,e,_⟩=>by
 have:=b.lM.ord;rw[b.RB Zm]at e;cases e
theorem rE.xX{c:GC}(d:rE w l p own B i c)(g:Kp (PO own R) w w')(f:nU w own own')(hR:¬R (4,i)/\¬R (5,i)/\¬R (6,i))(e:∀b,b<l.O->¬PO own R b):rE w' l p own' B i c:=
 d.keep g f (fun b a _ ⟨h,h1,h2⟩=>by
  rcases a with a|a|a<;>rw[a]at h1<;>cases h1
  . exact hR.1 h2
  . exact hR.2.1 h2
  . exact hR.2.2 h2) e
theorem jG.at_(a:jG w l p own B mb lk g){r:List GC}{c:GC}(b:g.cs=r++[c]):rE w l p own B r.length c:=a.call _ _ (by rw[b];simp)
theorem jG.Ie(b:jG w l p own B mb lk g){r:List GC}{c j:GC}(t:g.cs=r++[c])(s:j.cb=c.cb)(f:Kp (PO own fun k=>k=(4,r.length)\/k=(5,r.length)\/k=(6,r.length)) w w')(h:nU w own own')(A:∀a,own' a≠none->B<=a/\a<w'.heap.size)
    (q:rE w' l p own' B r.length j) (z:M.Good p {g with cs:=r++[j]}.st) {D':Nat->Prop} (D:Kp D' w w') (y:∀a d,own a=some (4,d)->D' a->a=c.cb) (u:∀a d,own' a=some (4,d)->own a=some (4,d)):jG w' l p own' B mb lk {g with cs:=r++[j]}:=by
 refine⟨b.Gx f,b.hB,b.blk.kp f ?_,(h _ b.blk.lt).trans b.role,b.low,?_,?_,b.heap.xX f h Zl,fun F H E=>(b.obj F H E).xX f h Zl,b.outs.xX f h Zl,A,z,fun a d o=>?_⟩;rotate_right
 . by_cases m:a=c.cb
   . exact⟨_,by rw[m,<-s];exact q.blk.c 0 _ rfl⟩
   . obtain⟨G,C⟩:=b.zY a d (u a d o);exact⟨G,D.mJ C fun I=>m (y a d (u a d o) I)⟩
 . rintro⟨k,n,x⟩;rw[b.role]at n;cases n;simp at x
 . have:=b.calls.xX f h Zl;rw[t]at this;simpa [vY,s]using this
 . intro d v e;simp only at e;rcases V9 d r.length with i|i|i
   . rw[TY i]at e;refine(b.call d v (by rw[t,TY i];exact e)).xX f h ?_ b.yP;refine⟨?_,?_,?_⟩<;>simp<;>omega
   . subst i;simp at e;subst e;exact q
   . rw[Uz Zr]at e;cases e
theorem jG.Ic(b:jG w l p own B mb lk g)(a:Gh)(c:Kp (PO own (·=(0,0))) w w')(f:jq w' mb 78 (yQ l lk a))(k:(a.cs=g.cs/\a.vc=g.vc)\/(mW w own B (1,0) 124 1 a.vc a.cs.length (a.cs.flatMap vY)/\∃n,g.cs=a.cs++n))(v:a.os=g.os/\a.vh=g.vh/\a.outs=g.outs/\a.vo=g.vo)(t:M.Good p a.st):jG w' l p own B mb lk a:=by
 obtain⟨j,q,r,s⟩:=v;have e:=nU.refl w own;refine⟨b.Gx c,b.hB,f,b.role,b.low,?_,?_,?_,?_,?_,b.Az c.size,t,b.zY.kp c (fun i m f ⟨A,h1,h2⟩=>by rw[f]at h1;cases h1;cases h2) fun _ _ z=>z⟩
 . rcases k with⟨d,i⟩|⟨d,_⟩
   . rw[d,i];exact b.calls.xX c e Zl
   . exact d.xX c e Zl
 . intro m o h;refine(b.call m o ?_).xX c e Zl b.yP;rcases k with⟨d,_⟩|⟨_,n,d⟩
   . rw[<-d];exact h
   . rw[d,TY (Tt.1 h).1];exact h
 . rw[j,q];exact b.heap.xX c e Zl
 . rw[j];exact fun x y u=>(b.obj x y u).xX c e Zl
 . rw[r,s];exact b.outs.xX c e Zl
end
def kJ(w:World)(l:jB)(p:jl)(own:Own)(B mb:Nat)(lk:Bool)(v:Value)(s:St)(e:Ending)(w':World):Prop:=
 e=.returned v/\Kp (MO l own) w w'/\∃own' g',nU w.heap.size own own'/\jG w' l p own' B mb lk g'/\g'.st=s
theorem kJ.after{h i: World}{a g:Own}{s:St}{c:Ending}(d:Kp (MO l a) w h)(e:nU w a g)(k:kJ h l p g b f lk v s c i):kJ w l p a b f lk v s c i:=by
 obtain⟨m,n,t,j,o,q,r⟩:=k;exact⟨m,d.mo n e,t,j,e.trans o d.size,q,r⟩
theorem kJ.behind{e f: World}{d:Own}{s:St}{b:Ending}(h:Ext w e)(g:kJ e l p d a c lk v s b f):kJ w l p d a c lk v s b f:=
 g.after h.any (nU.refl _ _)
theorem jG.stop{e: World}{a:Own}{g:Gh}(f:jG w l p a b d lk g)(c:Ext w e):kJ w l p a b d lk v g.st (.returned v) e:=
 ⟨rfl,c.any,a,g,nU.refl _ _,f.ext c,rfl⟩
section
variable {w w':World}{l:jB}{p:M.jl}{own:Own}{B mb:Nat}{lk:Bool}{g:Gh}{r:List GC}{c:GC}
theorem Gh.fr(a:g.cs=r++[c]):g.st.frames=r.map GC.f++[c.f]:=by unfold Gh.st;rw[a];simp
theorem Gh.top(a:g.cs=r++[c]):M.top g.st=c.f:=p9 (Gh.fr a)
theorem jG.FU(a:jG w l p own B mb lk g)(b:g.cs=r++[c]):l8 p c.f g.st.heap.length=true:=a.good.top (Gh.fr b)
theorem jG.mi(a:jG w l p own B mb lk g)(b:g.cs=r++[c]):LP (M.method p c.f.of):=
 qE (lT a.lM.ok (jK.1 (a.FU b)).1).1
theorem jG.setStack(k:jG w l p own B mb lk g)(v:g.cs=r++[c])(xs:List Val)(j:Value)(e:jq w' c.cb 129 ((BA p c).setIfInBounds 13 j))(x:w'.ownsRow B 42 2 j xs.length (xs.flatMap kI))
    (D:∀b,j.ownBlock=some b->c.vs.ownBlock=some b\/w.heap.size<=b) (m:Kp (fun a=>a=c.cb\/c.vs.ownBlock=some a) w w') (A:M.Good p {g with cs:=r++[{c with f:={c.f with stack:=xs},vs:=j}]}.st):
    Kp (MO l own) w w'/\∃i,nU w own i/\jG w' l p i B mb lk {g with cs:=r++[{c with f:={c.f with stack:=xs},vs:=j}]}:=by
 have h:=k.at_ v;have y:∀a,(a=c.cb\/c.vs.ownBlock=some a)->PO own (fun b=>b=(4,r.length)\/b=(6,r.length)) a:=fun a e=>by
  rcases e with d|d
  . subst d;exact⟨_,h.role,.inl rfl⟩
  . exact⟨_,h.kY.role a d,.inr rfl⟩
 have s:=m.weak fun a _ d=>y a d;refine⟨m.weak fun a _ d=>(y a d).mo,?_⟩;have⟨i,o,C,F,z⟩:∃i,nU w own i/\(∀a,i a≠none->B<=a/\a<w'.heap.size)/\(∀b,j.ownBlock=some b->i b=some (6,r.length))/\∀a q,i a=some (4,q)->own a=some (4,q):=by
  cases d:j.ownBlock with
  |none=>exact⟨own,nU.refl _ _,k.Az m.size,(fun b t=>by cases t),fun _ _ n=>n⟩
  |some b=>
   refine⟨own.add b (6,r.length),Own.zi ?_,fun a e=>?_,(fun G t=>by cases t;exact Own.add_eq _ _ _),fun a q e=>Own.Ht Zl e⟩
   . rcases D b d with n|n
     . exact .inl (h.kY.role b n)
     . exact .inr n
   . by_cases u:a=b
     . subst u;exact x.lt a d
     . rw[Own.mR _ u]at e;exact k.Az m.size a e
 have E:¬((5,r.length)=((4,r.length):Nat×Nat)\/(5,r.length)=((6,r.length):Nat×Nat)):=by simp
 refine⟨i,o,k.Ie v rfl (s.weak fun a _ ⟨b,e1,e2⟩=>⟨b,e1,e2.elim .inl fun d=>.inr (.inr d)⟩) o C ⟨e,(o _ h.blk.lt).trans h.role,h.low,kE.kp jy.stays s (fun a e=>k.yP a e) h.ml,h.loc.xX s o E,⟨x,F⟩⟩ A m (fun a q e d=>d.elim id fun d=>by rw[h.kY.role a d]at e;cases e) z⟩
theorem jG.Sq(h:jG w l p own B mb lk g)(k:g.cs=r++[c])(n:Int)(m:M.Good p {g with cs:=r++[{c with f:={c.f with pc:=n}}]}.st):
    Kp (MO l own) w (w.setCell (c.cb,11) n)/\jG (w.setCell (c.cb,11) n) l p own B mb lk {g with cs:=r++[{c with f:={c.f with pc:=n}}]}:=by
 have a:=h.at_ k;have j:Kp (·=c.cb) w (w.setCell (c.cb,11) n):=qM;have d:Kp (PO own (·=(4,r.length))) w (w.setCell (c.cb,11) n):=j.weak fun e _ b=>⟨_,by rw[b];exact a.role,rfl⟩;have i:=nU.refl w own;refine⟨d.weak fun e _ b=>b.mo,h.Ie k rfl (d.weak fun e _ ⟨q,e1,e2⟩=>⟨q,e1,.inl e2⟩) i (h.Az j.size) ⟨a.blk.jR 11 _,a.role,a.low,kE.kp jy.stays d (fun e o=>h.yP e o) a.ml,a.loc.xX d i Zl,a.kY.xX d i Zl⟩ m j (fun _ _ _ b=>b) fun _ _ s=>s⟩
end
def Iz(n:Nat)(q:Nat×Nat):Prop:=q=(4,n)\/q=(6,n)
theorem Kp.po{g i:Own}{a b: World}(c:Kp (PO g R) w a)(d:Kp (PO i R) a b)(j:nU w g i):Kp (PO g R) w b:=
 ⟨d.os.trans c.os,d.tape.trans c.tape,d.output.trans c.output,TV c.size d.size,
  fun f e h=>(d.block f (Ta e c.size) (fun⟨k,e1,e2⟩=>h ⟨k,by rw[<-j f e];exact e1,e2⟩)).trans (c.block f e h)⟩
theorem jG.Iq{h i: World}{f:Own}{m: Nat}{g:Gh}{r:List GC}{c:GC}(d:jG w l p f j m lk g)(e:g.cs=r++[c])(k:Kp (fun b=>b=c.cb\/c.vs.ownBlock=some b) h i):Kp (PO f (Iz r.length)) h i:=
 k.weak fun b _ a=>by
  rcases a with a|a
  . subst a;exact⟨_,(d.at_ e).role,.inl rfl⟩
  . exact⟨_,(d.at_ e).kY.role b a,.inr rfl⟩
theorem l6{y:Own}{g:Gh}(a:jG w l p y q n lk g)(r:List GC)(c:GC)(h:g.cs=r++[c]):Calls prog 72 #[some n] w fun u B=>u=.returned (some c.cb)/\Ext w B:=by
 have m:g.cs.length=r.length+1:=by rw[h];simp
 obtain⟨s,t,d,-,-,E⟩:=ky a.calls.row Zm;have i:=a.calls.row;rw[d,m]at i;have f:=(l5 (enc:=vY) (k:=1) (fun _=>rfl) (l:=g.cs) i (i:=r.length) (x:=c) (by rw[h];simp)).one;rw[Vi]at f;rw[m]at d;have k:(yQ l lk g)[3]?=some (.slice (some ⟨s,0,none⟩) (r.length+1) t):=by rw[<-d];rfl
 have F:r.length+1<=8:=by have:=a.good.nf;rw[Gh.fr h]at this;simpa using this
 have H:IntKind.i64.wrap ((r.length:Int)+1 - 1)=r.length:=by rw[TM _ Zm];omega
 obtain⟨D,v,G,b⟩:=lL w;have z:=fun j=>(a.blk.ext (b.jC j)).c 3 _ k;have A:=fun j=>(b.jC j).jm f;have⟨e,C⟩:=jw b a;clear a b k f i d;go_enter func72,ntmps72;go_wp2_with fail;refine zJ e ?_ ?_;rotate_left;(repeat (go_big_quiet_step ((fail))));refine TP ?_;(rintro _ ⟨o,rfl⟩);rotate_left
 . exact jA
 have x:=e.jC o;generalize v o=w1 at*;clear e z A;go_wp2;go_ret;exact⟨rfl,x⟩
theorem kJ.mk'{d: World}{b c:Own}{e: Nat}{s:St}{a:Gh}(h:Kp (MO l b) w d)(i:nU w b c)(g:jG d l p c e f lk a)(j:a.st=s):kJ w l p b e f lk v s (.returned v) d:=
 ⟨rfl,h,c,a,i,g,j⟩
theorem EA(w:World)(l:jB)(p:jl)(s:Own)(t q:Nat)(lk:Bool)(g:Gh)(k:jG w l p s t q lk g)(r:List GC)(c:GC)(b:g.cs=r++[c])(F:g.status=1)(a:Int)(h0:0<=a):Calls prog 111 #[some q,a] w fun x A=>kJ w l p s t q lk (.int .i64 (jump p a g.st).1) (jump p a g.st).2 x A/\Kp (PO s (Iz r.length)) w A:=by
 have u:=Zy k;have v:Zz (jump p a g.st=if((M.method p c.f.of).code.length:Int)<=a then(10,g.st)else(1,{g.st with frames:=r.map GC.f++[{c.f with pc:=a}]})):=Zy (by
  unfold jump;rw[Gh.top b,oV (Gh.fr b)])
 have B:=Zy (wM k.good (Gh.fr b) F h0).2.2.1;have e:=Zy b;clear k b;go_enter func111,ntmps111;go_wp2_with fail;refine(l6 u r c e).mono ?_;rintro x G ⟨rfl,n⟩;have m:=u.ext n;have o:=m.at_ e;obtain⟨K,-,-,-,-,-,-,-,-,-,I,-,H,-⟩:=o.blk.ca;have J:=o.blk.frozen 11;have⟨j,h⟩:=jw m n;clear m o n;by_cases d:((M.method p c.f.of).code.length:Int)<=a
 . have i:Zz (jump p a g.st=(10,g.st)):=Zy (by rw[v.o,Ty d]);have E:=Tw d;go_wp2;go_ret;rw[i.o];exact⟨kJ.mk' h.any (nU.refl _ _) j rfl,h.any⟩
 . have i:Zz (jump p a g.st=(1,{g.st with frames:=r.map GC.f++[{c.f with pc:=a}]})):=Zy (by rw[v.o,T9 d]);have E:=Wj d;clear d;go_wp2;go_ret;have y:=B.o;rw[i.o]at y;rw[i.o];have z:(⟨g.status,r++[{c with f:={c.f with pc:=a}}],g.os,g.outs,g.back,g.vc,g.vh,g.vo⟩:Gh).st={g.st with frames:=r.map GC.f++[{c.f with pc:=a}]}:=by simp[Gh.st]
   obtain⟨C,D⟩:=j.Sq e a (by rw[z];exact y);exact⟨kJ.mk' (h.any.trans C) (nU.refl _ _) D z,h.any.trans (j.Iq e ((Kp.refl _ G).setCell (p:=⟨c.cb,11,none⟩) (fun _=>.inl rfl) _))⟩
theorem BQ{f:Own}{g:Gh}(e:jG w l p f d b lk g)(r:List GC)(c:GC)(h:g.cs=r++[c])(i:g.status=1)(a:Int)(h0:0<=a):Calls prog 111 #[some b,a] w (kJ w l p f d b lk (.int .i64 (jump p a g.st).1) (jump p a g.st).2):=
 (EA w l p f d b lk g e r c h i a h0).mono fun _ _ e=>e.1
theorem EB(w:World)(l:jB)(p:jl)(k:Own)(m j:Nat)(lk:Bool)(g:Gh)(b:jG w l p k m j lk g)(r:List GC)(c:GC)(a:g.cs=r++[c])(A:g.status=1):Calls prog 105 #[some j] w fun e v=>kJ w l p k m j lk (.int .i64 (next p g.st).1) (next p g.st).2 e v/\Kp (PO k (Iz r.length)) w v:=by
 have n:=Zy b;have y:Zz (next p g.st=jump p (c.f.pc+1) g.st):=Zy (by unfold next;rw[Gh.top a]);have i:=jK.1 (b.FU a);have C:=(b.mi a).code;have D:=i.2.1;have E:=i.2.2.1;have F:IntKind.i64.wrap (c.f.pc+1)=c.f.pc+1:=TM _ Zm;have d:=Zy a;clear b a i;go_enter func105,ntmps105;go_wp2_with fail;refine(l6 n r c d).mono ?_;rintro e G ⟨rfl,h⟩;have f:=n.ext h;have u:=f.at_ d;have B:=u.blk.c 11 c.f.pc rfl;have⟨x,o⟩:=jw f h;clear f u h;go_wp2_with fail;refine(EA _ _ _ _ _ _ _ _ x r c d A (c.f.pc+1) Zm).mono ?_;rintro e H ⟨s,t⟩;have z:=Zy (o.any.trans t);clear t;have q:=Zy (kJ.behind o s);obtain⟨rfl,-⟩:=s;rw[<-y.o]at q |-;go_wp2;go_ret;exact⟨q,z⟩
theorem uW{e:Own}{g:Gh}(d:jG w l p e b a lk g)(r:List GC){c:GC}(f:g.cs=r++[c])(h:g.status=1):Calls prog 105 #[some a] w (kJ w l p e b a lk (.int .i64 (next p g.st).1) (next p g.st).2):=
 (EB w l p e b a lk g d r c f h).mono fun _ _ d=>d.1
theorem Gz(w:World)(l:jB)(p:jl)(x:Own)(z J:Nat)(lk:Bool)(g:Gh)(n:jG w l p x z J lk g)(r:List GC)(c:GC)(d:g.cs=r++[c])(az:g.status=1)(v:Val)(hv:jV v g.os.length=true):Calls prog 103 #[some J,.agg #[v.kind,v.n]] w fun a w'=>kJ w l p x z J lk (.int .i64 (push p v g.st).1) (push p v g.st).2 a w'/\Kp (PO x (Iz r.length)) w w':=by
 obtain⟨y,ag,F,O⟩:=nu w #[v.kind,v.n] 42;have Q:=n.ext F;have e:=jK.1 (n.FU d);have aG:=(n.mi d).stack;have aI:=e.2.2.2.2.1;have G:=n.at_ d;have ay:¬(w=c.cb\/c.vs.ownBlock=some w.heap.size):=by
  rintro(a|a)
  . have:=G.blk.lt;omega
  . have:=(G.kY.blk a).2;omega
 have i:Zz (push p v g.st=if(M.method p c.f.of).stack<=(c.f.stack.length:Int)then(10,g.st)else next p {g.st with frames:=r.map GC.f++[{c.f with stack:=c.f.stack++[v]}]}):=Zy (by
  unfold push;rw[Gh.top d,oV (Gh.fr d)])
 have V:(c.f.stack.length:Int)<(M.method p c.f.of).stack->M.Good p {g.st with frames:=r.map GC.f++[{c.f with stack:=c.f.stack++[v]}]}:=fun H=>by
  refine n.good.turn (Gh.fr d) (jK.2 ⟨e.1,e.2.1,e.2.2.1,e.2.2.2.1,by simp;omega,e.2.2.2.2.2.1,?_⟩);intro aC o;rcases TU.1 o with o|o
  . exact e.2.2.2.2.2.2 aC o
  . simp only[U4]at o;subst o;simpa [Gh.st]using hv
 obtain⟨aF,f,aH,C⟩:=tN.ex (fun W'=>Kp (fun j=>j=c.cb\/c.vs.ownBlock=some j) y W') _ Kp.rr;obtain⟨-,r0,r1,-⟩:=jq.pq fun aD=>(O.kp (C.jC aD) ay);have⟨m,A,q,ax⟩:=kD C Q F ag;have ah:=Zy V;have s:=Zy d;clear n Q F ag O C V G d e;go_enter func103,ntmps103;go_wp2_with fail;rw[<-ax.o];refine lq m 7 [([0,4],1),([2,3],5)] [6] ?_ ?_
 . exact jA
 refine nE ?_;intro t k;go_wp2_with fail;refine(l6 (A.ext jA) r c s).mono ?_;rintro a w1 ⟨rfl,S⟩;have h:=Zy (((Kp.refl _ y).drew:Ext y _).trans S);clear S;go_wp2_with fail;refine kk m k h.any ?_;clear k t;refine nE ?_;intro t k;have E:=A.ext h;have ae:=E.at_ s;have⟨K,b⟩:=jw E ae;clear E ae;by_cases H:(c.f.stack.length:Int)<(M.method p c.f.of).stack
 . replace i:Zz (push p v g.st=next p {g.st with frames:=r.map GC.f++[{c.f with stack:=c.f.stack++[v]}]}):=Zy (by rw[i.o,T9 Zm]);go_wp2_with fail;refine(Lu w1 c.cb 13 z c.f.stack.length (M.method p c.f.of).stack b.blk rfl rfl v.kind v.n b.kY.row Zm H ?_ ?_).mono ?_
   . intro a;have:=b.kY.role _ a;rw[b.o.role]at this;cases this
   . have:=b.low;have:=b.blk.lt;omega
   rintro a w2 ⟨rfl,D,P,Y,af,R,u⟩;have I:(⟨g.status,r++[{c with f:={c.f with stack:=c.f.stack++[v]},vs:=(D,c.f.stack.length+1,P)}],g.os,g.outs,g.back,g.vc,g.vh,g.vo⟩:Gh).st={g.st with frames:=r.map GC.f++[{c.f with stack:=c.f.stack++[v]}]}:=by simp[Gh.st]
   obtain⟨W,aA,aa,X⟩:=K.setStack s (c.f.stack++[v]) (D,c.f.stack.length+1,P) R (by
    rw[TK,TD];simpa [kI]using Y) (fun aB hq=>by
    have:D=aB:=by simpa [Value.ownBlock]using hq
    subst this;exact af) u (by rw[I];exact ah H)
   have ai:Zz (Kp (fun j=>j=c.cb\/c.vs.ownBlock=some j) y w2):=Zy (h.any.trans u);have⟨au,aj⟩:=jw ((q.trans h).any.trans (K.Iq s u)) ((q.trans h).any.trans W);have ak:=Zy X;have L:Zz (nU w x aA):=Zy (fun j hb=>aa j (Tf q.size h.size));rw[<-I]at i;clear Y af R u W aa X I r0 r1;go_wp2_with fail;refine kk m k ai ?_;clear k t;clear m;refine uC ?_;go_wp2_with fail;refine(EB _ _ _ _ _ _ _ _ ak r _ rfl az).mono ?_;rintro a w3 ⟨U,Z⟩;have av:=Zy (au.po Z L);clear Z;have N:=Zy (kJ.after aj L U);obtain⟨rfl,-⟩:=U;rw[<-i.o]at N |-;go_wp2;go_ret;exact⟨N,av⟩
 . replace i:Zz (push p v g.st=(10,g.st)):=Zy (by rw[i.o,Ty Zm]);go_wp2_with fail;refine(Dj w1 c.cb 13 c.f.stack.length (M.method p c.f.of).stack b.blk rfl rfl b.kY.form v.kind v.n Zm).mono ?_;rintro a w2 ⟨rfl,T⟩;have B:=Zy (h.trans T);clear T r0 r1;go_wp2_with fail;refine kk m k B.any ?_;clear k t;clear m;refine uC ?_;go_wp2;go_ret;rw[i.o];exact⟨kJ.behind q (A.stop B),(q.trans B).any⟩
theorem tu{e:Own}{g:Gh}(d:jG w l p e b a lk g)(r:List GC)(c:GC)(f:g.cs=r++[c])(h:g.status=1)(v:Val)(i:jV v g.os.length=true):Calls prog 103 #[some a,.agg #[v.kind,v.n]] w (kJ w l p e b a lk (.int .i64 (push p v g.st).1) (push p v g.st).2):=
 (Gz w l p e b a lk g d r c f h v i).mono fun _ _ d=>d.1
def IB(w:World)(vh:Value)(h:List ou):Prop:=
 ∃a cap,vh=.slice a h.length cap/\∀(n:Nat)(o:ou),h[n]?=some o->∃b off v,a=some ⟨b,off,none⟩/\hQ w b (off+n*3) [.int .i64 o.of.keeper,.string o.of.name,v]
theorem IB.ext{c: World}{b:Value}{a:List ou}(l:IB w b a)(k:Ext w c):IB c b a:=by
 obtain⟨d,f,g,h⟩:=l;exact⟨d,f,g,fun n o m=>by
  obtain⟨e,p,q,i,j⟩:=h n o m;exact⟨e,p,q,i,j.ext k⟩⟩
theorem jG.OL{n:Own}{m: Nat}{g:Gh}(c:jG w l p n f m lk g):IB w g.vh g.st.heap:=by
 obtain⟨h,i,a⟩:=c.heap.form;refine⟨h,i,by rw[a];simp[Gh.st],fun r s d=>?_⟩;simp only[Gh.st,UG,UX]at d;obtain⟨o,e,rfl⟩:=d;have b:=c.heap.row;obtain⟨k,q,j,_⟩:=ky b (Te ((Tt.1 e).1));rw[j]at b a;cases a;have:=l5 (enc:=q8) (k:=3) (fun _=>rfl) b e;exact⟨k,0,o.v,rfl,by simpa [q8]using this⟩
theorem oK(k:Int)(d:w.cell? a=some (.int .i64 k)):Calls prog 109 #[some a] w fun b c=>b=.returned k/\w=c:=by
 go_enter func109,ntmps109;go_wp2;go_ret;exact⟨rfl,rfl⟩
theorem Bf{a:List ou}{b:ou}(c:a[n]?=some b):qL a n=b.of:=by simp[qL,c]
theorem wC(w:World)(l:jB)(p:jl)(S:jD w l p)(k:Int)(vh:Value)(c:List ou)(Y:IB w vh c)(v:Val)(hv:v.kind=2->0<=v.n/\v.n<c.length)(t:Kind):Calls prog 100 #[some l.L,k,vh,.agg #[v.kind,v.n],.agg #[t.kind,t.name]] w fun F w'=>F=.returned (.bool (hasType p k c v t))/\Ext w w':=by
 obtain⟨e,a⟩:=t;obtain⟨g,f⟩:=v;obtain⟨u,s⟩:=S9 ((w.alloc (.cells #[g,f] 42)).alloc (.cells #[e,a] 109));have A:Ext w u:=by rw[s];exact kx
 have Q:jq u w 42 #[g,f]:=by rw[s];exact(jq.new _ _ _).ext kx
 have R:jq u (w+1) 109 #[e,a]:=by rw[s];exact jq.newAt _ _ Zl
 have⟨HH,N,n,aa,ae,z⟩:=pR (Y.ext A) (S.ext A) A Q R s;obtain⟨ai,ak,rfl,-⟩:=Y;clear S A Q R s;by_cases r:e=1
 . subst r;have b:Zz (hasType p k c ⟨g,f⟩ ⟨1,a⟩=decide (g=1)):=Zy (by unfold hasType;rw[Ty rfl]);go_enter func100,ntmps100;go_wp2;go_ret;exact⟨hV (by rw[b.o];rfl),by rw[<-z.o];exact n⟩
 have az:=SK.2 r;by_cases C:g=3
 . subst C;have b:Zz (hasType p k c ⟨3,f⟩ ⟨e,a⟩=true):=Zy (by unfold hasType;rw[T9 r,Ty rfl]);go_enter func100,ntmps100;go_wp2;go_ret;exact⟨hV b.symm,by rw[<-z.o];exact n⟩
 have aB:=SK.2 C;by_cases H:g=2
 . subst H;have b:Zz (hasType p k c ⟨2,f⟩ ⟨e,a⟩=(decide ((find p k a).2=1)&&under p (qL c f) (find p k a).1)):=Zy (by unfold hasType;rw[T9 r,T9 C];rfl);obtain⟨af,ag⟩:=hv rfl;simp only at af ag;obtain⟨d,rfl⟩:∃d:Nat,f=d:=⟨f.toNat,Zm⟩;obtain⟨m,G⟩:∃m,c[d]?=some m:=⟨c[d]'Zm,CU _⟩;obtain⟨a',au,ea,X⟩:=HH.o;cases ea;obtain⟨aj,aC,fv,rfl,W⟩:=X d m G;replace b:Zz (hasType p k c ⟨2,d⟩ ⟨e,a⟩=(decide ((find p k a).2=1)&&under p m.of (find p k a).1)):=Zy (by rw[b.o,Bf G]);obtain⟨qz,-,q1,-⟩:=ae.ca;have K:=Zy W;clear X G W;go_enter func100,ntmps100;go_wp2_with fail;rw[<-z.o];refine(qj _ _ _ N k a).mono ?_;rintro F w1 ⟨rfl,T⟩;generalize find p k a=F1 at*;obtain⟨⟨I,J⟩,c1⟩:=F1;simp only at*;obtain⟨x,Z,U,P⟩:=nu w1 #[I,J] 64;have⟨O,i⟩:=jw Z (T.trans U);obtain⟨ah,av,ay,j⟩:=lL x;have aG:=fun h=>((aa.ext i).ext (j.jC h)).c 1 d rfl;obtain⟨-,aD,aF,-⟩:=jq.pq fun h=>(P.ext (j.jC h));have aH:=fun h=>(K.ext (i.trans (j.jC h))).three.1;have aI:=fun h=>(K.ext (i.trans (j.jC h))).three.2.1;have y:=Zy j;clear Z U P j T q1 qz;by_cases B:c1=1
   . subst B;replace b:Zz (hasType p k c ⟨2,d⟩ ⟨e,a⟩=under p m.of ⟨I,J⟩):=Zy (by rw[b.o];rfl);go_wp2_with fail;rw[<-O.o];refine lq y 13 [([0,1,2,3,4,5,6,7,8,9,10],11)] [12] ?_ ?_
     . exact jA
     refine nE ?_;intro E q;go_wp2_with fail;refine(vU (N.ext (i.trans jA)) m.of ⟨I,J⟩).mono ?_;rintro F w4 ⟨rfl,V⟩;have L:=Zy (((Kp.refl _ x).drew:Ext x _).trans V);clear V;go_wp2_with fail;refine kk y q L ?_;clear q E;refine qX [_] rfl fun D o=>?_;(repeat (go_big_quiet_step (fail)));refine qn o ?_;clear o D;go_wp2;go_ret;exact⟨hV b.symm,n.trans (i.trans L)⟩
   . have ax:=SK.2 B;replace b:Zz (hasType p k c ⟨2,d⟩ ⟨e,a⟩=false):=Zy (by rw[b.o];simp[B]);clear B;go_wp2_with fail;rw[<-O.o];refine lq y 13 [([0,1,2,3,4,5,6,7,8,9,10],11)] [12] ?_ ?_
     . exact jA
     refine nE ?_;intro E q;go_wp2_with fail;refine kk y q ((Kp.refl _ x).drew:Ext x _) ?_;clear q E;refine qX [_] rfl fun D o=>?_;(repeat (go_big_quiet_step (fail)));refine qn o ?_;clear o D;go_wp2;go_ret;exact⟨hV b.symm,n.trans (i.drew)⟩
 . have aA:=TE.2 H;have b:Zz (hasType p k c ⟨g,f⟩ ⟨e,a⟩=false):=Zy (by unfold hasType;rw[T9 r,T9 C,Ty H]);go_enter func100,ntmps100;go_wp2;go_ret;exact⟨hV b.symm,by rw[<-z.o];exact n⟩
theorem yR{V:Own}{g:Gh}(I:jG w l p V L K lk g)(v:Val)(E:jV v g.os.length=true)(t:Ref):Calls prog 110 #[some K,.agg #[v.kind,v.n],.agg #[t.keeper,t.name]] w fun H W=>H=.returned (object p v t g.st)/\Ext w W:=by
 obtain⟨q,m⟩:=v;obtain⟨d,o⟩:=S9 ((w.alloc (.cells #[q,m] 42)).alloc (.cells #[t.keeper,t.name] 64));have B:Ext w d:=by rw[o];exact kx
 have F:jq d w.heap.size 42 #[q,m]:=by rw[o];exact(jq.new _ _ _).ext kx
 have G:jq d (w.heap.size+1) 64 #[t.keeper,t.name]:=by rw[o];exact jq.newAt _ _ Zl
 have⟨n,r,N,O,A⟩:=nC (I.ext B) B F G o;clear I B F G o;by_cases i:q=3
 . subst i;have c:Zz (object p ⟨3,m⟩ t g.st=3):=Zy (by unfold object;rw[Ty rfl]);go_enter func110,ntmps110;go_wp2;go_ret;exact⟨by rw[c.o];rfl,by rw[<-A.o];exact r.o⟩
 have ag:=SK.2 i;obtain⟨X,aa,ae,b⟩:=lL d;have ax:=fun a=>(n.o.ext (b.jC a)).blk.c 0 (some l.L) rfl;obtain⟨R,S,j⟩:=n.o.heap.form;have ay:=fun a=>(n.o.ext (b.jC a)).blk.c 4 (.slice R g.os.length S) (by rw[<-j];rfl);obtain⟨-,ah,ai,-⟩:=jq.pq fun a=>(N.o.ext (b.jC a));obtain⟨-,aj,ak,-⟩:=jq.pq fun a=>(O.o.ext (b.jC a));by_cases z:q=2
 . subst z;obtain⟨T,U⟩:=qa E rfl;simp only at T U;obtain⟨e,rfl⟩:∃e:Nat,m=e:=⟨m.toNat,by omega⟩;obtain⟨k,D⟩:∃k,g.os[e]?=some k:=⟨g.os[e]'Zm,CU _⟩;have c:Zz (object p ⟨2,e⟩ t g.st=if under p k.o.of t then 1 else 10):=Zy (by
    have:qL g.st.heap e=k.o.of:=Bf (by simp[Gh.st,D]);unfold object;rw[T9 i,this];rfl)
   have x:=n.o.heap.row;rw[j]at x;obtain⟨Y,Z,Q,-⟩:=ky x Zm;cases Q;have C:=l5 (enc:=q8) (k:=3) (fun _=>rfl) x D;have au:=fun a=>(hQ.ext C (b.jC a)).three.1;have av:=fun a=>(hQ.ext C (b.jC a)).three.2.1;have⟨h,P⟩:=jw b j;clear b j x C D E i;go_enter func110,ntmps110;go_wp2_with fail;rw[<-A.o];refine lq h 21 [([0,1,2,3,4,5,6,7,8,9,10,11,12,13,14,15,16,17],18)] [19,20] ?_ ?_
   . exact jA
   refine nE ?_;intro u f;go_wp2_with fail;refine(vU (n.o.lM.ext jA) k.o.of t).mono ?_;rintro H w4 ⟨rfl,J⟩;have s:=Zy (((Kp.refl _ d).drew:Ext d _).trans J);clear J;cases y:under p k.o.of t
   . replace c:Zz (object p ⟨2,e⟩ t g.st=10):=Zy (by rw[c.o,y];rfl);clear y;go_wp2_with fail;refine kk h f s.o ?_;clear f u;refine uC ?_;go_wp2;go_ret;exact⟨by rw[c.o];rfl,r.o.trans s.o⟩
   . replace c:Zz (object p ⟨2,e⟩ t g.st=1):=Zy (by rw[c.o,y];rfl);clear y;go_wp2_with fail;refine kk h f s.o ?_;clear f u;refine uC ?_;go_wp2;go_ret;exact⟨by rw[c.o];rfl,r.o.trans s.o⟩
 . have af:=TE.2 z;have c:Zz (object p ⟨q,m⟩ t g.st=10):=Zy (by unfold object;rw[T9 i,Ty z]);have⟨h,P⟩:=jw b j;clear b j E i z;go_enter func110,ntmps110;go_wp2_with fail;rw[<-A.o];refine lq h 21 [([0,1,2,3,4,5,6,7,8,9,10,11,12,13,14,15,16,17],18)] [19,20] ?_ ?_
   . exact jA
   refine nE ?_;intro u f;go_wp2_with fail;refine kk h f ((Kp.refl _ d).drew:Ext d _) ?_;clear f u;refine uC ?_;go_wp2;go_ret;exact⟨by rw[c.o];rfl,r.o.drew⟩
theorem Jn(w:World)(l:jB)(p:jl)(j:Own)(k a:Nat)(lk:Bool)(g:Gh)(d:jG w l p j k a lk g)(c:Int):Calls prog 49 #[some a,c] w (kJ w l p j k a lk (.tuple #[]) (end_ c g.st)):=by
 have t:=d.blk.c 2 g.status rfl;obtain⟨o,q,i⟩:=d.calls.form;have u:=d.blk.c 3 (.slice o g.cs.length q) (by rw[<-i];rfl);have v:=d.blk.frozen 2;have x:=d.blk.frozen 3;have z:=d.blk.lt;have⟨b,s⟩:=jw d i;clear d i;by_cases e:c=1
 . subst e;have f:Zz (end_ 1 g.st=g.st):=Zy (by unfold end_;rw[Ty rfl]);go_enter func49,ntmps49;go_wp2_with fail;refine Ti ?_;rw[f.o];exact b.stop Kp.rr
 . have y:=TE.2 e;have f:Zz (end_ c g.st={g.st with status:=c,frames:=[]}):=Zy (by unfold end_;rw[T9 e]);clear e;go_enter func49,ntmps49;go_wp2_with fail;refine Ti ?_;rw[f.o];have r:Kp (·=a) w ((w.setCell (a,2) c).setCell (a,3) ()):=
    ((Kp.refl (·=a) w).setCell (p:=⟨a,2,none⟩) (fun _=>rfl) _).setCell (p:=⟨a,3,none⟩) (fun _=>rfl) _
   have m:Kp (PO j (·=(0,0))) w ((w.setCell (a,2) c).setCell (a,3) ()):=r.weak fun n _ h=>⟨_,by rw[h];exact b.role,rfl⟩;refine kJ.mk' (m.weak fun n _ h=>h.mo) (nU.refl _ _) (b.Ic {g with status:=c,cs:=[],vc:=()} m ((b.blk.jR 2 _).jR 3 _) (.inr ⟨mW.nil _ _ _ _ _ _,g.cs,rfl⟩) ⟨rfl,rfl,rfl,rfl⟩ ?_) (by simp[Gh.st]);exact⟨b.good.heap,by simp[Gh.st],by simp[Gh.st],b.good.outs,b.good.uh,b.good.back⟩
theorem LC.set2(c:LC l p w W)(i:w<=b)(d e:Value)(h:l.L<w):LC l p w ((W.setCell b d).setCell (b,1) e):=by
 have a:=((Kp.refl (·=b) W).setCell (p:=⟨b,0,none⟩) (fun _=>rfl) d).setCell (p:=⟨b,1,none⟩) (fun _=>rfl) e;exact⟨c.kp.own a (fun g f=>Zm),c.at_.kp a (fun g a f=>Zm)⟩
theorem Ez{aO:Own}{aA: Nat}{g:Gh}(A:jG w l p aO aA y lk g)(r:List GC)(c:GC)(ai:g.cs=r++[c])(n:ByteArray):Calls prog 107 #[some y,n] w fun m w'=>m=.returned (.tuple #[.agg #[.int .i64 (qD p n g.st).1.keeper,.string (qD p n g.st).1.name],.bool (qD p n g.st).2])/\LC l p w w':=by
 obtain⟨q,ay,F,b4⟩:=nu w #[Tj,""] 64;have ah:=(A.ext F).lM.lt;have aJ:=A.lM.lt;have aQ:=A.lM.FR;have HM:=Zy A.blk.lt;obtain⟨⟨⟨h,i⟩,x⟩,hF⟩:∃aB,find p c.f.of.of.keeper n=aB:=⟨_,rfl⟩;have HV:Zz (qD p n g.st=(⟨h,i⟩,decide (x=1)&&jW p ⟨h,i⟩)):=Zy (by unfold qD;rw[Gh.top ai,hF]);have ax:∀k,LC l p q k->Calls prog 42 #[some l.L,c.f.of.of.keeper,n] k fun m w'=>m=.returned (.tuple #[.agg #[h,i],x])/\Ext k w':=fun k hW=>by
  have:=qj k l p hW.at_ c.f.of.of.keeper n;rw[hF]at this;exact this
 have K:=Zy ax;have a:=Zy (LC.refl (A.ext F).lM).drew;obtain⟨aH,aI,aM,v⟩:=tN.ex (fun W=>LC l p q W) q (LC.refl (A.ext F).lM);have s:=Zy (A.ext F);have R:=fun H=>(s.qK (v.jC H).kp (v.jC H).at_).blk.c 0 (some l.L) rfl;have⟨e,aD,aC,aG,J⟩:=nC v F b4 ay ai;have aN:=b4.lt;clear A v F b4 ay hF ax ai;rw[HV.o];go_enter func107,ntmps107;go_wp2_with fail;rw[<-aG.o];rename_i aa G;have az:∀(z:Nat)(u:World),LC l p q u->jq u z 64 #[h,i]->q<=z->aa {tmps:=#[.pointer (some ⟨y,0,none⟩),.string n,undef,undef,.pointer (some ⟨w,0,none⟩),.bool false,.pointer (some ⟨z,0,none⟩),.int .i64 x,.tuple #[.agg #[h,i],x],.pointer (some ⟨y,0,none⟩),.pointer (some ⟨y,0,none⟩),.pointer (some ⟨y,0,none⟩),.pointer (some ⟨l.L,0,none⟩),.pointer (some ⟨y,0,none⟩),.pointer (some ⟨c.cb,0,none⟩),.int .i64 c.f.of.of.keeper,.string n,.tuple #[.agg #[h,i],x],.agg #[h,i],.int .i64 x,undef,undef,undef,undef,undef,undef,undef,undef,undef,undef,undef],defers:=[]} u:=by
  intro z u E hB t;refine G _ _ ?_;clear G e R a K;have aj:¬(w=l.D):=Zm
  have aR:(w:Nat)<q:=aN;have ae:=aC.kp E.kp aj;have aT:¬z=w:=Zm
  have aU:¬w=z:=Zm
  have aP:l.D<l.L:=s.lM.ord.2.2;have x0:=ae.c 0 Tj rfl;obtain⟨aH,aI,aM,v⟩:=tN.ex (fun W=>Kp (fun o=>o=l.D\/o=w.heap.size) u W/\jD W l p) u ⟨Kp.rr,E.at_⟩;have aK:¬(z=l.D\/z=w):=Zm
  have aL:¬(y=l.D\/y=w):=by
   have:=s.hB;have:=s.low;have:=HM.o;omega
  obtain⟨-,q0,q1,-⟩:=jq.pq fun H=>(hB.kp (v.jC H).1 aK);have qm:=fun H=>((s.qK E.kp E.at_).blk.kp (v.jC H).1 aL).c 0 (some l.L) rfl;have⟨e,D,I⟩:=jI v E ae;clear E hB v ae x0;have au:∀k o,Kp (·=l.D) u k->jD k l p->k.heap[w.heap.size]?=u.heap[w.heap.size]?→o=(decide (x=1)&&jW p ⟨h,i⟩)→
      Kp (fun o=>o=l.D\/o=w.heap.size) u ((k.setCell w h).setCell (w,1) i)/\jD ((k.setCell w h).setCell (w,1) i) l p/\
      LC l p w ((k.setCell w h).setCell (w,1) i)/\jq ((k.setCell w h).setCell (w,1) i) w 64 #[h,i]:=fun k o hk hL hb _=>by
   have h4:jq k w 64 #[Tj,""]:=I.keep hb;have h5:LC l p w k:=(⟨aD.any,s.lM⟩:LC l p w q).trans (D.trans ⟨hk,hL⟩);have h6:=LC.set2 h5 (Tu _) h i aJ;exact⟨(hk.weak fun o _ m=>.inl m).trans (((Kp.refl _ k).setCell (p:=⟨w,0,none⟩) (fun _=>.inr rfl) _).setCell (p:=⟨w,1,none⟩) (fun _=>.inr rfl) _),h6.at_,h6,h4.set2 _ _⟩
  have ak:=Zy au;clear au;by_cases X:x=1
  . subst X;go_wp2_with fail;refine lq e 12 [([0,1,2,3,4,5,6,7,8],9),([10],11)] [] ?_ ?_
    . exact⟨jA,D.at_.ext jA⟩
    refine nE ?_;intro d b;go_wp2_with fail;refine(nM (D.at_.ext jA) ⟨h,i⟩).mono ?_;rintro m w9 ⟨rfl,ag,av⟩;have Q:=((Kp.refl _ u).drew).trans av;obtain⟨L,N,O,P⟩:=ak.o w9 _ Q ag (Q.block _ (by have:=I.lt;exact this) aj) rfl;have af:=I.kp Q aj;obtain⟨gz,x0,x1,-⟩:=af.ca;obtain⟨B,C,-⟩:=af.fz;have⟨Y,Z,F3,F4,aF⟩:=nC L N O P (Tm (Q.weak (D':=fun o=>o=l.D\/o=w.heap.size) fun o _ m=>.inl m) ag);clear av ag Q L N O P af;go_wp2_with fail;refine kk e b aF ?_;clear b d;refine nE ?_;intro d b;go_wp2_with fail;refine kk e b ⟨Y,Z⟩ ?_;clear b d;refine lD ?_;go_wp2_with fail;refine PG (hU qF rfl w rfl [h,i] (hQ.kX F4) rfl) rfl ?_;exact⟨Zl,F3⟩
  . have aS:=SK.2 X;have hd:(decide (x=1)&&jW p ⟨h,i⟩)=false:=by rw[SS X];rfl
    have HD:=Zy hd;obtain⟨L,N,O,P⟩:=ak.o u.drew _ jA (D.at_.ext jA) rfl rfl;obtain⟨gz,x0,x1,-⟩:=I.ca;obtain⟨B,C,-⟩:=I.fz;have⟨Y,Z,F3,F4⟩:=kD L N O P;clear L N O P X hd;go_wp2_with fail;refine lq e 12 [([0,1,2,3,4,5,6,7,8],9),([10],11)] [] ?_ ?_
    . exact⟨jA,D.at_.ext jA⟩
    refine nE ?_;intro d b;go_wp2_with fail;refine kk e b ⟨jA,D.at_.ext jA⟩ ?_;clear b d;refine nE ?_;intro d b;go_wp2_with fail;refine kk e b ⟨Y,Z⟩ ?_;clear b d;refine lD ?_;go_wp2_with fail;refine PG (hU qF rfl w rfl [h,i] (hQ.kX F4) rfl) rfl ?_;exact⟨by rw[HD.o];rfl,F3⟩
 have V:=Zy az;clear az;clear G;refine rQ e 14 (.two [0,1,2,3,4,7] 5 12 (.two [] 6 12 (.two [] 8 12 (.one [9,10,11] 12 (.one [] 13 (.fin []))) (.one [] 8 (.one [9,10,11] 13 (.fin [])))) (.one [] 6 (.one [] 8 (.one [9,10,11] 13 (.fin []))))) (.one [] 5 (.one [] 6 (.one [] 8 (.one [9,10,11] 13 (.fin [])))))) ?_ ?_
 . exact a
 refine two [_,_,_,_,_,_] rfl rfl rfl fun aa G=>?_;(repeat (go_big_quiet_step (fail)));((refine EP G (fun d b=>?_) fun d b=>?_)<;>clear G aa)
 . go_wp2_with fail;refine(l6 (s.qK a.kp a.at_) r c J).mono ?_;rintro m wc ⟨rfl,j⟩;replace a:=Zy (a.ext j);clear j;go_wp2_with fail;refine kk e b a ?_;clear b d;refine Ck rfl rfl (fun d b=>?_) fun d b=>?_
   . go_wp2_with fail;refine(oK c.f.of.of.keeper (((s.qK a.kp a.at_).at_ J).blk.c 0 _ rfl)).mono ?_;rintro m we ⟨rfl,rfl⟩;go_wp2_with fail;refine kk e b a ?_;clear b d;refine Ck rfl rfl (fun d b=>?_) fun d b=>?_
     . go_wp2_with fail;refine(K _ a).mono ?_;rintro m wc ⟨rfl,j⟩;replace a:=Zy (a.ext j);clear j;go_wp2_with fail;refine kk e b a ?_;clear b d;refine Ac ?_;intro d b;go_wp2_with fail;refine kk e b (a.ext (jJ _)) ?_;clear b d;refine j3 rfl fun d b=>?_;go_wp2_with fail;refine kk e b (a.ext (jJ _)) ?_;clear b d;have t:(q:Nat)<=wc:=a.kp.size;have f:=Zy (jq.new (wc) 64 #[h,i]);replace a:=Zy (a.ext (jJ (.cells #[h,i] 64)));clear e R;refine kQ ?_;go_wp2_with fail;exact V _ _ a f t
     . go_wp2_with fail;refine kk e b (a.ext (jJ _)) ?_;clear b d;have t:=a.kp.size;have f:Zz (jq (wc.alloc (.cells #[Tj,""] 64)) wc 64 #[Tj,""]):=Zy (jq.new _ _ _);replace a:=Zy (a.ext (jJ (.cells #[Tj,""] 64)));refine j3 rfl fun d b=>?_;go_wp2_with fail;refine(K _ a).mono ?_;rintro m wc ⟨rfl,j⟩;replace f:=Zy (f.ext j);replace a:=Zy (a.ext j);clear j;go_wp2_with fail;refine kk e b a ?_;clear b d;refine Ac ?_;intro d b;obtain⟨U,S,T,-⟩:=f.ca;obtain⟨B,C,-⟩:=f.fz;go_wp2_with fail;replace a:=Zy (LC.set2 a t h i ah);replace f:=Zy (f.set2 h i);refine kk e b a ?_;clear b d;clear S T B C U;clear e R;refine kQ ?_;go_wp2_with fail;exact V _ _ a f t
   . go_wp2_with fail;refine kk e b (a.ext (jJ _)) ?_;clear b d;have t:=a.kp.size;have f:Zz (jq (wc.alloc (.cells #[Tj,""] 64)) wc 64 #[Tj,""]):=Zy (jq.new _ _ _);replace a:=Zy (a.ext (jJ (.cells #[Tj,""] 64)));refine j3 rfl fun d b=>?_;go_wp2_with fail;refine(oK c.f.of.of.keeper (((s.qK a.kp a.at_).at_ J).blk.c 0 _ rfl)).mono ?_;rintro m we ⟨rfl,rfl⟩;go_wp2_with fail;refine kk e b a ?_;clear b d;refine j3 rfl fun d b=>?_;go_wp2_with fail;refine(K _ a).mono ?_;rintro m wc ⟨rfl,j⟩;replace f:=Zy (f.ext j);replace a:=Zy (a.ext j);clear j;go_wp2_with fail;refine kk e b a ?_;clear b d;refine Ac ?_;intro d b;obtain⟨U,S,T,-⟩:=f.ca;obtain⟨B,C,-⟩:=f.fz;go_wp2_with fail;replace a:=Zy (LC.set2 a t h i ah);replace f:=Zy (f.set2 h i);refine kk e b a ?_;clear b d;clear S T B C U;clear e R;refine kQ ?_;go_wp2_with fail;exact V _ _ a f t
 . go_wp2_with fail;refine kk e b (a.ext (jJ _)) ?_;clear b d;have t:(q:Nat)<=q:=a.kp.size;have f:Zz (jq (q.drew.alloc (.cells #[Tj,""] 64)) q 64 #[Tj,""]):=Zy (jq.new _ _ _);replace a:=Zy (a.ext (jJ (.cells #[Tj,""] 64)));refine j3 rfl fun d b=>?_;go_wp2_with fail;refine(l6 (s.qK a.kp a.at_) r c J).mono ?_;rintro m wc ⟨rfl,j⟩;replace f:=Zy (f.ext j);replace a:=Zy (a.ext j);clear j;go_wp2_with fail;refine kk e b a ?_;clear b d;refine j3 rfl fun d b=>?_;go_wp2_with fail;refine(oK c.f.of.of.keeper (((s.qK a.kp a.at_).at_ J).blk.c 0 _ rfl)).mono ?_;rintro m we ⟨rfl,rfl⟩;go_wp2_with fail;refine kk e b a ?_;clear b d;refine j3 rfl fun d b=>?_;go_wp2_with fail;refine(K _ a).mono ?_;rintro m wc ⟨rfl,j⟩;replace f:=Zy (f.ext j);replace a:=Zy (a.ext j);clear j;go_wp2_with fail;refine kk e b a ?_;clear b d;refine Ac ?_;intro d b;obtain⟨U,S,T,-⟩:=f.ca;obtain⟨B,C,-⟩:=f.fz;go_wp2_with fail;replace a:=Zy (LC.set2 a t h i ah);replace f:=Zy (f.set2 h i);refine kk e b a ?_;clear b d;clear S T B C U;clear e R;refine kQ ?_;go_wp2_with fail;exact V _ _ a f t
theorem I1:Elem 40 72 3:=oH (z:=.agg #[Tj,"",()]) (bytes:=48) underlying40 Zo rfl Zn Zn
theorem mW.relabel{e f:Own}(d:mW w e a r c k v n xs)(i:∀b r,e b=some r->f b=some r):mW w f a r c k v n xs:=
 ⟨d.row,fun g h=>i g r (d.role g h)⟩
theorem rE.relabel{f g:Own}{c:GC}(a:rE w l p f d i c)(b:∀e h,f e=some h->g e=some h):rE w l p g d i c:=
 ⟨a.blk,b _ _ a.role,a.low,a.ml,a.loc.relabel b,a.kY.relabel b⟩
theorem jG.relabel{h d:Own}{e: Nat}{g:Gh}(a:jG w l p h e f lk g)(c:∀b i,h b=some i->d b=some i)(m:∀b,d b≠none->e<=b/\b<w.heap.size)(n:IA w d):jG w l p d e f lk g:=
 ⟨a.lM,a.hB,a.blk,c _ _ a.role,a.low,a.calls.relabel c,fun q j k=>(a.call q j k).relabel c,a.heap.relabel c,fun r s o=>(a.obj r s o).relabel c,a.outs.relabel c,m,a.good,n⟩
theorem jG.Rk{n: World}{t:Own}{g:Gh}(a:jG w l p t o f lk g)(j:ou)(r:Value)(O:mW w t o (7,g.os.length) 42 2 r j.fields.length (j.fields.flatMap kI))
    (d h:Nat) (N:n.ownsRow o 72 3 (d,g.os.length+1,h) (g.os.length+1) (g.os.flatMap q8++[.int .i64 j.of.keeper,.string j.of.name,r])) (B:Kp (fun b=>g.vh.ownBlock=some b) w n) (A:g.vh.ownBlock=some d\/w<=d)
    (H:M.Good p ({g with os:=g.os++[⟨j,r⟩],vh:=(d,g.os.length+1,h)}:Gh).st):
    Kp (MO l t) w (n.setCell (f,4) (d,g.os.length+1,h))/\∃F,nU w t F/\jG (n.setCell (f,4) (d,g.os.length+1,h)) l p F o f lk {g with os:=g.os++[⟨j,r⟩],vh:=(d,g.os.length+1,h)}:=by
 have y:Kp (·=f) n (n.setCell (f,4) (d,g.os.length+1,h)):=qM;obtain⟨q,v⟩:=S9 (n.setCell (f,4) (d,g.os.length+1,h));have C:g.vh.ownBlock≠some f:=fun c=>by have:=a.heap.role _ c;rw[a.role]at this;cases this
 have I:jq q f 78 (yQ l lk {g with os:=g.os++[⟨j,r⟩],vh:=(d,g.os.length+1,h)}):=by rw[v];exact(a.blk.kp B C).jR 4 _
 have L:d≠f:=fun c=>by
  subst c;rcases A with u|u
  . exact C u
  . have:=a.blk.lt;omega
 have D:q.ownsRow o 72 3 (d,g.os.length+1,h) (g.os.length+1) (g.os.flatMap q8++[.int .i64 j.of.keeper,.string j.of.name,r]):=by
  rw[v];exact jr N y (fun m e _ c=>L (by cases e;exact c))
 rw[<-v]at y |-;clear v;have i:Kp (PO t fun m=>m=(0,0)\/m=(2,0)) w q:=(B.weak fun b _ c=>⟨_,a.heap.role b c,.inr rfl⟩).trans (y.weak fun b _ c=>⟨_,by rw[c];exact a.role,.inl rfl⟩);have k:=Own.zi (by
  rcases A with u|u
  . exact .inl (a.heap.role _ u)
  . exact .inr Zm)
 have K:∀b,t.add d (2,0) b≠none->o<=b/\b<q.heap.size:=fun b s=>by
  by_cases c:b=d
  . subst c;exact D.lt b rfl
  . rw[Own.mR _ c]at s;exact a.Az i.size b s
 refine⟨i.weak fun b _ c=>c.mo,_,k,a.Gx i,a.hB,I,(k _ a.blk.lt).trans a.role,a.low,a.calls.xX i k Zl,fun z G J=>(a.call z G J).xX i k Zl a.yP,⟨?_,fun m e=>?_⟩,?_,a.outs.xX i k Zl,K,H,a.zY.kp i (fun b z s ⟨m,h1,h2⟩=>by rw[s]at h1;cases h1;simp at h2) fun b z s=>Own.Ht Zl s⟩
 . simpa [q8]using D
 . cases e;exact Own.add_eq _ _ _
 . intro E m e;simp only at e;rcases V9 E g.os.length with x|x|x
   . rw[TY x]at e;exact(a.obj E m e).xX i k Zl
   . subst x;simp at e;subst e;exact O.xX i k Zl
   . rw[Uz Zr]at e;cases e
theorem CK(w:World)(l:jB)(p:jl)(y:Own)(Q H:Nat)(lk:Bool){g:Gh}(R:jG w l p y Q H lk g)(r:Ref)(hr:jW p r=true)(bW:g.os.length<12):Calls prog 47 #[some H,.agg #[.int .i64 r.keeper,.string r.name]] w (kJ w l p y Q H lk (.agg #[.int .i64 2,g.os.length]) (create p r g.st).2):=by
 obtain⟨f,h⟩:=r;obtain⟨I,Z⟩:=S9 (((w.alloc (.cells #[f,h] 64)).alloc (.cells #[Tj,Tj] 42)).alloc (.cells #[f,h,()] 72));have aD:Ext w I:=by rw[Z];exact kx
 have b3:jq I w 64 #[f,h]:=by rw[Z];exact(jq.new _ _ _).ext kx
 have b4:jq I (w+1) 42 #[Tj,Tj]:=by rw[Z];exact(jq.newAt (W:=w.alloc (.cells #[f,h] 64)) (g:=w.heap.size+1) _ _ Zl).ext kx
 have b5:jq I (w+2) 72 #[f,h,()]:=by rw[Z];exact jq.newAt _ _ Zl
 have dx:=R.lM.lt;have dn:=R.lM.FR;have⟨HA,bI,bE,bF,aO,bQ,n⟩:=tq (R.ext aD) aD b3 b4 b5 Z R;clear R aD b3 b4 b5 Z;go_enter func47,ntmps47;go_wp2_with fail;rw[<-bQ.o];obtain⟨aS,A,bu,q⟩:=tN.ex (fun W'=>LC l p I W') _ (LC.refl HA.lM);have bS:¬w=l.D:=Zm
 have rm:=fun D=>(HA.qK (q.jC D).kp (q.jC D).at_).blk.c 0 (some l.L) rfl;obtain⟨-,cO,cZ,-⟩:=jq.pq fun D=>(bE.kp (q.jC D).kp bS);have j:=Zy q;clear q;refine lq j 8 [([0,1,2,3,4,7],5)] [6] ?_ ?_
 . exact(LC.refl HA.lM).drew
 refine nE ?_;intro i d;go_wp2_with fail;refine(xq (HA.lM.ext jA) ⟨f,h⟩).mono ?_;rintro b z ⟨⟨bC,rfl,S⟩,aX,aW⟩;obtain⟨fa,dm,rfl,hn,dz⟩:=S.form;have⟨T,HS⟩:=jw ((LC.refl HA.lM).drew.step aX aW) S;clear S aX aW;go_wp2_with fail;refine kk j d T ?_;clear d i;clear j rm cO cZ;refine uC ?_;have dI:=T.kp.size;have dH:w.heap.size+3<=(I:Nat):=Te aO.lt
 have bH:=Zy (aO.kp T.kp Zm);have ax:Zz (fresh p ⟨f,h⟩=⟨⟨f,h⟩,(layout p ⟨f,h⟩).map fun A=>if A.kind.kind=1 then mh 0 else qH⟩):=Zy rfl;have bV:(layout p ⟨f,h⟩).length<=1000:=by
  have h1:=qi n.lM.ok (chain p ⟨f,h⟩).reverse;have h2:=wJ p ⟨f,h⟩;unfold layout;rw[Ty hr];rw[UB]at h1;omega
 obtain⟨k,aJ⟩:∃k,layout p ⟨f,h⟩=k:=⟨_,rfl⟩;rw[aJ]at HS ax bV;simp only[aJ];clear aJ;go_wp2;go_loopw [17] (fun C wr=>∃(c:Nat)(fv:Value),c<=k.length/\C=.int .i64 c/\Kp (·=w+2) z wr/\jq wr (w+2) 72 #[f,h,fv]/\
     wr.ownsRow z 42 2 fv c (((k.take c).map fun A=>if A.kind.kind=1 then mh 0 else qH).flatMap kI)) (fun C _=>k.length - (intOf C).toNat)
 case atStart=>exact⟨0,(),Tz _,rfl,Kp.rr,bH,Uw _ _ _ _⟩
 case round=>
  obtain⟨c,fv,hq,rfl,L,aa,O⟩:=hrel;obtain⟨t,u,rfl⟩:=jS O;by_cases bX:c<k.length
  . obtain⟨⟨⟨xk,xn⟩,xa,kq,kn⟩,hx⟩:=nV k c bX;obtain⟨a,cB,cs,rfl,aV,rfl,-,aZ⟩:=HS.get hx;have dw:I.heap.size<=a:=aV;have X:hQ wr a (cB+c*5) _:=fun cz bC hj=>L.mJ (aZ cz bC hj) Zm;have g0:=X 0 xk rfl;have g1:=X 1 xn rfl;have g2:=X 2 xa rfl;have g3:=X 3 kq rfl;have g4:=X 4 kn rfl;rw[UU]at g0;have gz:=jv g0;have dE:(c:Int)<k.length:=Zm
    have dG:IntKind.i64.wrap ((c:Int)+1)=c+1:=TM _ Zm;obtain⟨J,aM⟩:=S9 (wr.alloc (.cells #[xk,xn,xa,kq,kn] 173));have ae:Ext wr J:=by rw[aM];exact kx
    have Y:¬(Value.slice t c u).ownBlock=some (w.heap.size+2):=fun b=>Te ((O.lt _ b).1)
    obtain⟨aS,A,bu,q⟩:=tN.ex (fun W'=>Kp (fun a=>(Value.slice t c u).ownBlock=some a) J W') _ Kp.rr;have r2:=fun D=>((aa.ext ae).kp (q.jC D) Y).c 2 (.slice t c u) rfl;have⟨j,aR,aP,aQ,U,ay,HX⟩:=tq q aM (aa.ext ae) Y (jr (D:=fun _=>False) O ae fun _ _ _ K=>K) (L.trans ae.any) hx;have dJ:z.heap.size<=J:=ay.size;clear q aM ae aa Y O L hx aZ X aV;by_cases au:kq=1
    . subst au;go_wp2_with fail;rw[<-aR.o];refine lq j 5 [([0,1],2),([],3),([],4)] [] ?_ ?_
      . exact jA
      refine nE ?_;intro i d;go_wp2_with fail;refine(Dx 0).mono ?_;rintro b w5 ⟨rfl,af⟩;have s:=Zy (((Kp.refl _ J).drew:Ext J _).trans af);clear af;go_wp2_with fail;refine kk j d s.any ?_;clear d i;refine mF rfl fun i d=>?_;go_wp2_with fail;refine kk j d (s.alloc _).any ?_;clear d i;refine mF rfl fun i d=>?_;refine jF vD rfl (.tmp 26) (.tmp 28) rfl z (.slice t c u) c _ rfl (jr (D:=fun _=>False) U (s.alloc _) fun _ _ _ K=>K) w5 1 (kI (mh 0)) rfl rfl (hQ.oI _ _ rfl) (xw _) Zm (by have:=s.size;simp;omega) ?_;intro m x v N E G;change i _ _;have o:=(s.alloc _).any.trans E;refine kk j d o ?_;clear d i;have F:=aP.kp o aQ;obtain⟨hz,-,-,x2,-⟩:=F.ca;have f2:=F.frozen 2;have aA:Zz ((v.ownsRow z 42 2 (m,c+1,x) (c+1) (((k.take (c+1)).map fun A=>if A.kind.kind=1 then mh 0 else qH).flatMap kI))/\Kp (·=w+2) z v/\jq v (w+2) 72 #[f,h,.slice t c u]/\m≠w+2):=Zy (by
       refine⟨?_,?_,F,?_⟩
       . rw[Td,HX.o];simpa [mh,kI]using N
       . exact(ay.own o (fun a b=>U.lt a b |>.1))
       . rcases G with b|b
         . have:=(U.lt m b).1;omega
         . have:=s.size;simp at b;omega)
      clear j r2 F N E G o;refine lD ?_;go_wp2_with fail;have B:Kp (·=w+2) v (v.setCell ⟨w+2,2,none⟩ (m,c+1,x)):=qM;obtain⟨q1,q2,q3,q4⟩:=aA.o;exact⟨⟨c+1,(m,c+1,x),Zm,Zk,q2.trans B,q3.jR 2 _,jr q1 B (fun a e _ b=>q4 (by cases e;exact b))⟩,Zj⟩
    . have dA:=SK.2 au;have bK:=Zy au;clear au;go_wp2_with fail;rw[<-aR.o];refine lq j 5 [([0,1],2),([],3),([],4)] [] ?_ ?_
      . exact jA
      refine nE ?_;intro i d;go_wp2_with fail;refine(Jv).mono ?_;rintro b w5 ⟨rfl,af⟩;have s:=Zy (((Kp.refl _ J).drew:Ext J _).trans af);clear af;go_wp2_with fail;refine kk j d s.any ?_;clear d i;refine mF rfl fun i d=>?_;go_wp2_with fail;refine kk j d (s.alloc _).any ?_;clear d i;refine mF rfl fun i d=>?_;refine jF vD rfl (.tmp 32) (.tmp 34) rfl z (.slice t c u) c _ rfl (jr (D:=fun _=>False) U (s.alloc _) fun _ _ _ K=>K) w5 1 (kI qH) rfl rfl (hQ.oI _ _ rfl) (xw _) Zm (by have:=s.size;simp;omega) ?_;intro m x v N E G;change i _ _;have o:=(s.alloc _).any.trans E;refine kk j d o ?_;clear d i;have F:=aP.kp o aQ;obtain⟨hz,-,-,x2,-⟩:=F.ca;have f2:=F.frozen 2;have aA:Zz ((v.ownsRow z 42 2 (m,c+1,x) (c+1) (((k.take (c+1)).map fun A=>if A.kind.kind=1 then mh 0 else qH).flatMap kI))/\Kp (·=w+2) z v/\jq v (w+2) 72 #[f,h,.slice t c u]/\m≠w+2):=Zy (by
       refine⟨?_,?_,F,?_⟩
       . rw[Td,HX.o];simpa [qH,kI,bK.o]using N
       . exact(ay.own o (fun a b=>U.lt a b |>.1))
       . rcases G with b|b
         . have:=(U.lt m b).1;omega
         . have:=s.size;simp at b;omega)
      clear j r2 F N E G o;refine lD ?_;go_wp2_with fail;have B:Kp (·=w+2) v (v.setCell ⟨w+2,2,none⟩ (m,c+1,x)):=qM;obtain⟨q1,q2,q3,q4⟩:=aA.o;exact⟨⟨c+1,(m,c+1,x),Zm,Zk,q2.trans B,q3.jR 2 _,jr q1 B (fun a e _ b=>q4 (by cases e;exact b))⟩,Zj⟩
  . have bZ:c=k.length:=Zm
    subst bZ;rw[TA]at O;have aF:(fresh p ⟨f,h⟩).fields.length=k.length/\(fresh p ⟨f,h⟩).of=⟨f,h⟩:=by rw[ax.o];simp
    have aG:=(bI.any.trans T.kp).own L (fun a b=>Zm);have aY:=T.at_.kp L (fun a e b=>Zm);have ag:=n.qK aG aY;obtain⟨P,bB,bf,bz,bg,bR⟩:∃P:Own,(∀a r,y a=some r->P a=some r)/\(∀a,P a≠none->Q<=a/\a<wr.heap.size)/\(∀a,(Value.slice t k.length u).ownBlock=some a->P a=some (7,g.os.length))/\(∀a,a<z.heap.size->P a=y a)/\∀a C,P a=some (4,C)->y a=some (4,C):=by
     have aT:Q<=w:=by have:=(n.dom H (by rw[n.o.role];simp)).2;have:=n.low;omega
     cases b:(Value.slice t k.length u).ownBlock with
     |none=>exact⟨y,fun _ _ R=>R,ag.dom,(fun a e=>by cases e),(fun _ _=>rfl),fun _ _ K=>K⟩
     | some qb =>
      have bY:=O.lt qb b;have cu:y qb=none:=by
       cases e2:y qb with
       |none=>rfl
       |some r=>have:=(n.dom qb (by rw[e2];simp)).2;omega
      refine⟨y.add qb (7,g.os.length),fun a r e=>?_,fun a e=>?_,(fun a e=>by cases e;exact Own.add_eq _ _ _),(fun a e=>Own.mR _ Zm),fun a C e=>Own.Ht Zl e⟩
      . rw[Own.mR _ (fun e3=>by subst e3;rw[cu]at e;cases e)];exact e
      . by_cases e3:a=qb
        . subst e3;exact⟨Zm,bY.2⟩
        . rw[Own.mR _ e3]at e;exact ag.dom a e
    have V:=ag.relabel bB bf fun a C e=>ag.zY a C (bR a C e);have aT:Q<=z:=by have:=(n.dom H (by rw[n.o.role];simp)).2;have:=n.low;omega
    have bA:mW wr P Q (7,g.os.length) 42 2 (.slice t k.length u) (fresh p ⟨f,h⟩).fields.length ((fresh p ⟨f,h⟩).fields.flatMap kI):=by
     rw[aF.1,ax.o];exact⟨mP O aT,bz⟩
    obtain⟨ha,aI,aK⟩:=V.heap.form;have aL:¬g.vh.ownBlock=some H:=fun b=>by have:=V.heap.role _ b;rw[V.role]at this;cases this
    have Y:¬g.vh.ownBlock=some (w.heap.size+2):=fun b=>Te ((n.heap.blk b).2)
    obtain⟨aS,A,bu,q⟩:=tN.ex (fun W'=>Kp (fun a=>g.vh.ownBlock=some a) wr W') _ Kp.rr;have rm:=fun D=>(V.blk.kp (q.jC D) aL).c 4 (.slice ha g.os.length aI) (by rw[<-aK];rfl);obtain⟨-,df,dh,di,-⟩:=jq.pq fun D=>(aa.kp (q.jC D) Y);have⟨j,az,bO,ai,aB,bM,aN,bP,bJ⟩:=AV q V bA bg aK aG ((bF.kp T.kp Zm).kp L Zm) aL aF;have dK:=L.size;clear q V bA bg aK aG aY ag bB bf bz L aa O aL Y aF;go_wp2_with fail;refine lq j 8 [([0,1,2,3,4,5],6),([],7)] [] ?_ ?_
    . exact jA
    refine nE ?_;intro i d;go_wp2_with fail;refine kk j d kx ?_;clear d i;refine mF rfl fun i d=>?_;refine jF I1 rfl (.tmp 42) (.tmp 44) rfl Q (.slice ha g.os.length aI) g.os.length (g.os.flatMap q8) rfl (by rw[<-aB.o];exact jr (D:=fun _=>False) az.heap.row kx fun _ _ _ K=>K) wr 1 [f,h,.slice t k.length u] rfl rfl (hQ.KO _ _ rfl) Zt Zm Zr ?_;intro m x v N E G;change i _ _;rw[<-aB.o]at E G;have o:=(kx:Ext wr _).any.trans E;refine kk j d o ?_;clear d i;have av:=az.blk.kp o bP;have x4:=av.c 4 (.slice ha g.os.length aI) (by rw[<-aB.o];rfl);have f4:=av.frozen 4;have hz:=av.lt;have S:({g with os:=g.os++[⟨fresh p ⟨f,h⟩,.slice t k.length u⟩],vh:=(m,g.os.length+1,x)}:Gh).st=(create p ⟨f,h⟩ g.st).2:=by simp[Gh.st,create]
    obtain⟨aj,cK,aH,ak⟩:=az.Rk (fresh p ⟨f,h⟩) (.slice t k.length u) bO m x (by rw[bJ.o.2];exact N) o (by
     rcases G with b|b
     . exact .inl b
     . right;simp at b;omega) (by rw[S];exact n.good.grow hr (by simpa [Gh.st]using bW))
    have bq:cK (w+1)=none:=by
     rw[aH _ Zm,ai.o _ Zm];cases b:y (w+1)with
     |none=>rfl
     |some r=>have:=(n.dom _ (by rw[b];simp)).2;omega
    obtain⟨W,hW⟩:=S9 (v.setCell (H,4) (m,g.os.length+1,x));rw[<-hW]at aj ak;have y4:=ak.blk.c 4 (m,g.os.length+1,x) rfl;have⟨HW,bL,ah,bD,bN⟩:=nC hW aj ak aH bq;have bn:P (w+1)=none:=by
     rw[ai.o _ Zm];cases b:y (w+1)with
     |none=>rfl
     |some r=>have:=(n.dom _ (by rw[b];simp)).2;omega
    have aU:=aN.kp aj (fun b=>by
     rcases b with b|b
     . omega
     . exact b bn)
    have aC:=aN.kp o (fun b=>Te ((n.heap.blk b).2));obtain⟨zz,z0,z1,-⟩:=aC.ca;obtain⟨dL,dM,-⟩:=aC.fz;have dB:=n.blk.lt;have dC:¬H=w+1:=Zm
    have dD:¬w+1=H:=Zm
    have⟨bG,HS⟩:=jw aU S;have dF:IntKind.i64.wrap ((g.os.length:Int)+1 - 1)=g.os.length:=by rw[TM _ Zm];omega
    clear aj ak aH bq bn aU aC y4 N E G o av j rm df dh di S hW;refine lD ?_;go_wp2_with fail;rw[<-HW.o];have B:Kp (·=w+1) W ((W.setCell ⟨w+1,0,none⟩ (.int .i64 2)).setCell ⟨w+1,1,none⟩ g.os.length):=qM;refine PG (jM Ar rfl (w+1) rfl [.int .i64 2,g.os.length] (hQ.kX (bG.set2 _ _)) rfl) rfl ?_;have bT:=ah.lM.kp B (fun a e b=>Zm);have bU:=ah.keep B (nU.refl _ _) (ah.Az B.size) bT (fun a e b=>by subst b;exact e bN) (fun a e b=>Te ah.lM.ord);refine kJ.mk' ?_ (fun a e=>?_) bU HS
    . refine Kp.own (D':=(·=w+1)) ?_ B (fun a b=>Zm);exact(bM.weak fun a _ b=>.inl b).mo (bL) (fun a e=>ai.o a Zm)
    . rw[bD.o a Zm,ai.o a Zm]
section
variable {w w':World}{l:jB}{p:M.jl}{own:Own}{B mb:Nat}{lk:Bool}{g:Gh}{r:List GC}{c:GC}
theorem jG.fresh(c:jG w l p own B mb lk g){b:Nat}(d:w<=b):¬MO l own b:=by
 rintro(a|a)
 . have:=c.lM.FR;omega
 . have:=(c.dom b a).2;omega
def Gh.kY(g:Gh)(r:List GC)(c:GC)(st:List Val)(vs:Value):Gh:={g with cs:=r++[{c with f:={c.f with stack:=st},vs:=vs}]}
theorem Gh.RI(st:List Val)(vs:Value):(g.kY r c st vs).st={g.st with frames:=r.map GC.f++[{c.f with stack:=st}]}:=by simp[Gh.kY,Gh.st]
theorem Gh.oh(b:g.cs=r++[c]){n:Nat}{st vs:List Val}(a:c.f.stack=st++vs)(e:vs.length=n)(vs':Value):M.oh n g.st=some (vs,(g.kY r c st vs').st):=by
 unfold M.oh;have d:c.f.stack.length - n=st.length:=by rw[a];simp;omega
 rw[Gh.top b,oV (Gh.fr b),T9 (by rw[a];simp;omega),d,Gh.RI,a];simp
theorem Gh.zG(a:g.cs=r++[c]){n:Nat}(b:c.f.stack.length<n):M.oh n g.st=none:=by
 unfold M.oh;rw[Gh.top a,Ty b]
theorem Gh.pop(a:g.cs=r++[c]){st:List Val}{v:Val}(b:c.f.stack=st++[v])(vs':Value):M.pop g.st=some (v,(g.kY r c st vs').st):=by
 unfold M.pop;rw[Gh.oh a (n:=1) b rfl vs'];rfl
theorem Gh.Aj(a:g.cs=r++[c])(b:c.f.stack=[]):M.pop g.st=none:=by
 unfold M.pop;rw[Gh.zG a (by rw[b];simp)];rfl
theorem jG.popped(e:jG w l p own B mb lk g)(j:g.cs=r++[c]){a:Option Addr}{n k:Nat}{st:List Val}(o:c.vs=.slice a (st.length+n) k)(m:∃vs,c.f.stack=st++vs/\vs.length=n)(L:0<n)(s:jq w' c.cb 129 ((BA p c).setIfInBounds 13 (.slice a st.length k)))(i:Kp (·=c.cb) w w'):Kp (MO l own) w w'/\jG w' l p own B mb lk (g.kY r c st (.slice a st.length k)):=by
 obtain⟨vs,m,H⟩:=m;have d:=e.at_ j;have G:c.f.stack.length=st.length+n:=by rw[m];simp[H]
 have y:=d.kY.row;rw[o,G]at y;obtain⟨t,N,b,-⟩:=ky y Zm;cases b;have z:=BZ y (j:=st.length) Zm;rw[m,BH (enc:=kI) (k:=2) (fun _=>rfl)]at z;have D:c.vs.ownBlock≠some c.cb:=fun b=>by have:=d.kY.role _ b;rw[d.role]at this;cases this
 have h:=jK.1 (e.FU j);obtain⟨E,O,K,F⟩:=e.setStack j st (t,st.length,k) s (jr z i (fun g v _ b=>D (by rw[o];subst b;exact v))) (fun u A=>.inl (by rw[o];exact A)) (i.weak fun q _ b=>.inl b) (by
  rw[show({g with cs:=r++[{c with f:={c.f with stack:=st},vs:=(t,st.length,k)}]}:Gh).st={g.st with frames:=r.map GC.f++[{c.f with stack:=st}]}from by simp[Gh.st]];refine e.good.turn (Gh.fr j) (jK.2 ⟨h.1,h.2.1,h.2.2.1,h.2.2.2.1,?_,h.2.2.2.2.2.1,fun J I=>h.2.2.2.2.2.2 J (by rw[m];simp[I])⟩);have:=h.2.2.2.2.1;simp only;omega)
 refine⟨E,?_⟩;have x:Kp (PO own (·=(4,r.length))) w w':=i.weak fun q _ b=>⟨_,by rw[b];exact d.role,rfl⟩;have C:=nU.refl w own;refine e.Ie j rfl (x.weak fun q _ ⟨t,e1,e2⟩=>⟨t,e1,.inl e2⟩) C (e.Az i.size) ⟨s,d.role,d.low,kE.kp jy.stays x (fun q s=>e.yP q s) d.ml,d.loc.xX x C Zl,⟨?_,fun u A=>d.kY.role u (by rw[o];exact A)⟩⟩ F.good i (fun _ _ _ b=>b) fun _ _ u=>u;exact jr z i (fun g v _ b=>D (by rw[o];subst b;exact v))
end
theorem wO{i:Own}{g:Gh}(b:jG w l p i f k lk g)(r:List GC)(c:GC)(e:g.cs=r++[c])(st:List Val)(v:Val)(h:c.f.stack=st++[v]):Calls prog 104 #[some (c.cb,13)] w fun a j=>a=.returned (.tuple #[.agg #[v.kind,v.n],.bool true])/\Kp (MO l i) w j/\∃x,jG j l p i f k lk (g.kY r c st x):=by
 have d:=b.at_ e;have s:=jK.1 (b.FU e);have z:=(b.mi e).stack;have A:=s.2.2.2.2.1;have t:c.f.stack.length=st.length+1:=by rw[h];simp
 refine(PE w c.cb 13 f c.vs st.length st v d.blk rfl (by rw[<-h,<-t];exact d.kY.row) rfl Zm (fun a=>by have:=d.kY.role _ a;rw[d.role]at this;cases this)).mono ?_;rintro a j ⟨rfl,⟨y,B,u,q⟩,o⟩;obtain⟨m,n⟩:=b.popped e u ⟨[v],h,rfl⟩ Zm q o;exact⟨rfl,m,_,n⟩
theorem sK{m:Own}{g:Gh}(f:jG w l p m d k lk g)(r:List GC)(c:GC)(h:g.cs=r++[c])(i:c.f.stack=[]):Calls prog 104 #[some (c.cb,13)] w fun a n=>a=.returned (.tuple #[.agg #[Tj,Tj],.bool false])/\Ext w n:=by
 have b:=f.at_ h;obtain⟨e,j,a⟩:=b.kY.form;rw[i]at a;exact PD w c.cb 13 c.vs b.blk rfl ⟨e,j,a⟩
theorem CL{m:Own}{v: Nat}{g:Gh}(b:jG w l p m i v lk g)(r:List GC)(c:GC)(e:g.cs=r++[c])(st vs:List Val)(n:Nat)(k:c.f.stack=st++vs)(q:vs.length=n)(s:0<n):Calls prog 106 #[some (c.cb,13),n] w fun a h=>∃f,a=.returned (.tuple #[f,.bool true])/\h.ownsRow w 42 2 f n (vs.flatMap kI)/\Kp (MO l m) w h/\∃C,jG h l p m i v lk (g.kY r c st C):=by
 have d:=b.at_ e;have B:=jK.1 (b.FU e);have E:=(b.mi e).stack;have F:=B.2.2.2.2.1;have j:c.f.stack.length=st.length+n:=by rw[k];simp[q]
 refine(sN w c.cb 13 i _ _ c.vs c.f.stack.length c.f.stack d.blk rfl d.kY.row rfl n Zm s Zm (fun a=>by have:=d.kY.role _ a;rw[d.role]at this;cases this)).mono ?_;rintro a h ⟨f,rfl,t,⟨D,G,u,o⟩,A⟩;rw[j]at u;rw[j,Vu]at o;have x:c.f.stack.drop (c.f.stack.length - n)=vs:=by rw[j,Vu,k,List.drop_left]
 rw[x]at t;obtain⟨y,z⟩:=b.popped e u ⟨vs,k,q⟩ s o A;exact⟨f,rfl,t,y,_,z⟩
theorem vG{k:Own}{g:Gh}(e:jG w l p k b j lk g)(r:List GC)(c:GC)(f:g.cs=r++[c])(n:Nat)(h:c.f.stack.length<n)(i:n<=1000):Calls prog 106 #[some (c.cb,13),n] w fun d m=>d=.returned (.tuple #[(),.bool false])/\w=m:=by
 have a:=e.at_ f;exact CS w c.cb 13 c.vs _ a.blk rfl a.kY.form n h i
theorem Rv{n:Own}{g:Gh}(h:jG w l p n d b lk g)(r:List GC)(c:GC)(m:g.cs=r++[c])(x:g.status=1)(i:Ins)(u:oL (M.method p c.f.of) i=true)(a:i.op=1):Calls prog 57 #[some b,.agg #[i.op,i.a,i.name,i.member]] w (kJ w l p n d b lk (.int .i64 (jN p lk i g.st).1) (jN p lk i g.st).2):=by
 have s:Zz (jN p lk i g.st=push p (mh i.a) g.st):=Zy (by unfold jN;rw[Ty a]);have v:=(rC u).2.2.2.1 a;have⟨o,q⟩:=jw h m;clear h m a;go_enter func57,ntmps57;go_wp2_with fail;refine(Dx i.a).mono ?_;rintro t y ⟨rfl,j⟩;have e:=Zy ((kx:Ext w _).trans j);clear j;go_wp2_with fail;refine(tu (o.ext e) r c q x (mh i.a) (pJ _ v)).mono ?_;rintro t z k;have f:=Zy (kJ.behind e k);obtain⟨rfl,-⟩:=k;rw[<-s.o]at f |-;go_wp2;go_ret;exact f
theorem Qi{n:Own}{g:Gh}(f:jG w l p n b a lk g)(r:List GC)(c:GC)(k:g.cs=r++[c])(u:g.status=1)(i:Ins)(m:i.op=5):Calls prog 61 #[some a,.agg #[i.op,i.a,i.name,i.member]] w (kJ w l p n b a lk (.int .i64 (jN p lk i g.st).1) (jN p lk i g.st).2):=by
 have s:Zz (jN p lk i g.st=push p qH g.st):=Zy (by unfold jN;rw[m];rfl);have⟨o,q⟩:=jw f k;clear f k m;go_enter func61,ntmps61;go_wp2_with fail;refine(Jv).mono ?_;rintro t v ⟨rfl,h⟩;have d:=Zy ((kx:Ext w _).trans h);clear h;go_wp2_with fail;refine(tu (o.ext d) r c q u qH (Am _)).mono ?_;rintro t x j;have e:=Zy (kJ.behind d j);obtain⟨rfl,-⟩:=j;rw[<-s.o]at e |-;go_wp2;go_ret;exact e
theorem Sj{n:Own}{g:Gh}(h:jG w l p n d b lk g)(r:List GC)(c:GC)(m:g.cs=r++[c])(v:g.status=1)(i:Ins)(u:oL (M.method p c.f.of) i=true)(a:i.op=13):Calls prog 69 #[some b,.agg #[i.op,i.a,i.name,i.member]] w (kJ w l p n d b lk (.int .i64 (jN p lk i g.st).1) (jN p lk i g.st).2):=by
 have s:Zz (jN p lk i g.st=jump p i.a g.st):=Zy (by unfold jN;rw[a];rfl);have t:=((rC u).2.2.1 (.inr (.inr a))).1;have j:Ext w (w.alloc (.cells #[i.op,i.a,i.name,i.member] 134)):=kx;have⟨e,o,q⟩:=jI j h m;clear h m a j;go_enter func69,ntmps69;go_wp2_with fail;refine(BQ (o.ext e) r c q v i.a t).mono ?_;rintro x y k;have f:=Zy (kJ.behind e k);obtain⟨rfl,-⟩:=k;rw[<-s.o]at f |-;go_wp2;go_ret;exact f
theorem Qk{X:Own}{I: Nat}{g:Gh}(C:jG w l p X L I lk g)(r:List GC)(c:GC)(R:g.cs=r++[c])(T:g.status=1)(i:Ins)(S:oL (M.method p c.f.of) i=true)(n:i.op=11):Calls prog 67 #[.pointer (some ⟨I,0,none⟩),.agg #[.int .i64 i.op,.int .i64 i.a,.string i.name,.string i.member]] w (kJ w l p X L I lk (.int .i64 (jN p lk i g.st).1) (jN p lk i g.st).2):=by
 have HI:=Zy (rC S);obtain⟨w0,V,D,B⟩:=nu w #[.int .i64 i.op,.int .i64 i.a,.string i.name,.string i.member] 134;have⟨af,h,N,aa,O,d⟩:=pR (C.fresh (Tu _)) (C.ext D) D B V R;have av:=B.lt;clear C D B V R S;rcases TT c.f.stack with b|⟨v,o,b⟩
 . have a:Zz (jN p lk i g.st=(10,g.st)):=Zy (by unfold jN;rw[n];simp only[Gh.Aj d.o b];rfl);have z:=Zy b;clear b n;go_enter func67,ntmps67;go_wp2_with fail;rw[<-O.o];refine(l6 h.o r c d.o).mono ?_;rintro k w1 ⟨rfl,e⟩;have⟨q,s⟩:=jw (h.o.ext e) (N.o.trans e);clear e;go_wp2_with fail;refine(sK q.o r c d.o z.o).mono ?_;rintro k Y ⟨rfl,E⟩;have⟨Z,ae⟩:=jw (q.o.ext E) (s.o.trans E);clear E;go_wp2;go_ret;rw[a.o];exact kJ.mk' (ae.o.alloc _).any (nU.refl _ _) (Z.o.ext kx) rfl
 . rw[TS]at b;have U:=(jK.1 (h.o.FU d.o)).2.2.2.2.2.2 o (by rw[b];simp);have aj:Zz (jV o g.os.length=true):=Zy (by simpa [Gh.st]using U);have a:Zz (∀f,jN p lk i g.st=if o.kind=1 then(if o.n=0 then jump p i.a (g.kY r c v f).st else next p (g.kY r c v f).st)else(10,(g.kY r c v f).st)):=Zy (fun f=>by unfold jN;rw[n];simp only[Gh.pop d.o b f];rfl);have⟨z,ag⟩:=jw b n;clear b n U;obtain⟨J,K⟩:=o;simp only at a;go_enter func67,ntmps67;go_wp2_with fail;rw[<-O.o];refine(l6 h.o r c d.o).mono ?_;rintro k w1 ⟨rfl,e⟩;have⟨q,s⟩:=jw (h.o.ext e) e;clear e;go_wp2_with fail;refine(wO q.o r c d.o v ⟨J,K⟩ z.o).mono ?_;rintro k Y ⟨rfl,G,f,H⟩;replace a:=Zy (a.o f);obtain⟨w3,W,F,P⟩:=nu Y #[.int .i64 J,.int .i64 K] 42;have⟨y,x⟩:=jw (H.ext F) (((N.o.trans s.o).any.trans G).trans F.any);have Q:=(aa.o.ext s.o).kp G af.o;obtain⟨yz,-,y1,-⟩:=Q.ca;have⟨A,ah,ai⟩:=jI W P (H.fresh (Tu _));clear F P G H Q W;by_cases t:J=1
   . subst t;by_cases u:K=0
     . subst u;replace a:=Zy (a.o.trans (Ty rfl));replace a:=Zy (a.o.trans (Ty rfl));go_wp2_with fail;rw[<-A.o];refine(BQ y.o r _ rfl T i.a (HI.o.2.2.1 (.inl ag.o)).1).mono ?_;rintro k w4 m;have j:=Zy (kJ.after x.o (nU.refl _ _) m);obtain⟨rfl,-⟩:=m;rw[<-a.o]at j |-;go_wp2;go_ret;exact j.o
     . have au:=SK.2 u;replace a:=Zy (a.o.trans (Ty rfl));replace a:=Zy (a.o.trans (T9 u));clear u;go_wp2_with fail;rw[<-A.o];refine(uW y.o r rfl T).mono ?_;rintro k w4 m;have j:=Zy (kJ.after x.o (nU.refl _ _) m);obtain⟨rfl,-⟩:=m;rw[<-a.o]at j |-;go_wp2;go_ret;exact j.o
   . have ak:=TE.2 t;replace a:=Zy (a.o.trans (T9 t));clear t;go_wp2;go_ret;rw[a.o,<-A.o];exact kJ.mk' x.o (nU.refl _ _) y.o rfl
theorem jG.Rl{i: World}{q:Own}{e: Nat}{g:Gh}(a:jG w l p q o e lk g)(n:Int)
    (d f:Nat) (v:i.ownsRow o 3 1 (d,g.outs.length+1,f) (g.outs.length+1) (g.outs.flatMap vR++[.int .i64 n])) (A:Kp (fun b=>g.vo.ownBlock=some b) w i) (z:g.vo.ownBlock=some d\/w<=d)
    (F:M.Good p ({g with outs:=g.outs++[n],vo:=(d,g.outs.length+1,f)}:Gh).st):
    Kp (MO l q) w (i.setCell (e,5) (d,g.outs.length+1,f))/\∃D,nU w q D/\jG (i.setCell (e,5) (d,g.outs.length+1,f)) l p D o e lk {g with outs:=g.outs++[n],vo:=(d,g.outs.length+1,f)}:=by
 have u:Kp (·=e) i (i.setCell (e,5) (d,g.outs.length+1,f)):=qM;obtain⟨j,t⟩:=S9 (i.setCell (e,5) (d,g.outs.length+1,f));have B:g.vo.ownBlock≠some e:=fun c=>by have:=a.outs.role _ c;rw[a.role]at this;cases this
 have G:jq j e 78 (yQ l lk {g with outs:=g.outs++[n],vo:=(d,g.outs.length+1,f)}):=by rw[t];exact(a.blk.kp A B).jR 5 _
 have J:d≠e:=fun c=>by
  subst c;rcases z with s|s
  . exact B s
  . have:=a.blk.lt;omega
 have C:j.ownsRow o 3 1 (d,g.outs.length+1,f) (g.outs.length+1) (g.outs.flatMap vR++[.int .i64 n]):=by
  rw[t];exact jr v u (fun r x _ c=>J (by cases x;exact c))
 rw[<-t]at u |-;clear t;have h:Kp (PO q fun r=>r=(0,0)\/r=(3,0)) w j:=(A.weak fun b _ c=>⟨_,a.outs.role b c,.inr rfl⟩).trans (u.weak fun b _ c=>⟨_,by rw[c];exact a.role,.inl rfl⟩);have k:=Own.zi (by
  rcases z with s|s
  . exact .inl (a.outs.role _ s)
  . exact .inr Zm)
 have I:∀b,q.add d (3,0) b≠none->o<=b/\b<j.heap.size:=fun b m=>by
  by_cases c:b=d
  . subst c;exact C.lt b rfl
  . rw[Own.mR _ c]at m;exact a.Az h.size b m
 refine⟨h.weak fun b _ c=>c.mo,_,k,a.Gx h,a.hB,G,(k _ a.blk.lt).trans a.role,a.low,a.calls.xX h k Zl,fun y E H=>(a.call y E H).xX h k Zl a.yP,a.heap.xX h k Zl,fun K L v=>(a.obj K L v).xX h k Zl,⟨?_,fun r x=>?_⟩,I,F,a.zY.kp h (fun b y m ⟨r,h1,h2⟩=>by rw[m]at h1;cases h1;simp at h2) fun b y m=>Own.Ht Zl m⟩
 . simpa [vR]using C
 . cases x;exact Own.add_eq _ _ _
theorem Rw{B:Own}{g:Gh}(Z:jG w l p B x n lk g)(r:List GC)(c:GC)(aC:g.cs=r++[c])(aD:g.status=1)(i:Ins)(hi:oL (M.method p c.f.of) i=true)(A:i.op=14):Calls prog 70 #[some n,.agg #[i.op,i.a,i.name,i.member]] w (kJ w l p B x n lk (.int .i64 (jN p lk i g.st).1) (jN p lk i g.st).2):=by
 have HI:=Zy (rC hi);obtain⟨w0,aH,aa,W⟩:=nu w #[i.op,i.a,i.name,i.member] 134;have⟨aQ,y,au,aL,av,k⟩:=pR (Z.fresh (Tu _)) (Z.ext aa) aa W aH aC;have bz:=W.lt;clear Z aa W aH aC hi;rcases TT c.f.stack with h|⟨j,C,h⟩
 . have a:Zz (jN p lk i g.st=(10,g.st)):=Zy (by unfold jN;rw[A];simp only[Gh.Aj k.o h];rfl);have T:=Zy h;clear h A;go_enter func70,ntmps70;go_wp2_with fail;rw[<-av.o];refine(l6 y r c k).mono ?_;rintro b w1 ⟨rfl,m⟩;have⟨D,E⟩:=jw (y.ext m) (au.trans m);clear m;go_wp2_with fail;refine(sK D r c k T).mono ?_;rintro b w2 ⟨rfl,ae⟩;have⟨aK,aN⟩:=jw (D.ext ae) (E.trans ae);clear ae;go_wp2;go_ret;rw[a.o];exact kJ.mk' (aN.alloc _).any (nU.refl _ _) (aK.ext kx) rfl
 . rw[TS]at h;have aG:=(jK.1 (y.FU k)).2.2.2.2.2.2 C (by rw[h];simp);have aR:Zz (jV C g.os.length=true):=Zy (by simpa [Gh.st]using aG);have a:Zz (∀e,jN p lk i g.st=if C.kind=1 then next p (if(g.kY r c j e).st.outs.length<40 then{(g.kY r c j e).st with outs:=(g.kY r c j e).st.outs++[C.n]}else(g.kY r c j e).st)else(10,(g.kY r c j e).st)):=Zy (fun e=>by unfold jN;rw[A];simp only[Gh.pop k.o h e];rfl);have⟨T,aY⟩:=jw h A;clear h A aG;obtain⟨vk,v⟩:=C;simp only at a;go_enter func70,ntmps70;go_wp2_with fail;rw[<-av.o];refine(l6 y r c k).mono ?_;rintro b w1 ⟨rfl,m⟩;have⟨D,E⟩:=jw (y.ext m) m;clear m;go_wp2_with fail;refine(wO D r c k j ⟨vk,v⟩ T).mono ?_;rintro b w2 ⟨rfl,f,e,s⟩;replace a:=Zy (a e);obtain⟨w3,aI,af,b5⟩:=nu w2 #[vk,v] 42;have⟨d,F⟩:=jw (s.ext af) (((au.trans E).any.trans f).trans af.any);have ax:=(aL.ext E).kp f aQ;obtain⟨yz,-,y1,-⟩:=ax.ca;have⟨U,aM,aP⟩:=jI aI b5 (s.fresh (Tu _));obtain⟨t,u,aj⟩:=s.outs.form;have m5:=s.blk.c 5 (.slice t g.outs.length u) (by rw[show(Value.slice t g.outs.length u)=g.vo from aj.symm];rfl);have mz:=s.blk.lt;have I:Zz (g.vo=.slice t g.outs.length u):=Zy aj;clear af b5 f s ax aI aj;by_cases O:vk=1
   . subst O;replace a:=Zy (a.trans (Ty rfl));have aU:=zN aR rfl;simp only at aU;by_cases P:g.outs.length<40
     . have aT:(g.outs.length:Int)<40:=Zm
       replace a:=Zy (a.trans (by rw[Ty (show(g.kY r c j e).st.outs.length<40 from P)]));have ai:¬g.vo.ownBlock=some n:=fun b=>by have:=d.outs.role _ b;rw[d.o.role]at this;cases this
       have aF:¬g.vo.ownBlock=some w2.heap.size:=fun b=>aP.o (.inr (by rw[d.o.outs.role _ b];simp));obtain⟨aZ,bf,bu,G⟩:=tN.ex (fun W'=>Kp (fun V=>g.vo.ownBlock=some V) w3 W') _ Kp.rr;have rm:=fun ak=>(d.blk.kp (G.jC ak) ai).c 5 (.slice t g.outs.length u) (by rw[<-I.o];rfl);have aW:=fun ak=>(aM.kp (G.jC ak) aF).c 1 v rfl;have⟨H,aS⟩:=jw G ai;have bn:=d.low;have bq:=d.blk.lt;clear G ai aF P;go_wp2_with fail;rw[<-U.o];refine lq H 9 [([0,1,2,3,4,5,6],7),([],8)] [] ?_ ?_
       . exact jA
       refine nE ?_;intro J f;go_wp2_with fail;refine kk H f kx ?_;clear f J;refine mF rfl fun J f=>?_;refine jF D7 rfl (.tmp 32) (.tmp 35) rfl x (.slice t g.outs.length u) g.outs.length (g.outs.flatMap vR) rfl (by rw[<-I.o];exact jr (D:=fun _=>False) d.outs.row kx fun _ _ _ aX=>aX) w3 1 [v] rfl rfl (hQ.KO _ _ rfl) Zt Zm Zr ?_;intro Y X w9 aA ag ah;change J _ _;rw[<-I.o]at ag ah;have L:=(kx:Ext w3 _).any.trans ag;refine kk H f L ?_;clear f J;have Q:=d.blk.kp L aS;have x5:=Q.c 5 (.slice t g.outs.length u) (by rw[<-I.o];rfl);have f5:=Q.frozen 5;have S:=Q.lt;have q:=d.good;obtain⟨ay,aJ,aB,az⟩:=d.Rl v Y X aA L (by
        rcases ah with b|b
        . exact .inl b
        . right;simp at b;omega) ⟨q.heap,q.frames,q.nf,by simp[Gh.st,Gh.kY];omega,(fun aV R=>by
          simp only[Gh.st,Gh.kY,TU,U4]at R;rcases R with R|rfl
          . exact q.uh aV R
          . unfold oD;simp;omega),q.back⟩
       obtain⟨K,N⟩:=S9 (w9.setCell (n,5) (Y,g.outs.length+1,X));have HX:Zz (Kp (MO l B) w K/\nU w B aJ):=Zy (by
        rw[N];exact⟨F.mo ay (nU.refl _ _),fun V hb=>aB V (Te F.size)⟩)
       have HW:=Zy N;have aO:Zz (jG K l p aJ x n lk {(g.kY r c j e)with outs:=g.outs++[v],vo:=(Y,g.outs.length+1,X)}):=Zy (by rw[N];exact az);clear ay aB az N aA ag ah L Q H rm aW q m5 mz;refine lD ?_;go_wp2_with fail;rw[<-HW.o];refine(uW aO r rfl aD).mono ?_;rintro b w4 z;have o:=Zy (kJ.after HX.1 HX.2 z);obtain⟨rfl,-⟩:=z;replace o:Zz (kJ w l p B x n lk (.int .i64 (jN p lk i g.st).1) (jN p lk i g.st).2 _ w4):=Zy (by rw[a.o];exact o);clear x5 f5 S;go_wp2;go_ret;have S:=o.o;rw[a.o]at S |-;exact S
     . have aT:¬(g.outs.length:Int)<40:=Zm
       replace a:=Zy (a.trans (by rw[T9 (show¬(g.kY r c j e).st.outs.length<40 from P)]));clear P;go_wp2_with fail;rw[<-U.o];refine(uW d r rfl aD).mono ?_;rintro b w4 z;have o:=Zy (kJ.after F (nU.refl _ _) z);obtain⟨rfl,-⟩:=z;rw[<-a.o]at o |-;go_wp2;go_ret;exact o
   . have bg:=TE.2 O;replace a:=Zy (a.trans (T9 O));clear O;go_wp2;go_ret;rw[a.o,<-U.o];exact kJ.mk' F (nU.refl _ _) d rfl
theorem vV{Q:Own}{D: Nat}{g:Gh}(v:jG w l p Q D C lk g)(r:List GC)(c:GC)(y:g.cs=r++[c])(z:c.f.stack=[]):Calls prog 112 #[some C] w fun b R=>b=.returned (.tuple #[.agg #[Tj,Tj],.bool false])/\Ext w R:=by
 obtain⟨S,B,j,i⟩:=nu w #[Tj,Tj] 42;have⟨o,H,F,K,q⟩:=nC (v.ext j) j i B y;have aa:=i.lt;have J:=Zy z;clear v j i B y z;go_enter func112,ntmps112;go_wp2_with fail;rw[<-K.o];refine(l6 o r c q).mono ?_;rintro b w1 ⟨rfl,k⟩;have⟨E,s⟩:=jw (o.ext k) k;clear k;go_wp2_with fail;refine(sK E r c q J).mono ?_;rintro b f ⟨rfl,m⟩;obtain⟨a,e⟩:=S9 (f.alloc (.cells #[Tj,Tj] 42));have n:Ext S a:=by rw[e];exact(s.trans m).alloc _
 have ae:(w:Nat)<f:=Tf m.size s.size
 have u:jq a f 42 #[Tj,Tj]:=by rw[e];exact jq.new _ _ _
 have P:¬(f:Nat)=w:=Zm
 obtain⟨U,W,Z,h⟩:=tN.ex (fun O=>Kp (·=w) a O) _ Kp.rr;obtain⟨-,af,ag,-⟩:=jq.pq fun T=>(u.kp (h.jC T) P);have⟨t,L⟩:=jw h e;have d:=F.ext n;obtain⟨hz,x0,x1,-⟩:=d.ca;obtain⟨X,Y,-⟩:=d.fz;have⟨G,I⟩:=jw d n;clear n u m e h d;go_wp2_with fail;rw[<-L.o];refine lq t 13 [([0,1,2,3,4,5,6,7,8,9,10,11],12)] [] ?_ ?_
 . exact jA
 refine nE ?_;intro N x;go_wp2_with fail;have A:Kp (·=w) a ((a.drew.setCell w Tj).setCell (w,1) Tj):=(((Kp.refl (·=w) a).drew).setCell (p:=⟨w,0,none⟩) (fun _=>rfl) _).setCell (p:=⟨w,1,none⟩) (fun _=>rfl) _;refine kk t x A ?_;clear x N;refine lD ?_;go_wp2_with fail;refine PG (hU Ar rfl w rfl [Tj,Tj] (hQ.kX ((G.ext jA).set2 _ _)) rfl) rfl ?_;exact⟨rfl,(H.trans I).own A (fun V b=>Zm)⟩
theorem yS{k:Own}{z: Nat}{g:Gh}(q:jG w l p k z y lk g)(r:List GC)(c:GC)(S:g.cs=r++[c])(st:List Val)(v:Val)(T:c.f.stack=st++[v]):Calls prog 112 #[some y] w fun f V=>f=.returned (.tuple #[.agg #[v.kind,v.n],.bool (decide (v.kind=2\/v.kind=3))])/\Kp (MO l k) w V/\∃m,jG V l p k z y lk (g.kY r c st m):=by
 obtain⟨b,e⟩:=v;obtain⟨w0,U,J,H⟩:=nu w #[Tj,Tj] 42;have P:=Zy (q.fresh (Tu _));have au:=q.lM.lt;have⟨N,Z,X,ae,O⟩:=nC (q.ext J) J H U S;have ax:=H.lt;have HS:=Zy T;clear q J H U S T;go_enter func112,ntmps112;go_wp2_with fail;rw[<-ae.o];refine(l6 N r c O).mono ?_;rintro f w1 ⟨rfl,K⟩;have⟨W,B⟩:=jw (N.ext K) K;clear K;go_wp2_with fail;refine(wO W r c O st ⟨b,e⟩ HS).mono ?_;rintro f n ⟨rfl,a,m,R⟩;obtain⟨d,x⟩:=S9 (n.alloc (.cells #[b,e] 42));have t:Ext n d:=by rw[x];exact kx
 have ay:(w:Nat)<n:=Tf a.size B.size
 have Q:jq d n 42 #[b,e]:=by rw[x];exact jq.new _ _ _
 have af:¬(n:Nat)=w:=Zm
 obtain⟨ah,ai,av,E⟩:=tN.ex (fun W'=>Kp (·=w) d W') _ Kp.rr;obtain⟨-,az,aA,-⟩:=jq.pq fun ag=>(Q.kp (E.jC ag) af);have⟨h,F⟩:=jw E x;have u:=((X.ext B).kp a P).ext t;obtain⟨hz,x0,x1,-⟩:=u.ca;obtain⟨f0,f1,-⟩:=u.fz;have⟨A,aa,o⟩:=jI u (((Z.trans B).any.trans a).trans t.any) (R.ext t);have i:Kp (·=w) d ((d.drew.setCell w b).setCell (w,1) e):=(((Kp.refl (·=w) d).drew).setCell (p:=⟨w,0,none⟩) (fun _=>rfl) _).setCell (p:=⟨w,1,none⟩) (fun _=>rfl) _;have D:=Zy i;have C:Zz (Kp (MO l k) w ((d.drew.setCell w b).setCell (w,1) e)/\∃m,jG ((d.drew.setCell w b).setCell (w,1) e) l p k z y lk (g.kY r c st m)):=Zy (by
  refine⟨aa.own i (fun G f=>Zm),m,o.o.keep i (nU.refl _ _) (o.o.Az i.size) (o.o.lM.kp i (fun G L f=>Zm)) (fun G L f=>by subst f;exact P (.inr L)) (fun G L f=>Te o.lM.ord)⟩)
 clear t Q a R x E u i;by_cases s:b=2
 . subst s;go_wp2_with fail;rw[<-F.o];refine lq h 13 [([0,1,2,3,4,5,6,7,8,9,10,11],12)] [] ?_ ?_
   . exact jA
   refine nE ?_;intro j a;go_wp2_with fail;refine kk h a D ?_;clear a j;refine lD ?_;go_wp2_with fail;refine PG (hU Ar rfl w rfl [.int .i64 2,e] (hQ.kX ((A.ext jA).set2 _ _)) rfl) rfl ?_;exact⟨rfl,C⟩
 by_cases I:b=3
 . subst I;clear s;go_wp2_with fail;rw[<-F.o];refine lq h 13 [([0,1,2,3,4,5,6,7,8,9,10,11],12)] [] ?_ ?_
   . exact jA
   refine nE ?_;intro j a;go_wp2_with fail;refine kk h a D ?_;clear a j;refine lD ?_;go_wp2_with fail;refine PG (hU Ar rfl w rfl [.int .i64 3,e] (hQ.kX ((A.ext jA).set2 _ _)) rfl) rfl ?_;exact⟨rfl,C⟩
 . have aj:=SK.2 s;have ak:=SK.2 I;have Y:Zz (decide (b=2\/b=3)=false):=Zy (SS Zm);clear s I;go_wp2_with fail;rw[<-F.o];refine lq h 13 [([0,1,2,3,4,5,6,7,8,9,10,11],12)] [] ?_ ?_
   . exact jA
   refine nE ?_;intro j a;go_wp2_with fail;refine kk h a D ?_;clear a j;refine lD ?_;go_wp2_with fail;refine PG (hU Ar rfl w rfl [b,e] (hQ.kX ((A.ext jA).set2 _ _)) rfl) rfl ?_;exact⟨by rw[Y.o];rfl,C⟩
theorem Gh.split{g:Gh}{r:List Fr}{f:Fr}(a:g.st.frames=r++[f]):∃d c,g.cs=d++[c]/\c.f=f:=by
 rcases TT g.cs with b|⟨d,c,b⟩
 . unfold Gh.st at a;rw[b]at a;simp at a
 . rw[TS]at b;refine⟨d,c,b,?_⟩;unfold Gh.st at a;rw[b]at a;simp only[Ux,Ur,Vb]at a;have:=List.append_inj_right' a rfl;simpa using this
theorem LC.mo{c:Own}(b:LC l p w W):Kp (MO l c) w W:=b.kp.weak fun d _ a=>.inl a
theorem Oq{U:Own}{I H:Nat}{g:Gh}(B:jG w l p U I H lk g)(r:List GC)(c:GC)(O:g.cs=r++[c])(Q:g.status=1)(i:Ins)(P:oL (M.method p c.f.of) i=true)(n:i.op=12):Calls prog 68 #[some H,.agg #[i.op,i.a,i.name,i.member]] w (kJ w l p U I H lk (.int .i64 (jN p lk i g.st).1) (jN p lk i g.st).2):=by
 have HI:=Zy (rC P);obtain⟨w0,S,C,z⟩:=nu w #[i.op,i.a,i.name,i.member] 134;have⟨aa,q,J,Y,K,j⟩:=pR (B.fresh (Tu _)) (B.ext C) C z S O;have aj:=z.lt;clear B C z S O P;rcases TT c.f.stack with b|⟨t,h,b⟩
 . have a:Zz (jN p lk i g.st=(10,g.st)):=Zy (by unfold jN;rw[n];simp only[Gh.Aj j.o b];rfl);have x:=Zy b;clear b n;go_enter func68,ntmps68;go_wp2_with fail;rw[<-K.o];refine(vV q r c j x).mono ?_;rintro A W ⟨rfl,D⟩;have⟨X,Z⟩:=jw (q.ext D) (J.trans D);clear D;go_wp2;go_ret;rw[a.o];exact kJ.mk' (Z.alloc _).any (nU.refl _ _) (X.ext kx) rfl
 . rw[TS]at b;have R:=(jK.1 (q.FU j)).2.2.2.2.2.2 h (by rw[b];simp);have ah:Zz (jV h g.os.length=true):=Zy (by simpa [Gh.st]using R);have a:Zz (∀e,jN p lk i g.st=if h.kind=2\/h.kind=3 then(if h.kind=3 then jump p i.a (g.kY r c t e).st else next p (g.kY r c t e).st)else(10,(g.kY r c t e).st)):=Zy (fun e=>by unfold jN;rw[n];simp only[Gh.pop j.o b e];rfl);have⟨x,ae⟩:=jw b n;clear b n R;obtain⟨o,V⟩:=h;simp only at a;go_enter func68,ntmps68;go_wp2_with fail;rw[<-K.o];refine(yS q r c j t ⟨o,V⟩ x).mono ?_;rintro A W ⟨rfl,F,e,G⟩;replace a:=Zy (a e);obtain⟨w3,T,E,L⟩:=nu W #[o,V] 42;have⟨v,u⟩:=jw (G.ext E) ((J.any.trans F).trans E.any);have N:=Y.kp F aa;obtain⟨yz,-,y1,y2,-⟩:=N.ca;have⟨y,af,ag⟩:=jI T L (G.fresh (Tu _));clear E L F G N T;by_cases d:o=2\/o=3
   . have f:=Tw d;simp only[f];replace a:=Zy (a.trans (Ty d));by_cases s:o=3
     . subst s;replace a:=Zy (a.trans (Ty rfl));clear d f;go_wp2_with fail;rw[<-y.o];refine(BQ v r _ rfl Q i.a (HI.2.2.1 (.inr (.inl ae))).1).mono ?_;rintro A w4 m;have k:=Zy (kJ.after u (nU.refl _ _) m);obtain⟨rfl,-⟩:=m;rw[<-a.o]at k |-;go_wp2;go_ret;exact k
     . have ai:=SK.2 s;replace a:=Zy (a.trans (T9 s));clear s d f;go_wp2_with fail;rw[<-y.o];refine(uW v r rfl Q).mono ?_;rintro A w4 m;have k:=Zy (kJ.after u (nU.refl _ _) m);obtain⟨rfl,-⟩:=m;rw[<-a.o]at k |-;go_wp2;go_ret;exact k
   . have f:=SS d;simp only[f];replace a:=Zy (a.trans (T9 d));clear d f;go_wp2;go_ret;rw[a.o,<-y.o];exact kJ.mk' u (nU.refl _ _) v rfl
theorem Qh{aJ:Own}{ah mb:Nat}{g:Gh}(U:jG w l p aJ ah mb lk g)(r:List GC)(c:GC)(aB:g.cs=r++[c])(aD:g.status=1)(i:Ins)(hi:oL (M.method p c.f.of) i=true)(B:i.op=15):Calls prog 71 #[some mb,.agg #[i.op,i.a,i.name,i.member]] w (kJ w l p aJ ah mb lk (.int .i64 (jN p lk i g.st).1) (jN p lk i g.st).2):=by
 have HI:=Zy (rC hi);obtain⟨w0,aG,V,T⟩:=nu w #[i.op,i.a,i.name,i.member] 134;have⟨aS,D,ai,aM,ak,x⟩:=pR (U.fresh (Tu _)) (U.ext V) V T aG aB;have bE:=T.lt;clear U V T aG aB hi;rcases TT c.f.stack with f|⟨d,j,f⟩
 . have a:Zz (jN p lk i g.st=(10,g.st)):=Zy (by unfold jN;rw[B];simp only[Gh.Aj x.o f];rfl);have Q:=Zy f;clear f B;go_enter func71,ntmps71;go_wp2_with fail;rw[<-ak.o];refine(vV D.o r c x.o Q.o).mono ?_;rintro q w2 ⟨rfl,W⟩;have⟨aL,aP⟩:=jw (D.o.ext W) (ai.o.trans W);clear W;go_wp2;go_ret;rw[a.o];exact kJ.mk' (aP.o.alloc _).any (nU.refl _ _) (aL.o.ext kx) rfl
 . rw[TS]at f;have aF:=(jK.1 (D.o.FU x.o)).2.2.2.2.2.2 j (by rw[f];simp);have R:Zz (jV j g.os.length=true):=Zy (by simpa [Gh.st]using aF);have a:Zz (∀b,jN p lk i g.st=if j.kind=2\/j.kind=3 then(if j.kind=3 then push p j (g.kY r c d b).st else if(qD p i.name (g.kY r c d b).st).2 then(if under p (qL (g.kY r c d b).st.heap j.n) (qD p i.name (g.kY r c d b).st).1 then push p j (g.kY r c d b).st else(6,(g.kY r c d b).st))else(4,(g.kY r c d b).st))else(10,(g.kY r c d b).st)):=Zy (fun b=>by unfold jN;rw[B];simp only[Gh.pop x.o f b];rfl);have⟨Q,bq⟩:=jw f B;clear f B aF;obtain⟨v,t⟩:=j;simp only at a;go_enter func71,ntmps71;go_wp2_with fail;rw[<-ak.o];refine(yS D.o r c x.o d ⟨v,t⟩ Q.o).mono ?_;rintro q w2 ⟨rfl,n,b,Y⟩;replace a:=Zy (a.o b);obtain⟨w3,aH,X,b5⟩:=nu w2 #[v,t] 42;have⟨E,O⟩:=jw (Y.ext X) ((ai.o.any.trans n).trans X.any);have ax:=aM.o.kp n aS.o;obtain⟨yz,-,y1,y2,-⟩:=ax.ca;have⟨S,aN,aR⟩:=jI aH b5 (Y.fresh (Tu _));clear X b5 n Y ax aH;by_cases s:v=2\/v=3
   . have u:=Tw s;simp only[u];replace a:=Zy (a.o.trans (Ty s));by_cases H:v=3
     . subst H;replace a:=Zy (a.o.trans (Ty rfl));clear s u;go_wp2_with fail;rw[<-S.o];refine(tu E.o r _ rfl aD ⟨3,t⟩ R.o).mono ?_;rintro q w4 A;have y:=Zy (kJ.after O.o (nU.refl _ _) A);obtain⟨rfl,-⟩:=A;rw[<-a.o]at y |-;go_wp2;go_ret;exact y.o
     . have bB:=SK.2 H;obtain rfl:v=2:=by omega
       replace a:=Zy (a.o.trans (T9 H));clear H s u;obtain⟨⟨⟨K,L⟩,lb⟩,hF⟩:∃aK,qD p i.name (g.kY r c d b).st=aK:=⟨_,rfl⟩;rw[hF]at a;go_wp2_with fail;rw[<-S.o];have ae:=Ez E.o r _ rfl i.name;rw[hF]at ae;refine ae.mono ?_;rintro q w4 ⟨rfl,z⟩;clear ae hF y1 y2 yz;simp only;have Z:=E.o.qK z.kp z.at_;have ay:=aN.o.kp z.kp (fun q=>aR.o (.inl q));have⟨bn,aQ,N⟩:=jI Z (O.o.trans z.mo) ay;obtain⟨w5,aI,G,b7⟩:=nu w4 #[K,L] 64;have⟨aO,k,P,au,aj⟩:=nC b7 (Z.ext G) (aQ.o.trans G.any) aI G;clear z Z ay aI G b7;cases lb
       . replace a:Zz (jN p lk i g.st=(4,(g.kY r c d b).st)):=Zy (a.o.trans rfl);go_wp2;go_ret;rw[a.o,<-au.o];exact kJ.mk' P.o (nU.refl _ _) k.o rfl
       . replace a:Zz (jN p lk i g.st=if under p (qL (g.kY r c d b).st.heap t) ⟨K,L⟩then push p ⟨2,t⟩ (g.kY r c d b).st else(6,(g.kY r c d b).st)):=Zy (a.o.trans rfl);obtain⟨aT,af⟩:=qa R.o rfl;simp only at aT af;obtain⟨h,rfl⟩:∃h:Nat,t=h:=⟨t.toNat,by omega⟩;obtain⟨C,ho⟩:∃C,g.os[h]?=some C:=⟨g.os[h]'Zm,CU _⟩;have aC:qL (g.kY r c d b).st.heap h=C.o.of:=Bf (by simp[Gh.st,Gh.kY,ho]);rw[aC]at a;obtain⟨ha,aA,ag⟩:=k.o.heap.form;have I:=k.o.heap.row;rw[ag]at I;obtain⟨av,bz,eb,-⟩:=ky I (by show 0<g.os.length;omega);cases eb;have aa:=l5 (enc:=q8) (k:=3) (fun _=>rfl) I (l:=g.os) ho;obtain⟨bu,bA,bD,m⟩:=lL w5;have bf:=fun e=>(k.o.ext (m.jC e)).blk.c 0 (some l.L) rfl;have bg:=fun e=>(k.o.ext (m.jC e)).blk.c 4 (av,g.os.length,aA) (by rw[show(Value.slice (some ⟨av,0,none⟩) g.os.length aA)=g.vh from ag.symm];rfl);have aV:=fun e=>((N.o.ext aj.o).ext (m.jC e)).c 1 h rfl;obtain⟨-,aW,aX,-⟩:=jq.pq fun e=>(aO.o.ext (m.jC e));have aY:=fun e=>(hQ.ext aa (m.jC e)).three.1;have aZ:=fun e=>(hQ.ext aa (m.jC e)).three.2.1;have q0:=N.o.c 0 (.int .i64 2) rfl;have F:=Zy m;have bC:(h:Int)<g.os.length:=af;clear m ag I aa ho aC af;go_wp2_with fail;rw[<-au.o];refine lq F 16 [([0,1,2,3,4,5,6,7,8,9,10,11,12,13],14)] [15] ?_ ?_
         . exact jA
         refine nE ?_;intro K2 n;go_wp2_with fail;refine(vU (k.o.lM.ext jA) C.o.of ⟨K,L⟩).mono ?_;rintro q w6 ⟨rfl,az⟩;have o:=Zy (((Kp.refl _ w5).drew:Ext w5 _).trans az);clear az;obtain⟨-,aU,bF,-⟩:=((N.o.ext aj.o).ext o.o).ca;have bG:=jv aU;cases J:under p C.o.of ⟨K,L⟩
         . rw[J]at a;replace a:Zz (jN p lk i g.st=(6,(g.kY r c d b).st)):=Zy (a.o.trans rfl);clear J;go_wp2_with fail;refine kk F n o.o ?_;clear n K2;refine uC ?_;go_wp2;go_ret;rw[a.o];exact kJ.mk' (P.o.trans o.o.any) (nU.refl _ _) (k.o.ext o.o) rfl
         . rw[J]at a;replace a:Zz (jN p lk i g.st=push p ⟨2,h⟩ (g.kY r c d b).st):=Zy (a.o.trans rfl);clear J;go_wp2_with fail;refine kk F n o.o ?_;clear n K2;clear F bf bg aV aW aX aY aZ;refine uC ?_;go_wp2_with fail;refine(tu (k.o.ext o.o) r _ rfl aD ⟨2,h⟩ R.o).mono ?_;rintro q w7 A;have y:=Zy (kJ.after (P.o.trans o.o.any) (nU.refl _ _) A);obtain⟨rfl,-⟩:=A;rw[<-a.o]at y |-;go_wp2;go_ret;exact y.o
   . have u:=SS s;simp only[u];replace a:=Zy (a.o.trans (T9 s));clear s u;go_wp2;go_ret;rw[a.o,<-S.o];exact kJ.mk' O.o (nU.refl _ _) E.o rfl
theorem Gr:∀(l:List Val)(q:Nat)(x:Val),((l.flatMap kI).set (q*2) x.kind).set (q*2+1) x.n=(l.set q x).flatMap kI:=by
 intro l;induction l with
 |nil=>intro q x;simp
 | cons c b a =>
  intro q x;cases q with
  |zero=>simp[kI]
  |succ q=>
   rw[show(q+1)*2=q*2+1+1 from by omega];simp only[V7,U1,kI,TR,TZ];rw[a]
theorem jG.vJ{j:Own}{s: Nat}{g:Gh}(h:jG w l p j s C lk g){r:List GC}{c:GC}(m:g.cs=r++[c]){a E:Nat}(y:c.vl=.slice (some ⟨a,0,none⟩) c.f.locals.length E)(q:Nat)(x:Val)(D:jV x g.os.length=true):
    Kp (MO l j) w ((w.setCell (a,q*2) x.kind).setCell (a,q*2+1) x.n)/\jG ((w.setCell (a,q*2) x.kind).setCell (a,q*2+1) x.n) l p j s C lk {g with cs:=r++[{c with f:={c.f with locals:=c.f.locals.set q x}}]}:=by
 have b:=h.at_ m;have n:Kp (·=a) w ((w.setCell (a,q*2) x.kind).setCell (a,q*2+1) x.n):=
  ((Kp.refl (·=a) w).setCell (p:=⟨a,q*2,none⟩) (fun _=>rfl) _).setCell (p:=⟨a,q*2+1,none⟩) (fun _=>rfl) _
 have u:=b.loc.role a (by rw[y];rfl);have o:Kp (PO j (·=(5,r.length))) w ((w.setCell (a,q*2) x.kind).setCell (a,q*2+1) x.n):=n.weak fun i _ d=>⟨_,by rw[d];exact u,rfl⟩;have A:=nU.refl w j;have B:=b.loc.row;rw[y]at B;have z:=(B.stored (q*2) x.kind).1.stored (q*2+1) x.n;have t:=Gr c.f.locals q x;rw[t]at z;have e:=jK.1 (h.FU m);refine⟨o.weak fun i _ d=>d.mo,h.Ie m rfl (o.weak fun i _ ⟨q,e1,t⟩=>⟨q,e1,.inr (.inl t)⟩) A (h.Az n.size) ⟨b.blk.kp n (fun d=>?_),b.role,b.low,kE.kp jy.stays o (fun i k=>h.yP i k) b.ml,⟨?_,b.loc.role⟩,b.kY.xX o A Zl⟩ ?_ n (fun i G k d=>by rw[d,u]at k;cases k) fun _ _ x=>x⟩
 . have:=b.role;rw[d,u]at this;cases this
 . show World.ownsRow _ s _ 2 c.vl (c.f.locals.set q x).length _
   rw[WZ,y];exact z.1
 . rw[show({g with cs:=r++[{c with f:={c.f with locals:=c.f.locals.set q x}}]}:Gh).st={g.st with frames:=r.map GC.f++[{c.f with locals:=c.f.locals.set q x}]}from by simp[Gh.st]];refine h.good.turn (Gh.fr m) (jK.2 ⟨e.1,e.2.1,e.2.2.1,by simp;exact e.2.2.2.1,e.2.2.2.2.1,?_,e.2.2.2.2.2.2⟩);intro F v;rcases Vo v with v|rfl
   . exact e.2.2.2.2.2.1 F v
   . simpa [Gh.st]using D
theorem Ru{n:Own}{E: Nat}{g:Gh}(t:jG w l p n E C lk g)(r:List GC)(c:GC)(y:g.cs=r++[c])(ak:g.status=1)(i:Ins)(hi:oL (M.method p c.f.of) i=true)(P:i.op=6):Calls prog 62 #[some C,.agg #[i.op,i.a,i.name,i.member]] w (kJ w l p n E C lk (.int .i64 (jN p lk i g.st).1) (jN p lk i g.st).2):=by
 obtain⟨D,z⟩:=S9 (w.alloc (.cells #[i.op,i.a,i.name,i.member] 134));have u:Ext w D:=by rw[z];exact kx
 have⟨F,X,aa,W,ax⟩:=nC (t.ext u) u z y t;obtain⟨⟨⟨b,d⟩,B⟩,hF⟩:∃S,qD p i.name g.st=S:=⟨_,rfl⟩;have a:Zz (jN p lk i g.st=if B=true then(if 12<=g.st.heap.length then(8,g.st)else push p (create p ⟨b,d⟩ g.st).1 (create p ⟨b,d⟩ g.st).2)else(4,g.st)):=Zy (by unfold jN;rw[P];simp only[hF];rfl);have V:Zz (B=true->jW p ⟨b,d⟩=true):=Zy (fun k=>by
  subst k;unfold qD at hF;simp only[Wo,RV]at hF;rw[<-hF.1];exact hF.2.2)
 have x:=Ez F r c y i.name;rw[hF]at x;have G:=Zy x;clear t u z y hi P hF x;go_enter func62,ntmps62;go_wp2_with fail;rw[<-aa.o];refine G.mono ?_;rintro k R ⟨rfl,m⟩;have f:=F.qK m.kp m.at_;obtain⟨o,A⟩:=S9 (R.alloc (.cells #[b,d] 64));have v:Ext R o:=by rw[A];exact kx
 obtain⟨ha,ag,Q⟩:=f.heap.form;have m4:=f.blk.c 4 (.slice ha g.os.length ag) (by rw[<-Q];rfl);have mz:=f.blk.lt;have q:=Zy (f.ext v);have j:Zz (Kp (MO l n) w o):=Zy ((X.any.trans m.mo).trans v.any);have s:=Zy A;clear G m f A v Q;have aj:g.st.heap.length=g.os.length:=by simp[Gh.st]
 cases B
 . replace a:Zz (jN p lk i g.st=(4,g.st)):=Zy a.o;go_wp2;go_ret;rw[a.o,<-s.o];exact kJ.mk' j (nU.refl _ _) q rfl
 . replace a:Zz (jN p lk i g.st=if 12<=g.st.heap.length then(8,g.st)else push p (create p ⟨b,d⟩ g.st).1 (create p ⟨b,d⟩ g.st).2):=Zy a.o;by_cases af:12<=g.os.length
   . replace a:=Zy (a.trans (Ty Zm));have I:decide ((12:Int)<=g.os.length)=true:=Tw Zm;have ay:(12:Int)<=g.os.length:=Zm
     go_wp2;go_ret;rw[a.o,<-s.o];exact kJ.mk' j (nU.refl _ _) q rfl
   . replace a:=Zy (a.trans (T9 Zm));have I:((12:Int)<=g.os.length)=False:=Wj Zm;have ai:g.os.length<12:=Zm
     clear af aj;go_wp2_with fail;rw[<-s.o];refine(CK _ _ _ _ _ _ _ q ⟨b,d⟩ (V Zl) ai).mono ?_;rintro k w3 ⟨rfl,K,av,e,N,L,h⟩;obtain⟨r3,c3,O,-⟩:=Gh.split (g:=e) (r:=r.map GC.f) (f:=c.f) (by rw[h];exact Gh.fr W);have au:e.status=1:=by
      have:e.st.status=g.st.status:=by rw[h];rfl
      exact this.trans ak
     have ah:e.os.length=g.os.length+1:=by
      have:e.st.heap.length=g.st.heap.length+1:=by rw[h];simp[create]
      simpa [Gh.st]using this
     have⟨Z,Y⟩:=jw L (j.mo K (nU.refl _ _));have T:Zz (nU w n av):=Zy (fun ae hb=>N ae (Te j.size));replace a:Zz (jN p lk i g.st=push p ⟨2,g.os.length⟩ e.st):=Zy (by rw[a.o,<-h];simp[create,Gh.st]);have U:=Zy O;clear K N L h O m4 mz I;go_wp2_with fail;refine(tu Z r3 c3 U au ⟨2,g.os.length⟩ (ze _ Zm (by rw[ah];omega))).mono ?_;rintro k w4 J;have H:=Zy (kJ.after Y T J);obtain⟨rfl,-⟩:=J;rw[<-a.o]at H |-;go_wp2;go_ret;exact H
theorem Rx{ak:Own}{R O:Nat}{g:Gh}(F:jG w l p ak R O lk g)(r:List GC)(c:GC)(ae:g.cs=r++[c])(aK:g.status=1)(i:Ins)(hi:oL (M.method p c.f.of) i=true)(t:i.op=3):Calls prog 59 #[some O,.agg #[i.op,i.a,i.name,i.member]] w (kJ w l p ak R O lk (.int .i64 (jN p lk i g.st).1) (jN p lk i g.st).2):=by
 have HI:=Zy (rC hi);obtain⟨w0,ai,G,E⟩:=nu w #[i.op,i.a,i.name,i.member] 134;have⟨U,n,T,S,W,d⟩:=pR (F.fresh (Tu _)) (F.ext G) G E ai ae;have aW:=E.lt;clear F G E ai ae hi;rcases TT c.f.stack with b|⟨u,B,b⟩
 . have e:Zz (jN p lk i g.st=(10,g.st)):=Zy (by unfold jN;rw[t];simp only[Gh.Aj d.o b];rfl);have D:=Zy b;clear b t;go_enter func59,ntmps59;go_wp2_with fail;rw[<-W.o];refine(l6 n r c d).mono ?_;rintro y w1 ⟨rfl,h⟩;have⟨x,o⟩:=jw (n.ext h) (T.trans h);clear h;go_wp2_with fail;refine(sK x r c d D).mono ?_;rintro y w2 ⟨rfl,H⟩;have⟨au,ax⟩:=jw (x.ext H) (o.trans H);clear H;go_wp2;go_ret;rw[e.o];exact kJ.mk' (ax.alloc _).any (nU.refl _ _) (au.ext kx) rfl
 . rw[TS]at b;have ah:=(jK.1 (n.FU d)).2.2.2.2.2.2 B (by rw[b];simp);have aD:Zz (jV B g.os.length=true):=Zy (by simpa [Gh.st]using ah);have e:Zz (∀k,jN p lk i g.st=next p ({(g.kY r c u k)with cs:=r++[{c with f:={c.f with stack:=u,locals:=c.f.locals.set i.a.toNat B},vs:=k}]}:Gh).st):=Zy (fun k=>by unfold jN;rw[t];simp only[Gh.pop d.o b k];rw[oV (s:=(g.kY r c u k).st) (r:=r.map GC.f) (t:={c.f with stack:=u}) (by simp[Gh.kY,Gh.st])];simp[Gh.kY,Gh.st]);have⟨D,aB⟩:=jw b t;clear b t ah;obtain⟨P,Q⟩:=B;simp only at e;go_enter func59,ntmps59;go_wp2_with fail;rw[<-W.o];refine(l6 n r c d).mono ?_;rintro y w1 ⟨rfl,h⟩;have⟨x,o⟩:=jw (n.ext h) h;clear h;go_wp2_with fail;refine(wO x r c d u ⟨P,Q⟩ D).mono ?_;rintro y w2 ⟨rfl,A,k,I⟩;replace e:=Zy (e k);obtain⟨m,aj,z,Y⟩:=nu w2 #[P,Q] 42;have⟨C,az⟩:=jw (I.ext z) (((T.trans o).any.trans A).trans z.any);have Z:=(S.ext o).kp A U;obtain⟨yz,-,y1,-⟩:=Z.ca;have⟨aF,av,aP,aA,ay⟩:=nC aj Y (I.fresh (Tu _)) A z;clear z Y A I Z aj;obtain⟨aS,aT⟩:=HI.2.1 (.inr aB);obtain⟨a,hq⟩:∃a:Nat,i.a=a:=⟨i.a.toNat,Zm⟩;have ag:i.a.toNat=a:=Zm
   have af:=jK.1 (n.FU d);have aJ:a<c.f.locals.length:=Te af.2.2.2.1
   obtain⟨N,lc,j,-⟩:=ky (C.at_ rfl).loc.row (by show 0<c.f.locals.length;omega);replace j:=j;have J:=C.at_ rfl;have L:=J.loc.row;obtain⟨aX,hu⟩:=nV c.f.locals a aJ;have K:=l5 (enc:=kI) (k:=2) (fun _=>rfl) (l:=c.f.locals) (by rw[<-j];exact L) hu;obtain⟨aR,s⟩:=pG L (g:=N) (by show c.vl.ownBlock=some N;rw[j];rfl);obtain⟨aQ,f,aU,q⟩:=lL m;have rc:=fun v=>(J.blk.ext (q.jC v)).c 12 (N,c.f.locals.length,lc) (by rw[<-j];rfl);obtain⟨-,aM,aN,-⟩:=jq.pq fun v=>(av.ext (q.jC v));have aL:=fun v=>(((S.ext o).kp aA U).ext (ay.trans (q.jC v))).c 1 a (by rw[<-hq];rfl);have x0:=K.two.1;have x1:=K.two.2;have f0:=s.frozen (a*2);have f1:=s.frozen (a*2+1);have hz:=s.lt;have aV:(a:Int)<c.f.locals.length:=Zm
   have aC:=Zy ((C.ext ((Kp.refl _ m).drew:Ext m m.drew)).vJ rfl j a ⟨P,Q⟩ aD);rw[ag]at e;have⟨V,aO⟩:=jw q s;clear q j J L hu K s hq ag y1 yz af;go_wp2_with fail;rw[<-aF.o];refine lq V 7 [] [0,1,2,3,4,5,6] ?_ ?_
   . exact jA
   refine qX [_,_,_,_,_,_,_] rfl fun aG hK=>?_;(repeat (go_big_quiet_step (fail)));refine qn hK ?_;clear hK aG;clear V rc aM aN aL;go_wp2_with fail;obtain⟨aH,aI⟩:=aC.o;refine(uW aI r rfl aK).mono ?_;rintro y w4 aa;have X:=Zy (kJ.after ((az.trans ((Kp.refl _ m).drew:Ext m m.drew).any).trans aH) (nU.refl _ _) aa);obtain⟨rfl,-⟩:=aa;rw[<-e.o]at X |-;go_wp2;go_ret;exact X
theorem Qj{aj:Own}{Y X:Nat}{g:Gh}(N:jG w l p aj Y X lk g)(r:List GC)(c:GC)(D:g.cs=r++[c])(ah:g.status=1)(i:Ins)(T:oL (M.method p c.f.of) i=true)(U:i.op=2):Calls prog 58 #[some X,.agg #[i.op,i.a,i.name,i.member]] w (kJ w l p aj Y X lk (.int .i64 (jN p lk i g.st).1) (jN p lk i g.st).2):=by
 have HI:=Zy (rC T);obtain⟨a,ai,P,b3⟩:=nu w #[i.op,i.a,i.name,i.member] 134;have S:=jK.1 (N.FU D);obtain⟨ay,az⟩:=(rC T).2.1 (.inl U);obtain⟨o,hq⟩:∃o:Nat,i.a=o:=⟨i.a.toNat,Zm⟩;have af:i.a.toNat=o:=Zm
 have aB:o<c.f.locals.length:=Te S.2.2.2.1
 obtain⟨⟨e,h⟩,K⟩:=nV c.f.locals o aB;have aa:Zz (jV ⟨e,h⟩ g.os.length=true):=Zy (by simpa [Gh.st]using S.2.2.2.2.2.1 _ (Tx K));have b:Zz (jN p lk i g.st=if e=0 then(10,g.st)else push p ⟨e,h⟩ g.st):=Zy (by
  unfold jN;rw[U];simp only[Gh.top D,af,K];rfl)
 have O:=N.ext P;have J:=O.at_ D;obtain⟨lg,lc,W,-⟩:=ky J.loc.row Zm;have ag:=J.loc.row;have R:=l5 (enc:=kI) (k:=2) (fun _=>rfl) (l:=c.f.locals) (by rw[<-W];exact ag) K;obtain⟨aD,aG,aH,t⟩:=lL a;have rc:=fun q=>(J.blk.ext (t.jC q)).c 12 (lg,c.f.locals.length,lc) (by rw[<-W];rfl);have ak:=fun q=>(b3.ext (t.jC q)).c 1 o (by rw[<-hq];rfl);have au:=fun q=>(hQ.ext R (t.jC q)).two.1;have av:=fun q=>(hQ.ext R (t.jC q)).two.2;have aI:(o:Int)<c.f.locals.length:=Zm
 have⟨j,F,Z,ax,G⟩:=nC t O P ai D;clear N P b3 ai D T U O J W ag K R t S hq af ay az;go_enter func58,ntmps58;go_wp2_with fail;rw[<-ax.o];refine rQ j 10 (.two [0,5,6] 1 9 (.one [2,3,4,7,8] 9 (.fin [])) (.one [] 1 (.fin [2,3,4,7,8]))) ?_ ?_
 . exact jA
 refine two [_,_,_] rfl rfl rfl fun L C=>?_;(repeat (go_big_quiet_step (fail)));((refine EP C (fun k d=>?_) fun k d=>?_)<;>clear C L)
 . go_wp2_with fail;refine(l6 (F.ext jA) r c G).mono ?_;rintro H E ⟨rfl,u⟩;have s:=Zy (((Kp.refl _ a).drew:Ext a _).trans u);clear u;go_wp2_with fail;refine kk j d s ?_;clear d k;refine Ac ?_;intro k d;go_wp2_with fail;refine kk j d (s.alloc _) ?_;clear d k;obtain⟨v,n⟩:=S9 (E.alloc (.cells #[e,h] 42));have m:Ext a v:=by rw[n];exact s.alloc _
   have⟨y,x,z⟩:=jI (Z.trans m) (F.ext m) n;clear j rc ak au av n m;refine kQ ?_;by_cases f:e=0
   . subst f;replace b:=Zy (b.trans (Ty rfl));go_wp2;go_ret;rw[b.o,<-z.o];exact kJ.mk' y.any (nU.refl _ _) (x) rfl
   . have aA:=SK.2 f;replace b:=Zy (b.trans (T9 f));clear f;go_wp2_with fail;rw[<-z.o];refine(tu x r c G ah ⟨e,h⟩ aa).mono ?_;rintro H w4 B;have A:=Zy (kJ.behind y B);obtain⟨rfl,-⟩:=B;rw[<-b.o]at A |-;go_wp2;go_ret;exact A
 . go_wp2_with fail;refine kk j d (((Kp.refl _ a).drew).alloc _) ?_;clear d k;refine j3 rfl fun k d=>?_;have b5:jq (a.drew.alloc (.cells #[Tj,Tj] 42)) a 42 #[Tj,Tj]:=jq.new _ _ _;have ae:Ext a (a.drew.alloc (.cells #[Tj,Tj] 42)):=((Kp.refl _ a).drew).alloc _;go_wp2_with fail;refine(l6 (F.ext (((Kp.refl _ a).drew).alloc _)) r c G).mono ?_;rintro H E ⟨rfl,u⟩;have s:=Zy (ae.trans u);have I:=b5.ext u;obtain⟨hz,x0,x1,-⟩:=I.ca;obtain⟨f0,f1,-⟩:=I.fz;have V:Kp (·=a) E ((E.setCell a e).setCell (a,1) h):=qM;have Q:=I.set2 e h;obtain⟨v,n⟩:=S9 ((E.setCell a e).setCell (a,1) h);rw[<-n]at V Q;have m:=s.own V (fun aF H=>Zm);have⟨y,x,z,aC⟩:=kD (Z.trans m) (F.ext m) n Q;clear u I V Q n m b5 ae;go_wp2_with fail;refine kk j d s ?_;clear d k;clear j;refine FH [_,_,_,_,_] rfl fun L C=>?_;(repeat (go_big_quiet_step (fail)));refine qn C ?_;clear C L;clear rc ak au av;by_cases f:e=0
   . subst f;replace b:=Zy (b.trans (Ty rfl));go_wp2;go_ret;rw[b.o,<-z.o];exact kJ.mk' y.any (nU.refl _ _) (x) rfl
   . have aA:=SK.2 f;replace b:=Zy (b.trans (T9 f));clear f;go_wp2_with fail;rw[<-z.o];refine(tu x r c G ah ⟨e,h⟩ aa).mono ?_;rintro H w4 B;have A:=Zy (kJ.behind y B);obtain⟨rfl,-⟩:=B;rw[<-b.o]at A |-;go_wp2;go_ret;exact A
theorem Rq{ai:Own}{Q N:Nat}{g:Gh}(W:jG w l p ai Q N lk g)(r:List GC)(c:GC)(ah:g.cs=r++[c])(ay:g.status=1)(i:Ins)(hi:oL (M.method p c.f.of) i=true)(F:i.op=4):Calls prog 60 #[some N,.agg #[i.op,i.a,i.name,i.member]] w (kJ w l p ai Q N lk (.int .i64 (jN p lk i g.st).1) (jN p lk i g.st).2):=by
 obtain⟨O,L⟩:=S9 (w.alloc (.cells #[i.op,i.a,i.name,i.member] 134));have I:Ext w O:=by rw[L];exact kx
 have⟨t,R,U,m⟩:=kD (W.ext I) I L ah;clear W I L ah hi;by_cases o:c.f.stack.length<2
 . have a:Zz (jN p lk i g.st=(10,g.st)):=Zy (by unfold jN;rw[F];simp only[Gh.zG m.o o];rfl);clear F;go_enter func60,ntmps60;go_wp2_with fail;rw[<-U.o];refine(l6 t r c m).mono ?_;rintro e w1 ⟨rfl,n⟩;have⟨z,H⟩:=jw (t.ext n) (R.trans n);clear n;go_wp2_with fail;refine(vG z r c m 2 o Zm).mono ?_;rintro e q ⟨rfl,rfl⟩;go_wp2;go_ret;rw[a.o];exact kJ.mk' H.any (nU.refl _ _) z rfl
 . obtain⟨k,f,h,y⟩:∃k f h,c.f.stack=k++[f,h]:=by
    rcases TT c.f.stack with e|⟨s1,h,e⟩
    . rw[e]at o;simp at o
    . rw[TS]at e;rcases TT s1 with D|⟨s2,f,D⟩
      . rw[e,D]at o;simp at o
      . rw[TS]at D;exact⟨s2,f,h,by rw[e,D];simp⟩
   have K:=(jK.1 (t.FU m)).2.2.2.2.2.2;have az:jV f g.os.length=true:=by simpa [Gh.st]using K f (by rw[y];simp)
   have aA:jV h g.os.length=true:=by simpa [Gh.st]using K h (by rw[y];simp)
   have a:Zz (∀j,jN p lk i g.st=if f.kind=1/\h.kind=1 then(if oD (f.n+h.n)then push p (mh (f.n+h.n)) (g.kY r c k j).st else(9,(g.kY r c k j).st))else(10,(g.kY r c k j).st)):=Zy (fun j=>by unfold jN;rw[F];simp only[Gh.oh m.o (n:=2) y rfl j];rfl);have HS:=Zy y;clear y F K o;obtain⟨s,b⟩:=f;obtain⟨u,d⟩:=h;simp only at a;go_enter func60,ntmps60;go_wp2_with fail;rw[<-U.o];refine(l6 t r c m).mono ?_;rintro e w1 ⟨rfl,n⟩;have⟨z,H⟩:=jw (t.ext n) (R.trans n);clear n;go_wp2_with fail;refine(CL z r c m k [⟨s,b⟩,⟨u,d⟩] 2 HS rfl Zm).mono ?_;rintro e q ⟨v',rfl,G,aa,j,ae⟩;replace a:=Zy (a j);obtain⟨gt,gc,rfl,-⟩:=ky G Zm;have af:=(l5 (enc:=kI) (k:=2) (fun _=>rfl) (l:=[⟨s,b⟩,⟨u,d⟩]) G (i:=0) (x:=⟨s,b⟩) rfl).two;have ag:=(l5 (enc:=kI) (k:=2) (fun _=>rfl) (l:=[⟨s,b⟩,⟨u,d⟩]) G (i:=1) (x:=⟨u,d⟩) rfl).two;simp only[UM,Nat.one_mul,Tk]at af ag;obtain⟨x0,x1⟩:=af;obtain⟨x2,x3⟩:=ag;have⟨B,A⟩:=jw ae (H.any.trans aa);clear G aa ae;by_cases v:s=1/\u=1
   . obtain⟨rfl,rfl⟩:=v;have av:=zN az rfl;have ax:=zN aA rfl;simp only at av ax;replace a:=Zy (a.trans (Ty ⟨rfl,rfl⟩));have aH:IntKind.i64.wrap (b+d)=b+d:=TM _ Zm;obtain⟨aB,aC,aG,C⟩:=lL q;have r1:=fun P=>(C.jC P).jm x1;have r3:=fun P=>(C.jC P).jm x3;have T:=Zy C;clear C;go_wp2_with fail;refine lq T 9 [] [0,1,2,3,4,5,6,7,8] ?_ ?_
     . exact jA
     refine qX [_,_,_,_,_,_,_,_,_] rfl fun au Z=>?_;(repeat (go_big_quiet_step (fail)));refine qn Z ?_;clear Z au;clear T r1 r3;go_wp2_with fail;have J:=Hv (b+d) q.drew;rw[show(decide (-9999<=b+d)&&decide (b+d<=9999))=oD (b+d)from rfl]at J;refine J.mono ?_;rintro e w3 ⟨rfl,rfl⟩;clear J;cases x:oD (b+d)
     . rw[x]at a;replace a:Zz (jN p lk i g.st=(9,(g.kY r c k j).st)):=Zy a.o;clear x;go_wp2;go_ret;rw[a.o];exact kJ.mk' (A.trans ((Kp.refl _ q).drew:Ext q _).any) (nU.refl _ _) (B.ext jA) rfl
     . have aj:=Zy x;rw[x]at a;replace a:Zz (jN p lk i g.st=push p (mh (b+d)) (g.kY r c k j).st):=Zy a.o;clear x;go_wp2_with fail;refine(Dx (b+d)).mono ?_;rintro e w3 ⟨rfl,X⟩;have S:=Zy (((Kp.refl _ q).drew:Ext q _).trans X);clear X;go_wp2_with fail;refine(tu (B.ext S) r _ rfl ay (mh (b+d)) (pJ _ aj)).mono ?_;rintro e w4 Y;have V:=Zy (kJ.after (A.trans S.any) (nU.refl _ _) Y);obtain⟨rfl,-⟩:=Y;rw[<-a.o]at V |-;go_wp2;go_ret;exact V
   . replace a:=Zy (a.trans (T9 v));by_cases E:s=1
     . have aF:=TE.2 (fun e=>v ⟨E,e⟩);subst E;clear v;go_wp2;go_ret;rw[a.o];exact kJ.mk' A (nU.refl _ _) B rfl
     . have aD:=TE.2 E;clear v E;go_wp2;go_ret;rw[a.o];exact kJ.mk' A (nU.refl _ _) B rfl
theorem Ry{L:Own}{T: Nat}{g:Gh}(Q:jG w l p L T k lk g)(r:List GC)(c:GC)(aN:g.cs=r++[c])(bK:g.status=1)(i:Ins)(hi:oL (M.method p c.f.of) i=true)(R:i.op=10):Calls prog 66 #[some k,.agg #[i.op,i.a,i.name,i.member]] w (kJ w l p L T k lk (.int .i64 (jN p lk i g.st).1) (jN p lk i g.st).2):=by
 have HI:=Zy (rC hi);obtain⟨w0,aU,au,b3⟩:=nu w #[i.op,i.a,i.name,i.member] 134;have⟨bD,G,aD,bn,aH,v⟩:=pR (Q.fresh (Tu _)) (Q.ext au) au b3 aU aN;have bX:=b3.lt;clear Q au b3 aU aN hi;rcases TT c.f.stack with A|⟨m,N,A⟩
 . have b:Zz (jN p lk i g.st=(10,g.st)):=Zy (by unfold jN;rw[R];simp only[Gh.Aj v.o A];rfl);have HS:=Zy A;clear A R;go_enter func66,ntmps66;go_wp2_with fail;rw[<-aH.o];refine(l6 G r c v).mono ?_;rintro a w1 ⟨rfl,E⟩;have⟨U,V⟩:=jw (G.ext E) (aD.trans E);clear E;go_wp2_with fail;refine(sK U r c v HS).mono ?_;rintro a O ⟨rfl,av⟩;have⟨bg,bq⟩:=jw (U.ext av) (V.trans av);clear av;obtain⟨h,K⟩:=S9 (O.alloc (.cells #[Tj,Tj] 42));have F:Ext O h:=by rw[K];exact kx
   obtain⟨bG,f,bI,y⟩:=lL h;have⟨o,aj,af⟩:=jI y K F;clear y K F;go_wp2_with fail;rw[<-aj.o];refine lq o 22 [([0,1,2,3,4,5,6,7,9,10,11,12,13,14,15,16,17,18],8),([],19)] [20,21] ?_ ?_
   . exact jA
   refine nE ?_;intro z d;go_wp2_with fail;refine kk o d ((Kp.refl _ h).drew:Ext h _) ?_;clear d z;refine mF rfl fun z d=>?_;go_wp2_with fail;refine kk o d ((Kp.refl _ h).drew:Ext h _) ?_;clear d z;refine uC ?_;go_wp2;go_ret;rw[b.o];exact kJ.mk' ((bq.trans af).drew).any (nU.refl _ _) (bg.ext (af.drew)) rfl
 . rw[TS]at A;have aT:=(jK.1 (G.FU v)).2.2.2.2.2.2 N (by rw[A];simp);have ai:Zz (jV N g.os.length=true):=Zy (by simpa [Gh.st]using aT);have b:Zz (∀e,jN p lk i g.st=if hasType p c.f.of.of.keeper g.st.heap N (M.method p c.f.of).ret then(if r.length=0 then(2,{(g.kY r c m e).st with back:=N})else push p N {g.st with frames:=r.map GC.f})else(10,(g.kY r c m e).st)):=Zy (fun e=>by unfold jN;rw[R];simp only[Gh.pop v.o A e,Gh.top v.o];simp[Gh.kY,Gh.st]);have⟨HS,bM⟩:=jw A R;clear A R aT;obtain⟨s,t⟩:=N;simp only at b;go_enter func66,ntmps66;go_wp2_with fail;rw[<-aH.o];refine(l6 G r c v).mono ?_;rintro a w1 ⟨rfl,E⟩;have⟨U,V⟩:=jw (G.ext E) E;clear E;go_wp2_with fail;refine(wO U r c v m ⟨s,t⟩ HS).mono ?_;rintro a O ⟨rfl,d,e,ax⟩;replace b:=Zy (b e);obtain⟨h,K,F,b5⟩:=nu O #[s,t] 42;have⟨D,ag⟩:=jw (ax.ext F) (((aD.trans V).any.trans d).trans F.any);have aI:=(bn.ext V).kp d bD;obtain⟨yz,-,y1,-⟩:=aI.ca;have⟨aj,aC,bC,bL,af⟩:=nC K b5 (ax.fresh (Tu _)) d F;clear F b5 d ax aI K y1 yz;obtain⟨Z,aa,aA⟩:=D.heap.form;have aO:=D.OL;have ay:=D.at_ rfl;obtain⟨bG,f,bI,y⟩:=lL h;have aZ:=fun B=>(D.ext (y.jC B)).blk.c 0 (some l.L) rfl;have bf:=fun B=>(D.ext (y.jC B)).blk.c 4 (.slice Z g.os.length aa) (by rw[show(Value.slice Z g.os.length aa)=g.vh from aA.symm];rfl);obtain⟨-,aV,aW,-⟩:=jq.pq fun B=>(aC.ext (y.jC B));obtain⟨-,-,-,-,-,-,aX,aY,-⟩:=jq.pq fun B=>(ay.blk.ext (y.jC B));have aQ:=fun W (Y:Ext h W)=>(ay.blk.ext Y).c 0 c.f.of.of.keeper rfl;have bz:=Zy aQ;have aP:=fun W (Y:Ext h W)=>wC W l p (D.lM.ext Y) c.f.of.of.keeper (.slice Z g.os.length aa) g.st.heap (by
    have:=aO.ext Y;rw[show(Value.slice Z g.os.length aa)=g.vh from aA.symm];exact this) ⟨s,t⟩ (fun a=>by have:=qa ai a;simpa [Gh.st]using this) (M.method p c.f.of).ret
   have⟨bu,o⟩:=jw aP y;clear y ay aQ aP aO aA;go_wp2_with fail;rw[<-aj.o];refine lq o 22 [([0,1,2,3,4,5,6,7,9,10,11,12,13,14,15,16,17,18],8),([],19)] [20,21] ?_ ?_
   . exact jA
   refine nE ?_;intro z d;go_wp2_with fail;refine(oK _ (bz _ jA)).mono ?_;rintro a we ⟨rfl,rfl⟩;go_wp2_with fail;refine kk o d ((Kp.refl _ h).drew:Ext h _) ?_;clear d z;refine mF rfl fun z d=>?_;go_wp2_with fail;refine(bu _ jA).mono ?_;rintro a j ⟨rfl,aK⟩;have C:=Zy (((Kp.refl _ h).drew:Ext h _).trans aK);have H:=D.ext C;have aJ:=aC.ext C;obtain⟨qz,q0,q1,-⟩:=aJ.ca;have bJ:¬k=O:=fun a=>bC.o (.inr (by rw[<-a,D.o.role];simp));have bR:¬O=k:=fun a=>bJ a.symm;have az:=H.calls.row;have aS:(g.kY r c m e).cs.length=r.length+1:=by simp[Gh.kY]
   rw[aS]at az;obtain⟨u,q,aB,-,-,bV⟩:=ky az Zm;have m3:=H.blk.c 3 (u,r.length+1,q) (by rw[<-aB];rfl);obtain⟨mz,-,-,-,-,-,-,m6,m7,-⟩:=H.blk.ca;obtain⟨-,-,-,f3,-,-,f6,f7,-⟩:=H.blk.fz;have⟨x,aG⟩:=jw H aB;have bS:r.length+1<=8:=by have:=G.good.nf;rw[Gh.fr v.o]at this;simpa using this
   clear aK H aJ az aS aB;cases ae:hasType p c.f.of.of.keeper g.st.heap ⟨s,t⟩ (M.method p c.f.of).ret
   . rw[ae]at b;replace b:Zz (jN p lk i g.st=(10,(g.kY r c m e).st)):=Zy b.o;clear ae;go_wp2_with fail;refine kk o d C ?_;clear d z;refine uC ?_;go_wp2;go_ret;rw[b.o];exact kJ.mk' (ag.trans C.any) (nU.refl _ _) x rfl
   . rw[ae]at b;replace b:Zz (jN p lk i g.st=if r.length=0 then(2,{(g.kY r c m e).st with back:=⟨s,t⟩})else push p ⟨s,t⟩ {g.st with frames:=r.map GC.f}):=Zy b.o;clear ae;by_cases J:r.length=0
     . replace b:=Zy (b.trans (Ty J));go_wp2_with fail;refine kk o d C ?_;clear d z;clear o aZ bf aV aW aX aY;refine uC ?_;go_wp2;go_ret;rw[b.o];have hk:Kp (·=k) j ((j.setCell (k,6) s).setCell (k,7) t):=qM;have I:Kp (PO L (·=(0,0))) j ((j.setCell (k,6) s).setCell (k,7) t):=hk.weak fun ak _ a=>⟨_,by rw[a];exact x.role,rfl⟩;have n:=x.good;exact kJ.mk' ((ag.trans C.any).trans (I.weak fun ak _ a=>a.mo)) (nU.refl _ _) (x.Ic {(g.kY r c m e)with back:=⟨s,t⟩} I ((x.blk.jR 6 _).jR 7 _) (.inl ⟨rfl,rfl⟩) ⟨rfl,rfl,rfl,rfl⟩ ⟨n.heap,n.frames,n.nf,n.outs,n.uh,by simpa [Gh.st,Gh.kY]using ai.o⟩) rfl
     . replace b:=Zy (b.trans (T9 J));obtain⟨S,P,aR⟩:∃S P,r=S++[P]:=by
        rcases TT r with a|⟨S,P,a⟩
        . rw[a]at J;exact absurd rfl J
        . exact⟨S,P,by rw[a,TS]⟩
       have bE:=Zy aR;clear aR;have bN:((r.length:Int)+1==1)=false:=SK.2 Zm;have bO:¬r.length=0:=J;have bP:((r.length:Int)==0)=false:=SK.2 Zm;have bW:IntKind.i64.wrap ((r.length:Int)+1 - 1)=r.length:=by rw[TM _ Zm];omega
       have bT:(0:Int)<=r.length:=Zm
       have bU:(r.length:Int)<=q:=Zm
       have hk:Kp (·=k) j.drew (j.drew.setCell (k,3) (u,r.length,q)):=qM;have X:=x.ext ((Kp.refl _ j).drew:Ext j j.drew);have I:Kp (PO L (·=(0,0))) j.drew (j.drew.setCell (k,3) (u,r.length,q)):=hk.weak fun ak _ a=>⟨_,by rw[a];exact x.role,rfl⟩;have n:=x.good;have aM:jG (j.drew.setCell (k,3) (u,r.length,q)) l p L T k lk {(g.kY r c m e)with cs:=r,vc:=(u,r.length,q)}:=by
        refine X.Ic {(g.kY r c m e)with cs:=r,vc:=(u,r.length,q)} I (X.blk.jR 3 _) (.inr ⟨?_,[_],rfl⟩) ⟨rfl,rfl,rfl,rfl⟩ ?_
        . have h1:=X.calls;have h2:mW j.drew L T (1,0) 124 1 (u,r.length+1,q) (r.length+1) ((r++[{c with f:={c.f with stack:=m},vs:=e}]).flatMap vY):=by
           have e1:(g.kY r c m e).vc=.slice (some ⟨u,0,none⟩) (r.length+1) q:=aG.o;have e2:(g.kY r c m e).cs.length=r.length+1:=by simp[Gh.kY]
           rw[<-e1,<-e2];exact h1
          have h3:=h2.take (j:=r.length) Zm;rw[BH (enc:=vY) (k:=1) (fun _=>rfl)]at h3;exact h3
        . exact⟨n.heap,(fun f hf=>n.frames f (by simp only[Gh.st,Gh.kY,Ux,TU];exact .inl hf)),by simp[Gh.st];omega,n.outs,n.uh,n.back⟩
       have⟨bB,bA⟩:=jw aM (((ag.trans C.any).trans ((Kp.refl _ j).drew:Ext j _).any).trans (I.weak fun ak _ a=>a.mo));obtain⟨T2,f2,bQ,ah⟩:=lL j;have s3:=fun B=>(x.ext (ah.jC B)).blk.c 3 (u,r.length+1,q) (by rw[<-aG.o];rfl);have aF:=Zy ah;clear ah hk I X n aM J m6 m7 f6 f7;go_wp2_with fail;refine kk o d C ?_;clear d z;clear o aZ bf aV aW aX aY;refine uC ?_;go_wp2_with fail;(refine xD f2 12 [] [0,1,2,3,4,5,6,7,8,9,10,11] (aF.o.o _ ?_) Zo Zo (fun _ _ bH _ _ Q=>by cases bH<;>exact Q) ?_)
       . exact jA
       refine qX [_,_,_,_,_,_,_,_,_,_,_,_] rfl fun bF hK=>?_;(repeat (go_big_quiet_step (fail)));refine qn hK ?_;clear hK bF;clear aF s3;go_wp2_with fail;refine(tu bB S P bE bK ⟨s,t⟩ ai).mono ?_;rintro a w6 aL;have HZ:=Zy (kJ.after bA (nU.refl _ _) aL);obtain⟨rfl,-⟩:=aL;replace b:Zz (jN p lk i g.st=push p ⟨s,t⟩ ({(g.kY r c m e)with cs:=r,vc:=(u,r.length,q)}:Gh).st):=Zy b.o;rw[<-b.o]at HZ |-;go_wp2;go_ret;exact HZ
theorem LC.own{c: World}(d:LC l p w W)(a:Kp (·=b) W c)(h:w<=b)(g:l.L<w):LC l p w c:=
 ⟨d.kp.own a (fun f e=>Zm),d.at_.kp a (fun f a e=>Zm)⟩
theorem Rs{z:Own}{aP: Nat}{g:Gh}(U:jG w l p z aP K lk g)(r:List GC)(c:GC)(bB:g.cs=r++[c])(cK:g.status=1)(i:Ins)(hi:oL (M.method p c.f.of) i=true)(aN:i.op=7):Calls prog 63 #[some K,.agg #[i.op,i.a,i.name,i.member]] w (kJ w l p z aP K lk (.int .i64 (jN p lk i g.st).1) (jN p lk i g.st).2):=by
 have HI:=Zy (rC hi);obtain⟨w0,bH,aH,b3⟩:=nu w #[i.op,i.a,i.name,i.member] 134;have cZ:=Zy (U.fresh (Tu _));have aT:Zz (∀q,w.heap.size<=q->¬MO l z q):=Zy (fun q B=>U.fresh B);have dm:=U.lM.lt;have dh:=U.lM.ord.2.2;have⟨aQ,bQ,bM,bU,G⟩:=nC (U.ext aH) aH b3 bH bB;have dC:=b3.lt;clear U aH b3 bH bB hi;obtain⟨⟨⟨⟨h,j⟩,m,⟨D,E⟩⟩,cd⟩,hF⟩:∃bL,M.get p c.f.of.of.keeper i.name i.member=bL:=⟨_,rfl⟩;have k:Zz (jN p lk i g.st=if cd=1 then(match pop g.st with
     |none=>(10,g.st)
     |some (v,s1)=>if object p v ⟨h,j⟩ s1=1 then push p (((qQ s1.heap v.n)[m.toNat]?).getD l9) s1 else(object p v ⟨h,j⟩ s1,s1))else(4,g.st)):=Zy (by
  unfold jN;rw[aN];simp only[Gh.top G.o,hF];rfl)
 have⟨HF,df⟩:=jw hF aN;clear aN;go_enter func63,ntmps63;go_wp2_with fail;rw[<-bU.o];refine(l6 aQ.o r c G.o).mono ?_;rintro u o ⟨rfl,ag⟩;have⟨O,bR,aB⟩:=jI (aQ.o.ext ag) (bQ.o.trans ag) (bM.o.ext ag);have bn:l.L<o.heap.size:=O.o.lM.lt;have di:l.D<o.heap.size:=by omega
 have dD:w.heap.size<o.heap.size:=aB.o.lt;have bD:∀Z,LC l p o Z->Calls prog 108 #[some l.L,c.f.of.of.keeper,i.name,i.member] Z fun u w'=>∃x,u=.returned (.tuple #[.agg #[h,j,m,D,E],x])/\Co x cd/\Kp (·=l.D) Z w'/\LC l p o w':=fun Z hW=>by
  have hl:=zA Z l p hW.at_ c.f.of.of.keeper i.name i.member;rw[HF.o]at hl;refine hl.mono ?_;rintro u w' ⟨⟨x,rfl,y⟩,hL,H⟩;exact⟨x,rfl,y.weak,H,hW.step hL H⟩
 have af:=Zy bD;have a:=Zy (LC.refl O.o.lM).drew;obtain⟨bX,bY,cz,t⟩:=tN.ex (fun W'=>LC l p o W') o (LC.refl O.o.lM);have aA:=fun s=>(O.o.qK (t.jC s).kp (t.jC s).at_).blk.c 0 (some l.L) rfl;obtain⟨-,-,-,ay,az,-⟩:=jq.pq fun s=>(aB.o.kp (t.jC s).kp Zm);have f:=Zy t;clear t bD ag;go_wp2_with fail;rename_i aD H;have bK:∀(b6:Nat)(w7:World)(x:Value),LC l p o w7->jq w7 b6 173 #[h,j,m,D,E]->o.heap.size<=b6->Co x cd->aD {tmps:=#[.pointer (some ⟨K,0,none⟩),.agg #[i.op,i.a,i.name,i.member],undef,.pointer (some ⟨w.heap.size,0,none⟩),.int .i64 0,.pointer (some ⟨c.cb,0,none⟩),.pointer (some ⟨b6,0,none⟩),x,undef,undef,undef,.pointer (some ⟨K,0,none⟩),.pointer (some ⟨c.cb,0,none⟩),.tuple #[.agg #[h,j,m,D,E],x],.pointer (some ⟨K,0,none⟩),.pointer (some ⟨K,0,none⟩),.pointer (some ⟨K,0,none⟩),.pointer (some ⟨l.L,0,none⟩),.pointer (some ⟨c.cb,0,none⟩),.int .i64 c.f.of.of.keeper,.pointer (some ⟨w.heap.size,2,none⟩),.string i.name,.pointer (some ⟨w.heap.size,3,none⟩),.string i.member,.tuple #[.agg #[h,j,m,D,E],x],.agg #[h,j,m,D,E],x,undef,undef,undef,undef,undef,undef,undef,undef,undef,undef,undef,undef,undef,undef,undef,undef,undef,undef,undef,undef,undef,undef,undef,undef,undef,undef,undef,undef,undef,undef,undef,undef,undef,undef],defers:=[]} w7:=by
  intro b6 w7 x hC aZ J y;refine H _ _ ?_;clear H f aA ay az a af;have Y:=Zy (O.o.qK hC.kp hC.at_);have X:Zz (Kp (MO l z) w w7):=Zy (bR.o.any.trans hC.mo);have⟨e,cO,aW⟩:=jI aZ (aB.o.kp hC.kp Zm) (aT.o b6 Zm);clear hC aZ;rcases y with⟨rfl,rfl⟩|⟨C,eb,rfl⟩;rotate_left
  . replace k:Zz (jN p lk i g.st=(4,g.st)):=Zy (by rw[k.o,T9 C]);clear C;go_wp2;go_ret;rw[k.o];exact kJ.mk' X.o (nU.refl _ _) Y.o rfl
  replace k:Zz (jN p lk i g.st=(match pop g.st with
   |none=>(10,g.st)
   |some (v,s1)=>if object p v ⟨h,j⟩ s1=1 then push p (((qQ s1.heap v.n)[m.toNat]?).getD l9) s1 else(object p v ⟨h,j⟩ s1,s1))):=Zy k.o
  obtain⟨xz,x0,x1,-⟩:=e.o.ca;rcases TT c.f.stack with I|⟨L,v,I⟩
  . replace k:Zz (jN p lk i g.st=(10,g.st)):=Zy (by rw[k.o,Gh.Aj G.o I]);have HS:=Zy I;clear I;go_wp2_with fail;refine(sK Y.o r c G.o HS.o).mono ?_;rintro u w8 ⟨rfl,bf⟩;have aS:=Zy bf;clear bf;go_wp2;go_ret;rw[k.o];exact kJ.mk' (X.o.trans (aS.o.alloc _).any) (nU.refl _ _) (Y.o.ext (aS.o.alloc _)) rfl
  . rw[TS]at I;have bG:=(jK.1 (Y.o.FU G.o)).2.2.2.2.2.2 v (by rw[I];simp);have aY:Zz (jV v g.os.length=true):=Zy (by simpa [Gh.st]using bG);have aX:Zz (∀F,jN p lk i g.st=if object p v ⟨h,j⟩ (g.kY r c L F).st=1 then push p (((qQ g.st.heap v.n)[m.toNat]?).getD l9) (g.kY r c L F).st else(object p v ⟨h,j⟩ (g.kY r c L F).st,(g.kY r c L F).st)):=Zy (fun F=>by rw[k.o,Gh.pop G.o I F];rfl);have HS:=Zy I;clear I bG k;obtain⟨vk,N⟩:=v;go_wp2_with fail;refine(wO Y.o r c G.o L ⟨vk,N⟩ HS.o).mono ?_;rintro u w8 ⟨rfl,ai,F,bq⟩;have k:=Zy (aX.o F);have aG:=e.o.kp ai aW.o;obtain⟨zz,z0,z1,-⟩:=aG.ca;obtain⟨w9,bI,ah,b8⟩:=nu w8 #[vk,N] 42;have⟨aC,aV,bO,aR,bV⟩:=nC (bq.ext ah) ((X.o.trans ai).trans ah.any) (aG.ext ah) b8 bI;have bW:Zz (w.heap.size<=w8.heap.size):=Zy (by have:=ai.size;have:=X.o.size;omega);clear ai bq aG ah b8 bI aX x0 x1 xz;go_wp2_with fail;rw[<-bV.o];refine(yR aC.o ⟨vk,N⟩ aY.o ⟨h,j⟩).mono ?_;rintro u ae ⟨rfl,aa⟩;have⟨A,aU,bN,bP⟩:=kD (aC.o.ext aa) (aV.o.trans aa.any) (bO.o.ext aa) (aR.o.ext aa);clear aa z0 z1 zz;obtain⟨ob,S⟩:∃ob,object p ⟨vk,N⟩ ⟨h,j⟩ (g.kY r c L F).st=ob:=⟨_,rfl⟩;by_cases ak:ob=1
    . subst ak;replace k:Zz (jN p lk i g.st=push p (((qQ g.st.heap N)[m.toNat]?).getD l9) (g.kY r c L F).st):=Zy (by rw[k.o,Ty S]);have aL:=yA (p:=p) A.o.good (k:=c.f.of.of.keeper) (n:=i.name) (m:=i.member) (by rw[HF.o]) (v:=⟨vk,N⟩) (by simpa [Gh.st,Gh.kY]using aY.o) (by rw[HF.o];exact S);rw[HF.o]at aL;simp only at aL;obtain⟨dx,dz,bZ,dE,ho,-,bC,aI⟩:=aL;obtain⟨n,rfl⟩:∃n:Nat,N=n:=⟨N.toNat,by omega⟩;obtain⟨T,rfl⟩:∃T:Nat,m=T:=⟨m.toNat,by omega⟩;simp only[UD]at ho aI;simp only[Gh.st,Gh.kY,UG,UX]at ho;obtain⟨P,V,rfl⟩:=ho;obtain⟨aO,hu⟩:=nV P.o.fields T aI;have bF:(((qQ g.st.heap n)[(T:Int).toNat]?).getD l9)=aO:=by
       have:qQ g.st.heap n=P.o.fields:=bC;rw[this,UD,hu];rfl
      rw[bF]at k;have bT:=Zy (by
       have Q:=((lV.1 A.o.good.heap).2 P.o (by simp only[Gh.st,Gh.kY,V5];exact⟨P,Tx V,rfl⟩)).2.2 aO (Tx hu);simpa [Gh.st,Gh.kY]using Q)
      obtain⟨ha,bz,av⟩:=A.o.heap.form;have au:=A.o.heap.row;rw[av]at au;have cB:=(Tt.1 V).1;obtain⟨B,dw,eb,-⟩:=ky au (by show 0<g.os.length;omega);cases eb;have bA:=l5 (enc:=q8) (k:=3) (fun _=>rfl) au (l:=g.os) V;have aj:=(A.o.obj n P V).row;obtain⟨fb,fc,aM,-⟩:=ky aj Zm;rw[aM]at aj;have aK:=l5 (enc:=kI) (k:=2) (fun _=>rfl) aj hu;obtain⟨bX,bY,cz,t⟩:=tN.ex (fun W'=>Kp (PO z (Iz r.length)) ae W') _ Kp.rr;obtain⟨uk,un⟩:=aO;have e1:=bA.three.2.2;rw[aM]at e1;have no:∀q ax,z q=some ax->¬Iz r.length ax->¬PO z (Iz r.length) q:=fun q ax B hq ⟨q',Q,h2⟩=>by rw[B]at Q;cases Q;exact hq h2
      have bJ:∀q,z q=none->¬PO z (Iz r.length) q:=fun q B ⟨q',Q,_⟩=>by rw[B]at Q;cases Q
      have ro:∀q,¬MO l z q->z q=none:=fun q B=>by
       cases u:z q with
       |none=>rfl
       |some ax=>exact absurd (.inr (by rw[u];simp)) B
      have cu:=ro _ (aT.o _ (by have:=aV.o.size;have:=X.o.size;have:=aC.o.blk.lt;have:=aR.o.lt;have:=bW.o;omega));have bE:=A.o.heap.role B (by rw[av];rfl);have aJ:=(A.o.obj n P V).role fb (by rw[aM];rfl);have dK:=fun s=>(A.o.blk.kp (t.jC s) (no _ _ A.o.role (by simp[Iz]))).c 4 (B,g.os.length,bz) (by rw[show(Value.slice (some ⟨B,0,none⟩) g.os.length bz)=g.vh from av.symm];rfl);have dG:=fun s=>(bP.o.kp (t.jC s) (bJ _ cu)).c 1 n rfl;have dJ:=fun s=>(t.jC s).mJ e1 (no _ _ bE (by simp[Iz]));have dF:=fun s=>(bN.o.kp (t.jC s) (bJ _ (ro _ aW.o))).c 2 T rfl;have dH:=fun s=>(t.jC s).mJ aK.two.1 (no _ _ aJ (by simp[Iz]));have dI:=fun s=>(t.jC s).mJ aK.two.2 (no _ _ aJ (by simp[Iz]));have f:=Zy t;have dA:(n:Int)<g.os.length:=by omega
      have dn:(T:Int)<P.o.fields.length:=by omega
      clear t au bA aj aK e1 av V hu bF bC bE aJ cB aI bZ;rw[S];clear S;go_wp2_with fail;refine lq f 15 [([0,1,2,3,4,5,6,7,8,9,10,11,12,13],14)] [] ?_ ?_
      . exact jA
      refine nE ?_;intro d b;go_wp2_with fail;refine(Gz _ _ _ _ _ _ _ _ (A.o.ext jA) r _ rfl cK ⟨uk,un⟩ bT.o).mono ?_;rintro u dL ⟨bg,bu⟩;have⟨bS,HZ⟩:=jw ((((Kp.refl _ ae).drew:Ext ae _).any).trans bu) (kJ.after (aU.o.trans ((Kp.refl _ ae).drew:Ext ae _).any) (nU.refl _ _) bg);obtain⟨rfl,-⟩:=bg;rw[<-k.o]at HZ |-;clear bu;go_wp2_with fail;refine kk f b bS.o ?_;clear b d;refine lD ?_;go_wp2;go_ret;exact HZ.o
    . replace k:Zz (jN p lk i g.st=(ob,(g.kY r c L F).st)):=Zy (by rw[k.o,S,T9 ak]);have dB:=TE.2 ak;rw[S];clear S ak;go_wp2;go_ret;rw[k.o];exact kJ.mk' aU.o (nU.refl _ _) A.o rfl
 have aF:=Zy bK;clear bK H;refine rQ f 16 (.two [0,1,2,3,4,6,7,8,9] 5 14 (.two [] 10 14 (.one [11,12,13] 14 (.one [] 15 (.fin []))) (.one [] 10 (.one [11,12,13] 15 (.fin [])))) (.one [] 5 (.one [] 10 (.one [11,12,13] 15 (.fin []))))) ?_ ?_
 . exact a.o
 refine two [_,_,_,_,_,_,_,_,_] rfl rfl rfl fun aD H=>?_;(repeat (go_big_quiet_step (fail)));((refine EP H (fun d b=>?_) fun d b=>?_)<;>clear H aD)
 . go_wp2_with fail;refine(oK c.f.of.of.keeper (((O.o.qK a.o.kp a.o.at_).at_ G.o).blk.c 0 _ rfl)).mono ?_;rintro u we ⟨rfl,rfl⟩;go_wp2_with fail;refine kk f b a.o ?_;clear b d;refine Ck rfl rfl (fun d b=>?_) fun d b=>?_
   . go_wp2_with fail;refine(af.o _ a.o).mono ?_;rintro u wc ⟨x,rfl,y,R,C⟩;replace a:=Zy C;have W:=Zy y;clear R C y;go_wp2_with fail;refine kk f b a.o ?_;clear b d;refine Ac ?_;intro d b;go_wp2_with fail;refine kk f b (a.o.ext (jJ _)) ?_;clear b d;refine j3 rfl fun d b=>?_;go_wp2_with fail;refine kk f b (a.o.ext (jJ _)) ?_;clear b d;have J:=a.o.kp.size;have e:=Zy (jq.new (wc) 173 #[h,j,m,D,E]);replace a:=Zy (a.o.ext (jJ (.cells #[h,j,m,D,E] 173)));clear f aA ay az;refine kQ ?_;go_wp2_with fail;exact aF.o _ _ _ a.o e.o J W.o
   . go_wp2_with fail;refine kk f b (a.o.ext (jJ _)) ?_;clear b d;have J:o.heap.size<=o.heap.size:=a.o.kp.size;have e:Zz (jq (o.drew.alloc (.cells #[Tj,"",Tj,Tj,""] 173)) o.heap.size 173 #[Tj,"",Tj,Tj,""]):=Zy (jq.new _ _ _);replace a:=Zy (a.o.ext (jJ (.cells #[Tj,"",Tj,Tj,""] 173)));refine j3 rfl fun d b=>?_;go_wp2_with fail;refine(af.o _ a.o).mono ?_;rintro u wc ⟨x,rfl,y,R,C⟩;replace e:=Zy (e.o.kp R Zm);replace a:=Zy C;have W:=Zy y;clear R C y;go_wp2_with fail;refine kk f b a.o ?_;clear b d;refine Ac ?_;intro d b;obtain⟨z6,y0,y1,y2,y3,y4,-⟩:=e.o.ca;obtain⟨g0,g1,g2,g3,g4,-⟩:=e.o.fz;go_wp2_with fail;replace a:=Zy (LC.own a.o (Kp.wS (D:=(·=_)) rfl h j m D E) J bn);replace e:=Zy (e.o.wS h j m D E);refine kk f b a.o ?_;clear b d;clear y0 g0 y1 g1 y2 g2 y3 g3 y4 g4 z6;clear f aA ay az;refine kQ ?_;go_wp2_with fail;exact aF.o _ _ _ a.o e.o J W.o
 . go_wp2_with fail;refine kk f b (a.o.ext (jJ _)) ?_;clear b d;have J:o.heap.size<=o.heap.size:=a.o.kp.size;have e:Zz (jq (o.drew.alloc (.cells #[Tj,"",Tj,Tj,""] 173)) o.heap.size 173 #[Tj,"",Tj,Tj,""]):=Zy (jq.new _ _ _);replace a:=Zy (a.o.ext (jJ (.cells #[Tj,"",Tj,Tj,""] 173)));refine j3 rfl fun d b=>?_;go_wp2_with fail;refine(oK c.f.of.of.keeper (((O.o.qK a.o.kp a.o.at_).at_ G.o).blk.c 0 _ rfl)).mono ?_;rintro u we ⟨rfl,rfl⟩;go_wp2_with fail;refine kk f b a.o ?_;clear b d;refine j3 rfl fun d b=>?_;go_wp2_with fail;refine(af.o _ a.o).mono ?_;rintro u wc ⟨x,rfl,y,R,C⟩;replace e:=Zy (e.o.kp R Zm);replace a:=Zy C;have W:=Zy y;clear R C y;go_wp2_with fail;refine kk f b a.o ?_;clear b d;refine Ac ?_;intro d b;obtain⟨z6,y0,y1,y2,y3,y4,-⟩:=e.o.ca;obtain⟨g0,g1,g2,g3,g4,-⟩:=e.o.fz;go_wp2_with fail;replace a:=Zy (LC.own a.o (Kp.wS (D:=(·=_)) rfl h j m D E) J bn);replace e:=Zy (e.o.wS h j m D E);refine kk f b a.o ?_;clear b d;clear y0 g0 y1 g1 y2 g2 y3 g3 y4 g4 z6;clear f aA ay az;refine kQ ?_;go_wp2_with fail;exact aF.o _ _ _ a.o e.o J W.o
theorem KN{l:List α}{x:α}(b:l[n]?=some x)(f:α->α):l.modify n f=l.set n (f x):=by
 apply List.ext_getElem?;intro c;rw[VT,List.getElem?_set];by_cases a:n=c
 . subst a;rw[b];have:=(Tt.1 b).1;simp[this]
 . simp[a]
theorem PM{enc:α->List Value}:∀(l:List α)(n:Nat)(x y:α),l[n]?=some x->enc y=enc x->(l.set n y).flatMap enc=l.flatMap enc:=by
 intro l;induction l with
 |nil=>intro n x y a;simp at a
 |cons e d c=>
  intro n x y a b;cases n with
  |zero=>simp at a;subst a;simp[b]
  |succ n=>simp at a;simp[c n x y a b]
def Gh.RA(g:Gh)(n:Nat)(go:GO)(a:Nat)(x:Val):Gh:={g with os:=g.os.set n ⟨{go.o with fields:=go.o.fields.set a x},go.v⟩}
theorem Gh.OA{g:Gh}{go:GO}(b:g.os[n]?=some go)(a:Nat)(x:Val):(g.RA n go a x).st={g.st with heap:=nS g.st.heap n a x}:=by
 unfold Gh.RA Gh.st nS;simp only[UD];rw[KN (x:=go.o) (by simp[b])];simp[List.map_set]
theorem jG.RH{j:Own}{g:Gh}(b:jG w l p j o y lk g){n:Nat}{go:GO}(i:g.os[n]?=some go){c B:Nat}(r:go.v=.slice (some ⟨c,0,none⟩) go.o.fields.length B)(a:Nat)(x:Val)(E:jV x g.os.length=true):Kp (MO l j) w ((w.setCell (c,a*2) x.kind).setCell (c,a*2+1) x.n)/\jG ((w.setCell (c,a*2) x.kind).setCell (c,a*2+1) x.n) l p j o y lk (g.RA n go a x):=by
 have u:=(b.obj n go i).row;have t:=(b.obj n go i).role c (by rw[r];rfl);have s:Kp (·=c) w ((w.setCell (c,a*2) x.kind).setCell (c,a*2+1) x.n):=
  ((Kp.refl (·=c) w).setCell (p:=⟨c,a*2,none⟩) (fun _=>rfl) _).setCell (p:=⟨c,a*2+1,none⟩) (fun _=>rfl) _
 have e:Kp (PO j (·=(7,n))) w ((w.setCell (c,a*2) x.kind).setCell (c,a*2+1) x.n):=s.weak fun k _ d=>⟨_,by rw[d];exact t,rfl⟩;rw[r]at u;have m:=(u.stored (a*2) x.kind).1.stored (a*2+1) x.n;rw[Gr]at m;have h:=nU.refl w.heap.size j;have C:M.Good p (g.RA n go a x).st:=by
  rw[Gh.OA i];exact b.good.set (by simpa [Gh.st]using E)
 refine⟨e.weak fun k _ d=>d.mo,b.Gx e,b.hB,b.blk.kp s (fun d=>?_),b.role,b.low,b.calls.xX e h Zl,fun v A D=>(b.call v A D).xX e h Zl b.yP,?_,?_,b.outs.xX e h Zl,b.Az s.size,C,b.zY.kp e (fun k v q ⟨z,h1,m⟩=>by rw[q]at h1;cases h1;cases m) fun _ _ x=>x⟩
 . have:=b.role;rw[d,t]at this;cases this
 . have:=b.heap.xX e h Zl;unfold Gh.RA;simp only[WZ];rw[PM (enc:=q8) g.os n go ⟨{go.o with fields:=go.o.fields.set a x},go.v⟩ i rfl];exact this
 . intro F z f;unfold Gh.RA at f;simp only[List.getElem?_set]at f;split at f
   . rename_i d;subst d;split at f
     . cases f;refine⟨?_,fun k q=>(b.obj n go i).role k q⟩;show World.ownsRow _ o _ 2 go.v (go.o.fields.set a x).length _
       rw[WZ,r];exact m.1
     . cases f
   . rename_i d;exact(b.obj F z f).xX e h Zr
theorem Rz{aG:Own}{bg: Nat}{g:Gh}(S:jG w l p aG bg U lk g)(r:List GC)(c:GC)(bT:g.cs=r++[c])(dB:g.status=1)(i:Ins)(hi:oL (M.method p c.f.of) i=true)(aX:i.op=8):Calls prog 64 #[some U,.agg #[i.op,i.a,i.name,i.member]] w (kJ w l p aG bg U lk (.int .i64 (jN p lk i g.st).1) (jN p lk i g.st).2):=by
 have HI:=Zy (rC hi);obtain⟨w0,bX,aR,b3⟩:=nu w #[i.op,i.a,i.name,i.member] 134;have dH:=Zy (S.fresh (Tu _));have df:Zz (∀X,w.heap.size<=X->¬MO l aG X):=Zy (fun X hb=>S.fresh hb);have dM:=S.lM.lt;have dK:=S.lM.ord.2.2;have⟨bn,cO,cK,dn,L⟩:=nC (S.ext aR) aR b3 bX bT;have dW:=b3.lt;clear S aR b3 bX bT hi;obtain⟨⟨⟨⟨h,o⟩,u,⟨z,A⟩⟩,cd⟩,hF⟩:∃cB,M.get p c.f.of.of.keeper i.name i.member=cB:=⟨_,rfl⟩;have j:Zz (jN p lk i g.st=if cd=1 then(match oh 2 g.st with
     |some ([V,v],x)=>if hasType p h x.heap v ⟨z,A⟩then(if object p V ⟨h,o⟩ x=1 then next p {x with heap:=nS x.heap V.n u v}else(object p V ⟨h,o⟩ x,x))else(10,x)
     |_=>(10,g.st))else(4,g.st)):=Zy (by
  unfold jN;rw[aX];simp only[Gh.top L.o,hF];rfl)
 have⟨HF,dI⟩:=jw hF aX;clear aX;go_enter func64,ntmps64;go_wp2_with fail;rw[<-dn.o];refine(l6 bn r c L).mono ?_;rintro m y ⟨rfl,az⟩;have⟨W,cZ,aK⟩:=jI (bn.ext az) (cO.trans az) (cK.ext az);have bO:l.L<y:=W.lM.lt;have dL:l.D<y:=Zm
 have dX:(w:Nat)<y:=aK.lt;have bU:∀R,LC l p y R->Calls prog 108 #[some l.L,c.f.of.of.keeper,i.name,i.member] R fun m w'=>∃C,m=.returned (.tuple #[.agg #[h,o,u,z,A],C])/\Co C cd/\Kp (·=l.D) R w'/\LC l p y w':=fun R hW=>by
  have hl:=zA R l p hW.at_ c.f.of.of.keeper i.name i.member;rw[HF.o]at hl;refine hl.mono ?_;rintro m w' ⟨⟨C,rfl,G⟩,hL,F⟩;exact⟨C,rfl,G.weak,F,hW.step hL F⟩
 have ay:=Zy bU;have b:=Zy (LC.refl W.lM).drew;obtain⟨aN,aP,aW,k⟩:=tN.ex (fun W'=>LC l p y W') y (LC.refl W.lM);have ah:=fun d=>(W.qK (k.jC d).kp (k.jC d).at_).blk.c 0 (some l.L) rfl;obtain⟨-,-,-,aH,aI,-⟩:=jq.pq fun d=>(aK.kp (k.jC d).kp Zm);have e:=Zy k;clear k bU az;go_wp2_with fail;rename_i au F;have cz:∀(b6:Nat)(K:World)(C:Value),LC l p y K->jq K b6 173 #[h,o,u,z,A]->y<=b6->Co C cd->au {tmps:=#[.pointer (some ⟨U,0,none⟩),.agg #[i.op,i.a,i.name,i.member],undef,.pointer (some ⟨w,0,none⟩),.int .i64 0,.pointer (some ⟨c.cb,0,none⟩),.pointer (some ⟨b6,0,none⟩),C,undef,undef,undef,.pointer (some ⟨U,0,none⟩),.pointer (some ⟨c.cb,0,none⟩),.tuple #[.agg #[h,o,u,z,A],C],.pointer (some ⟨U,0,none⟩),.pointer (some ⟨U,0,none⟩),.pointer (some ⟨U,0,none⟩),.pointer (some ⟨l.L,0,none⟩),.pointer (some ⟨c.cb,0,none⟩),.int .i64 c.f.of.of.keeper,.pointer (some ⟨w,2,none⟩),.string i.name,.pointer (some ⟨w,3,none⟩),.string i.member,.tuple #[.agg #[h,o,u,z,A],C],.agg #[h,o,u,z,A],C,undef,undef,undef,undef,undef,undef,undef,undef,undef,undef,undef,undef,undef,undef,undef,undef,undef,undef,undef,undef,undef,undef,undef,undef,undef,undef,undef,undef,undef,undef,undef,undef,undef,undef,undef,undef,undef,undef,undef,undef,undef,undef,undef,undef,undef,undef,undef,undef,undef,undef,undef,undef,undef,undef,undef,undef,undef,undef,undef,undef],defers:=[]} K:=by
  intro b6 K C hC bJ T G;refine F _ _ ?_;clear F e ah aH aI b ay;have ak:=Zy (W.qK hC.kp hC.at_);have aM:Zz (Kp (MO l aG) w K):=Zy (cZ.any.trans hC.mo);have⟨t,dG,di⟩:=jI bJ (aK.kp hC.kp Zm) (df b6 Zm);clear hC bJ;rcases G with⟨rfl,rfl⟩|⟨J,eb,rfl⟩;rotate_left
  . replace j:Zz (jN p lk i g.st=(4,g.st)):=Zy (by rw[j.o,T9 J]);clear J;go_wp2;go_ret;rw[j.o];exact kJ.mk' aM (nU.refl _ _) ak rfl
  replace j:Zz (jN p lk i g.st=(match oh 2 g.st with
   |some ([V,v],x)=>if hasType p h x.heap v ⟨z,A⟩then(if object p V ⟨h,o⟩ x=1 then next p {x with heap:=nS x.heap V.n u v}else(object p V ⟨h,o⟩ x,x))else(10,x)
   |_=>(10,g.st))):=Zy j.o
  by_cases aa:c.f.stack.length<2
  . replace j:Zz (jN p lk i g.st=(10,g.st)):=Zy (by rw[j.o,Gh.zG L.o aa]);obtain⟨aN,aP,aW,k⟩:=lL K;have e:=Zy k;clear k;go_wp2_with fail;refine(vG ak r c L 2 aa Zm).mono ?_;rintro m w8 ⟨rfl,rfl⟩;go_wp2_with fail;refine lq e 22 [([0,1,2,3,4,5,6,7,8,9,10,11,12,13,14,15,16,17,18],19)] [20,21] ?_ ?_
    . exact jA
    refine nE ?_;intro f a;go_wp2_with fail;refine kk e a ((Kp.refl _ K).drew:Ext K _) ?_;clear a f;refine uC ?_;go_wp2;go_ret;rw[j.o];exact kJ.mk' (aM.trans ((Kp.refl _ K).drew:Ext K _).any) (nU.refl _ _) (ak.ext (jA)) rfl
  . obtain⟨s,oo,vv,hs⟩:∃s B X,c.f.stack=s++[B,X]:=by
     rcases TT c.f.stack with m|⟨x,X,m⟩
     . rw[m]at aa;simp at aa
     . rw[TS]at m;rcases TT x with e2|⟨s2,B,e2⟩
       . rw[m,e2]at aa;simp at aa
       . rw[TS]at e2;exact⟨s2,B,X,by rw[m,e2];simp⟩
    have aY:=(jK.1 (ak.FU L)).2.2.2.2.2.2;have bD:Zz (jV oo g.os.length=true):=Zy (by simpa [Gh.st]using aY oo (by rw[hs];simp));have bI:Zz (jV vv g.os.length=true):=Zy (by simpa [Gh.st]using aY vv (by rw[hs];simp));have bG:Zz (∀q,jN p lk i g.st=if hasType p h g.st.heap vv ⟨z,A⟩then(if object p oo ⟨h,o⟩ (g.kY r c s q).st=1 then next p {(g.kY r c s q).st with heap:=nS g.st.heap oo.n u vv}else(object p oo ⟨h,o⟩ (g.kY r c s q).st,(g.kY r c s q).st))else(10,(g.kY r c s q).st)):=Zy (fun q=>by rw[j.o,Gh.oh L.o (n:=2) hs rfl q];rfl);have HS:=Zy hs;clear hs aY aa j;obtain⟨O,E⟩:=oo;obtain⟨H,I⟩:=vv;go_wp2_with fail;refine(CL ak r c L s [⟨O,E⟩,⟨H,I⟩] 2 HS rfl Zm).mono ?_;rintro m w8 ⟨v',rfl,N,aS,q,Y⟩;have j:=Zy (bG q);obtain⟨gt,gc,rfl,dP,-⟩:=ky N Zm;have bR:=l5 (enc:=kI) (k:=2) (fun _=>rfl) (l:=[⟨O,E⟩,⟨H,I⟩]) N (i:=0) (x:=⟨O,E⟩) rfl;have aA:=l5 (enc:=kI) (k:=2) (fun _=>rfl) (l:=[⟨O,E⟩,⟨H,I⟩]) N (i:=1) (x:=⟨H,I⟩) rfl;have aQ:=t.kp aS di;have bV:=Y.OL;obtain⟨ha,Z,aF⟩:=Y.heap.form;obtain⟨aN,aP,aW,k⟩:=lL w8;have ah:=fun d=>(Y.ext (k.jC d)).blk.c 0 (some l.L) rfl;have dE:=fun d=>(Y.ext (k.jC d)).blk.c 4 (.slice ha g.os.length Z) (by rw[show(Value.slice ha g.os.length Z)=g.vh from aF.symm];rfl);obtain⟨-,aJ,-,-,dC,dD,-⟩:=jq.pq fun d=>(aQ.ext (k.jC d));have bZ:=fun d=>(hQ.ext aA (k.jC d)).two.1;have cu:=fun d=>(hQ.ext aA (k.jC d)).two.2;simp only[Nat.one_mul]at bZ cu;have bW:=fun R (hW:Ext w8 R)=>wC R l p (Y.lM.ext hW) h (.slice ha g.os.length Z) g.st.heap (by
     have:=bV.ext hW;rw[show(Value.slice ha g.os.length Z)=g.vh from aF.symm];exact this) ⟨H,I⟩ (fun m=>by have:=qa bI m;simpa [Gh.st]using this) ⟨z,A⟩
    have⟨dh,e,bB,bA,bq,aL,bu,bH⟩:=Em bW k Y (aM.trans aS) aQ bR aA aF;clear k bW bV aF N aS Y bR aA aQ bG;go_wp2_with fail;refine lq e 22 [([0,1,2,3,4,5,6,7,8,9,10,11,12,13,14,15,16,17,18],19)] [20,21] ?_ ?_
    . exact jA
    refine nE ?_;intro f a;go_wp2_with fail;refine(dh _ jA).mono ?_;rintro m w9 ⟨rfl,bL⟩;have D:=Zy (((Kp.refl _ w8).drew:Ext w8 _).trans bL);clear bL;cases aD:hasType p h g.st.heap ⟨H,I⟩ ⟨z,A⟩
    . rw[aD]at j;replace j:Zz (jN p lk i g.st=(10,(g.kY r c s q).st)):=Zy j.o;clear aD;go_wp2_with fail;refine kk e a D ?_;clear a f;refine uC ?_;go_wp2;go_ret;rw[j.o];exact kJ.mk' (bA.trans D.any) (nU.refl _ _) (bB.ext D) rfl
    . rw[aD]at j;replace j:Zz (jN p lk i g.st=if object p ⟨O,E⟩ ⟨h,o⟩ (g.kY r c s q).st=1 then next p {(g.kY r c s q).st with heap:=nS g.st.heap E u ⟨H,I⟩}else(object p ⟨O,E⟩ ⟨h,o⟩ (g.kY r c s q).st,(g.kY r c s q).st)):=Zy j.o;clear aD;go_wp2_with fail;refine kk e a D ?_;clear a f;clear e ah dE aJ dC dD bZ cu;refine uC ?_;have bP:=bB.ext D;obtain⟨aN,aP,aW,k⟩:=lL w9;obtain⟨-,aJ,bY,-⟩:=jq.pq fun d=>((bq.ext D).ext (k.jC d));have aZ:=fun d=>(hQ.ext (hQ.ext aL D) (k.jC d)).two.1;have bf:=fun d=>(hQ.ext (hQ.ext aL D) (k.jC d)).two.2;simp only[UM,Tk]at aZ bf;have⟨e,bC⟩:=jw k bP;clear k bP;go_wp2_with fail;refine lq e 7 [([0,1,2,3,4,5],6)] [] ?_ ?_
      . exact jA
      refine nE ?_;intro f a;go_wp2_with fail;refine(yR (bC.ext jA) ⟨O,E⟩ bD ⟨h,o⟩).mono ?_;rintro m ai ⟨rfl,bK⟩;have P:=Zy (((Kp.refl _ w9).drew:Ext w9 _).trans bK);have⟨af,bz⟩:=jw (bC.ext P) ((bA.trans D.any).trans P.any);clear bK;obtain⟨ob,ae⟩:∃ob,object p ⟨O,E⟩ ⟨h,o⟩ (g.kY r c s q).st=ob:=⟨_,rfl⟩;by_cases aC:ob=1
      . subst aC;replace j:Zz (jN p lk i g.st=next p {(g.kY r c s q).st with heap:=nS g.st.heap E u ⟨H,I⟩}):=Zy (by rw[j.o,Ty ae]);have aV:=yA (p:=p) af.good (k:=c.f.of.of.keeper) (n:=i.name) (m:=i.member) (by rw[HF.o]) (v:=⟨O,E⟩) (by simpa [Gh.st,Gh.kY]using bD.o) (by rw[HF.o];exact ae);rw[HF.o]at aV;simp only at aV;obtain⟨dQ,dR,dx,V,ho,-,dz,aT⟩:=aV;obtain⟨n,rfl⟩:∃n:Nat,E=n:=⟨E.toNat,Zm⟩;obtain⟨B,rfl⟩:∃B:Nat,u=B:=⟨u.toNat,Zm⟩;simp only[UD]at ho aT;simp only[Gh.st,Gh.kY,UG,UX]at ho;obtain⟨go,ag,rfl⟩:=ho;obtain⟨dY,hu⟩:=nV go.o.fields B aT;have dA:=(Tt.1 ag).1;have N:=af.heap.row;rw[show(g.kY r c s q).vh=.slice ha g.os.length Z from bH.o]at N;obtain⟨hb,dO,eb,-⟩:=ky N (by show 0<g.os.length;omega);cases eb;have bS:=l5 (enc:=q8) (k:=3) (fun _=>rfl) N (l:=g.os) ag;have av:=(af.obj n go ag).row;obtain⟨fb,fc,ax,-⟩:=ky av Zm;obtain⟨dJ,aB⟩:=pG av (g:=fb) (by rw[ax];rfl);rw[ax]at av;have aU:=l5 (enc:=kI) (k:=2) (fun _=>rfl) av hu;have e1:=bS.three.2.2;rw[ax]at e1;have dm:=Zy ((af.ext ((Kp.refl _ ai).drew:Ext ai ai.drew)).RH (n:=n) (go:=go) ag ax B ⟨H,I⟩ bI);have bE:Zz (((g.kY r c s q).RA n go B ⟨H,I⟩).st={(g.kY r c s q).st with heap:=nS g.st.heap n B ⟨H,I⟩}):=Zy (Gh.OA (g:=g.kY r c s q) ag B ⟨H,I⟩);obtain⟨T2,f2,dS,Q⟩:=lL ai;have s4:=fun d=>(af.ext (Q.jC d)).blk.c 4 (hb,g.os.length,Z) (by rw[show(Value.slice (some ⟨hb,0,none⟩) g.os.length Z)=g.vh from bH.o.symm];rfl);have s0:=fun d=>(hQ.ext (hQ.ext (hQ.ext aL D) P) (Q.jC d)).two.2;have s2:=fun d=>(hQ.ext (hQ.ext (hQ.ext bu D) P) (Q.jC d)).two.1;have s3:=fun d=>(hQ.ext (hQ.ext (hQ.ext bu D) P) (Q.jC d)).two.2;simp only[UM,Tk,Nat.one_mul]at s0 s2 s3;have sh:=fun d=>(Q.jC d).jm e1;have dF:=fun d=>(((bq.ext D).ext P).ext (Q.jC d)).c 2 (.int .i64 B) rfl;have x0:=aU.two.1;have x1:=aU.two.2;have g0:=aB.frozen (B*2);have g1:=aB.frozen (B*2+1);have gz:=aB.lt;have bF:=Zy Q;have dU:(n:Int)<g.os.length:=Zm
        have dN:(B:Int)<go.o.fields.length:=Zm
        clear Q N bS av aU e1 ag hu dz ax aB dA aT dx;rw[ae];clear ae;go_wp2_with fail;refine kk e a P ?_;clear a f;clear e aJ bY aZ bf;refine lD ?_;go_wp2_with fail;(refine xD f2 16 [] [0,1,2,3,4,5,6,7,8,9,10,11,12,13,14,15] (bF.o.o _ ?_) Zo Zo (fun _ _ dw _ _ S=>by cases dw<;>exact S) ?_)
        . exact jA
        refine qX [_,_,_,_,_,_,_,_,_,_,_,_,_,_,_,_] rfl fun au F=>?_;(repeat (go_big_quiet_step (fail)));refine qn F ?_;clear F au;clear bF s4 s0 s2 s3 sh dF;go_wp2_with fail;obtain⟨bN,bQ⟩:=dm.o;refine(uW bQ r rfl dB).mono ?_;rintro m dZ bM;have HZ:=Zy (kJ.after ((bz.trans ((Kp.refl _ ai).drew:Ext ai _).any).trans bN) (nU.refl _ _) bM);obtain⟨rfl,-⟩:=bM;rw[bE.o,<-j.o]at HZ;rw[bE.o,<-j.o];clear bN bQ x0 x1 g0 g1 gz;go_wp2;go_ret;exact HZ
      . replace j:Zz (jN p lk i g.st=(ob,(g.kY r c s q).st)):=Zy (by rw[j.o,ae,T9 aC]);have dV:=TE.2 aC;rw[ae];clear ae aC;go_wp2_with fail;refine kk e a P ?_;clear a f;clear e aJ bY aZ bf;refine lD ?_;go_wp2;go_ret;rw[j.o];exact kJ.mk' bz (nU.refl _ _) af rfl
 have aO:=Zy cz;clear cz F;refine rQ e 16 (.two [0,1,2,3,4,6,7,8,9] 5 14 (.two [] 10 14 (.one [11,12,13] 14 (.one [] 15 (.fin []))) (.one [] 10 (.one [11,12,13] 15 (.fin [])))) (.one [] 5 (.one [] 10 (.one [11,12,13] 15 (.fin []))))) ?_ ?_
 . exact b
 refine two [_,_,_,_,_,_,_,_,_] rfl rfl rfl fun au F=>?_;(repeat (go_big_quiet_step (fail)));((refine EP F (fun f a=>?_) fun f a=>?_)<;>clear F au)
 . go_wp2_with fail;refine(oK c.f.of.of.keeper (((W.qK b.kp b.at_).at_ L).blk.c 0 _ rfl)).mono ?_;rintro m we ⟨rfl,rfl⟩;go_wp2_with fail;refine kk e a b ?_;clear a f;refine Ck rfl rfl (fun f a=>?_) fun f a=>?_
   . go_wp2_with fail;refine(ay _ b).mono ?_;rintro m wc ⟨C,rfl,G,hk,J⟩;replace b:=Zy J;have aj:=Zy G;clear hk J G;go_wp2_with fail;refine kk e a b ?_;clear a f;refine Ac ?_;intro f a;go_wp2_with fail;refine kk e a (b.ext (jJ _)) ?_;clear a f;refine j3 rfl fun f a=>?_;go_wp2_with fail;refine kk e a (b.ext (jJ _)) ?_;clear a f;have T:=b.kp.size;have t:=Zy (jq.new (wc) 173 #[h,o,u,z,A]);replace b:=Zy (b.ext (jJ (.cells #[h,o,u,z,A] 173)));clear e ah aH aI;refine kQ ?_;go_wp2_with fail;exact aO _ _ _ b t T aj
   . go_wp2_with fail;refine kk e a (b.ext (jJ _)) ?_;clear a f;have T:(y:Nat)<=y:=b.kp.size;have t:Zz (jq (y.drew.alloc (.cells #[Tj,"",Tj,Tj,""] 173)) y 173 #[Tj,"",Tj,Tj,""]):=Zy (jq.new _ _ _);replace b:=Zy (b.ext (jJ (.cells #[Tj,"",Tj,Tj,""] 173)));refine j3 rfl fun f a=>?_;go_wp2_with fail;refine(ay _ b).mono ?_;rintro m wc ⟨C,rfl,G,hk,J⟩;replace t:=Zy (t.kp hk Zm);replace b:=Zy J;have aj:=Zy G;clear hk J G;go_wp2_with fail;refine kk e a b ?_;clear a f;refine Ac ?_;intro f a;obtain⟨z6,y0,y1,y2,y3,y4,-⟩:=t.ca;obtain⟨g0,g1,g2,g3,g4,-⟩:=t.fz;go_wp2_with fail;replace b:=Zy (LC.own b (Kp.wS (D:=(·=_)) rfl h o u z A) T bO);replace t:=Zy (t.wS h o u z A);refine kk e a b ?_;clear a f;clear y0 g0 y1 g1 y2 g2 y3 g3 y4 g4 z6;clear e ah aH aI;refine kQ ?_;go_wp2_with fail;exact aO _ _ _ b t T aj
 . go_wp2_with fail;refine kk e a (b.ext (jJ _)) ?_;clear a f;have T:(y:Nat)<=y:=b.kp.size;have t:Zz (jq (y.drew.alloc (.cells #[Tj,"",Tj,Tj,""] 173)) y 173 #[Tj,"",Tj,Tj,""]):=Zy (jq.new _ _ _);replace b:=Zy (b.ext (jJ (.cells #[Tj,"",Tj,Tj,""] 173)));refine j3 rfl fun f a=>?_;go_wp2_with fail;refine(oK c.f.of.of.keeper (((W.qK b.kp b.at_).at_ L).blk.c 0 _ rfl)).mono ?_;rintro m we ⟨rfl,rfl⟩;go_wp2_with fail;refine kk e a b ?_;clear a f;refine j3 rfl fun f a=>?_;go_wp2_with fail;refine(ay _ b).mono ?_;rintro m wc ⟨C,rfl,G,hk,J⟩;replace t:=Zy (t.kp hk Zm);replace b:=Zy J;have aj:=Zy G;clear hk J G;go_wp2_with fail;refine kk e a b ?_;clear a f;refine Ac ?_;intro f a;obtain⟨z6,y0,y1,y2,y3,y4,-⟩:=t.ca;obtain⟨g0,g1,g2,g3,g4,-⟩:=t.fz;go_wp2_with fail;replace b:=Zy (LC.own b (Kp.wS (D:=(·=_)) rfl h o u z A) T bO);replace t:=Zy (t.wS h o u z A);refine kk e a b ?_;clear a f;clear y0 g0 y1 g1 y2 g2 y3 g3 y4 g4 z6;clear e ah aH aI;refine kQ ?_;go_wp2_with fail;exact aO _ _ _ b t T aj
@[go_sem] theorem run_store_func {P:Program} {w:World} {a:Addr} {m:Mode} (f:Fn) (x y:Array Value):(store a (.func f x y) m).run P w=stored P w a (.func f x y) m:=run_store P w a _ m rfl
@[go_sem] theorem run_store_nilFunc {P:Program} {w:World} {a:Addr} {m:Mode}:(store a .nilFunc m).run P w=stored P w a .nilFunc m:=run_store P w a _ m rfl
def Qs(n:Nat):Nat:=
 if n=1 then 179 else if n=2 then 180 else if n=3 then 181 else if n=4 then 182 else if n=5 then 183 else if n=6 then 184 else
 if n=7 then 185 else if n=8 then 186 else if n=9 then 187 else if n=10 then 188 else if n=11 then 189 else if n=12 then 190 else
 if n=13 then 191 else if n=14 then 192 else 193
def Eu:Array Value:=#[.nilFunc,.func (.func 179) #[] #[],.func (.func 180) #[] #[],.func (.func 181) #[] #[],.func (.func 182) #[] #[],.func (.func 183) #[] #[],.func (.func 184) #[] #[],
 .func (.func 185) #[] #[],.func (.func 186) #[] #[],.func (.func 187) #[] #[],.func (.func 188) #[] #[],.func (.func 189) #[] #[],.func (.func 190) #[] #[],.func (.func 191) #[] #[],
 .func (.func 192) #[] #[],.func (.func 193) #[] #[]]
theorem MU(a:1<=n)(b:n<=15):Eu[n]?=some (.func (.func (Qs n)) #[] #[]):=by
 have:n=1\/n=2\/n=3\/n=4\/n=5\/n=6\/n=7\/n=8\/n=9\/n=10\/n=11\/n=12\/n=13\/n=14\/n=15:=Zm
 rcases this with rfl|rfl|rfl|rfl|rfl|rfl|rfl|rfl|rfl|rfl|rfl|rfl|rfl|rfl|rfl<;>rfl
theorem jP{fn:Func}{c:Code}(b:prog.funcs[f]?=some fn)(a:fn.body=some c)(d:(fn.name== "runtime.NumGoroutine")=false)(args:Array Value)(w:World):(callFunc f args).run prog w=.ok (.enter f args) w:=by
 have e:¬fn.name= "runtime.NumGoroutine" :=by simpa using d
 simp[callFunc,go_sem,b,a,e]
theorem O1(a:1<=n)(b:n<=15)(args:Array Value)(w:World):(callFunc (Qs n) args).run prog w=.ok (.enter (Qs n) args) w:=by
 have:n=1\/n=2\/n=3\/n=4\/n=5\/n=6\/n=7\/n=8\/n=9\/n=10\/n=11\/n=12\/n=13\/n=14\/n=15:=Zm
 rcases this with rfl|rfl|rfl|rfl|rfl|rfl|rfl|rfl|rfl|rfl|rfl|rfl|rfl|rfl|rfl
 . exact jP func179 rfl Zo args w
 . exact jP func180 rfl Zo args w
 . exact jP func181 rfl Zo args w
 . exact jP func182 rfl Zo args w
 . exact jP func183 rfl Zo args w
 . exact jP func184 rfl Zo args w
 . exact jP func185 rfl Zo args w
 . exact jP func186 rfl Zo args w
 . exact jP func187 rfl Zo args w
 . exact jP func188 rfl Zo args w
 . exact jP func189 rfl Zo args w
 . exact jP func190 rfl Zo args w
 . exact jP func191 rfl Zo args w
 . exact jP func192 rfl Zo args w
 . exact jP func193 rfl Zo args w
theorem O8{k:Int}{e:Int}{g: Value}(b:jO w l p d c k m t e s g vs)(i:Ins)(n:Nat)(a:i.op=n)(h:oL m i=true):Calls prog (Qs n) #[some c,.agg #[i.op,i.a,i.name,i.member]] w (jX w l p d c k m t e g vs (jQ p k m i s)):=by
 obtain⟨_,f,_,_,j,_⟩:=rC h;have:n=1\/n=2\/n=3\/n=4\/n=5\/n=6\/n=7\/n=8\/n=9\/n=10\/n=11\/n=12\/n=13\/n=14\/n=15:=Zm
 rcases this with rfl|rfl|rfl|rfl|rfl|rfl|rfl|rfl|rfl|rfl|rfl|rfl|rfl|rfl|rfl
 . exact Pb b i a
 . exact Ph b i a (f (.inl a))
 . exact Qy b i a (f (.inr a))
 . exact O6 b i a
 . exact M0 b i a
 . exact O9 b i a
 . exact O7 b i a
 . exact Pg b i a
 . exact MV b i a
 . exact Pf b i a
 . exact M3 b i a
 . exact KM b i a
 . exact Qx b i a
 . exact Pd b i a
 . exact MW b i a
theorem jO.setAt{k:Int}{i:Int}{f: Value}(a:jO w l p g c k m t i s f vs)(n:Int)(q:0<=n/\n<=100):jO (w.setCell (c,10) n) l p g c k m t n s f vs/\Kp (rA l c f vs) w (w.setCell (c,10) n):=by
 have d:Kp (·=c) w (w.setCell (c,10) n):=qM;have r:=a.hB;have u:=a.hk;have v:=a.lM.ord;exact⟨⟨a.lM.kp d (fun h o b=>Zm),a.hB,a.hk,kE.kp jy.stays d (fun h o b=>Zm) a.ml,a.mi,a.blk.jR 10 _,
  jr a.loc d (fun j e _ b=>by subst b;exact a.Q7.1 e),jr a.kY d (fun j e _ b=>by subst b;exact a.Q7.2 e),a.ne,q,a.Q8,a.Pj⟩,d.weak fun h _ b=>.inr (.inl b)⟩
theorem rA.sub{g h vs': Value}(d:¬rA l f g vs b)(e:kN n g vs h vs')(i:b<n):¬rA l f h vs' b:=by
 rintro(c|c|c|c)
 . exact d (.inl c)
 . exact d (.inr (.inl c))
 . rcases e b (.inl c)with a|a|a
   . exact d (.inr (.inr (.inl a)))
   . exact d (.inr (.inr (.inr a)))
   . omega
 . rcases e b (.inr c)with a|a|a
   . exact d (.inr (.inr (.inl a)))
   . exact d (.inr (.inr (.inr a)))
   . omega
theorem jy.code(b:jy w I m (oC m t)):SliceOf 4 zO w I (.slice t.a2 m.code.length t.c2) m.code:=by
 obtain⟨d,e,f,a,-,c,-⟩:=b;simp only[oC,U2,Vm,VR]at a;obtain⟨-,rfl,-⟩:=a;exact c
def R5(w:World)(l:jB)(p:jl)(kb:Nat)(vl vs:Value)(o:Sum Int (List lU))(e:Ending)(w':World):Prop:=
 Kp (rA l kb vl vs) w w'/\jD w' l p/\((∃n,o=.inl n/\e=.panicked (Ap n))\/∃fs v vl' vs',o=.inr fs/\e=.returned v/\Kn w' w.heap.size v vl' vs' fs)
theorem Jl{k:Int}{bu:Int}{y: Value}(j:jO w l p U g k m t bu s y vs):Calls prog 152 #[some g] w (R5 w l p g y vs (lH p k m m.code 0 true s [])):=by
 obtain⟨a1,c1,a2,c2,a3,c3⟩:=t;have aO:=j.blk.lt;have aV:=Zy j;obtain⟨w0,R⟩:=S9 (w.alloc (.cells Eu 267));have b3:jq w0 w 267 Eu:=by rw[R];exact jq.new _ _ _
 have aH:Ext w w0:=by rw[R];exact kx
 have h:=j.ext aH;have c8:=j.blk.c 8 (.slice a2 m.code.length c2) rfl;have eu:=j.mi.code;have⟨HA,cu,bZ,dR⟩:=kD h aH b3 R;unfold Eu at R;have HX:=Zy R;clear j h aH b3 R;go_enter func152,ntmps152;go_wp2_with fail;rw[<-HX.o];clear c8;go_loopw [4,5,15] (fun v dG aS wr=>∃(b:Nat)(I:Bool)(L:lU)(Y:Int)(D E:Value)(f:List lU),b<=m.code.length/\dG=.bool I/\aS=.int .i64 b/\jO wr l p U g k m ⟨a1,c1,a2,c2,a3,c3⟩ Y L D E/\kN (w+1) y vs D E/\
     Kp (rA l g y vs) w wr/\Kn wr w v D E f/\f.length=b/\jq wr w 267 Eu/\Zz (lH p k m m.code 0 true s []=lH p k m (m.code.drop b) b I L f)) (fun _ _ aS _=>m.code.length - (intOf aS).toNat)
 case atStart=>exact⟨0,true,s,bu,y,vs,[],Tz _,rfl,rfl,HA,kN.refl _ _ _,cu.any,Kn.nil _ _ _ _,rfl,bZ,Zy rfl⟩
 case round=>
  obtain⟨b,I,L,Y,D,E,f,hq,rfl,rfl,h,hO,hK,aj,bR,hB,af⟩:=hrel;have⟨bF,bg⟩:=jw h bR;clear bR;have eX:(w:Nat)<wr:=hB.lt;have dZ:=h.blk.lt;have aa:(w:Nat)<w+1:=VQ _;by_cases dK:b<m.code.length
  . obtain⟨⟨op,ia,nm,ae⟩,hi⟩:=nV m.code b dK;have ak:=h.mi.ins _ (Tx hi);obtain⟨c,rfl⟩:∃c:Nat,op=c:=⟨op.toNat,by have:=(rC ak).2.2.2.2.1;simp only at this;omega⟩;have au:1<=c/\c<=15:=by have:=(rC ak).2.2.2.2.1;simp only at this;omega
    obtain⟨Z,aU,cs,ea,dW,rfl,-,bP⟩:=(jy.code h.ml).get hi;cases ea;obtain⟨g0,g1,g2,g3⟩:=bP.four;have gz:=jv g0;have X:Zz (lH p k m m.code 0 true s []=match nQ p k m I b L with
     |none=>.inl ((b:Int)+1)
     |some e=>match jQ p k m ⟨c,ia,nm,ae⟩ e with
      |none=>.inl ((b:Int)+1)
      |some N=>lH p k m (m.code.drop (b+1)) (b+1) (decide ((c:Int)≠10)&&decide ((c:Int)≠13)) N (f++[e])):=Zy (by rw[af.o,mM hi];rfl)
    have eO:(b:Int)<m.code.length:=Zm
    obtain⟨bC,bK⟩:=h.setAt b Zm;have dD:=h.blk.c 10 Y rfl;have dF:=h.blk.frozen 10;have eF:¬wr=g:=Zm
    have eG:¬g=wr:=Zm
    obtain⟨w5,av⟩:=S9 ((wr.setCell (g,10) b).alloc (.cells #[c,ia,nm,ae] 134));have aI:Ext (wr.setCell (g,10) b) w5:=by rw[av];exact kx
    have b7:jq w5 wr 134 #[c,ia,nm,ae]:=by rw[av];exact jq.newAt _ _ Zl
    have bU:¬rA l g D E wr.heap.size:=h.qo;have bW:¬rA l g y vs w.heap.size:=aV.qo;have⟨dx,B7,z,V,cZ,cK,HB,HK,A⟩:=AV av b7 (bK.trans aI.any) (bC.ext aI) aj ak hB hK hO;have⟨aA,W⟩:=jw bU bW;clear h hi ak bP av aI b7 bC bK aj hB hK hO af bU bW;go_wp2_with fail;rw[<-dx.o];refine(MZ V I).mono ?_;rintro a w6 ⟨K,dI,⟨C,rfl⟩|⟨e,C,rfl,eY,eZ,n,aN⟩⟩
    . refine⟨rfl,(HK.look z (A.le (VS _))).look K (A.le (VS _)),dI,.inl ⟨_,?_,rfl⟩⟩;rw[X.o,C]
    have df:=(Kn.kp (Kn.kp cZ bF z (kN.refl _ _ _) aO) V K aN aO);obtain⟨cs,Q⟩:=df;obtain⟨la,lc,rfl⟩:=jS n.loc;obtain⟨sa,sc,rfl⟩:=jS n.kY;obtain⟨S,T,rfl⟩:=jS Q.2.1;replace X:Zz (lH p k m m.code 0 true s []=match jQ p k m ⟨c,ia,nm,ae⟩ e with
        |none=>.inl ((b:Int)+1)
        |some N=>lH p k m (m.code.drop (b+1)) (b+1) (decide ((c:Int)≠10)&&decide ((c:Int)≠13)) N (f++[e])):=Zy (by rw[X.o,C])
    have aR:¬(Value.slice S f.length T).ownBlock=some g:=fun a=>by
     obtain⟨ai,hb⟩:=pG Q.2.1 a;exact absurd (jq.inj hb n.blk) Zn
    have dN:¬(Value.slice S f.length T).ownBlock=some wr.heap.size:=fun a=>by
     obtain⟨ai,hb⟩:=pG Q.2.1 a;exact absurd (jq.inj hb (B7.o.kp K aA.o)) Zn
    have dO:¬(Value.slice S f.length T).ownBlock=some w.heap.size:=fun a=>by
     obtain⟨ai,hb⟩:=pG Q.2.1 a;exact absurd (jq.inj hb ((HB.o.kp z.o (rA.sub W.o A.o aa)).kp K (rA.sub W.o A.o aa))) Zn
    obtain⟨dz,dE,dL,B⟩:=tN.ex (fun W'=>Kp (fun Z=>(Value.slice S f.length T).ownBlock=some Z) w6 W') _ Kp.rr;have dP:=fun O=>(n.blk.kp (B.jC O) aR).c 11 (.slice la e.locals.length lc) rfl;have dQ:=fun O=>(n.blk.kp (B.jC O) aR).c 12 (.slice sa e.stack.length sc) rfl;have ed:=n.blk.lt;have⟨u,r,H,az,bq⟩:=nC B n Q K aN;have ek:e.locals.length<=6:=Tf n.Pj n.mi.locals
    have eP:e.stack.length<=5:=Tf n.Q8 n.mi.stack
    have dY:(w:Nat)+1<=(w6:Nat):=Tf K.size z.size
    clear n Q K aN B C;go_wp2_with fail;refine lq u 14 [([0,1,2,3,4,6,7,8,9],5),([],10),([11],12),([],13)] [] ?_ ?_
    . exact jA
    refine nE ?_;intro x i;go_wp2_with fail;refine(uT (uj (r.ext jA).loc (qR rY _)) Zm).mono ?_;rintro a w7 ⟨⟨c1,rfl,aP⟩,bJ⟩;obtain⟨aB,aC,rfl⟩:=jS aP;have bI:=((Kp.refl _ w6).drew:Ext w6 _).trans bJ;have⟨ag,dm⟩:=jw bI aP;clear aP bJ bI;go_wp2_with fail;refine kk u i ag.any ?_;clear i x;refine mF rfl fun x i=>?_;go_wp2_with fail;refine(uT (uj (r.ext ag).kY (qR rY _)) Zm).mono ?_;rintro a w8 ⟨⟨dS,rfl,aQ⟩,aJ⟩;obtain⟨aD,aF,rfl⟩:=jS aQ;have⟨P,cz,dn⟩:=jI (ag.trans aJ) aJ aQ;clear aQ aJ;go_wp2_with fail;refine kk u i P.any ?_;clear i x;refine nE ?_;intro x i;go_wp2_with fail;refine kk u i (P.alloc _).any ?_;clear i x;refine mF rfl fun x i=>?_;refine jF IZ rfl (.tmp 27) (.tmp 39) rfl w (.slice S f.length T) f.length _ rfl (jr (D:=fun _=>False) H.2.1 (P.alloc _) fun _ _ _ d=>d) w8 1 [.slice aB e.locals.length aC,.slice aD e.stack.length aF] rfl rfl (hQ.KO _ _ rfl) Zt (Te bg.o) (by simp;have:=P.size;omega) ?_;intro g9 c9 w9 bN aL bQ;change x _ _;have F:=(P.alloc _).any.trans aL;refine kk u i F ?_;clear i x;have bE:jO w9 l p U g k m ⟨a1,c1,some ⟨Z,aU,none⟩,c2,a3,c3⟩ b e (.slice la e.locals.length lc) (.slice sa e.stack.length sc):=by
     have eH:=r.lM.ord;have dV:=r.hB;have bT:=fun d a=>(H.2.1.lt d a).1;have dX:=aV.lM.lt;refine r.kp' F (r.lM.kp F (fun d hx a=>Te (bT d a))) aR (fun d hx a=>?_) (fun d hx a=>?_) (fun d hx a=>Te (bT d a))
     . obtain⟨ai,o⟩:=pG H.2.1 a;obtain⟨dA,q⟩:=pG r.loc hx;exact absurd (jq.inj o q) Zn
     . obtain⟨ai,o⟩:=pG H.2.1 a;obtain⟨dA,q⟩:=pG r.kY hx;exact absurd (jq.inj o q) Zn
    have bG:=(B7.kp az aA).kp F dN;have bH:=((HB.kp z (rA.sub W A aa)).kp az (rA.sub W A aa)).kp F dO;have bS:Kn w9 w (g9,f.length+1,c9) (.slice la e.locals.length lc) (.slice sa e.stack.length sc) (f++[e]):=by
     have hI:∀d,w6.heap.size<=d->d<(w8.alloc (.cells #[.slice aB e.locals.length aC,.slice aD e.stack.length aF] 195)).heap.size→
         J6 (w8.alloc (.cells #[.slice aB e.locals.length aC,.slice aD e.stack.length aF] 195)) w (.slice S f.length T) (.slice la e.locals.length lc) (.slice sa e.stack.length sc) d:=fun d o q=>
      ⟨Zm,q,fun a=>Te ((H.o.2.1.lt d a).2),fun a=>Te ((r.o.loc.lt d a).2),fun a=>Te ((r.o.kY.lt d a).2)⟩
     have eT:=ag.size;refine(N8.ext H (P.alloc _)).snoc ?_ ?_ bN aL (fun d a=>?_)
     . exact SliceOf.mD (R:=jZ) kG (jr (D:=fun _=>False) dm (cz.alloc _) fun _ _ _ d=>d) rfl rfl (fun _ _=>rfl) (fun _ _=>rfl) (fun d o q=>hI d (by simpa using o) q) Zm
     . exact SliceOf.mD (R:=jZ) kG (jr (D:=fun _=>False) dn (kx:Ext w8 _) fun _ _ _ d=>d) rfl rfl (fun _ _=>rfl) (fun _ _=>rfl) (fun d o q=>hI d Zm q) Zm
     . have e':g9=d:=by simpa [Value.ownBlock]using a
       subst e';rcases bQ with j|j
       . exact .inl j
       . right;omega
    have⟨aW,aX,aY,dh⟩:=kD bE bG bH bS;have bf:=Zy (by
     have o:=(HK.look z (A.le (VS _))).look az (A.le (VS _));exact o.own F (fun d a=>(H.2.1.lt d a).1))
    have ah:=Zy (A.trans bq (Te z.size));have eU:=F.size;have bV:=rA.sub aA bq (by have:=B7.lt;exact this);have bX:=rA.sub W ah aa;clear bE bG bH bS bN aL bQ F u dP dQ;refine lD ?_;go_wp2_with fail;obtain⟨dz,dE,dL,B⟩:=tN.ex (fun W'=>Kp (rA l g (.slice la e.locals.length lc) (.slice sa e.stack.length sc)) w9 W') _ Kp.rr;obtain⟨-,r0,r1,r2,r3,-⟩:=jq.pq fun O=>(aX.kp (B.jC O) bV);have rf:=fun O=>(aY.kp (B.jC O) bX).c c _ (MU au.1 au.2);have eD:(c:Int)<16:=Zm
    have eB:(0:Int)<=c:=Zm
    have u:=Zy B;have dJ:=O1 au.1 au.2;clear B;refine lq u 7 [([0,1,2,3,4,5],6)] [] ?_ ?_
    . exact jA
    refine nE ?_;intro x i;go_wp2_with fail;refine(O8 (aW.ext jA) ⟨c,ia,nm,ae⟩ c rfl cK).mono ?_;rintro a G aK;replace aK:=jX.behind ((Kp.refl _ w9).drew) aK;rcases aK with⟨J,bM,⟨C,rfl⟩|⟨N,C,rfl,ax,ay,bB,aM⟩⟩
    . refine⟨rfl,bf.look J (ah.le (VS _)),bM,.inl ⟨_,?_,rfl⟩⟩;rw[X.o,C]
    have bO:=aX.kp J bV;have y0:=bO.c 0 c rfl;have cB:Zz (jO G l p U g k m ⟨a1,c1,some ⟨Z,aU,none⟩,c2,a3,c3⟩ b N ax ay/\kN (w+1) y vs ax ay/\Kp (rA l g y vs) w G/\
        Kn G w (g9,f.length+1,c9) ax ay (f++[e])/\jq G w 267 Eu/\
        lH p k m m.code 0 true s []=lH p k m (m.code.drop (b+1)) (b+1) (decide ((c:Int)≠10)&&decide ((c:Int)≠13)) N (f++[e])):=
     Zy ⟨bB,ah.trans aM Zm,bf.look J (ah.le (VS _)),Kn.kp dh aW J aM aO,aY.kp J bX,by rw[X.o,C]⟩
    have cO:=Zy J;clear bO J bM bB aM C r0 r1 r2 r3 rf dJ;go_wp2_with fail;refine kk u i cO ?_;clear i x;clear u;refine Hr rfl ?_;have bz:∀aG:Bool,aG=(decide ((c:Int)≠10)&&decide ((c:Int)≠13))->∃(q':Nat)(bA:Bool)(L:lU)(Y:Int)(D E:Value)(aT:List lU),q'<=m.code.length/\Value.bool aG=.bool bA/\Value.int .i64 ((b:Int)+1)=.int .i64 q'/\
        jO G l p U g k m ⟨a1,c1,some ⟨Z,aU,none⟩,c2,a3,c3⟩ Y L D E/\kN (w+1) y vs D E/\
        Kp (rA l g y vs) w G/\Kn G w (g9,f.length+1,c9) D E aT/\aT.length=q'/\jq G w 267 Eu/\Zz (lH p k m m.code 0 true s []=lH p k m (m.code.drop q') q' bA L aT):=by
     rintro aG rfl;obtain⟨o,q,h3,h4,h5,h6⟩:=cB.o;exact⟨b+1,_,N,b,ax,ay,f++[e],Zm,rfl,Zl,o,q,h3,h4,by have:=bg.o;simp[this],h5,Zy h6⟩
    have aZ:=Zy bz;have eQ:IntKind.i64.wrap ((b:Int)+1)=b+1:=TM _ Zm;clear bz;by_cases bY:c=10
    . subst bY;go_wp2_with fail;exact⟨aZ _ rfl,Zj⟩
    . have dU:((c:Int) !=10)=true:=TE.2 Zm;obtain⟨dC,dH⟩:∃dB,((c:Int) !=13)=dB:=⟨_,rfl⟩;have hd:Zz (dC=(decide ((c:Int)≠10)&&decide ((c:Int)≠13))):=Zy (by
       rw[<-dH,Tw (by omega:(c:Int)≠10),TJ];by_cases j:(c:Int)=13
       . rw[j];rfl
       . rw[TE.2 j,Tw j])
      clear bY;go_wp2_with fail;exact⟨aZ _ hd,Zj⟩
  . have dM:b=m.code.length:=Zm
    have HQ:Zz (lH p k m m.code 0 true s []=if I then .inl ((m.code.length:Int)+1)else .inr f):=Zy (by rw[af.o,U7 Zm,dM];rfl);have⟨di,bn⟩:=jw aj hK;obtain⟨-,-,-,-,-,-,-,-,-,e8,-,dD,-⟩:=h.blk.ca;have dF:=h.blk.frozen 10;obtain⟨bD,bL⟩:=h.setAt m.code.length Zm;have⟨V,z,dw⟩:=jI bD bL hO;clear h hB hK aj hO bD bL af;cases I
    . go_wp2_with fail;refine PG (v:=u4) (by simp[results,results152,go_sem]) rfl ?_;exact⟨bn,bF.lM,.inr ⟨_,_,_,_,HQ,rfl,di⟩⟩
    . go_wp2_with fail;refine(nI g m.code.length (V.blk.c 10 _ rfl) Zm Zm).mono ?_;rintro a w3 ⟨rfl,rfl⟩;exact⟨rfl,bn.look z (dw.le (VS _)),V.lM,.inl ⟨_,HQ,rfl⟩⟩
theorem PX(x:Value)(w:World):(Instr.typeAssert (.iface 240 x) 20 240 true).run prog w=.ok (.tuple #[x,.bool true]) w:=by kernel_rfl
theorem Jk(w:World){a b:Nat}{l m:Value}(d:jq w a 142 #[l])(e:jq w b 3 #[m])(n:Int)(k:List PanicEntry):
    CallsD prog 151 #[some a,some b] (.panicking ({v:=.iface 240 (.agg #[n]),recovered:=false}::k)) w fun f u h=>
     f=.returned (.tuple #[])/\u=.panicking ({v:=.iface 240 (.agg #[n]),recovered:=true}::k)/\Kp (fun c=>c=a\/c=b) w h/\jq h a 142 #[()]/\jq h b 3 #[n]:=by
 have i:a≠b:=fun f=>by subst f;exact absurd (jq.inj d e) Zn
 have⟨o,p⟩:=jw d e;refine callsD_of_wpS func151 rfl fun y x s=>?_;apply wpS_seq;apply wpS_region;simp[wpOpsS,go_sem,recoverD,s,ntmps151,Exit.thenS];refine wpS_of_wp ?_;simp only[Un,Um,UR,Uf,TZ,TR,TI,U1,U9];have B:=d.c 0 l rfl;have C:=e.c 0 m rfl;have E:=d.lt;have F:=e.lt;have z:=d.frozen 0;have A:=e.frozen 0;have D:=PX;clear d e;go_wp2_with fail;go_region_with (fail)
 all_goals
  have t:Kp (fun c=>c=a\/c=b) w (w.setCell a ()):=(Kp.refl _ w).setCell (p:=⟨a,0,none⟩) (fun _=>.inl rfl) _;have j:Kp (·=b) (w.setCell a ()) ((w.setCell a ()).setCell b n):=qM;have g:Ext ((w.setCell a ()).setCell b n) ((((w.setCell a ()).setCell b n).alloc (.cells #[n] 240)).drew):=(jJ _).drew;have q:jq (w.setCell a ()) a 142 #[()]:=o.jR 0 _;have r:jq ((w.setCell a ()).setCell b n) b 3 #[n]:=
   (p.kp ((Kp.refl (·=a) w).setCell (p:=⟨a,0,none⟩) (fun _=>rfl) ()) (Ne.symm i)).jR 0 _
  exact⟨rfl,_,rfl,.tuple #[],by simp[results,results151,go_sem],rfl,rfl,(t.trans (j.weak fun c _ f=>.inr f)).trans g.any,(q.kp j i).ext g,r.ext g⟩
theorem MX:CallsD prog 151 #[some a,some b] .returning w fun d f g=>d=.returned (.tuple #[])/\f=.returning/\g=w:=by
 refine callsD_of_wpS func151 rfl fun c h e=>?_;apply wpS_seq;apply wpS_region;simp[wpOpsS,go_sem,recoverD,e,ntmps151,Exit.thenS];refine wpS_of_wp ?_;simp only[Un,Um,UR,Uf,TZ,TR,TI,U1,U9];go_wp2_with fail;exact⟨rfl,_,by cases c;simp_all,.tuple #[],by simp[results,results151,go_sem],rfl,rfl,rfl⟩
def RU(Q:Exit->Act->World->Prop):Exit->Act->World->Prop
 | .panic _,_,_=>False
 |e,a,w=>Q e a w
theorem yU{id:Nat}{Q:Exit->Act->World->Prop}{a:Act}{l:List Oper}{g:Type}(f:g->World)(n:Nat)(d:List (List Nat×Nat))(q:List Nat)(h0:∃c,w.drew=f c)(k:P.follows .mixedOrders=true)(j:Ej l.toArray n d q=true)(b:uE P l (fun e=>∃c,e=f c) (RU Q) (fun h e=>wpList P l.toArray (RU Q) (l.drop n) h e) d q a w.drew):(Code.region id l.toArray true).wp P Q a w:=
 Code.wp_mono (Q:=RU Q) (fun i _ _ b=>by cases i<;>first|exact b|exact b.elim) (xD f n d q h0 k j (fun _ _ _ _ _ b=>b) b)
theorem M5(a:n<=6):(madeCells (Value.agg #[Tj,""]).cells (n*2)).toList=(List.replicate n wU).flatMap kG:=by
 have:n=0\/n=1\/n=2\/n=3\/n=4\/n=5\/n=6:=Zm
 rcases this with rfl|rfl|rfl|rfl|rfl|rfl|rfl<;>(show _=_;kernel_rfl)
theorem J2{t: Nat}(o:Elem t d k){z:Value}(e:(prog.info? d).map (·.zero)=some (some z))(w:World){m:Array Oper}{rest:List Oper}{f:Oper}{a:Act}{Q:Exit->Act->World->Prop}(r:f.guard=none)(x y:Operand)(u:f.op=Op.makeSlice t x y)(base n:Nat)(B:a.eval x=.int .i64 n)(C:a.eval y=.int .i64 n)(s:n<=1000)(q:base<=w)(p:∀b,b.ownsRow base d k (w,n,n) n (madeCells z.cells (n*k)).toList->Ext w b->w.heap.size<b->wpList prog m Q rest (a.put f.dst (w,n,n)) b):wpList prog m Q (f::rest) a w:=by
 obtain⟨l,H,bytes,A,h,j,v,E,G,i,D⟩:=o;rw[h]at e;simp only[Vy,TQ]at e;rw[e]at j;cases j;refine wpList_make_full w r x y t u base d l z k A h e v .i64 .i64 n n n B C rfl rfl ?_ (by unfold maxLen;omega) q ?_
 . have:l.bytes*n<=4096*1000:=Vg Zm s;omega
 . intro b g c;refine p b g ⟨c.os,c.tape,c.output,c.size,fun k i F=>c.block k i Zl⟩ (g.lt w rfl).2
theorem N8.low{c: World}{b: Value}{h:List lU}(s:N8 W S v b vs h cs)(e:Kp D W c)(f:∀a,S<=a->¬D a)(g:d<=S):N8 c d v b vs h cs:=by
 obtain⟨n,o,p⟩:=s;have j:∀a,J6 W S v b vs a->J6 c d v b vs a:=fun a ⟨q1,q2,q3⟩=>⟨TV g q1,Ta q2 e.size,q3⟩;have i:Same (J6 W S v b vs) W c:=Kp.same e fun a t=>f a t.1;refine⟨n,mP (jr o e (fun r _ x=>f r x)) g,fun y m q u w=>?_⟩;obtain⟨k,l⟩:=p y m q u w;exact⟨k.keep jZ.stays i j,l.keep jZ.stays i j⟩
def sZ(n:ByteArray)(m:M.Method)(q r:Nat):List Tag:=(kP n::(m.args.take q).map kH)++List.replicate r wU
theorem Kj{n:ByteArray}{r: Nat}(a:q<=m.args.length):(sZ n m q r).length=q+1+r:=by simp[sZ];omega
theorem Kk{n:ByteArray}{r: Nat}{k:Kind}(a:m.args[q]?=some k):(sZ n m q (r+1)).set (q+1) (kH k)=sZ n m (q+1) r:=by
 have d:=(Tt.1 a).1;have b:(kP n::(m.args.take q).map kH).length=q+1:=by simp;omega
 have c:m.args.take (q+1)=m.args.take q++[k]:=by rw[Td,a];rfl
 unfold sZ;rw[List.set_append_right _ _ Zm,b,Wh,c,List.replicate_succ];simp
theorem Ki{n:ByteArray}{r: Nat}(b:q<=m.args.length):(sZ n m q (r+1))[q+1]?=some wU:=by
 have a:(kP n::(m.args.take q).map kH).length=q+1:=by simp;omega
 unfold sZ;rw[TF Zm,a,Wh];rfl
theorem KH(az:jD w l p)(x:pU)(hx:kg p x=true):Calls prog 114 #[.pointer (some ⟨l.L,0,none⟩),.agg #[.int .i64 x.of.keeper,.string x.of.name,.int .i64 x.at_]] w fun b w'=>Kp (·=l.D) w w'/\jD w' l p/\∃K vl vs,b=.returned (.tuple #[K,.int .i64 (M.look p x).2])/\Kn w' w.heap.size K vl vs (M.look p x).1:=by
 obtain⟨⟨j,h⟩,y⟩:=x;have au:=qE (lT az.ok hx).1;obtain⟨a,hm⟩:∃a,M.method p ⟨⟨j,h⟩,y⟩=a:=⟨_,rfl⟩;have bL:∀(fn:Fn)(first bA:Array Value)(w:World),(Instr.makeFunc fn first bA).run prog w=.ok (.func fn first bA) w:=fun _ _ _ _=>rfl;obtain⟨w0,Z⟩:∃w0,w0=((w.alloc (.cells #[.int .i64 j,.string h,.int .i64 y] 66)).alloc (.cells #[.slice none 0 0] 142)).alloc (.cells #[.int .i64 0] 3):=⟨_,rfl⟩;have bE:Ext w w0:=by rw[Z];exact kx
 have b3:jq w0 w.heap.size 66 #[.int .i64 j,.string h,.int .i64 y]:=by rw[Z];exact(jq.new _ _ _).ext kx
 have b4:jq w0 (w.heap.size+1) 142 #[.slice none 0 0]:=by rw[Z];exact(jq.newAt (W:=w.alloc (.cells #[.int .i64 j,.string h,.int .i64 y] 66)) (g:=w.heap.size+1) _ _ Zl).ext kx
 have b5:jq w0 (w.heap.size+2) 3 #[.int .i64 0]:=by rw[Z];exact jq.newAt _ _ Zl
 have⟨cK,bg,aK,bT,aZ,aI,HX,HM,dQ⟩:=AV Z bE b3 b4 b5 az hx hm bL;have di:=az.lt;clear Z bE b3 b4 b5 az hx hm bL;go_enter_defers func114,ntmps114;go_wp2_with fail;rw[<-cK.o];refine(mY _ _ _ (aI.o.ext bg.o) ⟨⟨j,h⟩,y⟩ HX.o).mono ?_;rintro b w1 ⟨⟨cs,aF,rfl⟩,bF⟩;rw[HM.o]at aF au;obtain⟨dM,rfl⟩:=ql aF;obtain⟨E,B,F,H,G,I⟩:=dM;obtain⟨n,hn⟩:∃n:Nat,a.locals=n:=⟨a.locals.toNat,by have:=au.args;omega⟩;obtain⟨d,aa⟩:∃d,d=w1.alloc (.cells (oC a ⟨E,B,F,H,G,I⟩).toArray 113):=⟨_,rfl⟩;have aN:Ext w1 d:=by rw[aa];exact kx
 have b6:jq d w1.heap.size 113 (oC a ⟨E,B,F,H,G,I⟩).toArray:=by rw[aa];exact jq.new _ _ _
 have ai:=bF.trans aN;obtain⟨bz,f,bN,m⟩:=lL d;have dA:=fun z=>((aK.o.ext ai).ext (m.jC z)).c 0 (.int .i64 j) rfl;obtain⟨-,dC,dD,dE,dF,-⟩:=jq.pq fun z=>(b6.ext (m.jC z));have dG:=fun z=>(b6.ext (m.jC z)).c 4 (.int .i64 n) (by rw[<-hn];rfl);obtain⟨-,-,-,-,-,-,dH,dI,dJ,-⟩:=jq.pq fun z=>(b6.ext (m.jC z));have⟨v,dR,bn,aM,cu,bf,af,X⟩:=Em m aa (bg.o.trans ai) ai (kE.ext jy.stays aN aF) b6 au hn;have dw:n<=6:=by have:=au.locals;omega
 have ek:w.heap.size+3<=d.heap.size:=by have:=ai.size;have:=aZ.o.lt;omega
 clear bF aN b6 ai m aF au;simp only[oC,hn]at aa;have cO:=Zy aa;clear aa hn;simp only[oC,X.o];go_wp2_with fail;rw[<-cO.o];refine yU f 10 [([0,1,2,3,4,5,6],7),([8],9)] [] (v.o.o _ ?_) Zo Zo ?_
 . exact jA
 refine nE ?_;intro L A;refine J2 nH (z:=.agg #[.int .i64 0,.string ⟨#[]⟩]) Zo _ rfl (.tmp 19) (.tmp 19) rfl w.heap.size n rfl rfl Zm Zr ?_;intro C aU bG eF;change L _ _;simp only[Act.put,TI,U1,U9];rw[M5 dw]at aU;have aO:=((Kp.refl _ d).drew:Ext d _).trans bG;refine kk v A aO ?_;clear A L;have⟨ax,cz⟩:=jw aO aU;clear bG aO aU;refine nE ?_;intro L A;go_wp2_with fail;obtain⟨D,av⟩:∃D,D=C.alloc (.cells #[.pointer (some ⟨l.L,0,none⟩),.int .i64 j,.string a.name,.slice E a.args.length B,.int .i64 a.ret.kind,.string a.ret.name,.int .i64 n,.int .i64 a.stack,.slice F a.code.length H,.slice G a.maps.length I,.int .i64 0,.slice (some ⟨d.heap.size,0,none⟩) n n,.slice none 0 0] 235):=⟨_,rfl⟩;have T:Ext C D:=by rw[av];exact kx
 have bI:jq D C.heap.size 235 (KG l.L j a ⟨E,B,F,H,G,I⟩ 0 (.slice (some ⟨d.heap.size,0,none⟩) n n) (.slice none 0 0)):=by
  unfold KG;rw[av,X.o];exact jq.new _ _ _
 refine kk v A (ax.o.alloc _) ?_;clear A L;rw[<-av];have aA:=ax.o.trans T;have bB:jO D l p w.heap.size C.heap.size j a ⟨E,B,F,H,G,I⟩ 0 ⟨List.replicate n wU,[]⟩ (.slice (some ⟨d.heap.size,0,none⟩) n n) (.slice none 0 0):=
  ⟨aI.o.ext (bn.o.trans aA),di,(by have:=ax.o.size;omega),kE.ext jy.stays aA cu.o,af.o,bI,
   (by rw[UA];exact jr cz.o T (fun _ _ _ x=>x)),Uw _ _ _ _,(fun g _ b=>by cases b),Zm,(by have:=af.o.PW;simp;omega),(by rw[UA];exact X.o.symm)⟩
 have⟨aX,ae,dS⟩:=jI bB aA av;clear av T bI aA bB v dA dC dD dE dF dG dH dI dJ;refine lD ?_;go_wp2_with fail;simp only[RU];go_wp2_with fail;obtain⟨c,rfl⟩:∃c,n=c+1:=⟨n - 1,by have:=af.o.args;have:=X.o;omega⟩;obtain⟨bz,f,bN,m⟩:=lL D;have aW:=fun z=>(aX.o.ext (m.jC z)).blk.c 11 (.slice (some ⟨d.heap.size,0,none⟩) (c+1) (c+1)) rfl;have dB:=fun z=>(((aK.o.ext aM.o).ext ae.o).ext (m.jC z)).c 1 (.string h) rfl;have v:=Zy m;clear m;refine yU f 8 [([0,1,2,3,4,5,6],7)] [] (v.o.o _ ?_) Zo Zo ?_
 . exact jA
 refine nE ?_;intro L A;go_wp2_with fail;refine(zo _ h).mono ?_;rintro b w5 ⟨rfl,aj⟩;have Q:=Zy (((Kp.refl _ D).drew:Ext D _).trans aj);clear aj;go_wp2_with fail;refine kk v A Q.o ?_;clear A L;have R:=aX.o.ext Q.o;have U:=R.loc;obtain⟨dh,J⟩:=pG U rfl;obtain⟨x0,x1⟩:=(l5 (enc:=kG) (k:=2) (fun _=>rfl) (l:=List.replicate (c+1) wU) (by simpa using U) (i:=0) (x:=wU) Zl).two;rw[UM]at x0 x1;have f0:=J.frozen 0;have f1:=J.frozen 1;have bQ:=J.lt;have bR:=Zy R;clear R U J v aW dB;refine lD ?_;go_wp2_with fail;simp only[RU];have ag:jO w5 l p w.heap.size C.heap.size j a ⟨E,B,F,H,G,I⟩ 0 ⟨List.replicate (c+1) wU,[]⟩ (.slice (some ⟨d.heap.size,0,none⟩) (List.replicate (c+1) wU).length (c+1)) (.slice none 0 0):=by
  rw[UA];exact bR.o
 obtain⟨ah,-⟩:=ag.vJ 0 (kP h);obtain⟨w6,aG⟩:∃w6,w6=(w5.setCell ⟨d.heap.size,0,none⟩ (.int .i64 (kP h).kind)).setCell ⟨d.heap.size,1,none⟩ (.string (kP h).name):=⟨_,rfl⟩;have aP:Kp (·=d.heap.size) D w6:=by
  rw[aG];exact(Q.o.any).trans (((Kp.refl (·=d.heap.size) w5).setCell (p:=⟨d.heap.size,0,none⟩) (fun _=>rfl) _).setCell (p:=⟨d.heap.size,1,none⟩) (fun _=>rfl) _)
 rw[<-aG];replace ah:jO w6 l p w.heap.size C.heap.size j a ⟨E,B,F,H,G,I⟩ 0 ⟨sZ h a 0 c,[]⟩ (.slice (some ⟨d.heap.size,0,none⟩) (c+1) (c+1)) (.slice none 0 0):=by
  rw[UA]at ah;rw[aG];exact ah
 have dV:a.args.length<=c:=by have:=af.o.args;have:=X.o;omega
 have dW:=af.o.IK;have y1:=((bf.o.ext ae.o).kp aP (by have:=bf.o.lt;omega)).c 1 (.slice E a.args.length B) rfl;have⟨bS,bX⟩:=jw ah aP;clear ag ah aP aG x0 x1 f0 f1 bQ;go_wp2;go_loopw [35] (fun i wr=>∃e:Nat,e<=a.args.length/\i=.int .i64 e/\jO wr l p w.heap.size C.heap.size j a ⟨E,B,F,H,G,I⟩ 0 ⟨sZ h a e (c - e),[]⟩ (.slice (some ⟨d.heap.size,0,none⟩) (c+1) (c+1)) (.slice none 0 0)/\Kp (·=d.heap.size) D wr) (fun i _=>a.args.length - (intOf i).toNat)
 case atStart=>exact⟨0,Tz _,rfl,bS.o,bX.o⟩
 case round=>
  obtain⟨e,hq,rfl,N,Y⟩:=hrel;by_cases dn:e<a.args.length
  . obtain⟨⟨kq,kn⟩,hy⟩:=nV a.args e dn;obtain⟨o,dz,cs,rfl,dU,rfl,-,bJ⟩:=(jy.args N.ml).get hy;obtain⟨g0,g1⟩:=bJ.two;have gz:=jv g0;obtain⟨r,hr⟩:∃r,c - e=r+1:=⟨c - e - 1,by omega⟩;rw[hr]at N;have dx:c - (e+1)=r:=by omega
    obtain⟨W4,bH,T,b9⟩:=nu wr #[.int .i64 kq,.string kn] 109;obtain⟨bz,f,bN,m⟩:=lL W4;have aW:=fun z=>((N.ext T).ext (m.jC z)).blk.c 11 (.slice (some ⟨d.heap.size,0,none⟩) (c+1) (c+1)) rfl;obtain⟨-,dK,dL,-⟩:=jq.pq fun z=>(b9.ext (m.jC z));have⟨v,aJ,bZ,bq,df⟩:=nC m N Y T bH;have ed:(e:Int)<a.args.length:=by omega
    have eB:IntKind.i64.wrap ((e:Int)+1)=e+1:=TM _ Zm;clear m N Y T bH b9 bJ;go_wp2_with fail;rw[<-df.o];refine yU f 8 [([0,1,2,3,4,5,6],7)] [] (v.o.o _ ?_) Zo Zo ?_
    . exact jA
    refine nE ?_;intro L A;go_wp2_with fail;refine(Ci _ ⟨kq,kn⟩).mono ?_;rintro b w5 ⟨rfl,aj⟩;have Q:=Zy (((Kp.refl _ W4).drew:Ext W4 _).trans aj);clear aj;go_wp2_with fail;refine kk v A Q.o ?_;clear A L;have R:=aJ.o.ext (bq.o.trans Q.o);have U:=R.loc;have aC:=Kj (n:=h) (r:=r+1) hq;have aB:e+1+(r+1)=c+1:=by omega
    obtain⟨dh,J⟩:=pG U rfl;obtain⟨x0,x1⟩:=(l5 (enc:=kG) (k:=2) (fun _=>rfl) (l:=sZ h a e (r+1)) (by simpa [aC,aB]using U) (Ki hq)).two;have f0:=J.frozen ((e+1)*2);have f1:=J.frozen ((e+1)*2+1);have bQ:=J.lt;have dX:(e:Int)+1<c+1:=by omega
    have ag:jO w5 l p w.heap.size C.heap.size j a ⟨some ⟨o,dz,none⟩,B,F,H,G,I⟩ 0 ⟨sZ h a e (r+1),[]⟩ (.slice (some ⟨d.heap.size,0,none⟩) (sZ h a e (r+1)).length (c+1)) (.slice none 0 0):=by
     rw[aC,aB];exact R
    have cB:=Zy (ag.vJ (e+1) (kH ⟨kq,kn⟩)).1;have⟨HL,HY⟩:=jw (aC.trans aB) hy;clear R ag U J v aW dK dL aC aB hy;refine lD ?_;go_wp2_with fail;simp only[RU];go_wp2_with fail;refine⟨⟨e+1,by omega,by simp,?_,?_⟩,by simp[intOf];omega⟩
    . rw[dx];have:=cB.o;rw[HL.o]at this;rw[<-Kk HY.o];exact this
    . refine bZ.o.trans ((bq.o.trans Q.o).any.trans ?_);exact qM
  . have bO:e=a.args.length:=by omega
    have bP:(⟨sZ h a e (c - e),[]⟩:lU)=rW ⟨⟨j,h⟩,y⟩ a:=by
     unfold sZ rW;rw[bO,TA,X.o];congr 3;simp
    rw[bP]at N;have aD:Zz (M.look p ⟨⟨j,h⟩,y⟩=match lH p j a a.code 0 true (rW ⟨⟨j,h⟩,y⟩ a) []with
     | .inl n=>([],n)
     | .inr l=>(l,0)):=Zy (by unfold M.look;rw[HM.o];rfl)
    have aR:=(bn.o.trans ae.o).own Y (fun o b=>by omega);have bC:=((bT.o.ext aM.o).ext ae.o).kp Y Zm;have bD:=((aZ.o.ext aM.o).ext ae.o).kp Y Zm;have⟨aJ,dP,aY,aL⟩:=kD N aR bC bD;have dY:=aK.o.lt;have eu:=ax.o.size;have dZ:=aI.o.ord;have bK:∀o,w.heap.size<=o->o<w.heap.size+3->¬rA l C.heap.size (.slice (some ⟨d.heap.size,0,none⟩) (c+1) (c+1)) (.slice none 0 0) o:=fun o h1 h2=>by
     rintro(b|b|b|b)
     . omega
     . omega
     . have:d.heap.size=o:=by simpa [Value.ownBlock]using b
       omega
     . cases b
    have ay:=Zy bK;have bM:∀W,Kp (rA l C.heap.size (.slice (some ⟨d.heap.size,0,none⟩) (c+1) (c+1)) (.slice none 0 0)) wr W->Kp (·=l.D) w W:=fun W hW=>aR.any.mix hW (fun k hk b=>by
     rcases b with b|b|b|b
     . exact b
     . omega
     . have:d.heap.size=k:=by simpa [Value.ownBlock]using b
       omega
     . cases b)
    have bu:=Zy bM;clear bM;clear N Y aR bC bD bO bP bK;go_wp2_with fail;refine(Jl aJ.o).mono ?_;rintro b u ⟨P,aS,⟨n',ho,rfl⟩|⟨q,K,dN,dO,ho,rfl,dm⟩⟩
    . have S:=aY.o.kp P (ay.o _ Zm Zm);have O:=aL.o.kp P (ay.o _ Zm Zm);have ak:=bu.o _ P;refine leaves_cons (f:=151) (args:=#[.pointer (some ⟨w.heap.size+1,0,none⟩),.pointer (some ⟨w.heap.size+2,0,none⟩)]) Zl (by simp[go_sem]) ?_;refine(Jk u S O n' []).mono ?_;rintro b u' V ⟨rfl,rfl,aQ,h4,h5⟩;have c4:=h4.c 0 (.slice none 0 0) rfl;have c5:=h5.c 0 (.int .i64 n') rfl;have hF:Kp (·=l.D) w V/\jD V l p/\∃K vl vs,Ending.returned (.tuple #[.slice none 0 0,.int .i64 n'])=.returned (.tuple #[K,.int .i64 (M.look p ⟨⟨j,h⟩,y⟩).2])/\Kn V w.heap.size K vl vs (M.look p ⟨⟨j,h⟩,y⟩).1:=by
       refine⟨ak.own aQ (fun k b=>by omega),aS.kp aQ (fun o hb b=>by omega),.slice none 0 0,.slice none 0 0,.slice none 0 0,?_,?_⟩
       . rw[aD.o,ho]
       . rw[aD.o,ho];exact Kn.nil _ _ _ _
      have HF:=Zy hF;clear S O ak aQ h4 h5 hF P aS;have hF:=HF.o;simpa [Leaves,settle,results,results114,go_sem,c4,c5]using hF
    . obtain⟨ks,aT⟩:=dm;obtain⟨s,t,rfl⟩:=jS aT.2.1;have S:=aY.o.kp P (ay.o _ Zm Zm);have O:=aL.o.kp P (ay.o _ Zm Zm);have ak:=bu.o _ P;have c4:=S.c 0 (.slice none 0 0) rfl;have c5:=O.c 0 (.int .i64 0) rfl;have f4:=S.frozen 0;have f5:=O.frozen 0;have eG:=O.lt;have⟨bU,bV,bW,bY⟩:=kD S O ak aT;clear S O ak aT P;go_wp2_with fail;refine leaves_cons (f:=151) (args:=#[.pointer (some ⟨w.heap.size+1,0,none⟩),.pointer (some ⟨w.heap.size+2,0,none⟩)]) Zl (by simp[go_sem]) ?_;refine(MX).mono ?_;rintro b u' V ⟨rfl,rfl,rfl⟩;have k1:Kp (·=w.heap.size+1) u (u.setCell ⟨w.heap.size+1,0,none⟩ (.slice s q.length t)):=qM;have k2:Kp (·=w.heap.size+2) (u.setCell ⟨w.heap.size+1,0,none⟩ (.slice s q.length t)) ((u.setCell ⟨w.heap.size+1,0,none⟩ (.slice s q.length t)).setCell ⟨w.heap.size+2,0,none⟩ (.int .i64 0)):=qM;have aH:Kp (fun o=>o=w.heap.size+1\/o=w.heap.size+2) u ((u.setCell ⟨w.heap.size+1,0,none⟩ (.slice s q.length t)).setCell ⟨w.heap.size+2,0,none⟩ (.int .i64 0)):=(k1.weak fun o _ b=>.inl b).trans (k2.weak fun o _ b=>.inr b);have h4:jq ((u.setCell ⟨w.heap.size+1,0,none⟩ (.slice s q.length t)).setCell ⟨w.heap.size+2,0,none⟩ (.int .i64 0)) (w.heap.size+1) 142 #[.slice s q.length t]:=jq.kp (bU.o.jR 0 _) k2 Zm;have h5:jq ((u.setCell ⟨w.heap.size+1,0,none⟩ (.slice s q.length t)).setCell ⟨w.heap.size+2,0,none⟩ (.int .i64 0)) (w.heap.size+2) 3 #[.int .i64 0]:=(bV.o.kp k1 Zm).jR 0 _;have eD:w.heap.size+3<=wr.heap.size:=by have:=aL.o.lt;omega
      have hF:Kp (·=l.D) w ((u.setCell ⟨w.heap.size+1,0,none⟩ (.slice s q.length t)).setCell ⟨w.heap.size+2,0,none⟩ (.int .i64 0))/\jD ((u.setCell ⟨w.heap.size+1,0,none⟩ (.slice s q.length t)).setCell ⟨w.heap.size+2,0,none⟩ (.int .i64 0)) l p/\
          ∃K vl vs,Ending.returned (.tuple #[.slice s q.length t,.int .i64 0])=.returned (.tuple #[K,.int .i64 (M.look p ⟨⟨j,h⟩,y⟩).2])/\Kn ((u.setCell ⟨w.heap.size+1,0,none⟩ (.slice s q.length t)).setCell ⟨w.heap.size+2,0,none⟩ (.int .i64 0)) w.heap.size K vl vs (M.look p ⟨⟨j,h⟩,y⟩).1:=by
       refine⟨bW.o.own aH (fun k b=>by omega),aS.kp aH (fun o hb b=>by omega),.slice s q.length t,dN,dO,?_,ks,?_⟩
       . rw[aD.o,ho]
       . rw[aD.o,ho];exact N8.low bY.o aH (fun o hb b=>by omega) Zm
      have d4:=h4.c 0 (.slice s q.length t) rfl;have d5:=h5.c 0 (.int .i64 0) rfl;obtain⟨V,aV⟩:∃V,V=(u.setCell ⟨w.heap.size+1,0,none⟩ (.slice s q.length t)).setCell ⟨w.heap.size+2,0,none⟩ (.int .i64 0):=⟨_,rfl⟩;rw[<-aV]at hF d4 d5;have⟨HF,cZ⟩:=jw hF aV;clear hF k1 k2 aH h4 h5 c4 c5 f4 f5 aV;show Leaves _ _ _ _ _ _ _
      rw[show w.heap.size+1+1=w.heap.size+2 from rfl,<-cZ.o];have hF:=HF.o;simpa [Leaves,settle,results,results114,go_sem,d4,d5]using hF
theorem Np(w:World)(i A B e:TypeId)(g d n:Nat)(a:Addr)(h z k:Nat)(b:Array Value)(t:TypeId)(cs:List Value)(x:P.underlying i=some (.slice e))(j:(P.info? e).map (·.size)=some k)(q:w.heap[g]?=some (.cells b t (0,0)))(u:cs.length=Nat.min h d*k)(v:∀m c,cs[m]?=some c->w.cell? (a.add m)=some c)(p:cs.length<=b.size)(o:∀c∈cs,c.oneCell'=true):(Builtin.copy_ #[i,A] B #[(g,d,n),.slice (some a) h z]).run P w=.ok (goInt (Nat.min h d)) (w.setRow g (cs++b.toList.drop cs.length).toArray):=by
 have s:=run_loadCells_list (P:=P) w a cs v;have l:=run_storeCells_at P g 0 t cs 0 b w q (by simpa using p) o;simp only[Tk,UO,TZ]at l;cases f:P.info? e with
 |none=>simp[f]at j
 |some y=>
  have r:y.size=k:=by simpa [f]using j
  simp[Builtin.copy_,VU x,Builtin.lenOf,Builtin.firstCells,sizeOf,typeInfo,f,r,<-u,s,l]
theorem Nq(w:World)(g:Nat){cs:Array Value}(b:D g):Kp D w (w.setRow g cs):=
 ⟨rfl,rfl,rfl,by simp[World.setRow],fun d e c=>setRow_other w g d cs (fun a=>c (by subst a;exact b))⟩
theorem Iy{t: Nat}(A:Elem t d k)(w:World){z:Array Oper}{rest:List Oper}{h:Oper}{a:Act}{Q:Exit->Act->World->Prop}(J:h.guard=none)(p s:Operand)
    (O:h.op=.call {callee:=.builtin .copy,args:=#[p,s],argTypes:=#[t,t]}) (base g n c m l:Nat) (xs f:List Value) (G:a.eval p=.slice (some ⟨g,0,none⟩) n c) (P:w.ownsRow base d k (.slice (some ⟨g,0,none⟩) n c) n xs)
    (i:Addr) (R:a.eval s=.slice (some i) m l) (H:Flat w k (.slice (some i) m l) m f) (x:m<=n)
    (E:∀o,o.ownsRow base d k (.slice (some ⟨g,0,none⟩) n c) n (f++xs.drop (m*k))->Kp (·=g) w o->wpList prog z Q rest (a.put h.dst (goInt m)) o):
    wpList prog z Q (h::rest) a w:=by
 obtain⟨ah,ai,bytes,T,K,hz,S,aa,ag,hk,hb⟩:=A;obtain⟨e,⟨X,Y,B,_,C⟩,D⟩:=H;cases B;obtain⟨L,V⟩:=P;rcases V with⟨j,_⟩|⟨g',Z,b,j,I,r,u,M,af,U⟩
 . cases j
 . cases j;have v:Nat.min m n=m:=UN x;have N:m*k<=n*k:=W9 _ x;have ae:n*k<=c*k:=W9 _ u;have y:=Np (P:=prog) w t t h.type d g n c i m l k b d f T (by rw[K];simp[S]) r (by rw[v,e]) (C i rfl) (by rw[e];omega) D;rw[v]at y;refine Wx J fun W F=>?_;unfold Oper.wp;simp[execOp,O,resolve,invoke,builtin,G,R,y,Result.andThen];refine F _ _ (E _ ⟨?_,.inr ⟨g,c,(f++b.toList.drop f.length).toArray,rfl,I,setRow_heap w g b _ d _ r,u,M,?_,?_⟩⟩ (Nq w g rfl))
   . rw[TK,UW,e,L];omega
   . have q:b.toList.length=b.size:=Array.length_toList;simp only[UE,TK,UW,e,q];omega
   . have q:b.toList.length=b.size:=Array.length_toList;simp only;rw[<-U,List.take_append,e,Tq (by rw[e];exact N),List.drop_take]
theorem CJ(w:World)(l:jB)(p:jl)(f:jD w l p)(x:pU)(o:kg p x=true):Calls prog 75 #[some l.L,.agg #[x.of.keeper,x.of.name,x.at_]] w fun e j=>e=.returned (.bool (right p x))/\Kp (·=l.D) w j/\jD j l p:=by
 have c:Ext w (w.alloc (.cells #[x.of.keeper,x.of.name,x.at_] 66)):=kx;have⟨m,k⟩:=jw (f.ext c) c;clear f c;go_enter func75,ntmps75;go_wp2_with fail;refine(KH m x o).mono ?_;rintro e z ⟨g,h,s,v,y,rfl,n⟩;obtain⟨r,i⟩:=n;obtain⟨t,u,rfl⟩:=jS i.2.1;have d:=Zy (Tm (k.any.trans g) h);clear g h i;by_cases a:(M.look p x).2=0
 . have b:Zz (right p x=true):=Zy (by unfold right;rw[a];rfl);rw[a];clear a;go_wp2;go_ret;exact⟨hV b.symm,d⟩
 . have b:Zz (right p x=false):=Zy (by unfold right;exact SS a);have q:=SK.2 a;clear a;go_wp2;go_ret;exact⟨hV b.symm,d⟩
theorem DU{f:Nat->Bool}:(List.range (n+1)).all f=((List.range n).all f&&f n):=by
 rw[List.range_succ,VZ];simp
theorem Dg(u:jD w l p)(r:Ref):Calls prog 29 #[some l.L,.agg #[r.keeper,r.name]] w fun g N=>g=.returned (.bool (lS p r))/\Kp (·=l.D) w N/\jD N l p:=by
 obtain⟨b,c⟩:=r;obtain⟨w0,J,x,F⟩:=nu w #[b,c] 64;have ah:=u.FR;have⟨HL,W,U,ag⟩:=kD (u.ext x) x F J;clear u x F J;go_enter func29,ntmps29;go_wp2_with fail;rw[<-ag.o];refine(nM HL ⟨b,c⟩).mono ?_;rintro g w1 ⟨rfl,G,y⟩;have v:=U.kp y Zm;have⟨S,q⟩:=jw v G;have D:Zz (Kp (·=l.D) w w1):=Zy (W.any.trans y);obtain⟨Q,O,P,-⟩:=v.ca;clear v G y;cases h:jW p ⟨b,c⟩
 . have j:Zz (lS p ⟨b,c⟩=false):=Zy (by unfold lS;rw[h];rfl);clear h;go_wp2;go_ret;exact⟨hV j.symm,D,q⟩
 obtain⟨d,C⟩:=M.mr (oG h).2;have A:cls p ⟨b,c⟩=d:=by unfold cls;rw[C];rfl
 have j:Zz (lS p ⟨b,c⟩=(List.range d.methods.length).all fun e=>right p ⟨⟨b,c⟩,e⟩):=Zy (by unfold lS;rw[h,A];rfl);have X:Zz (∀a:Nat,a<d.methods.length->kg p ⟨⟨b,c⟩,a⟩=true):=Zy (fun a hq=>by unfold kg;rw[h,A];simp;omega);have V:=Zy C;clear h A C;go_wp2_with fail;refine(sI _ _ q b c d V).mono ?_;rintro g w2 ⟨⟨cs,B,rfl⟩,k⟩;obtain⟨fa,fc,K,L,rfl⟩:=B.form;have aj:d.methods.length<=4294967296:=by
  obtain⟨_,_,he,_,hs⟩:=B;obtain⟨_,_,_,_,h4⟩:=hs.form;exact h4
 have ai:∀t,(Instr.field 38 (.agg #[d.name,d.jE,.slice fa d.fields.length fc,.slice K d.methods.length L]) 3).run prog t=.ok (.slice K d.methods.length L) t:=(fun t=>by kernel_rfl);have⟨T,aa⟩:=jw (S.ext k) (q.ext k);have Y:Zz (Kp (·=l.D) w w2):=Zy (D.trans k.any);clear k B O P Q;go_wp2;go_loopw [15] (fun e wr=>∃a:Nat,a<=d.methods.length/\e=.int .i64 a/\jq wr w 64 #[b,c]/\jD wr l p/\Kp (·=l.D) w wr/\Zz (((List.range a).all fun e=>right p ⟨⟨b,c⟩,e⟩)=true)) (fun e _=>d.methods.length - (intOf e).toNat)
 case atStart=>exact⟨0,Tz _,rfl,T,aa,Y,Zy rfl⟩
 case round=>
  obtain⟨a,hq,rfl,i,n,m,E⟩:=hrel;by_cases I:a<d.methods.length
  . have O:=i.c 0 b rfl;obtain⟨Q,-,P,-⟩:=i.ca;have⟨R,ae,Z⟩:=jI i n m;have ak:(a:Int)<d.methods.length:=Zm
    have au:IntKind.i64.wrap ((a:Int)+1)=a+1:=TM _ Zm;clear i n m;go_wp2_with fail;refine(CJ _ _ _ ae ⟨⟨b,c⟩,a⟩ (X a I)).mono ?_;rintro g w3 ⟨rfl,z,H⟩;have f:=Zy (Tm (R.kp z Zm) (Tm H (Z.trans z)));clear z H;cases o:right p ⟨⟨b,c⟩,a⟩
    . have s:Zz (lS p ⟨b,c⟩=false):=Zy (by
       rw[j.o,VX];exact⟨a,Uk.2 I,by rw[o];simp⟩)
      clear o;go_wp2;go_ret;exact⟨hV s.symm,f.2.2,f.2.1⟩
    . have af:Zz (((List.range (a+1)).all fun e=>right p ⟨⟨b,c⟩,e⟩)=true):=Zy (by rw[DU,E.o,o];rfl);clear o;go_wp2_with fail;exact⟨⟨a+1,Zm,Zl,f.o.1,f.o.2.1,f.o.2.2,af⟩,Zj⟩
  . have s:Zz (lS p ⟨b,c⟩=true):=Zy (by
     have g:a=d.methods.length:=Zm
     rw[j.o,<-g];exact E)
    have f:=Zy (Tm m n);clear i n m;go_wp2;go_ret;exact⟨hV s.symm,f⟩
def rq(p:jl)(k:Nat)(cs:List Class):List Ref:=(cs.map fun c=>(⟨k,c.name⟩:Ref)).filter fun r=>decide (0<(chain p r).length)
def ng(p:jl)(n:Nat):List Ref:=(List.range n).flatMap fun k=>(((p[k]?).map fun q=>q.owns.map fun c=>(⟨k,c.name⟩:Ref)).getD []).filter fun r=>decide (0<(chain p r).length)
theorem FT(p:jl):ng p p.length=classes p:=rfl
theorem yC{q:mZ}(a:p[n]?=some q):ng p (n+1)=ng p n++rq p n q.owns:=by
 unfold ng rq;rw[List.range_succ,TD];simp[a]
theorem Hw{cs:List Class}{c:Class}(a:cs[n]?=some c):rq p k (cs.take (n+1))=rq p k (cs.take n)++if 0<(chain p ⟨k,c.name⟩).length then [⟨k,c.name⟩]else []:=by
 unfold rq;rw[Td,a];simp only[Option.toList,Ux,List.filter_append,Ur,Vb];split
 . rename_i a;simp[a]
 . rename_i a;simp[a]
theorem CQ(p:jl)(k:Nat)(cs:List Class):(rq p k cs).length<=cs.length:=by
 unfold rq;exact TV (List.length_filter_le _ _) Zl
theorem zV(a:kv p=true):∀n,n<=p.length->(ng p n).length<=n*5
 |0,_=>by simp[ng]
 | n + 1, h => by
  obtain⟨b,c⟩:=nV p n Zm;rw[yC c,TK];have d:=zV a n Zm;have e:=CQ p n b.owns;have f:b.owns.length<=5:=by
   unfold kv at a;simp only[RV,Tc]at a;have:=a.2 b (Tx c);unfold kC at this;simp only[RV,Tv]at this;exact this.1.1.1
  omega
theorem FV(m:jD w l p):Calls prog 28 #[some l.L] w fun o L=>(∃j,o=.returned j/\SliceOf 2 qN L (fun g=>w<=g) j (classes p))/\Ext w L:=by
 have aU:p.length<=3:=(wN m.ok).2;obtain⟨aP,aQ,hs,V,-⟩:=m.cells;have W:=V w Kp.rr;have dz:=jv W;have Q:Zz (∀K,K<=p.length->(ng p K).length<=K*5):=Zy (zV m.ok);have⟨O,HS⟩:=jw m hs;clear m hs V;go_enter func28,ntmps28;go_wp2_with fail;clear W dz;go_loopw [14,3] (fun I j wr=>∃a:Nat,a<=p.length/\I=.int .i64 a/\Ext w wr/\wr.ownsRow w 64 2 j (ng p a).length ((ng p a).flatMap wX)) (fun I _ _=>p.length - (intOf I).toNat)
 case atStart=>exact⟨0,Tz _,rfl,Kp.rr,Uw _ _ _ _⟩
 case round=>
  obtain⟨a,hq,rfl,e,c⟩:=hrel;obtain⟨va,vc,rfl⟩:=jS c;by_cases aJ:a<p.length
  . obtain⟨⟨d,aG⟩,t⟩:=nV p a aJ;obtain⟨g,aO,cs,rfl,hI,⟨vo,vk,rfl,v,sk⟩,-,i⟩:=HS.get t;obtain⟨oa,oc,rfl,aM,aL⟩:=v.form;obtain⟨ka,kc,rfl,-,-⟩:=sk.form;simp only at v aM aL i;obtain⟨k,q⟩:=(i.ext e).two;have gz:=jv k;obtain⟨N,H⟩:=S9 (wr.alloc (.cells #[.slice oa d.length oc,.slice ka aG.length kc] 32));have D:Ext wr N:=by rw[H];exact kx
    have⟨ah,ay,aC,ak,aD⟩:=nC (e.trans D) (jr (D:=fun _=>False) c D fun _ _ _ h=>h) v t H;have h5:=Q.o a hq;have ax:Zz (d.length<=5):=Zy (by
     have G:=O.ok;unfold kv at G;simp only[RV,Tc]at G;have:=G.2 _ (Tx t);unfold kC at this;simp only[RV,Tv]at this;exact this.1.1.1)
    clear e c D H v sk i t;go_wp2_with fail;rw[<-aD.o];clear k q;obtain⟨wo,rfl⟩:∃wo:World,wo=wr:=⟨_,rfl⟩;go_loopw [22,3] (fun J j wr=>∃b:Nat,b<=d.length/\J=.int .i64 b/\Ext w wr/\wr.ownsRow w 64 2 j (ng p a++rq p a (d.take b)).length ((ng p a++rq p a (d.take b)).flatMap wX)) (fun J _ _=>d.length - (intOf J).toNat)
    case atStart=>exact⟨0,Tz _,rfl,ah,by simpa [rq]using ay.o⟩
    case round=>
     obtain⟨b,ht,rfl,e,c⟩:=hrel;obtain⟨va,vc,rfl⟩:=jS c;by_cases aK:b<d.length
     . obtain⟨f,F⟩:=nV d b aK;obtain⟨g,aO,cs,rfl,hI,Y,-,i⟩:=(aC.ext jT.stays e).get F;obtain⟨fa,fc,ma,mc,rfl⟩:=Y.form;obtain⟨k,q,g2,g3⟩:=i.four;have gz:=jv k;have aI:(ng p a++rq p a (d.take b)).length<=1000:=by
        have C:=CQ p a (d.take b);have h2:=ax.o;rw[TK];rw[TN]at C;omega
       have S:=Zy (Hw (p:=p) (k:=a) F);obtain⟨B,r⟩:∃B,ng p a++rq p a (d.take b)=B:=⟨_,rfl⟩;obtain⟨x,u⟩:=S9 ((wr.alloc (.cells #[f.name,f.jE,.slice fa f.fields.length fc,.slice ma f.methods.length mc] 38)).alloc (.cells #[a,f.name] 64));have E:Ext wr x:=by rw[u];exact kx
       have T:jq x (wr+1) 64 #[a,f.name]:=by rw[u];exact jq.newAt _ _ Zl
       have R:=Zy r;rw[r]at c aI;simp only[r];have⟨P,az,ag,aF⟩:=kD (e.trans E) (jr (D:=fun _=>False) c E fun _ _ _ h=>h) T u;have aW:=e.size;clear r e c E T u Y i F;go_wp2_with fail;rw[<-aF.o];clear k q g2 g3;refine(sH (O.ext P) ⟨a,f.name⟩).mono ?_;rintro o w9 ⟨⟨v9,rfl,ae⟩,n⟩;obtain⟨a9,c9,rfl,-,-⟩:=ae.form;have U:=ag.ext n;obtain⟨yz,y0,y1,-⟩:=U.ca;have⟨z,A⟩:=jw (P.trans n) (jr (D:=fun _=>False) az n fun _ _ _ h=>h);have aV:=n.size;clear ae n U;by_cases s:0<(chain p ⟨a,f.name⟩).length
       . have aH:(0:Int)<(chain p ⟨a,f.name⟩).length:=Zm
         have y:=Zy s;clear s;go_wp2_with (at_builtin;refine tJ AB _ rfl _ _ rfl w _ B.length _ rfl (jr (D:=fun _=>False) A (jJ _) fun _ _ _ h=>h) w9 1 (wX ⟨a,f.name⟩) rfl rfl ?c1 ?c2 ?c3 ?c4 ?_)
         case c1=>exact hQ.oI _ _ rfl
         case c2=>simp[wX,Value.oneCell']
         case c3=>omega
         case c4=>have:=z.size;simp;omega
         intro v' L Z X q aR aN aS aT;subst aN;have av:=Zy Z;have aj:=Zy X;clear Z X;go_wp2_with fail;refine⟨⟨b+1,Zm,Zk,(z.o.alloc _).own aj.o (fun g o=>(A.o.lt g o).1),?_⟩,Zj⟩;have:=av.o;rw[S.o,Ty y.o,<-TG,R.o];simpa using this
       . have aH:((0:Int)<(chain p ⟨a,f.name⟩).length)=False:=Wj Zm;have y:=Zy s;clear s;go_wp2_with fail;refine⟨⟨b+1,Zm,Zk,z.o,?_⟩,Zj⟩;rw[S.o,T9 y.o,List.append_nil,R.o];exact A
     . have af:b=d.length:=Zm
       have au:Zz (ng p a++rq p a (d.take b)=ng p (a+1)):=Zy (by rw[af,TA,yC ak.o]);rw[au.o]at c |-;have⟨aB,ai⟩:=jw c e;clear c e af;go_wp2_with fail;exact⟨⟨a+1,Zm,Zk,ai.o,aB.o⟩,Zj⟩
  . have aa:a=p.length:=Zm
    have HE:=Zy e;have aA:Zz (SliceOf 2 qN wr (fun g=>w<=g) (.slice va (ng p a).length vc) (classes p)):=Zy (by
     rw[<-FT,<-aa];exact SliceOf.mD wX c rfl rfl (fun _ _=>rfl) (fun _ _=>rfl) (fun g C h2=>C) (Te (Q.o a hq)))
    clear e c aa;go_wp2;go_ret;exact⟨⟨_,rfl,aA⟩,HE⟩
theorem KU(w:World){I:Nat->Prop}{v:Value}(p:jl)(q:SliceOf 2 jo w I v p)(hI:∀b,I b->b<w.heap.size):Calls prog 11 #[.agg #[v]] w fun f w'=>f=.returned (.bool (ni p))/\Ext w w':=by
 obtain⟨K,L,rfl,hn,aj⟩:=q.form;obtain⟨m,t⟩:=S9 (w.alloc (.cells #[.slice K p.length L] 25));have i:Ext w m:=by rw[t];exact kx
 have ax:=i.size;have Q:=BV m I (.slice K p.length L) p (q.ext jo.stays i) (fun b hb=>Te (hI b hb));have e:Zz (ni p=(kv p&&(classes p).all (lS p))):=Zy rfl;have⟨F,V,Z⟩:=jI Q i t;clear i t Q q hI;go_enter func11,ntmps11;go_wp2_with fail;rw[<-Z.o];refine F.mono ?_;rintro f w2 ⟨n,af⟩;have C:=Zy (V.trans n);have ay:=n.size;clear n F;rcases af with⟨h,rfl⟩|⟨h,R,rfl,k,ak⟩
 . have g:Zz (ni p=false):=Zy (by rw[e.o,h];rfl);clear h;go_wp2;go_ret;exact⟨hV g.symm,C⟩
 replace e:Zz (ni p=(classes p).all (lS p)):=Zy (by rw[e.o,h];rfl);have av:=k.ord;have ai:=k.FR;have E:=Zy k;clear k h;go_wp2_with fail;refine(FV E).mono ?_;rintro f S ⟨⟨v3,rfl,s⟩,j⟩;obtain⟨a3,c3,rfl,ah,ae⟩:=s.form;have⟨H,W,D⟩:=jI s (E.ext j) (C.trans j);have az:=j.size;obtain⟨c,a⟩:∃c,classes p=c:=⟨_,rfl⟩;rw[a]at H e ah ae;simp only[a];clear j s a;go_wp2;go_loopw [13] (fun x wr=>∃d:Nat,d<=c.length/\x=.int .i64 d/\LC R p S wr/\Zz ((c.take d).all (lS p)=true)) (fun x _=>c.length - (intOf x).toNat)
 case atStart=>exact⟨0,Tz _,rfl,LC.refl W,Zy Zl⟩
 case round=>
  obtain⟨d,hq,rfl,a,G⟩:=hrel;have T:=Zy a;have aA:=a.kp.size;by_cases ag:d<c.length
  . obtain⟨⟨y,z⟩,r⟩:=nV c d ag;obtain⟨b,aB,cs,rfl,hI,rfl,-,P⟩:=H.get r;have au:w2.heap.size<=b:=hI;obtain⟨g0,g1⟩:=(P.kp a.kp Zm).two;have gz:=jv g0;obtain⟨A,u⟩:=S9 (wr.alloc (.cells #[y,z] 64));have o:Ext wr A:=by rw[u];exact kx
    have⟨X,U,J,aa⟩:=kD (a.at_.ext o) (a.ext o) r u;clear o u r P a hI;go_wp2_with fail;rw[<-aa.o];refine(Dg X ⟨y,z⟩).mono ?_;rintro f w6 ⟨rfl,N,O⟩;have B:Zz (LC R p S w6):=Zy (U.step O N);clear N O;cases l:lS p ⟨y,z⟩
    . have g:Zz (ni p=false):=Zy (by rw[e.o];exact sj J l);clear l;go_wp2;go_ret;exact⟨hV g.symm,D.own B.kp (fun b f=>Zm)⟩
    . have Y:=Zy l;clear l;go_wp2_with fail;exact⟨⟨d+1,Zm,Zk,B.o,Zy (all_succ G.o J.o Y.o)⟩,Zj⟩
  . have g:Zz (ni p=true):=Zy (by rw[e.o];exact qG G Zm);clear a;go_wp2;go_ret;exact⟨hV g.symm,D.own T.kp (fun b f=>Zm)⟩
theorem SY(a:n<=1000):wrap64 (((n+1:Nat):Int) - 1)=n:=by
 unfold wrap64;omega
theorem QA{k:Int}{a:Tag}:may p k a wU=true:=by
 unfold may;rw[Ty (.inl rfl)]
theorem kS.vJ{h:Value}{f:lU}(b:kS d w (a,f.locals.length,g) h f)(q:Nat)(x:Tag):kS d ((w.setCell (a,q*2) x.kind).setCell (a,q*2+1) x.name) (a,f.locals.length,g) h ⟨f.locals.set q x,f.stack⟩/\Kp (·=a) w ((w.setCell (a,q*2) x.kind).setCell (a,q*2+1) x.name):=by
 have c:Kp (·=a) w ((w.setCell (a,q*2) x.kind).setCell (a,q*2+1) x.name):=
  ((Kp.refl (·=a) w).setCell (p:=⟨a,q*2,none⟩) (fun _=>rfl) _).setCell (p:=⟨a,q*2+1,none⟩) (fun _=>rfl) _
 have e:=(b.l.stored (q*2) x.kind).1.stored (q*2+1) x.name;rw[Gq]at e;exact⟨⟨TV b.le c.size,by simpa using e.1,jr b.s c (fun k j _ i=>b.ne a rfl (by rw[<-i];exact j)),b.ne,by simpa using b.ll,b.sl⟩,c⟩
theorem Ls(P:Nat)(w:World)(I:Nat->Prop){v:Value}(p:jl)(hP:nA P w I v p)(k:Int)(hk:has p k=true){cs:List Value}(m:M.Method)(hm:Ct m cs)(bC:m.stack<=1000){Z sv:Value}(f:lU)(hf:kS P w Z sv f)(i:Ins)(bX:1<=i.op/\i.op<=15/\i.op≠7/\i.op≠8/\i.op≠9/\i.op≠10)(ha:i.op=2\/i.op=3->0<=i.a/\i.a<f.locals.length):Calls prog 163 #[.agg #[v],k,.agg cs.toArray,.agg #[Z,sv],.agg #[i.op,i.a,i.name,i.member]] w fun a w'=>ny P w w' Z sv (qJ p k m i f) a:=by
 obtain⟨pa,pc,rfl,hn,dD⟩:=hP.sl.form;obtain⟨W,x,t,q,rfl,rfl⟩:=hf.form;obtain⟨a1,n1,q1,a2,n2,q2,a3,n3,q3,rfl⟩:=hm;obtain⟨w0,bY,bN,cu,bP,bQ,bR,e,bS⟩:=SF w #[.slice pa p.length pc] 25 #[m.name,.slice a1 n1 q1,m.ret.kind,m.ret.name,m.locals,m.stack,.slice a2 n2 q2,.slice a3 n3 q3] 113 #[.slice W f.locals.length x,.slice t f.stack.length q] 195 #[i.op,i.a,i.name,i.member] 134 #[(),()] 195;obtain⟨y,bZ,ax,bA⟩:=nu w0 #[.int .i64 1,""] 236;have aQ:=bN.trans ax;have⟨aL,dm,bq,aV,bK,bL⟩:=pR (hP.ext aQ) (fun R (hW:nA P R I (.slice pa p.length pc) p) Z sv K (hg:kS P R Z sv K) ai aF=>GR P R I p hW k hk m ⟨a1,n1,q1,a2,n2,q2,a3,n3,q3,rfl⟩ bC Z sv K hg ai aF) (fun R (hW:nA P R I (.slice pa p.length pc) p) Z sv K (hg:kS P R Z sv K) aF=>za P R I p hW k hk Z sv K hg aF) (fun R Z sv K (hg:kS P R Z sv K) aF=>GQ P R m ⟨a1,n1,q1,a2,n2,q2,a3,n3,q3,rfl⟩ bC Z sv K hg aF) (fun R Z sv K (hg:kS P R Z sv K)=>JO P R Z sv K hg) cu;have ah:Zz ((w:Nat)+6<=(y:Nat)):=Zy (Te bA.lt);obtain⟨aG,aA,Q,n,z⟩:=nC (bP.ext ax) (bQ.ext ax) (bR.ext ax) (e.ext ax) (bS.ext ax);have⟨aH,o,r,dN⟩:=kD bA hf (hf.ext aQ) aQ;have af:Zz (Kp (Ob (.slice W f.locals.length x) (.slice t f.stack.length q)) w y):=Zy aQ.any;have⟨dn,dw⟩:=jw bY bZ;have HN:Zz (∀aD,¬Ob (.slice W f.locals.length x) (.slice t f.stack.length q) (w.heap.size+aD)):=Zy (fun aD d=>Te ((o.lt _ d).2));have bI:Zz (∀ai,Ob (.slice W f.locals.length x) (.slice t f.stack.length q) ai->ai<w.heap.size):=Zy (fun ai hx=>(o.lt ai hx).2);have aa:Zz (∀c,Ob (.slice W f.locals.length x) (.slice t f.stack.length q) c->Ob (.slice W f.locals.length x) (.slice t f.stack.length q) c\/(w.heap.size<=c/\c≠w.heap.size+4)):=Zy (fun c h=>.inl h);obtain⟨aB,hR⟩:∃aB,qJ p k m i f=aB:=⟨_,rfl⟩;rw[hR];have⟨HR,dh,HA⟩:=jI hR bX ha;clear bN bY hf cu bP bQ bR e bS bA hP hR bZ ax aQ bX ha;go_enter func163,ntmps163;go_upto_region 1 with(fail);rw[<-dn.o];go_upto_region 2 with(fail);rw[<-dw.o];obtain⟨iz,i0,i1,i2,i3,-⟩:=n.ca;by_cases s:i.op=1
 . have b:=HR.o;have a:qJ p k m i f=lK m lG f:=by
    unfold qJ jQ;rw[T9 Zm,T9 Zm,T9 Zm,Ty s]
   rw[a]at b;have j:=Zy (aV y _ _ f r lG);rw[b]at j;rw[s]at i0;clear b a s;obtain⟨mz,m0,m1,m2,m3,m4,m5,m6,m7,-⟩:=aA.ca;obtain⟨T,d0,S,-⟩:=Q.ca;obtain⟨tz,t0,t1,-⟩:=aH.ca;go_wp2_with fail;refine j.mono ?_;rintro a w9 ⟨G,N,J,F,L,H,rfl,l,g⟩;have⟨D,E⟩:=jw l g;have e:=z.kp g (fun a=>(aa _ a).elim (fun d=>Te ((o.lt _ d).2)) (fun d=>Zm));have n:=Zy e;obtain⟨X,U,A,-⟩:=e.ca;obtain⟨f0,f1,-⟩:=e.fz;clear l g e;go_wp2_with fail;refine PG (hU kF rfl (w+4) rfl [.slice G N J,.slice F L H] (hQ.kX (n.duo _ _)) rfl) rfl ?_;exact ny.fin (fun c h=>(o.lt c h).2) af aa (Te ah.o) Zm D.o E.o (Kp.duo (D:=(·=w+4)) rfl _ _)
 by_cases B:i.op=2
 . obtain⟨aW,aX⟩:=HA.o (.inl B);obtain⟨C,hq⟩:∃C:Nat,i.a=C:=⟨i.a.toNat,Zm⟩;have aS:C<f.locals.length:=Zm
   obtain⟨az,ht⟩:=nV f.locals C aS;have b:=HR.o;have a:qJ p k m i f=if az.kind=0 then none else lK m az f:=by
    unfold qJ jQ;rw[T9 Zm,T9 Zm,T9 Zm,T9 s,Ty B,hq,UD,ht];rfl
   rw[a]at b;have ag:=Zy b;obtain⟨lg,dJ,bB,ae,Y,bU⟩:=ky r.l Zm;cases bB;obtain⟨x0,x1⟩:=(l5 (enc:=kG) (k:=2) (fun _=>rfl) r.l ht).two;have dH:(C:Int)<f.locals.length:=Zm
   rw[B]at i0;rw[hq]at i1;obtain⟨tk,tn⟩:=az;have dW:=jv x0;have⟨HQ,dx,dA,H1⟩:=kD hq x0 x1 s;clear b a B ae Y aW aX aS ht s;obtain⟨T,d0,S,-⟩:=Q.ca;by_cases aT:tk=0
   . have b:=ag.o;rw[Ty aT]at b;subst b;subst aT;obtain⟨X,U,A,-⟩:=z.ca;obtain⟨f0,f1,-⟩:=z.fz;go_wp2_with fail;refine PG (hU kF rfl (w+4) rfl [(lg,f.locals.length,x),.slice t f.stack.length q] (hQ.kX (z.duo _ _)) rfl) rfl ?_;exact ny.no rfl (Kp.mix af (Kp.duo (D:=(·=w+4)) rfl _ _) fun c h a=>Zm)
   . have b:=ag.o;rw[T9 aT]at b;have dV:(tk==0)=false:=by simpa using aT
     have j:=Zy (fun R (d:Ext y R)=>Fe P R _ m ⟨a1,n1,q1,a2,n2,q2,a3,n3,q3,rfl⟩ bC _ _ f (r.ext d) ⟨tk,tn⟩);rw[b]at j;clear b aT;obtain⟨dC,fW,dG,HT⟩:=tN.ex (fun W'=>Kp (fun c=>(Value.slice t f.stack.length q).ownBlock=some c) y W') y Kp.rr;have aY:∀aD,¬(Value.slice t f.stack.length q).ownBlock=some (w.heap.size+aD):=fun aD d=>HN.o aD (.inr d);have bD:¬(Value.slice t f.stack.length q).ownBlock=some lg:=fun d=>r.ne lg rfl d;obtain⟨-,m0,m1,m2,m3,m4,m5,m6,m7,-⟩:=jq.pq fun O=>(aA.kp (HT.jC O) (aY 1));obtain⟨-,U,A,-⟩:=jq.pq fun O=>(Q.kp (HT.jC O) (aY 2));have y1:=fun O=>(n.kp (HT.jC O) (aY 3)).c 1 i.a rfl;rw[HQ.o]at y1;have u0:=fun O=>(HT.jC O).mJ dx bD;have u1:=fun O=>(HT.jC O).mJ dA bD;have aM:=Zy HT;clear HT aY bD;go_upto_region 8 with(fail);refine lq aM 11 [([0,1,2,3,4,5,6,7],8)] [9,10] ?_ ?_
     . exact jA
     refine nE ?_;intro K2 bO;have ed:Ext y y.drew:=jA;generalize y.drew=wd at ed |-;go_wp2_with fail;refine(j wd ed).mono ?_;rintro a w8 ⟨⟨G,N,J,F,L,H,rfl,l,g⟩,bV⟩;have⟨D,E,cZ,bH⟩:=kD l g (ed.any.trans bV) ed;have e:=(z.ext ed).kp g (fun a=>(aa _ a).elim (fun d=>Te ((o.lt _ d).2)) (fun d=>Zm));have n:=Zy e;clear l g bV;go_wp2_with fail;refine kk aM bO cZ ?_;clear bO K2;refine qX [_,_] rfl fun bz hK=>?_;(repeat (go_big_quiet_step (fail)));refine qn hK ?_;clear hK bz;obtain⟨X,U,A,-⟩:=e.ca;obtain⟨f0,f1,-⟩:=e.fz;clear e;go_wp2_with fail;refine PG (hU kF rfl (w+4) rfl [.slice G N J,.slice F L H] (hQ.kX (n.duo _ _)) rfl) rfl ?_;exact ny.fin (fun c h=>(o.lt c h).2) (Kp.mix af bH (fun _ _ d=>d.elim)) aa (Ta (Te ah.o) bH.o.size) Zm D.o E.o (Kp.duo (D:=(·=w+4)) rfl _ _)
 by_cases V:i.op=3
 . obtain⟨aW,aX⟩:=HA.o (.inr V);obtain⟨C,hq⟩:∃C:Nat,i.a=C:=⟨i.a.toNat,Zm⟩;have aS:C<f.locals.length:=Zm
   have b:=HR.o;have a:qJ p k m i f=(nZ f).map fun ai=>⟨ai.2.locals.set C ai.1,ai.2.stack⟩:=by
    unfold qJ jQ;rw[T9 Zm,T9 Zm,T9 Zm,T9 s,T9 B,Ty V,hq,UD]
   rw[a]at b;rw[V]at i0;rw[hq]at i1;rcases TT f.stack with hs|⟨xs,az,hs⟩
   . have dS:((f.stack.length:Int)==0)=true:=by rw[hs];rfl
     have aZ:none=aB:=by rw[<-b];unfold nZ;rw[hs];rfl
     subst aZ;clear b a V aW aX aS hs s B;obtain⟨T,d0,S,-⟩:=Q.ca;obtain⟨X,U,A,-⟩:=z.ca;obtain⟨f0,f1,-⟩:=z.fz;go_wp2_with fail;refine PG (hU kF rfl (w+4) rfl [.slice W f.locals.length x,.slice t f.stack.length q] (hQ.kX (z.duo _ _)) rfl) rfl ?_;exact ny.no rfl (Kp.mix af (Kp.duo (D:=(·=w+4)) rfl _ _) fun c h a=>Zm)
   . rw[TS]at hs;have bW:f.stack.length=xs.length+1:=by rw[hs];simp
     have aZ:some (⟨f.locals.set C az,xs⟩:lU)=aB:=by rw[<-b];unfold nZ;rw[hs];simp
     have ag:=Zy aZ;have ht:f.stack[xs.length]?=some az:=by rw[hs];simp
     have HS:=Zy hs;obtain⟨lg,dJ,bB,ae,Y,bU⟩:=ky r.l Zm;cases bB;obtain⟨sg,dX,dI,dK,dL,dM⟩:=ky r.s Zm;cases dI;obtain⟨x0,x1⟩:=(l5 (enc:=kG) (k:=2) (fun _=>rfl) r.s ht).two;obtain⟨tk,tn⟩:=az;have dH:(C:Int)<f.locals.length:=Zm
     have dR:wrap64 ((f.stack.length:Int) - 1)=(xs.length:Int):=by rw[bW];exact SY (Te r.sl)
     have dU:((f.stack.length:Int)==0)=false:=by rw[SK];omega
     have dD:(xs.length:Int)<(f.stack.length:Int):=Zm
     obtain⟨dC,fW,dG,HT⟩:=lL y;obtain⟨-,r0,r1,-⟩:=jq.pq fun O=>(Q.ext (HT.jC O));have y1:=fun O=>(n.ext (HT.jC O)).c 1 i.a rfl;rw[hq]at y1;have u0:=fun O=>(HT.jC O).jm x0;have u1:=fun O=>(HT.jC O).jm x1;obtain⟨T,-,S,-⟩:=Q.ca;have aM:=Zy HT;clear b a V aW aX aS hs aZ ht ae Y bU dK dL dM x0 x1 HT bW s B hq;go_upto_region 13 with(fail);go_cut [] (fun wx=>kS P wx (lg,f.locals.length,x) (sg,f.stack.length,q) ⟨f.locals.set C ⟨tk,tn⟩,f.stack⟩/\Kp (·=lg) y wx)
     case first=>
      refine lq aM 10 [] [0,1,2,3,4,5,6,7,8,9] ?_ ?_
      . exact jA
      refine qX [_,_,_,_,_,_,_,_,_,_] rfl fun bz hK=>?_;(repeat (go_big_quiet_step (fail)));refine qn hK ?_;clear hK bz;have f0:=r.l.frozenAt (C*2);have f1:=r.l.frozenAt (C*2+1);obtain⟨aF,hy⟩:=nV f.locals C Zm;obtain⟨v0,v1⟩:=(l5 (enc:=kG) (k:=2) (fun _=>rfl) r.l hy).two;have vz:=jv v0;clear hy;go_wp2;go_meet;obtain⟨A,g2⟩:=r.vJ C ⟨tk,tn⟩;exact⟨A.ext jA,g2.drew⟩
     obtain⟨bT,ay⟩:=hcut;obtain⟨wx,rfl⟩:∃wx,wx=wc:=⟨_,rfl⟩;have dE:P<=lg:=(r.lt lg (.inl rfl)).1;have dF:lg<w:=(o.lt lg (.inl rfl)).2;have j:=Zy (bq wx (aL.kp ay fun c a=>Zm) _ _ _ bT wU);have b:lX p k wU ⟨f.locals.set C ⟨tk,tn⟩,f.stack⟩=aB:=by
      rw[<-ag.o];unfold lX;rw[HS.o,yJ,Tn,Ty QA]
     rw[b]at j;have⟨cB,cK,cO⟩:=jI (aG.kp ay (fun a=>Zm)) (Q.o.kp ay (fun a=>Zm)) (z.o.kp ay (fun a=>Zm));have df:Zz (Kp (Ob (lg,f.locals.length,x) (sg,f.stack.length,q)) w wx):=Zy (af.trans (ay.weak fun c _ a=>.inl (by rw[a];rfl)));have dB:Zz (w.heap.size+6<=(wx:Nat)):=Zy (Tf ah.o ay.size);clear bT ay b dE dF aM r0 r1 y1 u0 u1 S T;obtain⟨cz,c0,-⟩:=cB.ca;obtain⟨T,d0,S,-⟩:=cK.ca;go_wp2_with fail;refine j.mono ?_;rintro a w9 ⟨G,N,J,F,L,H,rfl,l,g⟩;have⟨D,E⟩:=jw l g;have e:=cO.kp g (fun a=>(aa _ a).elim (fun d=>Te ((o.lt _ d).2)) (fun d=>Zm));have n:=Zy e;obtain⟨X,U,A,-⟩:=e.ca;obtain⟨f0,f1,-⟩:=e.fz;clear l g e;go_wp2_with fail;refine PG (hU kF rfl (w+4) rfl [.slice G N J,.slice F L H] (hQ.kX (n.duo _ _)) rfl) rfl ?_;exact ny.fin (fun c h=>(o.lt c h).2) df aa (Te dB.o) Zm D.o E.o (Kp.duo (D:=(·=w+4)) rfl _ _)
 by_cases h4:i.op=4
 . have b:=HR.o;have a:qJ p k m i f=(lX p k lG f).bind fun s1=>(lX p k lG s1).bind (lK m lG):=by
    unfold qJ jQ;rw[T9 Zm,T9 Zm,T9 Zm,T9 s,T9 B,T9 V,Ty h4]
   rw[a]at b;have j:=Zy (bq y aL _ _ f r lG);obtain⟨av,hO⟩:∃av,lX p k lG f=av:=⟨_,rfl⟩;rw[hO]at j b;have ag:=Zy b;rw[h4]at i0;clear b a s B V hO h4;obtain⟨cz,c0,-⟩:=aG.ca;obtain⟨T,d0,S,-⟩:=Q.ca;obtain⟨tz,t0,t1,-⟩:=aH.ca;go_wp2_with fail;refine j.mono ?_;rintro a w2 ⟨b1,n4,e1,b2,n5,e2,rfl,Y,aR⟩;obtain⟨w3,aU,au,aO⟩:=nu w2 #[.slice b1 n4 e1,.slice b2 n5 e2] 195;have u:Zz (Kp (Ob (.slice W f.locals.length x) (.slice t f.stack.length q)) y w3):=Zy (aR.mix au fun _ _ d=>d.elim);have aJ:Zz (Kp (Ob (.slice W f.locals.length x) (.slice t f.stack.length q)) w w3):=Zy (af.trans u);have⟨bE,bg,bn,bF,aj,bG,bJ⟩:=tq (aG.kp u (HN 0)) (aA.kp u (HN 1)) (Q.kp u (HN 2)) (n.kp u (HN 3)) (z.kp u (HN 4)) (aH.kp u (fun d=>Tf (bI.o _ d) bL.o)) (aL.o.kp u.o (fun c d=>(o.o.lt c d).1));have bu:Zz ((w:Nat)+6<=(w3:Nat)):=Zy (Tf ah.o u.size);have⟨bf,aN⟩:=jw aO aU;clear aR aO aU c0 cz d0 S T t0 t1 tz i0 i1 i2 i3 iz;cases av with
   |none=>
    have b:=ag.o;rw[Option.bind_none]at b;subst b;clear Y au;go_upto_region 18 with(fail);rw[<-aN.o];obtain⟨T,d0,S,-⟩:=bn.ca;obtain⟨X,U,A,-⟩:=aj.ca;obtain⟨f0,f1,-⟩:=aj.fz;go_wp2_with fail;refine PG (hU kF rfl (w+4) rfl [.slice W f.locals.length x,.slice t f.stack.length q] (hQ.kX (aj.duo _ _)) rfl) rfl ?_;exact ny.no rfl (Kp.mix aJ (Kp.duo (D:=(·=w+4)) rfl _ _) fun c h a=>Zm)
   |some K=>
    obtain⟨ae,Y⟩:=Y K rfl;have ae:=ae.ext au;have b:=ag.o;rw[Tn]at b;have aI:=Zy (dm w3 bJ _ _ K ae lG lG);rw[b]at aI;have aK:Zz (∀c,Ob (.slice b1 n4 e1) (.slice b2 n5 e2) c->Ob (.slice W f.locals.length x) (.slice t f.stack.length q) c\/(w.heap.size<=c/\c≠w.heap.size+4)):=Zy (fun c h=>(Y c h).imp id fun d=>Te ah.o);clear ae Y b au;go_upto_region 19 with(fail);rw[<-aN.o];obtain⟨cz,c0,-⟩:=bE.ca;obtain⟨mz,m0,m1,m2,m3,m4,m5,m6,m7,-⟩:=bg.ca;obtain⟨X,U,A,-⟩:=bf.ca;obtain⟨tz,t0,t1,-⟩:=bG.ca;go_wp2_with fail;refine aI.mono ?_;rintro a w9 ⟨G,N,J,F,L,H,rfl,l,g⟩;have⟨D,E⟩:=jw l g;have e:=aj.kp g (fun a=>(aK _ a).elim (fun d=>Te ((o.lt _ d).2)) (fun d=>Zm));have n:=Zy e;obtain⟨X,U,A,-⟩:=e.ca;obtain⟨f0,f1,-⟩:=e.fz;clear l g e;go_wp2_with fail;refine PG (hU kF rfl (w+4) rfl [.slice G N J,.slice F L H] (hQ.kX (n.duo _ _)) rfl) rfl ?_;exact ny.fin (fun c h=>(o.lt c h).2) aJ aK (Te bu.o) Zm D.o E.o (Kp.duo (D:=(·=w+4)) rfl _ _)
 by_cases h5:i.op=5
 . have b:=HR.o;have a:qJ p k m i f=lK m zC f:=by
    unfold qJ jQ;rw[T9 Zm,T9 Zm,T9 Zm,T9 s,T9 B,T9 V,T9 h4,Ty h5]
   rw[a]at b;have j:=Zy (aV y _ _ f r zC);rw[b]at j;rw[h5]at i0;clear b a s B V h4 h5;obtain⟨mz,m0,m1,m2,m3,m4,m5,m6,m7,-⟩:=aA.ca;obtain⟨T,d0,S,-⟩:=Q.ca;go_wp2_with fail;refine j.mono ?_;rintro a w9 ⟨G,N,J,F,L,H,rfl,l,g⟩;have⟨D,E⟩:=jw l g;have e:=z.kp g (fun a=>(aa _ a).elim (fun d=>Te ((o.lt _ d).2)) (fun d=>Zm));have n:=Zy e;obtain⟨X,U,A,-⟩:=e.ca;obtain⟨f0,f1,-⟩:=e.fz;clear l g e;go_wp2_with fail;refine PG (hU kF rfl (w+4) rfl [.slice G N J,.slice F L H] (hQ.kX (n.duo _ _)) rfl) rfl ?_;exact ny.fin (fun c h=>(o.lt c h).2) af aa (Te ah.o) Zm D.o E.o (Kp.duo (D:=(·=w+4)) rfl _ _)
 by_cases h6:i.op=6
 . have b:=HR.o;have a:qJ p k m i f=lK m (kP i.name) f:=by
    unfold qJ jQ;rw[T9 Zm,T9 Zm,T9 Zm,T9 s,T9 B,T9 V,T9 h4,T9 h5,Ty h6]
   rw[a]at b;have j:=Zy (aV y _ _ f r (kP i.name));rw[b]at j;rw[h6]at i0;clear b a s B V h4 h5 h6;obtain⟨mz,m0,m1,m2,m3,m4,m5,m6,m7,-⟩:=aA.ca;obtain⟨T,d0,S,-⟩:=Q.ca;go_wp2_with fail;refine j.mono ?_;rintro a w9 ⟨G,N,J,F,L,H,rfl,l,g⟩;have⟨D,E⟩:=jw l g;have e:=z.kp g (fun a=>(aa _ a).elim (fun d=>Te ((o.lt _ d).2)) (fun d=>Zm));have n:=Zy e;obtain⟨X,U,A,-⟩:=e.ca;obtain⟨f0,f1,-⟩:=e.fz;clear l g e;go_wp2_with fail;refine PG (hU kF rfl (w+4) rfl [.slice G N J,.slice F L H] (hQ.kX (n.duo _ _)) rfl) rfl ?_;exact ny.fin (fun c h=>(o.lt c h).2) af aa (Te ah.o) Zm D.o E.o (Kp.duo (D:=(·=w+4)) rfl _ _)
 by_cases ak:i.op=12
 . have b:=HR.o;have a:qJ p k m i f=qA f:=by
    unfold qJ;rw[T9 Zm,Ty ak]
   rw[a]at b;have j:=Zy (bK y _ _ f r);rw[b]at j;rw[ak]at i0;clear b a s B V h4 h5 h6 ak;obtain⟨T,d0,S,-⟩:=Q.ca;go_wp2_with fail;refine j.mono ?_;rintro a w9 ⟨G,N,J,F,L,H,rfl,l,g⟩;have⟨D,E⟩:=jw l g;have e:=z.kp g (fun a=>(aa _ a).elim (fun d=>Te ((o.lt _ d).2)) (fun d=>Zm));have n:=Zy e;obtain⟨X,U,A,-⟩:=e.ca;obtain⟨f0,f1,-⟩:=e.fz;clear l g e;go_wp2_with fail;refine PG (hU kF rfl (w+4) rfl [.slice G N J,.slice F L H] (hQ.kX (n.duo _ _)) rfl) rfl ?_;exact ny.fin (fun c h=>(o.lt c h).2) af aa (Te ah.o) Zm D.o E.o (Kp.duo (D:=(·=w+4)) rfl _ _)
 by_cases aP:i.op=15
 . have b:=HR.o;have a:qJ p k m i f=(qA f).bind (lK m (kP i.name)):=by
    unfold qJ jQ;iterate 17 rw[T9 Zm]
   rw[a]at b;have j:=Zy (bK y _ _ f r);obtain⟨av,hO⟩:∃av,qA f=av:=⟨_,rfl⟩;rw[hO]at j b;have ag:=Zy b;rw[aP]at i0;clear b a s B V hO h4 h5 h6 ak aP;obtain⟨T,d0,S,-⟩:=Q.ca;go_wp2_with fail;refine j.mono ?_;rintro a w2 ⟨b1,n4,e1,b2,n5,e2,rfl,Y,aR⟩;obtain⟨w3,aU,au,aO⟩:=nu w2 #[.slice b1 n4 e1,.slice b2 n5 e2] 195;have u:Zz (Kp (Ob (.slice W f.locals.length x) (.slice t f.stack.length q)) y w3):=Zy (aR.mix au fun _ _ d=>d.elim);have aJ:Zz (Kp (Ob (.slice W f.locals.length x) (.slice t f.stack.length q)) w w3):=Zy (af.trans u);have⟨bE,bg,bn,bF,aj,bG,bJ⟩:=tq (aG.kp u (HN 0)) (aA.kp u (HN 1)) (Q.kp u (HN 2)) (n.kp u (HN 3)) (z.kp u (HN 4)) (aH.kp u (fun d=>Tf (bI.o _ d) bL.o)) (aL.o.kp u.o (fun c d=>(o.o.lt c d).1));have bu:Zz ((w:Nat)+6<=(w3:Nat)):=Zy (Tf ah.o u.size);have⟨bf,aN⟩:=jw aO aU;clear aR aO aU d0 S T i0 i1 i2 i3 iz;cases av with
   |none=>
    have b:=ag.o;rw[Option.bind_none]at b;subst b;clear Y au;go_upto_region 29 with(fail);rw[<-aN.o];obtain⟨T,d0,S,-⟩:=bn.ca;obtain⟨X,U,A,-⟩:=aj.ca;obtain⟨f0,f1,-⟩:=aj.fz;go_wp2_with fail;refine PG (hU kF rfl (w+4) rfl [.slice W f.locals.length x,.slice t f.stack.length q] (hQ.kX (aj.duo _ _)) rfl) rfl ?_;exact ny.no rfl (Kp.mix aJ (Kp.duo (D:=(·=w+4)) rfl _ _) fun c h a=>Zm)
   |some K=>
    obtain⟨ae,Y⟩:=Y K rfl;have ae:=ae.ext au;have b:=ag.o;rw[Tn]at b;have aI:=Zy (aV w3 _ _ K ae (kP i.name));rw[b]at aI;have aK:Zz (∀c,Ob (.slice b1 n4 e1) (.slice b2 n5 e2) c->Ob (.slice W f.locals.length x) (.slice t f.stack.length q) c\/(w.heap.size<=c/\c≠w.heap.size+4)):=Zy (fun c h=>(Y c h).imp id fun d=>Te ah.o);clear ae Y b au;go_upto_region 30 with(fail);rw[<-aN.o];obtain⟨mz,m0,m1,m2,m3,m4,m5,m6,m7,-⟩:=bg.ca;obtain⟨X,U,A,-⟩:=bf.ca;obtain⟨iz,i0,i1,i2,i3,-⟩:=bF.ca;go_wp2_with fail;refine aI.mono ?_;rintro a w9 ⟨G,N,J,F,L,H,rfl,l,g⟩;have⟨D,E⟩:=jw l g;have e:=aj.kp g (fun a=>(aK _ a).elim (fun d=>Te ((o.lt _ d).2)) (fun d=>Zm));have n:=Zy e;obtain⟨X,U,A,-⟩:=e.ca;obtain⟨f0,f1,-⟩:=e.fz;clear l g e;go_wp2_with fail;refine PG (hU kF rfl (w+4) rfl [.slice G N J,.slice F L H] (hQ.kX (n.duo _ _)) rfl) rfl ?_;exact ny.fin (fun c h=>(o.lt c h).2) aJ aK (Te bu.o) Zm D.o E.o (Kp.duo (D:=(·=w+4)) rfl _ _)
 by_cases aC:i.op=13
 . have b:some f=aB:=by rw[<-HR.o];unfold qJ;rw[T9 Zm,T9 ak,Ty aC]
   have ag:=Zy b.symm;rw[aC]at i0;clear b s B V h4 h5 h6 ak aP aC;obtain⟨T,d0,S,-⟩:=Q.ca;obtain⟨X,U,A,-⟩:=z.ca;obtain⟨f0,f1,-⟩:=z.fz;go_wp2_with fail;refine PG (hU kF rfl (w+4) rfl [.slice W f.locals.length x,.slice t f.stack.length q] (hQ.kX (z.duo _ _)) rfl) rfl ?_;exact ny.yes ag (r.kp (Kp.duo (D:=(·=w+4)) rfl _ _) fun c h a=>HN.o 4 (a▸h)) (fun c h=>.inl h) (af.mix (Kp.duo (D:=(·=w+4)) rfl _ _) fun c h a=>Zm)
 . have di:=dh.o;have b:=HR.o;have a:qJ p k m i f=lX p k lG f:=by
    unfold qJ;by_cases bM:i.op=11
    . rw[Ty bM]
    . rw[T9 bM,T9 ak,T9 aC];unfold jQ;iterate 13 rw[T9 Zm]
      rw[Ty Zm]
   rw[a]at b;have j:=Zy (bq y aL _ _ f r lG);rw[b]at j;have e1:(i.op==1)=false:=by simpa using s
   have e2:(i.op==2)=false:=by simpa using B
   have e3:(i.op==3)=false:=by simpa using V
   have e4:(i.op==4)=false:=by simpa using h4
   have e5:(i.op==5)=false:=by simpa using h5
   have e6:(i.op==6)=false:=by simpa using h6
   have dO:(i.op==12)=false:=by simpa using ak
   have dP:(i.op==13)=false:=by simpa using aC
   have dQ:(i.op==15)=false:=by simpa using aP
   clear b a s B V h4 h5 h6 ak aP aC di;obtain⟨cz,c0,-⟩:=aG.ca;obtain⟨T,d0,S,-⟩:=Q.ca;obtain⟨tz,t0,t1,-⟩:=aH.ca;go_wp2_with fail;refine j.mono ?_;rintro a w9 ⟨G,N,J,F,L,H,rfl,l,g⟩;have⟨D,E⟩:=jw l g;have e:=z.kp g (fun a=>(aa _ a).elim (fun d=>Te ((o.lt _ d).2)) (fun d=>Zm));have n:=Zy e;obtain⟨X,U,A,-⟩:=e.ca;obtain⟨f0,f1,-⟩:=e.fz;clear l g e;go_wp2_with fail;refine PG (hU kF rfl (w+4) rfl [.slice G N J,.slice F L H] (hQ.kX (n.duo _ _)) rfl) rfl ?_;exact ny.fin (fun c h=>(o.lt c h).2) af aa (Te ah.o) Zm D.o E.o (Kp.duo (D:=(·=w+4)) rfl _ _)
def NW(w w':World)(f:lU)(e:Ending):Prop:=∃a n c a' n' c',e=.returned (.agg #[.slice a n c,.slice a' n' c'])/\kS w.heap.size w' (.slice a n c) (.slice a' n' c') f
theorem Ay{d k: World}{f:lU}{a: Option Addr}(h0:Ext w d)(m:Ext d k)(o:kS d k (.slice a n c) (.slice e i g) f)(s:w<=j)(t:j<d)(h:Kp (·=j) k W):NW w W f (.returned (.agg #[.slice a n c,.slice e i g]))/\Ext w W:=by
 have b:=o.kp h fun l r q=>Te ((o.lt l r).1)
 have p:=h0.size;refine⟨⟨a,n,c,e,i,g,rfl,⟨TV (TV h0.size m.size) h.size,ui p b.l,ui p b.s,b.ne,b.ll,b.sl⟩⟩,(h0.trans m).own h fun l q=>Zm⟩
theorem GM(w:World){J K:Nat->Prop}{vl vs:Value}(f:lU)(hl:SliceOf 2 jZ w J vl f.locals)(hs:SliceOf 2 jZ w K vs f.stack)(az:f.locals.length<=1000/\f.stack.length<=1000):Calls prog 125 #[.agg #[vl,vs]] w fun aD w'=>NW w w' f aD/\Ext w w':=by
 obtain⟨la,lc,rfl,-,-⟩:=hl.form;obtain⟨sa,sc,rfl,-,-⟩:=hs.form;obtain⟨g,aA,af,aB,ax,ay⟩:=Sw w #[.slice la f.locals.length lc,.slice sa f.stack.length sc] 195 #[(),()] 195;have ak:Zz (Flat g 2 (.slice la f.locals.length lc) f.locals.length (f.locals.flatMap kG)):=Zy ((hl.ext jZ.stays af).toFlat (enc:=kG) (fun _ _ _ _ o=>o) (fun _=>rfl) rY);have au:Zz (Flat g 2 (.slice sa f.stack.length sc) f.stack.length (f.stack.flatMap kG)):=Zy ((hs.ext jZ.stays af).toFlat (enc:=kG) (fun _ _ _ _ o=>o) (fun _=>rfl) rY);have⟨ai,v,aj,av,aC⟩:=nC ay az af aB aA;obtain⟨aG,fW,aH,HT⟩:=lL g;obtain⟨-,r0,c,-⟩:=jq.pq fun aF=>(ax.ext (HT.jC aF));have x:=Zy HT;clear hl hs az af aB aA ax ay HT;go_enter func125,ntmps125;go_upto_region 1 with(fail);rw[<-aC.o];refine rQ x 9 (.two [1,2,5,6] 0 4 (.two [] 3 4 (.one [] 4 (.one [] 7 (.fin [8]))) (.one [] 3 (.one [] 7 (.fin [8])))) (.one [] 0 (.one [] 3 (.one [] 7 (.fin [8]))))) ?_ ?_
 . exact jA
 refine two [_,_,_,_] rfl rfl rfl fun K A=>?_;(repeat (go_big_quiet_step (fail)));((refine EP A (fun d b=>?_) fun d b=>?_)<;>clear A K)
 . clear r0 c;have G:Ext g g.drew:=jA;generalize g.drew=wd at G |-;go_wp2_with fail;obtain⟨h,N,V,-⟩:=nu wd #[] 236;have t:=G.trans V;have Q:h.ownsRow g 236 2 (.slice (some ⟨wd,0,none⟩) 0 0) 0 []:=by rw[N];exact kV wd _ _ _ G.size rfl
   have R:Zz ((h:Nat)=wd+1):=Zy (by rw[N];simp);rw[<-N];have P:Zz ((wd:Nat)<=h):=Zy V.size;clear N V;refine kk x b t ?_;clear b d;refine Ck rfl rfl (fun d b=>?_) fun d b=>?_
   . skip;refine nJ nH _ rfl (.tmp 3) (.tmp 5) rfl g (.slice (some ⟨wd,0,none⟩) 0 0) 0 [] rfl Q la f.locals.length lc (f.locals.flatMap kG) rfl (ak.ext t) (Te v.o) t.size ?_;intro v1 j c u z;rw[Tk,TZ]at c;obtain⟨C,E,rfl⟩:=jS c;have n:=t.own u (fun y i=>(Q.lt y i).1);have S:Zz (∀a,(Value.slice C f.locals.length E).ownBlock=some a->(a=wd.heap.size\/h.heap.size<=a)/\a<j.heap.size):=Zy (fun a e=>⟨(z a e).imp (fun o=>by simp[Value.ownBlock]at o;omega) id,(c.lt a e).2⟩);have H:Zz ((h:Nat)<=j):=Zy u.size;clear u z;change d _ _;refine kk x b n ?_;clear b d;refine j3 rfl fun d b=>?_;go_wp2_with fail;obtain⟨p,ah,ag,-⟩:=nu j #[] 236;have k:=n.trans ag;have s:p.ownsRow g 236 2 (.slice (some ⟨j,0,none⟩) 0 0) 0 []:=by rw[ah];exact kV j _ _ _ n.size rfl
     have I:Zz ((p:Nat)=j+1):=Zy (by rw[ah];simp);rw[<-ah];have c:=jr (D:=fun _=>False) c ag fun _ _ _ ae=>ae;have U:Zz ((j:Nat)<=p):=Zy ag.size;clear ah ag;refine kk x b k ?_;clear b d;refine j3 rfl fun d b=>?_;refine nJ nH _ rfl (.tmp 7) (.tmp 9) rfl g (.slice (some ⟨j,0,none⟩) 0 0) 0 [] rfl s sa f.stack.length sc (f.stack.flatMap kG) rfl (au.ext k) (Te v.o) k.size ?_;intro v2 B m r T;rw[Tk,TZ]at m;obtain⟨D,F,rfl⟩:=jS m;have l:=k.own r (fun y i=>(s.lt y i).1);have W:Zz (∀a,(Value.slice D f.stack.length F).ownBlock=some a->(a=j.heap.size\/p.heap.size<=a)/\a<B.heap.size):=Zy (fun a e=>⟨(T a e).imp (fun o=>by simp[Value.ownBlock]at o;omega) id,(m.lt a e).2⟩);have aa:Zz ((p:Nat)<=B):=Zy r.size;have c:=jr c r (fun a e _ i=>(by simp[Value.ownBlock]at i;have:=S.o a e;have:=R.o;have:=I.o;have:=P.o;have:=H.o;have:=U.o;omega));clear r T;change d _ _;refine kk x b l ?_;clear b d;go_simp;refine FH [_] rfl fun K A=>?_;(repeat (go_big_quiet_step (fail)));refine qn A ?_;clear A K;have Z:Zz (kS g B (.slice C f.locals.length E) (.slice D f.stack.length F) f):=Zy ⟨l.size,c,m,fun a h1 h2=>(by have:=S.o a h1;have:=W.o a h2;have:=R.o;have:=I.o;have:=P.o;have:=H.o;have:=U.o;have:=aa.o;omega),Te v.o,Te v.o⟩;have Y:=Zy l;have q:=ai.ext l;have X:=Zy q;obtain⟨gz,g0,z,-⟩:=q.ca;obtain⟨f0,f1,-⟩:=q.fz;clear c m q t n k l G;go_wp2_with fail;refine PG (jM kF rfl (w+1) rfl [.slice C f.locals.length E,.slice D f.stack.length F] (hQ.kX (X.duo _ _)) rfl) rfl ?_;exact Ay aj Y Z Zm (Te av.o) (Kp.duo (D:=(·=w+1)) rfl _ _)
   . skip;go_wp2_with fail;obtain⟨j,O,L,-⟩:=nu h #[] 236;have n:=t.trans L;have s:j.ownsRow g 236 2 (.slice (some ⟨h,0,none⟩) 0 0) 0 []:=by rw[O];exact kV h _ _ _ t.size rfl
     have I:Zz ((j:Nat)=h+1):=Zy (by rw[O];simp);rw[<-O];have Q:=jr (D:=fun _=>False) Q L fun _ _ _ ae=>ae;have H:Zz ((h:Nat)<=j):=Zy L.size;clear O L;refine kk x b n ?_;clear b d;refine j3 rfl fun d b=>?_;refine nJ nH _ rfl (.tmp 3) (.tmp 5) rfl g (.slice (some ⟨wd,0,none⟩) 0 0) 0 [] rfl Q la f.locals.length lc (f.locals.flatMap kG) rfl (ak.ext n) (Te v.o) n.size ?_;intro v1 p c u z;rw[Tk,TZ]at c;obtain⟨C,E,rfl⟩:=jS c;have k:=n.own u (fun y i=>(Q.lt y i).1);have S:Zz (∀a,(Value.slice C f.locals.length E).ownBlock=some a->(a=wd.heap.size\/j.heap.size<=a)/\a<p.heap.size):=Zy (fun a e=>⟨(z a e).imp (fun o=>by simp[Value.ownBlock]at o;omega) id,(c.lt a e).2⟩);have U:Zz ((j:Nat)<=p):=Zy u.size;have s:=jr s u (fun a e _ i=>(by simp[Value.ownBlock]at i e;have:=R.o;have:=I.o;have:=P.o;have:=H.o;omega));clear u z;change d _ _;refine kk x b k ?_;clear b d;refine j3 rfl fun d b=>?_;refine nJ nH _ rfl (.tmp 7) (.tmp 9) rfl g (.slice (some ⟨h,0,none⟩) 0 0) 0 [] rfl s sa f.stack.length sc (f.stack.flatMap kG) rfl (au.ext k) (Te v.o) k.size ?_;intro v2 B m r T;rw[Tk,TZ]at m;obtain⟨D,F,rfl⟩:=jS m;have l:=k.own r (fun y i=>(s.lt y i).1);have W:Zz (∀a,(Value.slice D f.stack.length F).ownBlock=some a->(a=h.heap.size\/p.heap.size<=a)/\a<B.heap.size):=Zy (fun a e=>⟨(T a e).imp (fun o=>by simp[Value.ownBlock]at o;omega) id,(m.lt a e).2⟩);have aa:Zz ((p:Nat)<=B):=Zy r.size;have c:=jr c r (fun a e _ i=>(by simp[Value.ownBlock]at i;have:=S.o a e;have:=R.o;have:=I.o;have:=P.o;have:=H.o;have:=U.o;omega));clear r T;change d _ _;refine kk x b l ?_;clear b d;go_simp;refine FH [_] rfl fun K A=>?_;(repeat (go_big_quiet_step (fail)));refine qn A ?_;clear A K;have Z:Zz (kS g B (.slice C f.locals.length E) (.slice D f.stack.length F) f):=Zy ⟨l.size,c,m,fun a h1 h2=>(by have:=S.o a h1;have:=W.o a h2;have:=R.o;have:=I.o;have:=P.o;have:=H.o;have:=U.o;have:=aa.o;omega),Te v.o,Te v.o⟩;have Y:=Zy l;have q:=ai.ext l;have X:=Zy q;obtain⟨gz,g0,z,-⟩:=q.ca;obtain⟨f0,f1,-⟩:=q.fz;clear c m q t n k l G;go_wp2_with fail
     refine PG (jM kF rfl (w+1) rfl [.slice C f.locals.length E,.slice D f.stack.length F] (hQ.kX (X.duo _ _)) rfl) rfl ?_;exact Ay aj Y Z Zm (Te av.o) (Kp.duo (D:=(·=w+1)) rfl _ _)
 . clear r0 c;have G:Ext g g.drew:=jA;generalize g.drew=wd at G |-;go_wp2_with fail;obtain⟨h,N,V,-⟩:=nu wd #[] 236;have t:=G.trans V;have s:h.ownsRow g 236 2 (.slice (some ⟨wd,0,none⟩) 0 0) 0 []:=by rw[N];exact kV wd _ _ _ G.size rfl
   have I:Zz ((h:Nat)=wd+1):=Zy (by rw[N];simp);rw[<-N];have P:Zz ((wd:Nat)<=h):=Zy V.size;clear N V;refine kk x b t ?_;clear b d;refine j3 rfl fun d b=>?_;go_wp2_with fail;obtain⟨j,O,L,-⟩:=nu h #[] 236;have n:=t.trans L;have Q:j.ownsRow g 236 2 (.slice (some ⟨h,0,none⟩) 0 0) 0 []:=by rw[O];exact kV h _ _ _ t.size rfl
   have R:Zz ((j:Nat)=h+1):=Zy (by rw[O];simp);rw[<-O];have s:=jr (D:=fun _=>False) s L fun _ _ _ ae=>ae;have H:Zz ((h:Nat)<=j):=Zy L.size;clear O L;refine kk x b n ?_;clear b d;refine j3 rfl fun d b=>?_;refine nJ nH _ rfl (.tmp 3) (.tmp 5) rfl g (.slice (some ⟨h,0,none⟩) 0 0) 0 [] rfl Q la f.locals.length lc (f.locals.flatMap kG) rfl (ak.ext n) (Te v.o) n.size ?_;intro v1 p c u z;rw[Tk,TZ]at c;obtain⟨C,E,rfl⟩:=jS c;have k:=n.own u (fun y i=>(Q.lt y i).1);have S:Zz (∀a,(Value.slice C f.locals.length E).ownBlock=some a->(a=h.heap.size\/j.heap.size<=a)/\a<p.heap.size):=Zy (fun a e=>⟨(z a e).imp (fun o=>by simp[Value.ownBlock]at o;omega) id,(c.lt a e).2⟩);have U:Zz ((j:Nat)<=p):=Zy u.size;have s:=jr s u (fun a e _ i=>(by simp[Value.ownBlock]at i e;have:=R.o;have:=I.o;have:=P.o;have:=H.o;omega));clear u z;change d _ _;refine kk x b k ?_;clear b d;refine j3 rfl fun d b=>?_;refine nJ nH _ rfl (.tmp 7) (.tmp 9) rfl g (.slice (some ⟨wd,0,none⟩) 0 0) 0 [] rfl s sa f.stack.length sc (f.stack.flatMap kG) rfl (au.ext k) (Te v.o) k.size ?_;intro v2 B m r T;rw[Tk,TZ]at m;obtain⟨D,F,rfl⟩:=jS m;have l:=k.own r (fun y i=>(s.lt y i).1);have W:Zz (∀a,(Value.slice D f.stack.length F).ownBlock=some a->(a=wd.heap.size\/p.heap.size<=a)/\a<B.heap.size):=Zy (fun a e=>⟨(T a e).imp (fun o=>by simp[Value.ownBlock]at o;omega) id,(m.lt a e).2⟩);have aa:Zz ((p:Nat)<=B):=Zy r.size;have c:=jr c r (fun a e _ i=>(by simp[Value.ownBlock]at i;have:=S.o a e;have:=R.o;have:=I.o;have:=P.o;have:=H.o;have:=U.o;omega));clear r T;change d _ _;refine kk x b l ?_;clear b d;go_simp;refine FH [_] rfl fun K A=>?_;(repeat (go_big_quiet_step (fail)));refine qn A ?_;clear A K;have Z:Zz (kS g B (.slice C f.locals.length E) (.slice D f.stack.length F) f):=Zy ⟨l.size,c,m,fun a h1 h2=>(by have:=S.o a h1;have:=W.o a h2;have:=R.o;have:=I.o;have:=P.o;have:=H.o;have:=U.o;have:=aa.o;omega),Te v.o,Te v.o⟩;have Y:=Zy l;have q:=ai.ext l;have X:=Zy q;obtain⟨gz,g0,z,-⟩:=q.ca;obtain⟨f0,f1,-⟩:=q.fz;clear c m q t n k l G;go_wp2_with fail
   refine PG (jM kF rfl (w+1) rfl [.slice C f.locals.length E,.slice D f.stack.length F] (hQ.kX (X.duo _ _)) rfl) rfl ?_;exact Ay aj Y Z Zm (Te av.o) (Kp.duo (D:=(·=w+1)) rfl _ _)
theorem PV(D:Nat)(w:World)(I:Nat->Prop){v:Value}(p:jl)(hP:nA D w I v p)(k:Int)(hk:has p k=true){cs:List Value}(m:M.Method)(hm:Ct m cs)(aF:m.stack<=1000)(lv sv:Value)(f:lU)(hf:kS D w lv sv f)(i:Ins)(aJ:1<=i.op/\i.op<=15)(ha:i.op=2\/i.op=3->0<=i.a/\i.a<f.locals.length)(aI:i.op=7\/i.op=8\/i.op=9->jL i.name=true/\jL i.member=true):Calls prog 126 #[.agg #[v],k,.agg cs.toArray,.agg #[lv,sv],.agg #[i.op,i.a,i.name,i.member]] w fun d w'=>ny D w w' lv sv (qJ p k m i f) d:=by
 obtain⟨pa,pc,rfl,hn,aU⟩:=hP.sl.form;obtain⟨Q,R,S,T,rfl,rfl⟩:=hf.form;obtain⟨a1,n1,q1,a2,n2,q2,a3,n3,q3,rfl⟩:=hm;obtain⟨A,aK,Z,aL,az,aA,aB,b,aC⟩:=SF w #[.slice pa p.length pc] 25 #[m.name,.slice a1 n1 q1,m.ret.kind,m.ret.name,m.locals,m.stack,.slice a2 n2 q2,.slice a3 n3 q3] 113 #[.slice Q f.locals.length R,.slice S f.stack.length T] 195 #[i.op,i.a,i.name,i.member] 134 #[(),()] 195;have aD:Ct m [m.name,.slice a1 n1 q1,m.ret.kind,m.ret.name,m.locals,m.stack,.slice a2 n2 q2,.slice a3 n3 q3]:=⟨a1,n1,q1,a2,n2,q2,a3,n3,q3,rfl⟩;have ai:=Zy (hP.ext Z);obtain⟨aa,ae,af,j,E⟩:=nC az aA aB b aC;have⟨l,ag,F,H,aQ,au,av,ah⟩:=Em hf (hf.ext Z) Z aL aK aD aF hk;have HN:Zz (∀aM,¬Ob (.slice Q f.locals.length R) (.slice S f.stack.length T) (w.heap.size+aM)):=Zy (fun aM a=>Te ((l.lt _ a).2));have o:Zz (∀e,Ob (.slice Q f.locals.length R) (.slice S f.stack.length T) e->Ob (.slice Q f.locals.length R) (.slice S f.stack.length T) e\/(w.heap.size<=e/\e≠w.heap.size+4)):=Zy (fun e n=>.inl n);obtain⟨V,hR⟩:∃V,qJ p k m i f=V:=⟨_,rfl⟩;rw[hR];have⟨HR,ax,HA,aO⟩:=kD hR aJ ha aI;clear Z aK hf aL az aA aB b aC hP hR aJ ha aI aD aF hk;go_enter func126,ntmps126;go_upto_region 1 with(fail);rw[<-aQ.o];obtain⟨iz,i0,i1,i2,i3,-⟩:=j.ca;by_cases B:i.op=7\/i.op=8\/i.op=9
 . obtain⟨aG,aH⟩:=aO.o B;have P:jQ p k m i f=V:=by rw[<-HR.o];unfold qJ;rw[T9 Zm,T9 Zm,T9 Zm]
   have h:=Zy (JN D A I p ai k ah m au av f ag i B aG aH);rw[P]at h;clear P aG aH;obtain⟨cz,c0,-⟩:=aa.ca;obtain⟨dz,d0,d1,-⟩:=af.ca;obtain⟨mz,m0,m1,m2,m3,m4,m5,m6,m7,-⟩:=ae.ca;rcases B with a|a|a
   . rw[a]at i0 h;clear a;go_wp2_with fail;refine h.mono ?_;rintro d w9 ⟨t,z,x,s,y,u,rfl,g,c⟩;have⟨q,r⟩:=jw g c;have b:=E.kp c (fun d=>(o _ d).elim (fun a=>Te ((l.lt _ a).2)) (fun a=>Zm));have j:=Zy b;obtain⟨Y,K,L,-⟩:=b.ca;obtain⟨W,X,-⟩:=b.fz;clear g c b;go_wp2_with fail;refine PG (hU kF rfl (w+4) rfl [.slice t z x,.slice s y u] (hQ.kX (j.duo _ _)) rfl) rfl ?_;exact ny.fin (fun e n=>(l.lt e n).2) F.any o (Te H.o) Zm q.o r.o (Kp.duo (D:=(·=w+4)) rfl _ _)
   . rw[a]at i0 h;clear a;go_wp2_with fail;refine h.mono ?_;rintro d w9 ⟨t,z,x,s,y,u,rfl,g,c⟩;have⟨q,r⟩:=jw g c;have b:=E.kp c (fun d=>(o _ d).elim (fun a=>Te ((l.lt _ a).2)) (fun a=>Zm));have j:=Zy b;obtain⟨Y,K,L,-⟩:=b.ca;obtain⟨W,X,-⟩:=b.fz;clear g c b;go_wp2_with fail;refine PG (hU kF rfl (w+4) rfl [.slice t z x,.slice s y u] (hQ.kX (j.duo _ _)) rfl) rfl ?_;exact ny.fin (fun e n=>(l.lt e n).2) F.any o (Te H.o) Zm q.o r.o (Kp.duo (D:=(·=w+4)) rfl _ _)
   . rw[a]at i0 h;clear a;go_wp2_with fail;refine h.mono ?_;rintro d w9 ⟨t,z,x,s,y,u,rfl,g,c⟩;have⟨q,r⟩:=jw g c;have b:=E.kp c (fun d=>(o _ d).elim (fun a=>Te ((l.lt _ a).2)) (fun a=>Zm));have j:=Zy b;obtain⟨Y,K,L,-⟩:=b.ca;obtain⟨W,X,-⟩:=b.fz;clear g c b;go_wp2_with fail;refine PG (hU kF rfl (w+4) rfl [.slice t z x,.slice s y u] (hQ.kX (j.duo _ _)) rfl) rfl ?_;exact ny.fin (fun e n=>(l.lt e n).2) F.any o (Te H.o) Zm q.o r.o (Kp.duo (D:=(·=w+4)) rfl _ _)
 . have C:(i.op==7)=false:=by rw[SK];omega
   have e8:(i.op==8)=false:=by rw[SK];omega
   have e9:(i.op==9)=false:=by rw[SK];omega
   by_cases N:i.op=10
   . have P:lX p k (kH m.ret) f=V:=by
      rw[<-HR.o];unfold qJ jQ;rw[T9 Zm,T9 Zm,T9 Zm];iterate 9 rw[T9 Zm]
      rw[Ty N]
     have⟨aP,h⟩:=jw (fun J (_:Ext A J)=>yZ J m.ret) (fun J (a:Ext A J)=>za D J I p (ai.ext a) k ah _ _ f (ag.ext a) (kH m.ret));rw[P]at h;rw[N]at i0;clear P B N C e8 e9;obtain⟨aS,fW,aV,G⟩:=tN.ex (fun W'=>Kp (Ob (.slice Q f.locals.length R) (.slice S f.stack.length T)) A W') A Kp.rr;have p0:=fun U=>(aa.kp (G.jC U) (HN 0)).c 0 (.slice pa p.length pc) rfl;obtain⟨-,K,L,-⟩:=jq.pq fun U=>(af.kp (G.jC U) (HN 2));obtain⟨-,-,-,r2,r3,-⟩:=jq.pq fun U=>(ae.kp (G.jC U) (HN 1));have aj:=Zy G;clear G;go_upto_region 7 with(fail);refine lq aj 9 [([0,1,2,3,4],5),([],6)] [7,8] ?_ ?_
     . exact jA
     refine nE ?_;intro K2 O;have ed:Ext A A.drew:=jA;generalize A.drew=wd at ed |-;go_wp2_with fail;refine(aP wd ed).mono ?_;rintro d w7 ⟨rfl,ay⟩;have C:=ed.trans ay;clear ay;go_wp2_with fail;refine kk aj O C.any ?_;clear O K2;refine mF rfl fun K2 O=>?_;go_wp2_with fail;refine(h w7 C).mono ?_;rintro d w8 ⟨t,z,x,s,y,u,rfl,g,c⟩;have⟨q,r,aN,ak⟩:=kD g c (C.any.trans c) C;have b:=(E.ext C).kp c (fun d=>(o _ d).elim (fun a=>Te ((l.lt _ a).2)) (fun a=>Zm));have j:=Zy b;clear g c;go_wp2_with fail;refine kk aj O aN ?_;clear O K2;refine qX [_,_] rfl fun aR hK=>?_;(repeat (go_big_quiet_step (fail)));refine qn hK ?_;clear hK aR;obtain⟨Y,K,L,-⟩:=b.ca;obtain⟨W,X,-⟩:=b.fz;clear b;go_wp2_with fail;refine PG (hU kF rfl (w+4) rfl [.slice t z x,.slice s y u] (hQ.kX (j.duo _ _)) rfl) rfl ?_;exact ny.fin (fun e n=>(l.lt e n).2) (Kp.mix F.any ak (fun _ _ a=>a.elim)) o (Ta (Te H.o) ak.o.size) Zm q.o r.o (Kp.duo (D:=(·=w+4)) rfl _ _)
   . have h:=Zy (Ls D A I p ai k ah m au av f ag i ⟨ax.1,ax.2,fun a=>B (.inl a),fun a=>B (.inr (.inl a)),fun a=>B (.inr (.inr a)),N⟩ HA);rw[HR.o]at h;have aT:(i.op==10)=false:=by rw[SK];omega
     clear B N;obtain⟨cz,c0,-⟩:=aa.ca;obtain⟨dz,d0,d1,-⟩:=af.ca;obtain⟨mz,m0,m1,m2,m3,m4,m5,m6,m7,-⟩:=ae.ca;go_wp2_with fail;refine h.mono ?_;rintro d w9 ⟨t,z,x,s,y,u,rfl,g,c⟩;have⟨q,r⟩:=jw g c;have b:=E.kp c (fun d=>(o _ d).elim (fun a=>Te ((l.lt _ a).2)) (fun a=>Zm));have j:=Zy b;obtain⟨Y,K,L,-⟩:=b.ca;obtain⟨W,X,-⟩:=b.fz;clear g c b;go_wp2_with fail;refine PG (hU kF rfl (w+4) rfl [.slice t z x,.slice s y u] (hQ.kX (j.duo _ _)) rfl) rfl ?_;exact ny.fin (fun e n=>(l.lt e n).2) F.any o (Te H.o) Zm q.o r.o (Kp.duo (D:=(·=w+4)) rfl _ _)
theorem Lr(aa:Nat)(w:World)(I:Nat->Prop){v:Value}(p:jl)(U:nA aa w I v p)(k:Int)(hk:has p k=true){cs:List Value}(m:M.Method)(V:jy w I m cs)(J:Nat->Prop)(lv sv:Value)(f:lU)(hl:SliceOf 2 jZ w J lv f.locals)(W:SliceOf 2 jZ w J sv f.stack)(i:Ins):Calls prog 127 #[.agg #[v],k,.agg cs.toArray,.agg #[lv,sv],.agg #[i.op,i.a,i.name,i.member]] w fun C w'=>C=.returned (.bool (uJ p k m i f))/\Ext w w':=by
 obtain⟨pa,pc,rfl,hn,aC⟩:=U.sl.form;obtain⟨la,lc,rfl,-,-⟩:=hl.form;obtain⟨sa,sc,rfl,-,-⟩:=W.form;have au:=V;obtain⟨a1,n1,q1,a2,n2,q2,a3,n3,q3,rfl⟩:=V.cs;obtain⟨w0,av,E,aB,ah,ai,aj,ak⟩:=SE w #[.slice pa p.length pc] 25 #[m.name,.slice a1 n1 q1,m.ret.kind,m.ret.name,m.locals,m.stack,.slice a2 n2 q2,.slice a3 n3 q3] 113 #[.slice la f.locals.length lc,.slice sa f.stack.length sc] 195 #[i.op,i.a,i.name,i.member] 134;have ae:=Zy (U.ext E);have⟨N,S⟩:=jw (JL w0 I (ae.blk) m (jy.stays _ _ _ _ _ _ (Ext.same E) (fun _ d=>d) au) i.a) (fun T (d:Ext w0 T) af A cs (hx:mI T af A cs)=>Fb aa T I p (ae.ext d) k hk J af _ _ f ((hl.ext jZ.stays E).ext jZ.stays d) ((W.ext jZ.stays E).ext jZ.stays d) A cs hx);obtain⟨Q,ay,R,az⟩:=kD ah ai aj ak;have⟨B,aA⟩:=jw E av;obtain⟨ag,O⟩:∃ag,uJ p k m i f=ag:=⟨_,rfl⟩;rw[O];unfold uJ C9 at O;have HR:=Zy O;clear E av aB ah ai aj ak U hk O hl W V au;go_enter func127,ntmps127;go_upto_region 1 with(fail);rw[<-aA.o];obtain⟨iz,F,X,Y,Z,-⟩:=az.ca;by_cases P:i.op=11\/i.op=12\/i.op=13;rotate_left
 . have a:=HR.o;rw[T9 P]at a;subst a;have j:(i.op !=11)=true:=by rw[TE];omega
   have l:(i.op !=12)=true:=by rw[TE];omega
   have e3:(i.op !=13)=true:=by rw[TE];omega
   clear P;go_wp2;go_ret;exact⟨rfl,B⟩
 have a:=HR.o;rw[Ty P]at a;obtain⟨b,hO⟩:∃b,qW m i.a=b:=⟨_,rfl⟩;rw[hO]at a N;have D:=Zy a;clear a hO;obtain⟨mz,m0,m1,m2,m3,m4,m5,m6,m7,-⟩:=ay.ca;rcases P with d|d|d
 . rw[d]at F;clear d;go_upto_region 3 with(fail);go_wp2_with fail;refine N.mono ?_;rintro C L ⟨⟨xs,rfl,K⟩,t⟩;obtain⟨xl,ax,rfl,g,h⟩:=K;obtain⟨r,j,rfl,-,-⟩:=g.form;obtain⟨s,l,rfl,-,-⟩:=h.form;obtain⟨z,y,e,x⟩:=nu L #[.int .i64 (b.getD ⟨0,[],[]⟩).at_,.slice r (b.getD ⟨0,[],[]⟩).locals.length j,.slice s (b.getD ⟨0,[],[]⟩).stack.length l] 198;have⟨c,n,H⟩:=jI (t.trans e) x y;have q:Zz (mI z I (b.getD ⟨0,[],[]⟩) [.int .i64 (b.getD ⟨0,[],[]⟩).at_,.slice r (b.getD ⟨0,[],[]⟩).locals.length j,.slice s (b.getD ⟨0,[],[]⟩).stack.length l]):=Zy ⟨_,_,rfl,g.ext jZ.stays e,h.ext jZ.stays e⟩;clear t e y x g h F X Y Z iz m0 m1 m2 m3 m4 m5 m6 m7 mz;go_upto_region 4 with(fail);rw[<-H.o];cases b with
   |none=>
    have a:=D.o;simp only at a;subst a;go_wp2;go_ret;exact⟨rfl,B.trans c⟩
   |some A=>
    simp only[TC]at q n |-;have a:=D.o;simp only at a;have o:=Zy (S z c _ A _ q);rw[a]at o;clear a;obtain⟨cz,c0,-⟩:=(Q.ext c).ca;obtain⟨dz,d0,d1,-⟩:=(R.ext c).ca;obtain⟨xz,x0,x1,x2,-⟩:=n.ca;go_wp2_with fail;refine o.mono ?_;rintro C w3 ⟨rfl,u⟩;have G:=Zy u;clear u;go_wp2;go_ret;exact⟨rfl,(B.trans c).trans G⟩
 . rw[d]at F;clear d;go_upto_region 3 with(fail);go_wp2_with fail;refine N.mono ?_;rintro C L ⟨⟨xs,rfl,K⟩,t⟩;obtain⟨xl,ax,rfl,g,h⟩:=K;obtain⟨r,j,rfl,-,-⟩:=g.form;obtain⟨s,l,rfl,-,-⟩:=h.form;obtain⟨z,y,e,x⟩:=nu L #[.int .i64 (b.getD ⟨0,[],[]⟩).at_,.slice r (b.getD ⟨0,[],[]⟩).locals.length j,.slice s (b.getD ⟨0,[],[]⟩).stack.length l] 198;have⟨c,n,H⟩:=jI (t.trans e) x y;have q:Zz (mI z I (b.getD ⟨0,[],[]⟩) [.int .i64 (b.getD ⟨0,[],[]⟩).at_,.slice r (b.getD ⟨0,[],[]⟩).locals.length j,.slice s (b.getD ⟨0,[],[]⟩).stack.length l]):=Zy ⟨_,_,rfl,g.ext jZ.stays e,h.ext jZ.stays e⟩;clear t e y x g h F X Y Z iz m0 m1 m2 m3 m4 m5 m6 m7 mz;go_upto_region 4 with(fail);rw[<-H.o];cases b with
   |none=>
    have a:=D.o;simp only at a;subst a;go_wp2;go_ret;exact⟨rfl,B.trans c⟩
   |some A=>
    simp only[TC]at q n |-;have a:=D.o;simp only at a;have o:=Zy (S z c _ A _ q);rw[a]at o;clear a;obtain⟨cz,c0,-⟩:=(Q.ext c).ca;obtain⟨dz,d0,d1,-⟩:=(R.ext c).ca;obtain⟨xz,x0,x1,x2,-⟩:=n.ca;go_wp2_with fail;refine o.mono ?_;rintro C w3 ⟨rfl,u⟩;have G:=Zy u;clear u;go_wp2;go_ret;exact⟨rfl,(B.trans c).trans G⟩
 . rw[d]at F;clear d;go_upto_region 3 with(fail);go_wp2_with fail;refine N.mono ?_;rintro C L ⟨⟨xs,rfl,K⟩,t⟩;obtain⟨xl,ax,rfl,g,h⟩:=K;obtain⟨r,j,rfl,-,-⟩:=g.form;obtain⟨s,l,rfl,-,-⟩:=h.form;obtain⟨z,y,e,x⟩:=nu L #[.int .i64 (b.getD ⟨0,[],[]⟩).at_,.slice r (b.getD ⟨0,[],[]⟩).locals.length j,.slice s (b.getD ⟨0,[],[]⟩).stack.length l] 198;have⟨c,n,H⟩:=jI (t.trans e) x y;have q:Zz (mI z I (b.getD ⟨0,[],[]⟩) [.int .i64 (b.getD ⟨0,[],[]⟩).at_,.slice r (b.getD ⟨0,[],[]⟩).locals.length j,.slice s (b.getD ⟨0,[],[]⟩).stack.length l]):=Zy ⟨_,_,rfl,g.ext jZ.stays e,h.ext jZ.stays e⟩;clear t e y x g h F X Y Z iz m0 m1 m2 m3 m4 m5 m6 m7 mz;go_upto_region 4 with(fail);rw[<-H.o];cases b with
   |none=>
    have a:=D.o;simp only at a;subst a;go_wp2;go_ret;exact⟨rfl,B.trans c⟩
   |some A=>
    simp only[TC]at q n |-;have a:=D.o;simp only at a;have o:=Zy (S z c _ A _ q);rw[a]at o;clear a;obtain⟨cz,c0,-⟩:=(Q.ext c).ca;obtain⟨dz,d0,d1,-⟩:=(R.ext c).ca;obtain⟨xz,x0,x1,x2,-⟩:=n.ca;go_wp2_with fail;refine o.mono ?_;rintro C w3 ⟨rfl,u⟩;have G:=Zy u;clear u;go_wp2;go_ret;exact⟨rfl,(B.trans c).trans G⟩
theorem Pw(W:World)(c k n:Nat){b:Nat}(d:b<=W){cs:Array Value}(a:cs.size=n*k)(e:n<=1000):(W.alloc (.cells cs c)).ownsRow b c k (W,n,n) n cs.toList:=
 ⟨by simpa using a,.inr ⟨_,n,cs,rfl,d,heap_alloc_new W _,Tu _,by unfold maxLen;omega,a,by rw[Tq];simp[a]⟩⟩
def begun(nm:ByteArray)(ks:List Kind)(z:Nat):List Tag:=(kP nm::ks.map kH)++List.replicate z wU
theorem Kl{nm:ByteArray}{a:List Kind}{x:Kind}(b:a[q]?=some x):begun nm (a.take (q+1)) 0=begun nm (a.take q) 0++[kH x]:=by
 unfold begun;rw[Td,b];simp
theorem Km(nm:ByteArray)(a:List Kind)(z:Nat):begun nm a (z+1)=begun nm a z++[wU]:=by
 unfold begun;rw[List.replicate_succ',<-TG]
theorem Bv(nm:ByteArray)(a:List Kind)(z:Nat):(begun nm a z).length=a.length+1+z:=by
 unfold begun;simp;omega
theorem Lp(w:World)(I:Nat->Prop)(hI:∀f,I f->f<w.heap.size){cs:List Value}(m:M.Method)(hm:jy w I m cs)(hl:(m.args.length:Int)+1<=m.locals/\m.locals<=1000)(nm:ByteArray):Calls prog 122 #[nm,.agg cs.toArray] w fun j w'=>NW w w' ⟨begun nm m.args (m.locals.toNat - (m.args.length+1)),[]⟩ j/\Ext w w':=by
 obtain⟨a1,q1,a2,q2,a3,q3,rfl,aH,-,-⟩:=hm.parts;obtain⟨b,aL,ai,aM,aI,u⟩:=Sw w #[m.name,.slice a1 m.args.length q1,m.ret.kind,m.ret.name,m.locals,m.stack,.slice a2 m.code.length q2,.slice a3 m.maps.length q3] 113 #[(),()] 195;obtain⟨wa,W,aF,-⟩:=nu b #[.int .i64 2,nm] 236;obtain⟨wb,ax,aj,ak⟩:=nu wa #[.slice (some ⟨b,0,none⟩) 1 1,()] 195;have aN:(wa:Nat)=b+1:=by rw[W];simp
 have aZ:Zz (wb.ownsRow b 236 2 (.slice (some ⟨b,0,none⟩) 1 1) 1 ((begun nm [] 0).flatMap kG)):=Zy (jr (D:=fun _=>False) (by rw[W];exact Pw b _ 2 1 (Tu _) rfl Zm) aj fun _ _ _ l=>l);have aW:=Zy (aF.trans aj);rw[aN]at ak;rw[W]at ax;have⟨bq,aa,aQ,aS,aP⟩:=nC ax aI u ak (aH.ext mV.stays ai);have aX:Zz (∀f,I f->f<b.heap.size):=Zy (fun f k=>Te (hI f k));have⟨aV,aA,bn,R⟩:=kD ai aM aL hl;have bE:m.args.length<=1000:=Zm
 obtain⟨E,hZ⟩:∃E,m.locals.toNat - (m.args.length+1)=E:=⟨_,rfl⟩;have ah:=Zy hZ;rw[hZ];clear hZ hm aH aL ai aM aI u W aF ax aj ak aN hI hl;go_enter func122,ntmps122;go_upto_region 1 with(fail);rw[<-bn.o];go_upto_region 2 with(fail);rw[<-bq.o];go_wp2;go_loopw [6] (fun ay wr=>∃c d e,c<=m.args.length/\ay=.int .i64 c/\Ext b wr/\jq wr (b+1) 195 #[.slice d (c+1) e,()]/\wr.ownsRow b 236 2 (.slice d (c+1) e) (c+1) ((begun nm (m.args.take c) 0).flatMap kG)/\(Value.slice d (c+1) e).ownBlock≠some (b.heap.size+1)) (fun ay _=>m.args.length - (intOf ay).toNat)
 case atStart=>exact⟨0,_,_,Tz _,rfl,aW,aS,by simpa using aZ.o,by simp[Value.ownBlock]⟩
 case round=>
  obtain⟨c,d,e,hq,rfl,t,s,G,L⟩:=hrel;have⟨i,p,r,q⟩:=kD t s G L;obtain⟨mz,-,m1,-⟩:=(aa.ext t).ca;clear t s G L;by_cases aK:c<m.args.length
  . have dk:(c:Int)<m.args.length:=Zm
    obtain⟨l,hx⟩:∃l,m.args[c]?=some l:=⟨m.args[c]'aK,CU aK⟩;obtain⟨g1,o1,bD,rfl,aG,rfl,-,d1⟩:=(aP.ext mV.stays i).get hx;obtain⟨s0,s1⟩:=d1.two;obtain⟨x,y⟩:=l;have⟨bg,aY⟩:=jw (fun aB (_:Ext wr aB)=>yZ aB ⟨x,y⟩) (Kl (nm:=nm) hx);have C:Zz (∀h,(Value.slice d (c+1) e).ownBlock=some h->b.heap.size<=h/\h<wr.heap.size):=Zy (fun h v=>r.lt h v);obtain⟨bC,fW,bF,z⟩:=tN.ex (fun W'=>Kp (fun f=>(Value.slice d (c+1) e).ownBlock=some f) wr W') wr Kp.rr;have r0:=fun a=>(p.kp (z.jC a) q).c 0 (.slice d (c+1) e) rfl;have mm:=fun a=>((aa.ext i).kp (z.jC a) (fun g=>Tf ((C _ g).1) aA.o)).c 1 (.slice (some ⟨g1,o1,none⟩) m.args.length q1) rfl;have au:¬(Value.slice d (c+1) e).ownBlock=some g1:=fun g=>Tf ((C _ g).1) (aX.o _ aG)
    have u0:=fun a=>(z.jC a).mJ s0 au;have u1:=fun a=>(z.jC a).mJ s1 au;have D:=Zy z;clear z hx d1 s0 s1 au aG;go_wp2_with fail;refine lq D 10 [([0,1,2,3,4,5,6],7),([],8),([],9)] [] ?_ ?_
    . exact jA
    refine nE ?_;intro A o;have U:Ext wr wr.drew:=jA;generalize wr.drew=wd at U |-;go_wp2_with fail;refine(bg wd U).mono ?_;rintro j Y ⟨rfl,aC⟩;have e4:=U.trans aC;clear aC;go_wp2_with fail;refine kk D o e4.any ?_;clear o A;refine mF rfl fun A o=>?_;go_wp2_with fail;obtain⟨w5,av,aD,k⟩:=nu Y #[.int .i64 (kH ⟨x,y⟩).kind,.string (kH ⟨x,y⟩).name] 236;have cY:hQ w5 Y 0 [.int .i64 (kH ⟨x,y⟩).kind,.string (kH ⟨x,y⟩).name]:=hQ.kX k;rw[<-av];have B:=e4.trans aD;have bB:Zz ((w5:Nat)=Y+1):=Zy (by rw[av];simp);clear av aD k;refine kk D o B.any ?_;clear o A;refine mF rfl fun A o=>?_;refine jF nH rfl (.tmp 19) (.tmp 26) rfl b (.slice d (c+1) e) (c+1) ((begun nm (m.args.take c) 0).flatMap kG) rfl (jr (D:=fun _=>False) r B fun _ _ _ l=>l) Y 1 [.int .i64 (kH ⟨x,y⟩).kind,.string (kH ⟨x,y⟩).name] rfl rfl cY Zt (Te R.o) (TV i.o.size B.size) ?_;intro n T Z H F K;have V:=B.any.mix F (fun _ _ g=>g);have⟨Q,ag⟩:=jw V H;have P:Zz (n≠b+1):=Zy (by
     rcases K with g|g
     . intro j;exact q (j▸g)
     . have:=p.lt;have:=B.size;omega)
    have ae:=Zy (p.kp V q);change A _ _;refine kk D o V ?_;clear o A;refine lD ?_;obtain⟨xz,x0,-⟩:=ae.ca;have x1:=ae.frozen 0;clear H F K V e4 B U cY D r0 mm u0 u1 m1 mz;go_wp2;go_round
    case rel=>
     have N:=(Kp.refl (·=b+1) Z).setCell (p:=⟨b+1,0,none⟩) (fun _=>rfl) (.slice (some ⟨n,0,none⟩) (c+1+1) T);refine⟨c+1,_,_,Zm,Zk,?_,ae.o.jR 0 _,?_,?_⟩
     . exact(i.own Q (fun f k=>(C f k).1)).own N (fun f k=>Zm)
     . have:=jr ag N (fun h v _ j=>by
        have e2:n=h:=by simpa [Value.ownBlock]using v
        exact P (e2.trans j))
       rw[aY.o,TD];simpa [kG]using this
     . intro g;exact P (by simpa [Value.ownBlock]using g)
    case measure=>exact Zj
  . have dk:¬(c:Int)<m.args.length:=Zm
    have bz:c=m.args.length:=Zm
    subst bz;have af:=r.o;rw[TA]at af;have bf:=Zy af;clear af;go_wp2_with fail;clear m1 mz;go_loopg [] E (fun gk az=>∃a d e,a+gk=E/\Ext b az/\jq az (b+1) 195 #[.slice d (m.args.length+1+a) e,()]/\az.ownsRow b 236 2 (.slice d (m.args.length+1+a) e) (m.args.length+1+a) ((begun nm m.args a).flatMap kG)/\(Value.slice d (m.args.length+1+a) e).ownBlock≠some (b.heap.size+1))
    case atStart=>exact⟨0,d,e,Zm,i.o,p.o,bf.o,q.o⟩
    case round=>
     obtain⟨a,d,e,aO,t,s,G,L⟩:=hrel;have⟨i,p,r,q,S⟩:=nC t s G L aO;have C:Zz (∀h,(Value.slice d (m.args.length+1+a) e).ownBlock=some h->b.heap.size<=h/\h<wr.heap.size):=Zy (fun h v=>r.lt h v);obtain⟨mz,-,-,-,-,m4,-⟩:=(aa.ext t).ca;obtain⟨xz,x0,x1,-⟩:=s.ca;have xf:=s.frozen 0;clear t s G L aO;cases gk with
     | succ gk =>
      have dk:((m.args.length:Int)+1+a)<m.locals:=Tf S.o ah.o
      obtain⟨wy,X⟩:=S9 (wr.alloc (.cells #[Tj,""] 236));have O:Zz (Ext wr wy):=Zy (by rw[X];exact jJ _);have aU:Zz (hQ wy wr 0 [Tj,""]):=Zy (by rw[X];exact hQ.oI _ _ rfl);have bu:=Zy X;clear X;go_wp2_with (rw[<-bu.o];refine jF nH rfl (.tmp 36) (.tmp 38) rfl b (.slice d (m.args.length+1+a) e) (m.args.length+1+a) ((begun nm m.args a).flatMap kG) rfl (jr (D:=fun _=>False) r O fun _ _ _ l=>l) wr 1 [Tj,""] rfl rfl aU Zt (Te R.o) (TV i.o.size O.o.size) ?_;intro n T Z H F K;have Q:Zz (Kp (fun f=>(Value.slice d (m.args.length+1+a) e).ownBlock=some f) wr Z):=Zy (O.any.trans F);have ag:=Zy H;have P:=Zy K;have J:=p.kp Q q;have y0:=J.c 0 (.slice d (m.args.length+1+a) e) rfl;have yf:=J.frozen 0;have yz:=J.lt;have aT:=Zy J;clear H F K J);go_roundg gk
      case measure=>omega
      case rel=>
       have N:=(Kp.refl (·=b+1) Z).setCell (p:=⟨b+1,0,none⟩) (fun _=>rfl) (.slice (some ⟨n,0,none⟩) (m.args.length+1+(a+1)) T);have aJ:n≠b+1:=by
        rcases P.o with g|g
        . intro j;exact q (j▸g)
        . have:=p.lt;have:=O.size;omega
       refine⟨a+1,some n,T,Te S.o,?_,aT.o.jR 0 _,?_,?_⟩
       . exact(i.own Q (fun f k=>(C f k).1)).own N (fun f k=>Zm)
       . have:=jr ag N (fun h v _ j=>by
          have e2:n=h:=by simpa [Value.ownBlock]using v
          exact aJ (e2.trans j))
         rw[Km,TD];simpa [kG,wU,none_,Uj]using this
       . intro g;exact aJ (by simpa [Value.ownBlock]using g)
     |zero=>
      have dk:¬((m.args.length:Int)+1+a)<m.locals:=Tg S.o ah.o R.o
      have bA:a=E:=Te S.o
      subst bA;have u:=aQ.ext i;have aR:=Zy u;obtain⟨gz,g0,g1,-⟩:=u.ca;obtain⟨f0,f1,-⟩:=u.fz;clear u;go_wp2_with fail;refine PG (jM kF rfl (w+1) rfl [.slice d (m.args.length+1+a) e,()] (hQ.kX (aR.duo _ _)) rfl) rfl ?_;refine Ay aV i ⟨i.size,?_,by simpa using Uw wr b 236 2,fun h _ g=>by simp[Value.ownBlock]at g,?_,Zl⟩ Zm (Te aA.o) (Kp.duo (D:=(·=w+1)) rfl _ _)
      . simp only[Bv];exact r
      . simp only[Bv];have:=R.o;have:=ah.o;omega
theorem tL.of{e: World}{l:Option lU}{a f:Option Addr}{h: Nat}(t:jq e b 195 #[(),()])(s:W<=b)(r:Ext W e)(u:∀i,l=some i->kS k e (.slice a n c) (.slice f h g) i/\∀d,Ob (.slice a n c) (.slice f h g) d->W.heap.size<=d/\d≠b):tL k W ((e.setCell b (.slice a n c)).setCell (b,1) (.slice f h g)) () () l b a n c f h g:=by
 have p:Kp (·=b) e ((e.setCell b (.slice a n c)).setCell (b,1) (.slice f h g)):=Kp.duo (D:=(·=b)) rfl _ _;refine⟨t.duo _ _,fun i v=>?_,r.any.mix p fun d j m=>Zm,s⟩;obtain⟨q,o⟩:=u i v;exact⟨q.kp p fun d j m=>(o d j).2 m,fun d j=>.inr (o d j)⟩
theorem kS.base{e g:Value}{f:lU}(b:c<=d)(a:kS d w e g f):kS c w e g f:=⟨TV b a.le,ui b a.l,ui b a.s,a.ne,a.ll,a.sl⟩
theorem Dw{b: World}(a:Kp (Ob () ()) w b):Ext w b:=a.weak fun d _ c=>by rcases c with a|a<;>cases a
def Sb(n:Int)(e:Ending):Prop:=∃a c d,e=.returned (.tuple #[.slice a c d,.int .i64 n])
theorem KL(p:jl)(k:Int)(m:M.Method)(i:Ins)(r:List Ins)(n:Nat)(a:Bool)(s:lU):vF p k m (i::r) n a s=match Ba p k m a n s with
    |none=>(n:Int)+1
    |some c=>match qJ p k m i c with
     |none=>(n:Int)+1
     |some b=>if uJ p k m i b then vF p k m r (n+1) (decide (i.op≠10)&&decide (i.op≠13)) b else(n:Int)+1:=by
 rw[vF];rfl
structure GY(m:M.Method)(bf:Nat)(w:World)(ao:Option Addr)(q co:Nat)(b1:Option Addr)(m1 e1:Nat)(b2:Option Addr)(m2 e2:Nat)(f:lU)(css:List Value)(BO:Nat):Prop where
 blk:jq w bf 195 #[.slice b1 m1 e1,.slice b2 m2 e2]
 l:SliceOf 2 jZ w (fun b=>b≠bf/\¬(Value.slice ao q co).ownBlock=some b) (.slice b1 m1 e1) f.locals
 s:SliceOf 2 jZ w (fun b=>b≠bf/\¬(Value.slice ao q co).ownBlock=some b) (.slice b2 m2 e2) f.stack
 own:w.ownsRow BO 195 2 (.slice ao q co) q css
 ne:(Value.slice ao q co).ownBlock≠some bf
 len:(f.locals.length:Int)=m.locals
 sl:f.stack.length<=1000
theorem GY.kp{h:Nat}{p: World}{d:Option Addr}{g:Option Addr}{l: Nat}{f:lU}{j:List Value}(a:GY m h w d q i e n k g o l f j c)(b:Ext w p):GY m h p d q i e n k g o l f j c:=
 ⟨a.blk.ext b,a.l.ext jZ.stays b,a.s.ext jZ.stays b,jr a.own b fun _ _ _ r=>r,a.ne,a.len,a.sl⟩
theorem NH(ae:Nat)(w:World)(I:Nat->Prop){v:Value}(p:jl)(X:nA ae w I v p)(k:Int)(hk:has p k=true)(nm:ByteArray){cs:List Value}(m:M.Method)(hm:jy w I m cs)(gq:nR m=true):Calls prog 82 #[.agg #[v],k,nm,.agg cs.toArray] w fun l w'=>Sb (vF p k m m.code 0 true ⟨begun nm m.args (m.locals.toNat - (m.args.length+1)),[]⟩) l/\Ext w w':=by
 obtain⟨pa,pc,rfl,hn,jg⟩:=X.sl.form;have gm:=hm;obtain⟨a1,q1,a2,q2,a3,q3,rfl,iT,fJ,iU⟩:=hm.parts;have Z:=qE gq;obtain⟨y,gy,dB,gI,fE,fH⟩:=Sw w #[.slice pa p.length pc] 25 #[m.name,.slice a1 m.args.length q1,m.ret.kind,m.ret.name,m.locals,m.stack,.slice a2 m.code.length q2,.slice a3 m.maps.length q3] 113;obtain⟨wo,bT,bM,-⟩:=nu y #[] 195;have dC:=dB.trans bM;have iA:Zz (wo.ownsRow y 195 2 (.slice (some ⟨y,0,none⟩) 0 0) 0 []):=Zy (by rw[bT];exact kV y _ _ _ (Tu _) rfl);have⟨bJ,jb⟩:=jw (fun e (a:Ext w e)=>jy.stays _ _ _ _ _ _ (Ext.same a) (fun _ a=>a) gm) (fun e (a:Ext w e)=>X.ext a);have⟨dS,iw,gV,ig,il⟩:=nC (Lp wo I (X.ext dC).blk m (bJ wo dC) ⟨Te Z.args,Te Z.locals⟩ nm) (fun e (a:Ext w e) iM=>JL e I (X.ext a).blk m (bJ.o e a) iM) (fun e (a:Ext w e) aI aV vl vs n hl hs c cs t=>Fb ae e I p (X.ext a) k hk aI aV vl vs n hl hs c cs t) (fun e (a:Ext w e) lv sv n (hf:kS ae e lv sv n) u iW ha iV=>PV ae e I p (X.ext a) k hk m (bJ.o e a).cs (Te Z.stack) lv sv n hf u iW ha iV) (fun e (a:Ext w e) aI lv sv n hl hs u=>Lr ae e I p (X.ext a) k hk m (bJ.o e a) aI lv sv n hl hs u);have ib:Zz (∀u∈m.code,oL m u=true):=Zy Z.ins;have iq:Zz (∀c∈m.maps,(c.locals.length:Int)=m.locals/\c.stack.length<=1000):=Zy (fun c t=>by
  have a:=Z.tC c t;unfold tC at a;simp only[RV,Tv]at a;have:=Z.stack;exact⟨a.1.1.1.2,Zm⟩)
 have ic:Zz (∀b,I b->b<w.heap.size):=Zy X.blk;have gL:Zz (ae<=w):=Zy X.le;have gM:=Zy fJ;have jh:m.code.length<=16:=Z.code;have dQ:Zz ((m.args.length:Int)+1<=m.locals/\m.locals<=6):=Zy ⟨Z.args,Z.locals⟩;obtain⟨bX,aG⟩:=jw fE fH;have⟨aR,gQ,iD,iH,iI⟩:=nC dB bM gy bT gI;have aT:Zz ((wo:Nat)=y+1):=Zy (by rw[bT];simp);obtain⟨bL,hR⟩:∃bL,vF p k m m.code 0 true ⟨begun nm m.args (m.locals.toNat - (m.args.length+1)),[]⟩=bL:=⟨_,rfl⟩;rw[hR];have HR:=Zy hR;obtain⟨mz,m0,m1,m2,m3,m4,m5,m6,m7,-⟩:=(aG.ext bM).ca;clear dB gy gI fE fH X hk hR hm gm iT fJ iU Z gq bT bM dC;go_enter func82,ntmps82;go_upto_region 1 with(fail);rw[<-iD.o];go_upto_region 2 with(fail);rw[<-iH.o];go_wp2_with fail;refine dS.mono ?_;rintro l h ⟨⟨S,dG,V,T,dH,W,rfl,bN⟩,aX⟩;obtain⟨w2,gD,aY,fF⟩:=nu h #[.slice S dG V,.slice T dH W] 195;have⟨gN,iF⟩:=jw (aX.trans aY) gD;have eD:Zz (GY m h w2 (some y) 0 0 S dG V T dH W ⟨begun nm m.args (m.locals.toNat - (m.args.length+1)),[]⟩ [] y):=Zy (by
  have aN:∀b,Ob (.slice S dG V) (.slice T dH W) b->b≠h.heap.size/\¬(Value.slice (some ⟨y,0,none⟩) 0 0).ownBlock=some b:=fun b i=>by
   have:=bN.lt b i;have:=aT.o;refine⟨Zm,fun a=>?_⟩;simp[Value.ownBlock]at a;omega
  refine⟨fF,(bN.ext aY).locals.keep jZ.stays (fun _ _ _ _ a=>a) aN,(bN.ext aY).stack.keep jZ.stays (fun _ _ _ _ a=>a) aN,jr (D:=fun _=>False) iA (aX.trans aY) fun _ _ _ c=>c,?_,?_,Zl⟩
  . simp[Value.ownBlock];have:=aT.o;have:=aX.size;omega
  . simp only[Bv];have:=dQ.o;omega)
 have dn:Zz ((wo:Nat)<=h):=Zy aX.size;clear aX aY gD fF bN m0 m1 m2 m3 m4 m5 m6 m7 mz dS;go_upto_region 3 with(fail);rw[<-iF.o];go_wp2;go_loopw [10,12,13] (fun so sk si wr=>∃g ao co S m1 V T m2 W n N aK,g<=m.code.length/\so=.slice ao g co/\sk=.bool N/\si=.int .i64 g/\Ext y wr/\(h:Nat)<wr/\GY m h wr ao g co S m1 V T m2 W n aK y.heap.size/\Zz (vF p k m (m.code.drop g) g N n=bL)) (fun _ _ si _=>m.code.length - (intOf si).toNat)
 case atStart=>exact⟨0,_,_,_,_,_,_,_,_,_,true,_,Tz _,rfl,rfl,rfl,gQ.trans gN,eD.blk.lt,eD,Zy (by simpa using HR.o)⟩
 case round=>
  obtain⟨g,ao,co,S,m1,V,T,m2,W,n,N,aK,hq,rfl,rfl,rfl,hE,hz,hL,HQ⟩:=hrel;have⟨HE,HL,iL,bE⟩:=kD hE hL hz (aR.trans hE);obtain⟨yz,y0,y1,y2,y3,y4,y5,y6,y7,-⟩:=(aG.ext hE).ca;clear hE hL hz;by_cases fZ:g<m.code.length;rotate_left
  . have dk:¬(g:Int)<m.code.length:=Zm
    have bR:g=m.code.length:=Zm
    have d:=HQ.o;rw[U6 Zm]at d;unfold vF at d;have⟨aA,iB⟩:=jw d bR;clear d bR;cases N
    . have d:=aA.o;simp only[U3,Uq]at d;subst d;go_wp2;go_ret2;exact⟨⟨_,_,_,rfl⟩,bE⟩
    . have d:=aA.o;simp only[Uy]at d;subst d;obtain⟨fq,fW,gu,q⟩:=lL wr;have u6:=fun j=>((aG.ext HE).ext (q.jC j)).c 6 (.slice a2 m.code.length q2) rfl;have o:=Zy q;clear q;go_wp2_with fail;refine lq o 6 [([1,2,3,4],0)] [5] ?_ ?_
      . exact jA
      refine nE ?_;intro r f;have B:Ext wr wr.drew:=jA;generalize wr.drew=wd at B |-;go_wp2_with fail;obtain⟨w5,gG,D,-⟩:=nu wd #[] 195;rw[<-gG];have e5:=B.trans D;have aj:=Zy e5;clear gG D;refine kk o f e5 ?_;clear f r;refine qX [_] rfl fun aV hK=>?_;(repeat (go_big_quiet_step (fail)));refine qn hK ?_;clear hK aV;clear e5 B;go_wp2;go_ret2;have bR:=iB.o;subst bR;exact⟨⟨_,_,_,rfl⟩,bE.trans aj⟩
  have dk:(g:Int)<m.code.length:=Zm
  have je:(0:Int)<=(g:Int):=Zm
  obtain⟨u,t⟩:∃u,m.code[g]?=some u:=⟨m.code[g]'fZ,CU fZ⟩;obtain⟨g1,o1,jd,rfl,jf,rfl,-,d1⟩:=gM.get t;obtain⟨x0,x1,x2,x3⟩:=d1.four;have⟨dm,eY,eZ,fe⟩:=kD x0 x1 x2 x3;have fV:=ib.o u (Tx t);obtain⟨-,fQ,-,-,fT,-,fU⟩:=rC fV;have⟨gX,gY,gZ⟩:=jI fQ fT fU;have d:=HQ.o;rw[mM t,KL]at d;obtain⟨ME,dE⟩:∃ME,Ba p k m N g n=ME:=⟨_,rfl⟩;rw[dE]at d;have⟨aA,df⟩:=jw d dE;clear d dE fV fQ fT fU t d1 x0 x1 x2 x3;have eG:=Zy (iw wr bE g);go_upto_region 7 with(fail);go_wp2_with fail;refine eG.mono ?_;rintro l w3 ⟨⟨xs,rfl,L⟩,dD⟩;obtain⟨P,bP⟩:∃P,qW m g=P:=⟨_,rfl⟩;rw[bP]at L |-;have eP:=Zy bP;obtain⟨xl,ji,rfl,bq,bu⟩:=L;obtain⟨b3,e3,rfl,-,-⟩:=bq.form;obtain⟨b4,e4,rfl,-,-⟩:=bu.form;obtain⟨w4,gF,C,fG⟩:=nu w3 #[.int .i64 (P.getD ⟨0,[],[]⟩).at_,.slice b3 (P.getD ⟨0,[],[]⟩).locals.length e3,.slice b4 (P.getD ⟨0,[],[]⟩).stack.length e4] 198;have av:=Zy (dD.trans C);have⟨bB,cK,bz,iG,ah⟩:=nC (HE.trans av) (bE.trans av) fG gF (HL.kp av);have jc:Zz ((h:Nat)<w3):=Zy (Tf iL.o dD.size);have bK:Zz (mI w4 I (P.getD ⟨0,[],[]⟩) [.int .i64 (P.getD ⟨0,[],[]⟩).at_,.slice b3 (P.getD ⟨0,[],[]⟩).locals.length e3,.slice b4 (P.getD ⟨0,[],[]⟩).stack.length e4]):=Zy ⟨_,_,rfl,bq.ext jZ.stays C,bu.ext jZ.stays C⟩;have eF:=Zy (fun c a=>iq.o c (U5 (show m.maps.find? (fun n=>n.at_=(g:Int))=some c from bP.trans a)));clear dD C fG gF bq bu bP y0 y1 y2 y3 y4 y5 y6 y7 yz eG;go_upto_region 8 with(fail);rw[<-iG.o];go_upto_if 35 with(fail);go_cut [12] (fun iX wx=>∃bU S m1 V T m2 W s',iX=.bool bU/\GY m h wx ao g co S m1 V T m2 W s' aK y.heap.size/\Ext y wx/\(w4:Nat)<=wx/\(if bU=true then some s' else none)=ME)
  case first=>
   cases P with
   |none=>
    go_wp2;go_meet;exact⟨N,_,_,_,_,_,_,n,rfl,ah,bB,Tu _,by rw[<-df.o];unfold Ba;rw[eP.o]⟩
   | some c =>
    simp only[TC]at bK bz;have gp:=eF.o c rfl;have⟨eH,dY⟩:=jw gp (gV w4 cK _ _ _ _ n ah.l ah.s c _ bK);obtain⟨b,i⟩:∃b,yE p k n c=b:=⟨_,rfl⟩;rw[i]at dY;have bn:=df.o;unfold Ba at bn;rw[eP.o]at bn;simp only[i]at bn;have dh:=Zy bn;obtain⟨cz,c0,-⟩:=(bX.ext bB).ca;obtain⟨dz,d0,d1,-⟩:=ah.blk.ca;obtain⟨dx,dA,-⟩:=ah.blk.fz;obtain⟨zz,z0,z1,z2,-⟩:=bz.ca;clear gp i bn;have fo:Zz (∀e,Ext w4 e->GY m h ((e.setCell h (.slice b3 c.locals.length e3)).setCell (h,1) (.slice b4 c.stack.length e4)) ao g co b3 c.locals.length e3 b4 c.stack.length e4 ⟨c.locals,c.stack⟩ aK y.heap.size/\Ext y ((e.setCell h (.slice b3 c.locals.length e3)).setCell (h,1) (.slice b4 c.stack.length e4))/\w4<=((e.setCell h (.slice b3 c.locals.length e3)).setCell (h,1) (.slice b4 c.stack.length e4)).heap.size):=Zy (fun e hW=>by
     have hs:Kp (·=h) e ((e.setCell h (.slice b3 c.locals.length e3)).setCell (h,1) (.slice b4 c.stack.length e4)):=Kp.duo (D:=(·=h)) rfl _ _;obtain⟨vl,vs,l,bq,bu⟩:=bK.o;cases l;have bf:=ah.kp hW;have dF:∀b,I b->b≠h.heap.size/\¬(Value.slice ao g co).ownBlock=some b:=fun b i=>by
      have h1:=ic.o b i;have G:=aR.size;have h3:=dn.o;have h5:=aT.o;refine⟨Zm,fun a=>?_⟩;have h4:=(bf.own.lt b a).1;have:=iI.o;omega
     have L:=hs.same (I:=I) (fun b i l=>(dF b i).1 l);refine⟨⟨bf.blk.duo _ _,(bq.ext jZ.stays hW).keep jZ.stays L dF,(bu.ext jZ.stays hW).keep jZ.stays L dF,jr bf.own hs (fun s J _ l=>bf.ne (l▸J)),bf.ne,eH.1,eH.2⟩,(bB.trans hW).own hs fun b l=>Tf dn.o aT.o,TV hW.size hs.size⟩)
    cases N
    . go_wp2;go_meet;have a:=fo.o w4 Kp.rr;exact⟨true,_,_,_,_,_,_,_,rfl,a.1,a.2.1,a.2.2,by rw[<-dh.o];rfl⟩
    . go_wp2_with fail;refine dY.mono ?_;rintro l w5 ⟨rfl,D⟩;have aj:=Zy D;obtain⟨dz,d0,d1,-⟩:=(ah.blk.ext D).ca;obtain⟨dx,dA,-⟩:=(ah.blk.ext D).fz;obtain⟨zz,-,z1,z2,-⟩:=(bz.ext D).ca;clear D;cases b
      . have hn:none=ME:=by rw[<-dh.o];rfl
        subst hn;have d:=aA.o;simp only at d;subst d;go_wp2;go_ret2;exact⟨⟨_,_,_,rfl⟩,cK.trans ((aj).alloc _)⟩
      . go_wp2;go_meet;have a:=fo.o w5 aj;exact⟨true,_,_,_,_,_,_,_,rfl,a.1,a.2.1,a.2.2,by rw[<-dh.o];rfl⟩
  obtain⟨bU,S,m1,V,T,m2,W,n,rfl,fB,D,fD,bO⟩:=hcut;obtain⟨w5,rfl⟩:∃w5,w5=wc:=⟨_,rfl⟩;have⟨az,aj,dX,iJ⟩:=kD fB D (aR.trans D) fD;clear fB D fD;cases bU
  . have hn:none=ME:=by rw[<-bO];rfl
    subst hn;have d:=aA.o;simp only at d;subst d;clear bO;go_wp2;go_ret2;exact⟨⟨_,_,_,rfl⟩,dX.alloc _⟩
  have hn:some n=ME:=by rw[<-bO];rfl
  subst hn;have d:=aA.o;simp only at d;have eQ:=Zy d;clear d bO ah bB cK HL HE df eF bK bz aA HQ;have eB:Zz (n.locals.length<=1000/\n.stack.length<=1000):=Zy ⟨Tf az.len dQ.o,az.o.sl⟩;have dV:=Zy (GM w5 n az.l az.s eB);obtain⟨dz,d0,d1,-⟩:=az.blk.ca;go_upto_region 15 with(fail);go_wp2_with fail;refine dV.mono ?_;rintro l w6 ⟨⟨c1,bV,h1,c2,bW,G,rfl,iR⟩,fu⟩;obtain⟨w7,gH,fw,fI⟩:=nu w6 #[.slice c1 bV h1,.slice c2 bW G] 195;have⟨bC,eX⟩:=jw (fu.trans fw) gH;have E:=Zy (az.kp bC);have dW:Zz (hQ w7 w6 0 [.slice c1 bV h1,.slice c2 bW G]):=Zy (hQ.kX fI);clear fu fw gH fI iR d0 d1 dz dV;go_upto_region 16 with(rw[<-eX.o];refine jF IZ rfl (.tmp 58) (.tmp 61) rfl y (.slice ao g co) g aK rfl E.own w6 1 [.slice c1 bV h1,.slice c2 bW G] rfl rfl dW Zt Zm (aj.trans bC).size ?_;intro g9 c9 x fC fA fO;have z:=Zy fA;have eO:=Zy fC;have cO:=Zy fO;clear fC fA fO);obtain⟨aB,fK⟩:∃aB,aK++[.slice c1 bV h1,.slice c2 bW G]=aB:=⟨_,rfl⟩;have ak:Zz (GY m h x (some g9) (g+1) c9 S m1 V T m2 W n aB y):=Zy (by
   have fP:∀b,(b≠h.heap.size/\¬(Value.slice ao g co).ownBlock=some b)/\b<w7.heap.size->b≠h.heap.size/\¬(Value.slice (some ⟨g9,0,none⟩) (g+1) c9).ownBlock=some b:=fun b i=>⟨i.1.1,fun a=>by
    have l:g9=b:=by simpa [Value.ownBlock]using a
    subst l;rcases cO.o with G|G
    . exact i.1.2 G
    . have:=i.2;omega⟩
   have L:=fun(aI:Nat->Prop) (hJ:∀b,aI b->¬(Value.slice ao g co).ownBlock=some b)=>z.same (I:=aI) hJ;refine⟨E.blk.kp z E.ne,(E.l.inside (fun _ _ _ _ a=>a) Zm).keep jZ.stays (L _ fun b i=>i.1.2) fP,(E.s.inside (fun _ _ _ _ a=>a) Zm).keep jZ.stays (L _ fun b i=>i.1.2) fP,by rw[<-fK];exact eO,?_,E.len,E.sl⟩;intro a;have l:g9=h:=by simpa [Value.ownBlock]using a
   rcases cO.o with G|G
   . exact E.ne (l▸G)
   . have:=E.blk.lt;omega)
  have bD:Zz (Ext y x):=Zy ((aj.trans bC).own z fun b i=>(E.own.lt b i).1);have ax:=Zy (aR.trans bD);have iK:Zz ((h:Nat)<x):=Zy ak.o.blk.lt;obtain⟨aJ,hO⟩:∃aJ,qJ p k m u n=aJ:=⟨_,rfl⟩;have d:=eQ.o;rw[hO]at d;have⟨eT,iy,dU,bA⟩:=kD d (fun s (a:aJ=some s)=>Jd (hO.trans a)) (fun e (a:Ext x e)=>GM e n (ak.kp a).l (ak.kp a).s eB) (fun e (a:Ext x e) lv sv (hf:kS ae e lv sv n)=>ig.o e (ax.trans a) lv sv n hf u gY (fun a=>Tf (gX.o a) ak.len) gZ.o);rw[hO]at bA;have bZ:Zz (ae<=x):=Zy (TV gL ax.size);obtain⟨fq,fW,gu,q⟩:=lL x;have p0:=fun j=>((bX.ext bD).ext (q.jC j)).c 0 (.slice pa p.length pc) rfl;obtain⟨-,dI,dJ,dK,dL,dM,dN,dO,dP,-⟩:=jq.pq fun j=>((aG.ext bD).ext (q.jC j));obtain⟨-,u0,u1,-⟩:=jq.pq fun j=>(ak.blk.ext (q.jC j));have x0:=fun j=>(ax.trans (q.jC j)).jm dm;have x1:=fun j=>(ax.trans (q.jC j)).jm eY;have x2:=fun j=>(ax.trans (q.jC j)).jm eZ;have x3:=fun j=>(ax.trans (q.jC j)).jm fe;have o:=Zy q;clear d hO fK q az aj dX iJ eQ eO cO z dW bC E eX;go_upto_region 16 with(fail);go_cut [16,17] (fun iY iZ wx=>∃b R n9 c9 Q n8 U,iY=.pointer (some ⟨b,0,none⟩)/\iZ=.bool aJ.isSome/\tL ae x wx () () aJ b R n9 c9 Q n8 U)
  case first=>
   refine rQ o 16 (.two [0,1,2,3,5,6,7,8,9] 4 14 (.two [] 10 14 (.one [11,12,13] 14 (.one [] 15 (.fin []))) (.one [] 10 (.one [11,12,13] 15 (.fin [])))) (.one [] 4 (.one [] 10 (.one [11,12,13] 15 (.fin []))))) ?_ ?_
   . exact jA
   refine two [_,_,_,_,_,_,_,_,_] rfl rfl rfl fun aV hK=>?_;(repeat (go_big_quiet_step (fail)));((refine EP hK (fun r f=>?_) fun r f=>?_)<;>clear hK aV)
   . have B:Ext x x.drew:=jA;generalize x.drew=wd at B |-;go_wp2_with fail;refine(dU wd B).mono ?_;rintro l w7 ⟨⟨a4,n4,q4,a5,n5,q5,rfl,aD⟩,C⟩;have F:=B.trans C;have bH:=Zy aD;have af:Zz (∀c,Ob (.slice a4 n4 q4) (.slice a5 n5 q5) c->wd.heap.size<=c/\c<w7.heap.size):=Zy (fun c t=>aD.lt c t);have O:Zz ((x:Nat)<=wd):=Zy B.size;have av:=Zy C;clear C aD;go_wp2_with fail;refine kk o f F ?_;clear f r;refine Ck rfl rfl (fun r f=>?_) fun r f=>?_
     . skip;go_wp2_with fail;refine(bA w7 F _ _ (kS.base (TV bZ O) bH)).mono ?_;rintro l x ⟨R,n9,c9,Q,n8,U,rfl,au,K⟩;have⟨ag,bI,z⟩:=jI au K (F.own K (fun b i=>TV O (af b i).1));clear au K;go_wp2_with fail;refine kk o f z ?_;clear f r;refine Ac ?_;intro r f;go_wp2_with fail;obtain⟨wy,aa,H,Y⟩:=nu x #[(),()] 195;rw[<-aa];have⟨bG,aQ,ek⟩:=jI H Y (z.trans H);obtain⟨zz,z0,z1,-⟩:=Y.ca;obtain⟨gJ,gK,-⟩:=Y.fz;clear aa H Y;refine kk o f ek ?_;clear f r;refine j3 rfl fun r f=>?_;go_wp2_with fail;have A:=Zy (tL.of aQ z.size ek (fun s J=>⟨(ag s J).1.ext bG,fun c t=>⟨((ag s J).2 c t).elim (fun a=>Tf (af.o c a) O.o) (fun a=>Te F.size),fun l=>Te (((ag.o s J).1.lt c t).2)⟩⟩));have HX:=Zy (Dw A.2.2.1);refine kk o f HX ?_;clear f r;refine kQ ?_;go_wp2;go_meet;exact⟨_,_,_,_,_,_,_,rfl,rfl,A⟩
     . skip;go_wp2_with fail;obtain⟨wy,aa,H,Y⟩:=nu w7 #[(),()] 195;rw[<-aa];have⟨bG,aQ⟩:=jw H Y;have aU:Zz ((wy:Nat)=w7+1):=Zy (by rw[aa];simp);have ey:=F.trans H;clear aa H Y;refine kk o f ey ?_;clear f r;refine j3 rfl fun r f=>?_;go_wp2_with fail;refine(bA wy ey _ _ (kS.base (TV bZ O) (bH.ext bG))).mono ?_;rintro l x ⟨R,n9,c9,Q,n8,U,rfl,au,K⟩;have⟨ag,bI,z⟩:=jI au K (ey.own K (fun b i=>TV O (af b i).1));clear au K;have ai:=aQ.kp bI (fun a=>Te (af.o _ a));have bY:=Zy ai;obtain⟨zz,z0,z1,-⟩:=ai.ca;obtain⟨gJ,gK,-⟩:=ai.fz;clear ai;go_wp2_with fail;refine kk o f z ?_;clear f r;refine Ac ?_;intro r f;go_wp2_with fail;have A:=Zy (tL.of bY F.size z (fun s J=>⟨(ag s J).1,fun c t=>((ag s J).2 c t).elim (fun a=>by have:=af.o c a;have:=O.o;constructor<;>omega) (fun a=>by have:=aU.o;have:=F.size;constructor<;>omega)⟩));have HX:=Zy (Dw A.2.2.1);refine kk o f HX ?_;clear f r;refine kQ ?_;go_wp2;go_meet;exact⟨_,_,_,_,_,_,_,rfl,rfl,A⟩
   . have B:Ext x x.drew:=jA;generalize x.drew=wd at B |-;go_wp2_with fail;obtain⟨wy,aa,H,Y⟩:=nu wd #[(),()] 195;rw[<-aa];have⟨bG,aQ,cB⟩:=jI H Y B;have aU:Zz ((wy:Nat)=wd+1):=Zy (by rw[aa];simp);have ey:=B.trans H;clear aa H Y;refine kk o f ey ?_;clear f r;refine j3 rfl fun r f=>?_;go_wp2_with fail;refine(dU wy ey).mono ?_;rintro l w7 ⟨⟨a4,n4,q4,a5,n5,q5,rfl,aD⟩,C⟩;have F:=ey.trans C;have bH:=Zy aD;have af:Zz (∀c,Ob (.slice a4 n4 q4) (.slice a5 n5 q5) c->wy.heap.size<=c/\c<w7.heap.size):=Zy (fun c t=>aD.lt c t);have O:Zz ((x:Nat)<=wy):=Zy ey.size;have av:=Zy C;clear C aD;go_wp2_with fail;refine kk o f F ?_;clear f r;refine j3 rfl fun r f=>?_;go_wp2_with fail;refine(bA w7 F _ _ (kS.base (TV bZ O) bH)).mono ?_;rintro l x ⟨R,n9,c9,Q,n8,U,rfl,au,K⟩;have⟨ag,bI,z⟩:=jI au K (F.own K (fun b i=>TV O (af b i).1));clear au K;have ai:=(aQ.ext av).kp bI (fun a=>Tf (af.o _ a) aU.o);have bY:=Zy ai;obtain⟨zz,z0,z1,-⟩:=ai.ca;obtain⟨gJ,gK,-⟩:=ai.fz;clear ai;go_wp2_with fail;refine kk o f z ?_;clear f r;refine Ac ?_;intro r f;go_wp2_with fail;have A:=Zy (tL.of bY cB.size z (fun s J=>⟨(ag s J).1,fun c t=>((ag s J).2 c t).elim (fun a=>by have:=af.o c a;have:=O.o;have:=aU.o;have:=cB.size;constructor<;>omega) (fun a=>by have:=aU.o;have:=av.size;have:=cB.size;constructor<;>omega)⟩));have HX:=Zy (Dw A.2.2.1);refine kk o f HX ?_;clear f r;refine kQ ?_;go_wp2;go_meet;exact⟨_,_,_,_,_,_,_,rfl,rfl,A⟩
  obtain⟨bg,R,n9,aW,Q,n8,U,rfl,rfl,hH⟩:=hcut;obtain⟨w9,rfl⟩:∃w9,w9=wc:=⟨_,rfl⟩;have aZ:=Dw hH.2.2.1;have⟨A,ja,cu,ay,ik⟩:=nC hH aZ (bD.trans aZ) (ax.trans aZ) (ak.kp aZ);clear hH aZ o p0 u0 u1 dI dJ dK dL dM dN dO dP x0 x1 x2 x3;obtain⟨fq,fW,gu,q⟩:=lL w9;have p0:=fun j=>((bX.ext cu).ext (q.jC j)).c 0 (.slice pa p.length pc) rfl;obtain⟨-,dI,dJ,dK,dL,dM,dN,dO,dP,-⟩:=jq.pq fun j=>((aG.ext cu).ext (q.jC j));obtain⟨-,u0,u1,-⟩:=jq.pq fun j=>(A.1.ext (q.jC j));have x0:=fun j=>(ay.trans (q.jC j)).jm dm;have x1:=fun j=>(ay.trans (q.jC j)).jm eY;have x2:=fun j=>(ay.trans (q.jC j)).jm eZ;have x3:=fun j=>(ay.trans (q.jC j)).jm fe;have o:=Zy q;clear q;cases aJ with
  |none=>
   have d:=eT.o;simp only at d;subst d;go_upto_region 17 with(fail);refine zJ o ?_ ?_;rotate_left;(repeat (go_big_quiet_step ((fail))));refine TP ?_;(rintro _ ⟨sW,rfl⟩);rotate_left
   . exact jA
   have bF:=Zy (o.jC sW);go_wp2;go_ret2;exact⟨⟨_,_,_,rfl⟩,(ay.trans bF).alloc _⟩
  | some s =>
   obtain⟨bQ,fM⟩:=A.2.1 s rfl;have⟨dZ,gW,eu⟩:=jI bQ fM (fun e (a:Ext w9 e)=>il.o e (ay.trans a) _ _ _ s (bQ.ext a).locals (bQ.ext a).stack u);have d:=eT.o;simp only at d;obtain⟨b,i⟩:∃b,uJ p k m u s=b:=⟨_,rfl⟩;rw[i]at eu d;have eU:=Zy d;clear d i bQ fM;go_upto_region 17 with(fail);refine zJ o ?_ ?_;rotate_left;(repeat (go_big_quiet_step (first|(go_at_call 127;refine(eu _ (o.jC _)).mono ?_;rintro l aP ⟨rfl,iQ⟩;exact⟨rfl,o.o.o aP ((o.jC _).trans iQ)⟩))));refine TP ?_;(rintro _ ⟨sW,rfl⟩);rotate_left
   . exact jA
   have aM:=o.jC sW;obtain⟨aP,gB⟩:∃aP,aP=fW sW:=⟨_,rfl⟩;rw[<-gB]at aM |-;have⟨bF,gP,gT,aH⟩:=kD aM (cu.trans aM) (ay.trans aM) (ik.kp aM);clear aM gB o p0 u0 u1 dI dJ dK dL dM dN dO dP x0 x1 x2 x3;cases b
   . have d:=eU.o;simp only[U3,Uq]at d;subst d;go_wp2;go_ret2;exact⟨⟨_,_,_,rfl⟩,gT.alloc _⟩
   have d:=eU.o;simp only[Uy]at d;have iC:=Zy d;clear d;obtain⟨gz,g0,iP,-⟩:=(A.1.ext bF).ca;obtain⟨dz,d0,d1,-⟩:=aH.blk.ca;obtain⟨dx,dA,-⟩:=aH.blk.fz;obtain⟨aF,bS⟩:=S9 ((aP.setCell h (.slice R n9 aW)).setCell (h,1) (.slice Q n8 U));have di:Zz (Kp (·=h) aP aF):=Zy (by rw[bS];exact Kp.duo (D:=(·=h)) rfl _ _);have aS:Zz (Ext y aF):=Zy (gP.own di fun b l=>Tf dn.o aT.o);have gU:=Zy (aR.trans aS);have dR:Zz (jq aF h 195 #[.slice R n9 aW,.slice Q n8 U]):=Zy (by rw[bS];exact aH.blk.duo _ _);have cZ:Zz (GY m h aF (some g9) (g+1) c9 R n9 aW Q n8 U s aB y):=Zy (by
    have aN:∀b,Ob (.slice R n9 aW) (.slice Q n8 U) b->b≠h.heap.size/\¬(Value.slice (some ⟨g9,0,none⟩) (g+1) c9).ownBlock=some b:=fun b i=>by
     rcases gW.o b i with a|a
     . rcases a with a|a<;>cases a
     . have:=iK.o;refine⟨Zm,fun h3=>?_⟩;have:=(ak.own.lt b h3).2;omega
    have hG:=(dZ.ext bF);have L:=di.same (I:=Ob (.slice R n9 aW) (.slice Q n8 U)) (fun b i l=>(aN b i).1 l);exact⟨dR,hG.locals.keep jZ.stays L aN,hG.stack.keep jZ.stays L aN,jr aH.own di (fun c t _ l=>aH.ne (l▸t)),aH.ne,by rw[iy.o s rfl];exact ak.len,dZ.sl⟩)
   have dw:Zz (h.heap.size<aF):=Zy dR.o.lt;have iE:=Zy bS;clear bS;go_upto_region 20 with(fail);rw[<-iE.o];obtain⟨yz,-,-,-,-,-,-,y6,-⟩:=(aG.ext aS).ca;have x0:=gU.jm dm;have xz:=jv x0;clear g0 iP gz d0 d1 dx dA dz;have aO:∀N:Bool,(decide (u.op≠10)&&decide (u.op≠13))=N->Zz (vF p k m (m.code.drop (g+1)) (g+1) N s=bL):=fun N a=>Zy (by rw[<-a];exact iC);by_cases aC:u.op=10
   . have HK:=aO false (by rw[aC];rfl);have iN:(u.op !=10)=false:=by rw[aC];rfl
     clear aO aC;go_wp2;go_round
     case rel=>exact⟨g+1,_,_,_,_,_,_,_,_,s,false,aB,Zm,rfl,rfl,Zk,aS.o,dw.o,cZ.o,HK⟩
     case measure=>exact Zj
   have iN:(u.op !=10)=true:=by simpa using aC
   by_cases aL:u.op=13
   . have HK:=aO false (by rw[aL];rfl);have iO:(u.op !=13)=false:=by rw[aL];rfl
     clear aO aC aL;go_wp2;go_round
     case rel=>exact⟨g+1,_,_,_,_,_,_,_,_,s,false,aB,Zm,rfl,rfl,Zk,aS.o,dw.o,cZ.o,HK⟩
     case measure=>exact Zj
   . have HK:=aO true (by simp[aC,aL]);have iO:(u.op !=13)=true:=by simpa using aL
     clear aO aC aL;go_wp2;go_round
     case rel=>exact⟨g+1,_,_,_,_,_,_,_,_,s,true,aB,Zm,rfl,rfl,Zk,aS.o,dw.o,cZ.o,HK⟩
     case measure=>exact Zj
theorem M.O4{x:pU}(b:M.method p x=m)(a:nR m=true):decide (vF p x.of.keeper m m.code 0 true ⟨begun x.of.name m.args (m.locals.toNat - (m.args.length+1)),[]⟩=0)=right p x:=by
 subst b;exact Jj a
theorem M.FY{r:Ref}{a:Class}(b:cls? p r=some a){k:Nat}{m:M.Method}(c:a.methods[k]?=some m):M.method p ⟨r,k⟩=m:=by
 unfold M.method method? cls;simp only;rw[Ty Zm,b,TC,UD,c];rfl
theorem Ik(aa:Nat){w:World}(I:Nat->Prop){v:Value}(p:jl)(R:nA aa w I v p)(r:Ref):Calls prog 32 #[.agg #[v],.agg #[r.keeper,r.name]] w fun e w'=>e=.returned (.bool (lS p r))/\Ext w w':=by
 obtain⟨G,J,rfl,aM,aN⟩:=R.sl.form;obtain⟨n,u⟩:=S9 ((w.alloc (.cells #[.slice G p.length J] 25)).alloc (.cells #[r.keeper,r.name] 64));have O:Ext w n:=by rw[u];exact Zx
 have y:Zz (jq n w 25 #[.slice G p.length J]):=Zy (by rw[u];exact(jq.new _ _ _).ext Zx);have z:Zz (jq n (w+1) 64 #[r.keeper,r.name]):=Zy (by rw[u];exact jq.after _ _ Zl);have j:=Zy (R.ext O);have⟨D,C,aF⟩:=jI (Lc n I j.blk p j.sl j.ok r) O u;obtain⟨N,K,-⟩:=y.ca;obtain⟨rz,Y,Z,-⟩:=z.ca;clear O u R;obtain⟨X,t⟩:∃X,jW p r=X:=⟨_,rfl⟩;rw[t]at D;go_enter func32,ntmps32;go_upto_region 1 with(fail);rw[<-aF.o];go_wp2_with fail;refine D.mono ?_;rintro e w1 ⟨rfl,ak⟩;have o:=Zy ak;clear ak D K N Y Z rz;cases X
 . go_wp2;go_ret;exact⟨by unfold lS;rw[t];rfl,C.trans o⟩
 obtain⟨b,s⟩:=M.mr (oG t).2;have⟨HQ,A,ag⟩:=jI t s (M.BC j.ok s);have aB:Zz (has p r.keeper=true):=Zy (Dr.2 (Aw s));have af:=Zy (EZ w1 I p (j.ext o).sl r b s);obtain⟨N,K,-⟩:=(y.ext o).ca;obtain⟨rz,Y,Z,-⟩:=(z.ext o).ca;clear t s;go_wp2_with fail;refine af.mono ?_;rintro e w2 ⟨⟨cs,rfl,hC⟩,au⟩;obtain⟨f1,f2,m1,m2,rfl⟩:=hC.form;obtain⟨w3,aA,P,H⟩:=nu w2 #[b.name,b.jE,.slice f1 b.fields.length f2,.slice m1 b.methods.length m2] 38;obtain⟨vf,vm,ay,-,az⟩:=hC;simp only[U2,Vm,VR]at ay;obtain⟨rfl,rfl⟩:=ay;have⟨ae,aG,q,aD⟩:=kD H aA ((o.trans au).trans P) (az.ext jy.stays P);have aP:b.methods.length<=4:=by
  have:=ag.o;unfold o9 at this;simp only[RV,Tv]at this;exact this.1.1.2
 obtain⟨bz,-,-,-,L,-⟩:=H.ca;clear au P aA H az af K N Y Z rz;go_upto_region 5 with(fail);rw[<-aG.o];go_loopw [6] (fun W wr=>∃c:Nat,c<=b.methods.length/\W=.int .i64 c/\Ext w3 wr/\Zz (∀i,i<c->right p ⟨r,i⟩=true)) (fun W _=>b.methods.length - (intOf W).toNat)
 case atStart=>exact⟨0,Tz _,rfl,Kp.rr,Zy Zm⟩
 case round=>
  obtain⟨c,hk,rfl,h,HA⟩:=hrel;have B:=Zy h;clear L bz;obtain⟨bz,-,-,-,L,-⟩:=(ae.ext h).ca;by_cases T:c<b.methods.length
  . have dk:(c:Int)<b.methods.length:=Zm
    obtain⟨g,x⟩:∃g,b.methods[c]?=some g:=⟨b.methods[c]'T,CU T⟩;obtain⟨b',aJ,cs,rfl,-,Q,-,f⟩:=(aD.ext jy.stays h).get x;have U:=EH ag g (Tx x);have⟨HR,aC⟩:=jw (O4 (x:=⟨r,c⟩) (FY A x) U) (fun aj (k:Ext wr aj)=>NH aa aj I p (((j.ext q).ext h).ext k) r.keeper aB r.name g (jy.stays _ _ _ _ _ _ (Ext.same k) (fun _ k=>k) Q) U);obtain⟨t1,t2,t3,t4,t5,t6,rfl⟩:=Q.form;obtain⟨aK,aL,aQ,d⟩:=lL wr;have p0:=fun a=>(y.ext (q.trans (h.trans (d.jC a)))).c 0 (.slice G p.length J) rfl;obtain⟨-,q0,q1,-⟩:=jq.pq fun a=>(z.ext (q.trans (h.trans (d.jC a))));have d3:=fun a=>(ae.ext (h.trans (d.jC a))).c 3 (.slice (some ⟨b',aJ,none⟩) b.methods.length m2) rfl;have g0:=fun a=>(f.ext (d.jC a)).eight.1;have g1:=fun a=>(f.ext (d.jC a)).eight.2.1;have g2:=fun a=>(f.ext (d.jC a)).eight.2.2.1;have g3:=fun a=>(f.ext (d.jC a)).eight.2.2.2.1;have g4:=fun a=>(f.ext (d.jC a)).eight.2.2.2.2.1;have g5:=fun a=>(f.ext (d.jC a)).eight.2.2.2.2.2.1;have g6:=fun a=>(f.ext (d.jC a)).eight.2.2.2.2.2.2.1;have g7:=fun a=>(f.ext (d.jC a)).eight.2.2.2.2.2.2.2;have gz:=jv f.eight.1;have F:=Zy d;clear x Q f U h d;go_wp2_with fail;clear L;refine lq F 15 [([0,1,2,3,4,5,6,7,8,9],10)] [11,12,13,14] ?_ ?_
    . exact jA
    refine nE ?_;intro K2 ax;go_wp2_with fail;refine(aC _ (jA:Ext wr wr.drew)).mono ?_;rintro e w5 ⟨⟨la,lc,ld,rfl⟩,av⟩;have e5:Ext wr w5:=(jA:Ext wr wr.drew).trans av;have ah:=Zy e5;clear av;go_wp2_with fail;refine kk F ax e5 ?_;clear ax K2;refine qX [_,_,_,_] rfl fun aH hK=>?_;(repeat (go_big_quiet_step (fail)));refine qn hK ?_;clear hK aH;clear p0 q0 q1 d3 g0 g1 g2 g3 g4 g5 g6 g7 gz F;obtain⟨m,V⟩:∃m,vF p r.keeper g g.code 0 true ⟨begun r.name g.args (g.locals.toNat - (g.args.length+1)),[]⟩=m:=⟨_,rfl⟩;have ai:Zz (decide (m=0)=right p ⟨r,c⟩):=Zy (by rw[<-V];exact HR);rw[V];clear V;by_cases l:m=0
    . have aI:(m !=0)=false:=by simp[l]
      have E:Zz (right p ⟨r,c⟩=true):=Zy (by rw[<-ai.o];exact Tw l);clear l;go_wp2;go_round
      case rel=>exact⟨c+1,Zm,Zk,B.o.trans ah.o,Zy fun i hj=>by
       by_cases e:i=c
       . subst e;exact E
       . exact HA i Zm⟩
      case measure=>exact Zj
    . have aI:(m !=0)=true:=by simpa using l
      have E:Zz (right p ⟨r,c⟩=false):=Zy (by rw[<-ai.o];exact SS l);clear l;go_wp2;go_ret;have S:lS p r=false:=by
       unfold lS;have e:cls p r=b:=by unfold cls;rw[A.o];rfl
       rw[HQ.o,e,TJ];rw[Bool.eq_false_iff];intro k;have:=Tc.1 k c (Uk.2 T);rw[E.o]at this;cases this
      exact⟨by rw[S];rfl,C.trans (q.trans (B.trans ah))⟩
  . have dk:¬(c:Int)<b.methods.length:=Zm
    have aO:c=b.methods.length:=Zm
    go_wp2;go_ret;have S:lS p r=true:=by
     unfold lS;have e:cls p r=b:=by unfold cls;rw[A.o];rfl
     rw[HQ.o,e,TJ,Tc];intro i hj;exact HA i (Te (Uk.1 hj))
    exact⟨by rw[S];rfl,C.trans (q.trans B)⟩
theorem Il(w:World){I:Nat->Prop}(hI:∀m,I m->m<w.heap.size){v:Value}(p:jl)(J:SliceOf 2 jo w I v p):Calls prog 12 #[.agg #[v]] w fun n w'=>n=.returned (.bool (ni p))/\Ext w w':=by
 obtain⟨A,C,rfl,ax,ay⟩:=J.form;obtain⟨w0,ah,G,B⟩:=nu w #[.slice A p.length C] 25;have⟨R,e,aj,x,U⟩:=nC B G ah (J.ext jo.stays G) hI;obtain⟨E,D,-⟩:=B.ca;have u:=Zy (Bj w0 _ p x);obtain⟨O,d⟩:∃O,kv p=O:=⟨_,rfl⟩;rw[d]at u;clear ah G B J hI;go_enter func12,ntmps12;go_upto_region 1 with(fail);rw[<-aj.o];go_wp2_with fail;refine u.mono ?_;rintro n w1 ⟨rfl,Z⟩;have f:=Zy Z;clear Z u D E;cases O
 . go_wp2;go_ret;exact⟨by unfold ni;rw[d];rfl,e.trans f⟩
 have ai:Zz (∀z,Ext w0 z->nA w z I (.slice A p.length C) p):=Zy fun z o=>⟨x.ext jo.stays o,U,(e.trans o).size,d⟩;have⟨V,W⟩:=jw d (EY w1 I (fun m hb=>Ta (U m hb) (e.trans f).size) p (x.ext jo.stays f) d);obtain⟨E,D,-⟩:=(R.ext f).ca;clear d;go_wp2_with fail;refine W.mono ?_;rintro n w2 ⟨⟨⟨vl,rfl,s⟩,ak⟩,aa⟩;obtain⟨a,H⟩:∃a,classes p=a:=⟨_,rfl⟩;have S:=Zy H;rw[H]at s ak;obtain⟨la,lc,rfl,-,-⟩:=s.form;have⟨HS,l⟩:=jw s (f.trans aa);clear aa s H D E W;go_wp2;go_loopw [4] (fun N wr=>∃b:Nat,b<=a.length/\N=.int .i64 b/\Ext w2 wr/\Zz (∀h∈a.take b,lS p h=true)) (fun N _=>a.length - (intOf N).toNat)
 case atStart=>exact⟨0,Tz _,rfl,Kp.rr,Zy Zl⟩
 case round=>
  obtain⟨b,hk,rfl,q,P⟩:=hrel;have k:=Zy q;by_cases ag:b<a.length
  . have dk:(b:Int)<a.length:=Zm
    obtain⟨i,L⟩:∃i,a[b]?=some i:=⟨a[b]'ag,CU ag⟩;obtain⟨bl,ol,cs,rfl,-,rfl,-,r⟩:=(HS.ext qN.stays q).get L;have X:=Zy L;obtain⟨au,av,az,g⟩:=lL wr;have y0:=fun j=>(R.ext (l.trans (q.trans (g.jC j)))).c 0 (.slice A p.length C) rfl;have x0:=fun j=>(r.ext (g.jC j)).two.1;have x1:=fun j=>(r.ext (g.jC j)).two.2;have xz:=jv r.two.1;have y:=Zy g;clear L r q g;go_wp2_with fail;refine lq y 7 [([0,1,2,3,4],5)] [6] ?_ ?_
    . exact jA
    refine nE ?_;intro K2 af;go_wp2_with fail;refine(Ik w I p (ai _ (l.trans (k.trans (jA:Ext wr wr.drew)))) i).mono ?_;rintro n w5 ⟨rfl,ae⟩;have Y:Ext wr w5:=(jA:Ext wr wr.drew).trans ae;have T:=Zy Y;obtain⟨t,F⟩:∃t,lS p i=t:=⟨_,rfl⟩;have Q:=Zy F;rw[F];clear ae F;go_wp2_with fail;refine kk y af Y ?_;clear af K2;refine uC ?_;clear y0 x0 x1 xz y;cases t
    . go_wp2;go_ret;have K:ni p=false:=by
       unfold ni;rw[V.o,S.o,TJ,Bool.eq_false_iff];intro o;have:=Tc.1 o i (Tx X);rw[Q.o]at this;cases this
      exact⟨by rw[K];rfl,e.trans (l.trans (k.trans T))⟩
    . go_wp2;go_round
      case rel=>exact⟨b+1,Zm,Zk,k.o.trans T.o,Zy fun h c=>by
       rw[Td,X.o]at c;rcases TU.1 c with c|c
       . exact P h c
       . simp only[V3,U4]at c;subst c;exact Q⟩
      case measure=>exact Zj
  . have dk:¬(b:Int)<a.length:=Zm
    go_wp2;go_ret;have K:ni p=true:=by
     unfold ni;rw[V.o,S.o,TJ,Tc];intro h c;have:=P.o h;rw[Tq Zm]at this;exact this c
    exact⟨by rw[K];rfl,e.trans (l.trans k)⟩
end Go.Proofs.YtenhnldnpdlniaaGreat
