/- Walks. -/
import Derived.Test.YtenhnldnpdlniaaGreatOtCoreLo
set_option maxRecDepth 100000
set_option maxHeartbeats 4000000
set_option linter.all false
namespace Go.Proofs.YtenhnldnpdlniaaGreat
open Go Go.RowKit Tryz M
variable {lk: Bool}{c: GC}{g: Gh}{C I K L a b d k n o y: Nat}{B aG e f i j m: Own}{α: Type}{v: Value}{W w: World}{p: hZ}{l: iZ}
section
variable {w w':World} {l:iZ} {p:M.hZ} {own:Own} {B mb:Nat} {lk:Bool} {g:Gh} {r:List GC} {c:GC}
theorem Gh.fr(a:g.cs=r++[c]):g.st.frames=r.map GC.f++[c.f]:=by unfold Gh.st;rw[a];simp
theorem Gh.top(a:g.cs=r++[c]):M.top g.st=c.f:=nH (Gh.fr a)
theorem jd.CU(a:jd w l p own B mb lk g)(b:g.cs=r++[c]):kW p c.f g.st.heap.length=true:=a.good.top (Gh.fr b)
theorem jd.mi(a:jd w l p own B mb lk g)(b:g.cs=r++[c]):LA (M.method p c.f.of):=
 uC (oC a.kK.ok (jk.1 (a.CU b)).1).1
theorem jd.setStack(k:jd w l p own B mb lk g)(v:g.cs=r++[c])(xs:List Val)(j:Value)(e:h9 w' c.cb 129 ((Bp p c).setIfInBounds 13 j))(x:w'.ownsRow B 42 2 j xs.length (xs.flatMap jS))
    (D:∀b,j.ownBlock=some b->c.vs.ownBlock=some b\/w.heap.size<=b) (m:Kp (fun a=>a=c.cb\/c.vs.ownBlock=some a) w w') (A:M.Good p {g with cs:=r++[{c with f:={c.f with stack:=xs},vs:=j}]}.st):
    Kp (MO l own) w w'/\∃i,nA w own i/\jd w' l p i B mb lk {g with cs:=r++[{c with f:={c.f with stack:=xs},vs:=j}]}:=by
 have h:=k.at_ v;have y:∀a,(a=c.cb\/c.vs.ownBlock=some a)->PO own (fun b=>b=(4,r.length)\/b=(6,r.length)) a:=fun a e=>by
  rcases e with d|d
  . subst d;exact⟨_,h.role,.inl rfl⟩
  . exact⟨_,h.ky.role a d,.inr rfl⟩
 have s:=m.weak fun a _ d=>y a d;refine⟨m.weak fun a _ d=>(y a d).mo,?_⟩;have⟨i,o,C,F,z⟩:∃i,nA w own i/\(∀a,i a≠none->B<=a/\a<w'.heap.size)/\(∀b,j.ownBlock=some b->i b=some (6,r.length))/\∀a q,i a=some (4,q)->own a=some (4,q):=by
  cases d:j.ownBlock with
  |none=>exact⟨own,nA.refl _ _,k.Ar m.size,(fun b t=>by cases t),fun _ _ n=>n⟩
  |some b=>
   refine⟨own.add b (6,r.length),Own.y8 ?_,fun a e=>?_,(fun G t=>by cases t;exact Own.add_eq _ _ _),fun a q e=>Own.Hm Zl e⟩
   . rcases D b d with n|n
     . exact .inl (h.ky.role b n)
     . exact .inr n
   . by_cases u:a=b
     . subst u;exact x.lt a d
     . rw[Own.lS _ u]at e;exact k.Ar m.size a e
 have E:¬((5,r.length)=((4,r.length):Nat×Nat)\/(5,r.length)=((6,r.length):Nat×Nat)):=by simp
 refine⟨i,o,k.H5 v rfl (s.weak fun a _ ⟨b,e1,e2⟩=>⟨b,e1,e2.elim .inl fun d=>.inr (.inr d)⟩) o C ⟨e,(o _ h.blk.lt).trans h.role,h.low,jK.kp jb.stays s (fun a e=>k.yM a e) h.ml,h.loc.yu s o E,⟨x,F⟩⟩ A m (fun a q e d=>d.elim id fun d=>by rw[h.ky.role a d]at e;cases e) z⟩
theorem jd.Sk(h:jd w l p own B mb lk g)(k:g.cs=r++[c])(n:Int)(m:M.Good p {g with cs:=r++[{c with f:={c.f with pc:=n}}]}.st):
    Kp (MO l own) w (w.setCell (c.cb,11) n)/\jd (w.setCell (c.cb,11) n) l p own B mb lk {g with cs:=r++[{c with f:={c.f with pc:=n}}]}:=by
 have a:=h.at_ k;have j:Kp (·=c.cb) w (w.setCell (c.cb,11) n):=qA;have d:Kp (PO own (·=(4,r.length))) w (w.setCell (c.cb,11) n):=j.weak fun e _ b=>⟨_,by rw[b];exact a.role,rfl⟩;have i:=nA.refl w own;refine⟨d.weak fun e _ b=>b.mo,h.H5 k rfl (d.weak fun e _ ⟨q,e1,e2⟩=>⟨q,e1,.inl e2⟩) i (h.Ar j.size) ⟨a.blk.jE 11 _,a.role,a.low,jK.kp jb.stays d (fun e o=>h.yM e o) a.ml,a.loc.yu d i Zl,a.ky.yu d i Zl⟩ m j (fun _ _ _ b=>b) fun _ _ s=>s⟩
end
def Ig(n:Nat)(q:Nat×Nat):Prop:=q=(4,n)\/q=(6,n)
theorem Kp.po{g: Own}{R:Nat×Nat->Prop}{a b: World}(c:Kp (PO g R) w a)(d:Kp (PO i R) a b)(j:nA w g i):Kp (PO g R) w b:=
 ⟨d.os.trans c.os,d.tape.trans c.tape,d.output.trans c.output,TD c.size d.size,
  fun f e h=>(d.block f (Tp e c.size) (fun⟨k,e1,e2⟩=>h ⟨k,by rw[<-j f e];exact e1,e2⟩)).trans (c.block f e h)⟩
theorem jd.H8{h i: World}{j m:Nat}{r:List GC}(d:jd w l p f j m lk g)(e:g.cs=r++[c])(k:Kp (fun b=>b=c.cb\/c.vs.ownBlock=some b) h i):Kp (PO f (Ig r.length)) h i:=
 k.weak fun b _ a=>by
  rcases a with a|a
  . subst a;exact⟨_,(d.at_ e).role,.inl rfl⟩
  . exact⟨_,(d.at_ e).ky.role b a,.inr rfl⟩
theorem kX{y:Own}{q: Nat}(a:jd w l p y q n lk g)(r:List GC)(c:GC)(h:g.cs=r++[c]):Calls prog 72 #[some n] w fun u B=>u=.returned (some c.cb)/\Ext w B:=by
 have m:g.cs.length=r.length+1:=by rw[h];simp
 obtain⟨s,t,d,-,-,E⟩:=jP a.calls.row Zm;have i:=a.calls.row;rw[d,m]at i;have f:=(lG (enc:=vO) (k:=1) (fun _=>rfl) (l:=g.cs) i (i:=r.length) (x:=c) (by rw[h];simp)).one;rw[V6]at f;rw[m]at d;have k:(yN l lk g)[3]?=some (.slice (some ⟨s,0,none⟩) (r.length+1) t):=by rw[<-d];rfl
 have F:r.length+1<=8:=by have:=a.good.nf;rw[Gh.fr h]at this;simpa using this
 have H:IntKind.i64.wrap ((r.length:Int)+1 - 1)=r.length:=by rw[Tg _ Zm];omega
 obtain⟨D,v,G,b⟩:=mJ w;have z:=fun j=>(a.blk.ext (b.jv j)).c 3 _ k;have A:=fun j=>(b.jv j).iW f;have⟨e,C⟩:=jc b a;clear a b k f i d;go_enter func72,ntmps72;go_wp2_with fail;refine Fb e ?_ ?_;rotate_left;(repeat (go_big_quiet_step ((fail))));refine wpQuiet_nil ?_;(rintro _ ⟨o,rfl⟩);rotate_left
 . exact jg
 have x:=e.jv o;generalize v o=w1 at*;clear e z A;go_wp2;go_ret;exact⟨rfl,x⟩
theorem jT.mk'{d: World}{b c:Own}{e f:Nat}{s:St}{a:Gh}(h:Kp (MO l b) w d)(i:nA w b c)(g:jd d l p c e f lk a)(j:a.st=s):jT w l p b e f lk v s (.returned v) d:=
 ⟨rfl,h,c,a,i,g,j⟩
theorem Ea(w:World)(l:iZ)(p:hZ)(s:Own)(t q:Nat)(lk:Bool)(g:Gh)(k:jd w l p s t q lk g)(r:List GC)(c:GC)(b:g.cs=r++[c])(F:g.status=1)(a:Int)(h0:0<=a):Calls prog 111 #[some q,a] w fun x A=>jT w l p s t q lk (.int .i64 (jump p a g.st).1) (jump p a g.st).2 x A/\Kp (PO s (Ig r.length)) w A:=by
 have u:=Zy k;have v:Zz (jump p a g.st=if((M.method p c.f.of).code.length:Int)<=a then(10,g.st)else(1,{g.st with frames:=r.map GC.f++[{c.f with pc:=a}]})):=Zy (by
  unfold jump;rw[Gh.top b,oI (Gh.fr b)])
 have B:=Zy (wD k.good (Gh.fr b) F h0).2.2.1;have e:=Zy b;clear k b;go_enter func111,ntmps111;go_wp2_with fail;refine(kX u r c e).mono ?_;rintro x G ⟨rfl,n⟩;have m:=u.ext n;have o:=m.at_ e;obtain⟨K,-,-,-,-,-,-,-,-,-,I,-,H,-⟩:=o.blk.ca;have J:=o.blk.frozen 11;have⟨j,h⟩:=jc m n;clear m o n;by_cases d:((M.method p c.f.of).code.length:Int)<=a
 . have i:Zz (jump p a g.st=(10,g.st)):=Zy (by rw[v.o,SV d]);have E:=SY d;go_wp2;go_ret;rw[i.o];exact⟨jT.mk' h.any (nA.refl _ _) j rfl,h.any⟩
 . have i:Zz (jump p a g.st=(1,{g.st with frames:=r.map GC.f++[{c.f with pc:=a}]})):=Zy (by rw[v.o,SX d]);have E:=Wv d;clear d;go_wp2;go_ret;have y:=B.o;rw[i.o]at y;rw[i.o];have z:(⟨g.status,r++[{c with f:={c.f with pc:=a}}],g.os,g.outs,g.back,g.vc,g.vh,g.vo⟩:Gh).st={g.st with frames:=r.map GC.f++[{c.f with pc:=a}]}:=by simp[Gh.st]
   obtain⟨C,D⟩:=j.Sk e a (by rw[z];exact y);exact⟨jT.mk' (h.any.trans C) (nA.refl _ _) D z,h.any.trans (j.H8 e ((Kp.refl _ G).setCell (p:=⟨c.cb,11,none⟩) (fun _=>.inl rfl) _))⟩
theorem BF(e:jd w l p f d b lk g)(r:List GC)(c:GC)(h:g.cs=r++[c])(i:g.status=1)(a:Int)(h0:0<=a):Calls prog 111 #[some b,a] w (jT w l p f d b lk (.int .i64 (jump p a g.st).1) (jump p a g.st).2):=
 (Ea w l p f d b lk g e r c h i a h0).mono fun _ _ e=>e.1
theorem Eb(w:World)(l:iZ)(p:hZ)(k:Own)(m j:Nat)(lk:Bool)(g:Gh)(b:jd w l p k m j lk g)(r:List GC)(c:GC)(a:g.cs=r++[c])(A:g.status=1):Calls prog 105 #[some j] w fun e v=>jT w l p k m j lk (.int .i64 (next p g.st).1) (next p g.st).2 e v/\Kp (PO k (Ig r.length)) w v:=by
 have n:=Zy b;have y:Zz (next p g.st=jump p (c.f.pc+1) g.st):=Zy (by unfold next;rw[Gh.top a]);have i:=jk.1 (b.CU a);have C:=(b.mi a).code;have D:=i.2.1;have E:=i.2.2.1;have F:IntKind.i64.wrap (c.f.pc+1)=c.f.pc+1:=Tg _ Zm;have d:=Zy a;clear b a i;go_enter func105,ntmps105;go_wp2_with fail;refine(kX n r c d).mono ?_;rintro e G ⟨rfl,h⟩;have f:=n.ext h;have u:=f.at_ d;have B:=u.blk.c 11 c.f.pc rfl;have⟨x,o⟩:=jc f h;clear f u h;go_wp2_with fail;refine(Ea _ _ _ _ _ _ _ _ x r c d A (c.f.pc+1) Zm).mono ?_;rintro e H ⟨s,t⟩;have z:=Zy (o.any.trans t);clear t;have q:=Zy (jT.behind o s);obtain⟨rfl,-⟩:=s;rw[<-y.o]at q |-;go_wp2;go_ret;exact⟨q,z⟩
theorem uR(d:jd w l p e b a lk g)(r:List GC){c:GC}(f:g.cs=r++[c])(h:g.status=1):Calls prog 105 #[some a] w (jT w l p e b a lk (.int .i64 (next p g.st).1) (next p g.st).2):=
 (Eb w l p e b a lk g d r c f h).mono fun _ _ d=>d.1
theorem Gd(w:World)(l:iZ)(p:hZ)(x:Own)(z J:Nat)(lk:Bool)(g:Gh)(n:jd w l p x z J lk g)(r:List GC)(c:GC)(d:g.cs=r++[c])(az:g.status=1)(v:Val)(hv:jH v g.os.length=true):Calls prog 103 #[some J,.agg #[v.kind,v.n]] w fun a w'=>jT w l p x z J lk (.int .i64 (push p v g.st).1) (push p v g.st).2 a w'/\Kp (PO x (Ig r.length)) w w':=by
 obtain⟨y,ag,F,O⟩:=nu w #[v.kind,v.n] 42;have Q:=n.ext F;have e:=jk.1 (n.CU d);have aG:=(n.mi d).stack;have aI:=e.2.2.2.2.1;have G:=n.at_ d;have ay:¬(w=c.cb\/c.vs.ownBlock=some w.heap.size):=by
  rintro(a|a)
  . have:=G.blk.lt;omega
  . have:=(G.ky.blk a).2;omega
 have i:Zz (push p v g.st=if(M.method p c.f.of).stack<=(c.f.stack.length:Int)then(10,g.st)else next p {g.st with frames:=r.map GC.f++[{c.f with stack:=c.f.stack++[v]}]}):=Zy (by
  unfold push;rw[Gh.top d,oI (Gh.fr d)])
 have V:(c.f.stack.length:Int)<(M.method p c.f.of).stack->M.Good p {g.st with frames:=r.map GC.f++[{c.f with stack:=c.f.stack++[v]}]}:=fun H=>by
  refine n.good.turn (Gh.fr d) (jk.2 ⟨e.1,e.2.1,e.2.2.1,e.2.2.2.1,by simp;omega,e.2.2.2.2.2.1,?_⟩);intro aC o;rcases Ty.1 o with o|o
  . exact e.2.2.2.2.2.2 aC o
  . simp only[TU]at o;subst o;simpa [Gh.st]using hv
 obtain⟨aF,f,aH,C⟩:=uD.ex (fun W'=>Kp (fun j=>j=c.cb\/c.vs.ownBlock=some j) y W') _ Kp.rr;obtain⟨-,r0,r1,-⟩:=h9.qW fun aD=>(O.kp (C.jv aD) ay);have⟨m,A,q,ax⟩:=kQ C Q F ag;have ah:=Zy V;have s:=Zy d;clear n Q F ag O C V G d e;go_enter func103,ntmps103;go_wp2_with fail;rw[<-ax.o];refine kT m 7 [([0,4],1),([2,3],5)] [6] ?_ ?_
 . exact jg
 refine mP ?_;intro t k;go_wp2_with fail;refine(kX (A.ext jg) r c s).mono ?_;rintro a w1 ⟨rfl,S⟩;have h:=Zy (((Kp.refl _ y).drew:Ext y _).trans S);clear S;go_wp2_with fail;refine kk m k h.any ?_;clear k t;refine mP ?_;intro t k;have E:=A.ext h;have ae:=E.at_ s;have⟨K,b⟩:=jc E ae;clear E ae;by_cases H:(c.f.stack.length:Int)<(M.method p c.f.of).stack
 . replace i:Zz (push p v g.st=next p {g.st with frames:=r.map GC.f++[{c.f with stack:=c.f.stack++[v]}]}):=Zy (by rw[i.o,SX Zm]);go_wp2_with fail;refine(Lh w1 c.cb 13 z c.f.stack.length (M.method p c.f.of).stack b.blk rfl rfl v.kind v.n b.ky.row Zm H ?_ ?_).mono ?_
   . intro a;have:=b.ky.role _ a;rw[b.o.role]at this;cases this
   . have:=b.low;have:=b.blk.lt;omega
   rintro a w2 ⟨rfl,D,P,Y,af,R,u⟩;have I:(⟨g.status,r++[{c with f:={c.f with stack:=c.f.stack++[v]},vs:=(D,c.f.stack.length+1,P)}],g.os,g.outs,g.back,g.vc,g.vh,g.vo⟩:Gh).st={g.st with frames:=r.map GC.f++[{c.f with stack:=c.f.stack++[v]}]}:=by simp[Gh.st]
   obtain⟨W,aA,aa,X⟩:=K.setStack s (c.f.stack++[v]) (D,c.f.stack.length+1,P) R (by
    rw[TL,TJ];simpa [jS]using Y) (fun aB hq=>by
    have:D=aB:=by simpa [Value.ownBlock]using hq
    subst this;exact af) u (by rw[I];exact ah H)
   have ai:Zz (Kp (fun j=>j=c.cb\/c.vs.ownBlock=some j) y w2):=Zy (h.any.trans u);have⟨au,aj⟩:=jc ((q.trans h).any.trans (K.H8 s u)) ((q.trans h).any.trans W);have ak:=Zy X;have L:Zz (nA w x aA):=Zy (fun j hb=>aa j (SL q.size h.size));rw[<-I]at i;clear Y af R u W aa X I r0 r1;go_wp2_with fail;refine kk m k ai ?_;clear k t;clear m;refine uG ?_;go_wp2_with fail;refine(Eb _ _ _ _ _ _ _ _ ak r _ rfl az).mono ?_;rintro a w3 ⟨U,Z⟩;have av:=Zy (au.po Z L);clear Z;have N:=Zy (jT.after aj L U);obtain⟨rfl,-⟩:=U;rw[<-i.o]at N |-;go_wp2;go_ret;exact⟨N,av⟩
 . replace i:Zz (push p v g.st=(10,g.st)):=Zy (by rw[i.o,SV Zm]);go_wp2_with fail;refine(CZ w1 c.cb 13 c.f.stack.length (M.method p c.f.of).stack b.blk rfl rfl b.ky.form v.kind v.n Zm).mono ?_;rintro a w2 ⟨rfl,T⟩;have B:=Zy (h.trans T);clear T r0 r1;go_wp2_with fail;refine kk m k B.any ?_;clear k t;clear m;refine uG ?_;go_wp2;go_ret;rw[i.o];exact⟨jT.behind q (A.stop B),(q.trans B).any⟩
theorem sJ(d:jd w l p e b a lk g)(r:List GC)(c:GC)(f:g.cs=r++[c])(h:g.status=1)(v:Val)(i:jH v g.os.length=true):Calls prog 103 #[some a,.agg #[v.kind,v.n]] w (jT w l p e b a lk (.int .i64 (push p v g.st).1) (push p v g.st).2):=
 (Gd w l p e b a lk g d r c f h v i).mono fun _ _ d=>d.1
def Ii(w:World)(vh:Value)(h:List qi):Prop:=
 ∃a cap,vh=.slice a h.length cap/\∀(n:Nat) (o:qi),h[n]?=some o->∃b off v,a=some ⟨b,off,none⟩/\hH w b (off+n*3) [.int .i64 o.of.keeper,.string o.of.name,v]
theorem Ii.ext{c: World}{b:Value}{a:List qi}(l:Ii w b a)(k:Ext w c):Ii c b a:=by
 obtain⟨d,f,g,h⟩:=l;exact⟨d,f,g,fun n o m=>by
  obtain⟨e,p,q,i,j⟩:=h n o m;exact⟨e,p,q,i,j.ext k⟩⟩
theorem jd.Oz{n:Own}{f m:Nat}(c:jd w l p n f m lk g):Ii w g.vh g.st.heap:=by
 obtain⟨h,i,a⟩:=c.heap.form;refine⟨h,i,by rw[a];simp[Gh.st],fun r s d=>?_⟩;simp only[Gh.st,Um,U1]at d;obtain⟨o,e,rfl⟩:=d;have b:=c.heap.row;obtain⟨k,q,j,_⟩:=jP b (SK ((Tv.1 e).1));rw[j]at b a;cases a;have:=lG (enc:=qw) (k:=3) (fun _=>rfl) b e;exact⟨k,0,o.v,rfl,by simpa [qw]using this⟩
theorem nP(k:Int)(d:w.cell? a=some (.int .i64 k)):Calls prog 109 #[some a] w fun b c=>b=.returned k/\w=c:=by
 go_enter func109,ntmps109;go_wp2;go_ret;exact⟨rfl,rfl⟩
theorem AX{a:List qi}{b:qi}(c:a[n]?=some b):tH a n=b.of:=by simp[tH,c]
theorem vR(w:World)(l:iZ)(p:hZ)(S:ja w l p)(k:Int)(vh:Value)(c:List qi)(Y:Ii w vh c)(v:Val)(hv:v.kind=2->0<=v.n/\v.n<c.length)(t:Kind):Calls prog 100 #[some l.L,k,vh,.agg #[v.kind,v.n],.agg #[t.kind,t.name]] w fun F w'=>F=.returned (.bool (hasType p k c v t))/\Ext w w':=by
 obtain⟨e,a⟩:=t;obtain⟨g,f⟩:=v;obtain⟨u,s⟩:=SH ((w.alloc (.cells #[g,f] 42)).alloc (.cells #[e,a] 109));have A:Ext w u:=by rw[s];exact kx
 have Q:h9 u w 42 #[g,f]:=by rw[s];exact(h9.new _ _ _).ext kx
 have R:h9 u (w+1) 109 #[e,a]:=by rw[s];exact h9.newAt _ _ Zl
 have⟨HH,N,n,aa,ae,z⟩:=rX (Y.ext A) (S.ext A) A Q R s;obtain⟨ai,ak,rfl,-⟩:=Y;clear S A Q R s;by_cases r:e=1
 . subst r;have b:Zz (hasType p k c ⟨g,f⟩ ⟨1,a⟩=decide (g=1)):=Zy (by unfold hasType;rw[SV rfl]);go_enter func100,ntmps100;go_wp2;go_ret;exact⟨hQ (by rw[b.o];rfl),by rw[<-z.o];exact n⟩
 have az:=SI.2 r;by_cases C:g=3
 . subst C;have b:Zz (hasType p k c ⟨3,f⟩ ⟨e,a⟩=true):=Zy (by unfold hasType;rw[SX r,SV rfl]);go_enter func100,ntmps100;go_wp2;go_ret;exact⟨hQ b.symm,by rw[<-z.o];exact n⟩
 have aB:=SI.2 C;by_cases H:g=2
 . subst H;have b:Zz (hasType p k c ⟨2,f⟩ ⟨e,a⟩=(decide ((find p k a).2=1)&&under p (tH c f) (find p k a).1)):=Zy (by unfold hasType;rw[SX r,SX C];rfl);obtain⟨af,ag⟩:=hv rfl;simp only at af ag;obtain⟨d,rfl⟩:∃d:Nat,f=d:=⟨f.toNat,Zm⟩;obtain⟨m,G⟩:∃m,c[d]?=some m:=⟨c[d]'Zm,Dj _⟩;obtain⟨a',au,ea,X⟩:=HH.o;cases ea;obtain⟨aj,aC,fv,rfl,W⟩:=X d m G;replace b:Zz (hasType p k c ⟨2,d⟩ ⟨e,a⟩=(decide ((find p k a).2=1)&&under p m.of (find p k a).1)):=Zy (by rw[b.o,AX G]);obtain⟨qz,-,q1,-⟩:=ae.ca;have K:=Zy W;clear X G W;go_enter func100,ntmps100;go_wp2_with fail;rw[<-z.o];refine(pJ _ _ _ N k a).mono ?_;rintro F w1 ⟨rfl,T⟩;generalize find p k a=F1 at*;obtain⟨⟨I,J⟩,c1⟩:=F1;simp only at*;obtain⟨x,Z,U,P⟩:=nu w1 #[I,J] 64;have⟨O,i⟩:=jc Z (T.trans U);obtain⟨ah,av,ay,j⟩:=mJ x;have aG:=fun h=>((aa.ext i).ext (j.jv h)).c 1 d rfl;obtain⟨-,aD,aF,-⟩:=h9.qW fun h=>(P.ext (j.jv h));have aH:=fun h=>(K.ext (i.trans (j.jv h))).three.1;have aI:=fun h=>(K.ext (i.trans (j.jv h))).three.2.1;have y:=Zy j;clear Z U P j T q1 qz;by_cases B:c1=1
   . subst B;replace b:Zz (hasType p k c ⟨2,d⟩ ⟨e,a⟩=under p m.of ⟨I,J⟩):=Zy (by rw[b.o];rfl);go_wp2_with fail;rw[<-O.o];refine kT y 13 [([0,1,2,3,4,5,6,7,8,9,10],11)] [12] ?_ ?_
     . exact jg
     refine mP ?_;intro E q;go_wp2_with fail;refine(vI (N.ext (i.trans jg)) m.of ⟨I,J⟩).mono ?_;rintro F w4 ⟨rfl,V⟩;have L:=Zy (((Kp.refl _ x).drew:Ext x _).trans V);clear V;go_wp2_with fail;refine kk y q L ?_;clear q E;refine wG [_] rfl fun D o=>?_;(repeat (go_big_quiet_step (fail)));refine qn o ?_;clear o D;go_wp2;go_ret;exact⟨hQ b.symm,n.trans (i.trans L)⟩
   . have ax:=SI.2 B;replace b:Zz (hasType p k c ⟨2,d⟩ ⟨e,a⟩=false):=Zy (by rw[b.o];simp[B]);clear B;go_wp2_with fail;rw[<-O.o];refine kT y 13 [([0,1,2,3,4,5,6,7,8,9,10],11)] [12] ?_ ?_
     . exact jg
     refine mP ?_;intro E q;go_wp2_with fail;refine kk y q ((Kp.refl _ x).drew:Ext x _) ?_;clear q E;refine wG [_] rfl fun D o=>?_;(repeat (go_big_quiet_step (fail)));refine qn o ?_;clear o D;go_wp2;go_ret;exact⟨hQ b.symm,n.trans (i.drew)⟩
 . have aA:=TP.2 H;have b:Zz (hasType p k c ⟨g,f⟩ ⟨e,a⟩=false):=Zy (by unfold hasType;rw[SX r,SX C,SV H]);go_enter func100,ntmps100;go_wp2;go_ret;exact⟨hQ b.symm,by rw[<-z.o];exact n⟩
theorem yO{V:Own}(I:jd w l p V L K lk g)(v:Val)(E:jH v g.os.length=true)(t:Ref):Calls prog 110 #[some K,.agg #[v.kind,v.n],.agg #[t.keeper,t.name]] w fun H W=>H=.returned (object p v t g.st)/\Ext w W:=by
 obtain⟨q,m⟩:=v;obtain⟨d,o⟩:=SH ((w.alloc (.cells #[q,m] 42)).alloc (.cells #[t.keeper,t.name] 64));have B:Ext w d:=by rw[o];exact kx
 have F:h9 d w.heap.size 42 #[q,m]:=by rw[o];exact(h9.new _ _ _).ext kx
 have G:h9 d (w.heap.size+1) 64 #[t.keeper,t.name]:=by rw[o];exact h9.newAt _ _ Zl
 have⟨n,r,N,O,A⟩:=qR (I.ext B) B F G o;clear I B F G o;by_cases i:q=3
 . subst i;have c:Zz (object p ⟨3,m⟩ t g.st=3):=Zy (by unfold object;rw[SV rfl]);go_enter func110,ntmps110;go_wp2;go_ret;exact⟨by rw[c.o];rfl,by rw[<-A.o];exact r.o⟩
 have ag:=SI.2 i;obtain⟨X,aa,ae,b⟩:=mJ d;have ax:=fun a=>(n.o.ext (b.jv a)).blk.c 0 (some l.L) rfl;obtain⟨R,S,j⟩:=n.o.heap.form;have ay:=fun a=>(n.o.ext (b.jv a)).blk.c 4 (.slice R g.os.length S) (by rw[<-j];rfl);obtain⟨-,ah,ai,-⟩:=h9.qW fun a=>(N.o.ext (b.jv a));obtain⟨-,aj,ak,-⟩:=h9.qW fun a=>(O.o.ext (b.jv a));by_cases z:q=2
 . subst z;obtain⟨T,U⟩:=qM E rfl;simp only at T U;obtain⟨e,rfl⟩:∃e:Nat,m=e:=⟨m.toNat,by omega⟩;obtain⟨k,D⟩:∃k,g.os[e]?=some k:=⟨g.os[e]'Zm,Dj _⟩;have c:Zz (object p ⟨2,e⟩ t g.st=if under p k.o.of t then 1 else 10):=Zy (by
    have:tH g.st.heap e=k.o.of:=AX (by simp[Gh.st,D]);unfold object;rw[SX i,this];rfl)
   have x:=n.o.heap.row;rw[j]at x;obtain⟨Y,Z,Q,-⟩:=jP x Zm;cases Q;have C:=lG (enc:=qw) (k:=3) (fun _=>rfl) x D;have au:=fun a=>(hH.ext C (b.jv a)).three.1;have av:=fun a=>(hH.ext C (b.jv a)).three.2.1;have⟨h,P⟩:=jc b j;clear b j x C D E i;go_enter func110,ntmps110;go_wp2_with fail;rw[<-A.o];refine kT h 21 [([0,1,2,3,4,5,6,7,8,9,10,11,12,13,14,15,16,17],18)] [19,20] ?_ ?_
   . exact jg
   refine mP ?_;intro u f;go_wp2_with fail;refine(vI (n.o.kK.ext jg) k.o.of t).mono ?_;rintro H w4 ⟨rfl,J⟩;have s:=Zy (((Kp.refl _ d).drew:Ext d _).trans J);clear J;cases y:under p k.o.of t
   . replace c:Zz (object p ⟨2,e⟩ t g.st=10):=Zy (by rw[c.o,y];rfl);clear y;go_wp2_with fail;refine kk h f s.o ?_;clear f u;refine uG ?_;go_wp2;go_ret;exact⟨by rw[c.o];rfl,r.o.trans s.o⟩
   . replace c:Zz (object p ⟨2,e⟩ t g.st=1):=Zy (by rw[c.o,y];rfl);clear y;go_wp2_with fail;refine kk h f s.o ?_;clear f u;refine uG ?_;go_wp2;go_ret;exact⟨by rw[c.o];rfl,r.o.trans s.o⟩
 . have af:=TP.2 z;have c:Zz (object p ⟨q,m⟩ t g.st=10):=Zy (by unfold object;rw[SX i,SV z]);have⟨h,P⟩:=jc b j;clear b j E i z;go_enter func110,ntmps110;go_wp2_with fail;rw[<-A.o];refine kT h 21 [([0,1,2,3,4,5,6,7,8,9,10,11,12,13,14,15,16,17],18)] [19,20] ?_ ?_
   . exact jg
   refine mP ?_;intro u f;go_wp2_with fail;refine kk h f ((Kp.refl _ d).drew:Ext d _) ?_;clear f u;refine uG ?_;go_wp2;go_ret;exact⟨by rw[c.o];rfl,r.o.drew⟩
theorem Jd(w:World)(l:iZ)(p:hZ)(j:Own)(k a:Nat)(lk:Bool)(g:Gh)(d:jd w l p j k a lk g)(c:Int):Calls prog 49 #[some a,c] w (jT w l p j k a lk (.tuple #[]) (end_ c g.st)):=by
 have t:=d.blk.c 2 g.status rfl;obtain⟨o,q,i⟩:=d.calls.form;have u:=d.blk.c 3 (.slice o g.cs.length q) (by rw[<-i];rfl);have v:=d.blk.frozen 2;have x:=d.blk.frozen 3;have z:=d.blk.lt;have⟨b,s⟩:=jc d i;clear d i;by_cases e:c=1
 . subst e;have f:Zz (end_ 1 g.st=g.st):=Zy (by unfold end_;rw[SV rfl]);go_enter func49,ntmps49;go_wp2_with fail;refine SQ ?_;rw[f.o];exact b.stop Kp.rr
 . have y:=TP.2 e;have f:Zz (end_ c g.st={g.st with status:=c,frames:=[]}):=Zy (by unfold end_;rw[SX e]);clear e;go_enter func49,ntmps49;go_wp2_with fail;refine SQ ?_;rw[f.o];have r:Kp (·=a) w ((w.setCell (a,2) c).setCell (a,3) ()):=
    ((Kp.refl (·=a) w).setCell (p:=⟨a,2,none⟩) (fun _=>rfl) _).setCell (p:=⟨a,3,none⟩) (fun _=>rfl) _
   have m:Kp (PO j (·=(0,0))) w ((w.setCell (a,2) c).setCell (a,3) ()):=r.weak fun n _ h=>⟨_,by rw[h];exact b.role,rfl⟩;refine jT.mk' (m.weak fun n _ h=>h.mo) (nA.refl _ _) (b.H4 {g with status:=c,cs:=[],vc:=()} m ((b.blk.jE 2 _).jE 3 _) (.inr ⟨lU.nil _ _ _ _ _ _,g.cs,rfl⟩) ⟨rfl,rfl,rfl,rfl⟩ ?_) (by simp[Gh.st]);exact⟨b.good.heap,by simp[Gh.st],by simp[Gh.st],b.good.outs,b.good.rO,b.good.back⟩
theorem LC.set2(c:LC l p w W)(i:w<=b)(d e:Value)(h:l.L<w):LC l p w ((W.setCell b d).setCell (b,1) e):=by
 have a:=((Kp.refl (·=b) W).setCell (p:=⟨b,0,none⟩) (fun _=>rfl) d).setCell (p:=⟨b,1,none⟩) (fun _=>rfl) e;exact⟨c.kp.own a (fun g f=>Zm),c.at_.kp a (fun g a f=>Zm)⟩
theorem D9{aO:Own}{aA: Nat}(A:jd w l p aO aA y lk g)(r:List GC)(c:GC)(ai:g.cs=r++[c])(n:ByteArray):Calls prog 107 #[some y,n] w fun m w'=>m=.returned (.tuple #[.agg #[.int .i64 (lW p n g.st).1.keeper,.string (lW p n g.st).1.name],.bool (lW p n g.st).2])/\LC l p w w':=by
 obtain⟨q,ay,F,b4⟩:=nu w #[SS, ""] 64;have ah:=(A.ext F).kK.lt;have aJ:=A.kK.lt;have aQ:=A.kK.Fj;have HM:=Zy A.blk.lt;obtain⟨⟨⟨h,i⟩,x⟩,hF⟩:∃aB,find p c.f.of.of.keeper n=aB:=⟨_,rfl⟩;have HV:Zz (lW p n g.st=(⟨h,i⟩,decide (x=1)&&jD p ⟨h,i⟩)):=Zy (by unfold lW;rw[Gh.top ai,hF]);have ax:∀k,LC l p q k->Calls prog 42 #[some l.L,c.f.of.of.keeper,n] k fun m w'=>m=.returned (.tuple #[.agg #[h,i],x])/\Ext k w':=fun k hW=>by
  have:=pJ k l p hW.at_ c.f.of.of.keeper n;rw[hF]at this;exact this
 have K:=Zy ax;have a:=Zy (LC.refl (A.ext F).kK).drew;obtain⟨aH,aI,aM,v⟩:=uD.ex (fun W=>LC l p q W) q (LC.refl (A.ext F).kK);have s:=Zy (A.ext F);have R:=fun H=>(s.qj (v.jv H).kp (v.jv H).at_).blk.c 0 (some l.L) rfl;have⟨e,aD,aC,aG,J⟩:=qR v F b4 ay ai;have aN:=b4.lt;clear A v F b4 ay hF ax ai;rw[HV.o];go_enter func107,ntmps107;go_wp2_with fail;rw[<-aG.o];rename_i aa G
 have az : ∀ (z : Nat) (u : World), LC l p q u -> h9 u z 64 #[h, i] -> q <= z -> aa { tmps := #[.pointer (some ⟨y, 0, none⟩), .string n, undef, undef, .pointer (some ⟨w, 0, none⟩), .bool false, .pointer (some ⟨z, 0, none⟩), .int .i64 x, .tuple #[.agg #[h, i], x], .pointer (some ⟨y, 0, none⟩), .pointer (some ⟨y, 0, none⟩), .pointer (some ⟨y, 0, none⟩), .pointer (some ⟨l.L, 0, none⟩), .pointer (some ⟨y, 0, none⟩), .pointer (some ⟨c.cb, 0, none⟩), .int .i64 c.f.of.of.keeper, .string n, .tuple #[.agg #[h, i], x], .agg #[h, i], .int .i64 x, undef, undef, undef, undef, undef, undef, undef, undef, undef, undef, undef], defers := [] } u := by
  intro z u E hB t;refine G _ _ ?_;clear G e R a K;have aj:¬(w=l.D):=Zm
  have aR:(w:Nat)<q:=aN;have ae:=aC.kp E.kp aj;have aT:¬z=w:=Zm
  have aU:¬w=z:=Zm
  have aP:l.D<l.L:=s.kK.ord.2.2;have x0:=ae.c 0 SS rfl;obtain⟨aH,aI,aM,v⟩:=uD.ex (fun W=>Kp (fun o=>o=l.D\/o=w.heap.size) u W/\ja W l p) u ⟨Kp.rr,E.at_⟩;have aK:¬(z=l.D\/z=w):=Zm
  have aL:¬(y=l.D\/y=w):=by
   have:=s.hB;have:=s.low;have:=HM.o;omega
  obtain⟨-,q0,q1,-⟩:=h9.qW fun H=>(hB.kp (v.jv H).1 aK);have qm:=fun H=>((s.qj E.kp E.at_).blk.kp (v.jv H).1 aL).c 0 (some l.L) rfl;have⟨e,D,I⟩:=jr v E ae;clear E hB v ae x0;have au:∀k o,Kp (·=l.D) u k->ja k l p->k.heap[w.heap.size]?=u.heap[w.heap.size]?→o=(decide (x=1)&&jD p ⟨h,i⟩)→
      Kp (fun o=>o=l.D\/o=w.heap.size) u ((k.setCell w h).setCell (w,1) i)/\ja ((k.setCell w h).setCell (w,1) i) l p/\
      LC l p w ((k.setCell w h).setCell (w,1) i)/\h9 ((k.setCell w h).setCell (w,1) i) w 64 #[h,i]:=fun k o hk hL hb _=>by
   have h4:h9 k w 64 #[SS, ""]:=I.keep hb;have h5:LC l p w k:=(⟨aD.any,s.kK⟩:LC l p w q).trans (D.trans ⟨hk,hL⟩);have h6:=LC.set2 h5 (Tz _) h i aJ;exact⟨(hk.weak fun o _ m=>.inl m).trans (((Kp.refl _ k).setCell (p:=⟨w,0,none⟩) (fun _=>.inr rfl) _).setCell (p:=⟨w,1,none⟩) (fun _=>.inr rfl) _),h6.at_,h6,h4.set2 _ _⟩
  have ak:=Zy au;clear au;by_cases X:x=1
  . subst X;go_wp2_with fail;refine kT e 12 [([0,1,2,3,4,5,6,7,8],9),([10],11)] [] ?_ ?_
    . exact⟨jg,D.at_.ext jg⟩
    refine mP ?_;intro d b;go_wp2_with fail;refine(mM (D.at_.ext jg) ⟨h,i⟩).mono ?_;rintro m w9 ⟨rfl,ag,av⟩;have Q:=((Kp.refl _ u).drew).trans av;obtain⟨L,N,O,P⟩:=ak.o w9 _ Q ag (Q.block _ (by have:=I.lt;exact this) aj) rfl;have af:=I.kp Q aj;obtain⟨gz,x0,x1,-⟩:=af.ca;obtain⟨B,C,-⟩:=af.fz;have⟨Y,Z,F3,F4,aF⟩:=qR L N O P (Tt (Q.weak (D':=fun o=>o=l.D\/o=w.heap.size) fun o _ m=>.inl m) ag);clear av ag Q L N O P af;go_wp2_with fail;refine kk e b aF ?_;clear b d;refine mP ?_;intro d b;go_wp2_with fail;refine kk e b ⟨Y,Z⟩ ?_;clear b d;refine kG ?_;go_wp2_with fail;refine Px (h7 LG rfl w rfl [h,i] (hH.mO F4) rfl) rfl ?_;exact⟨by simp,F3⟩
  . have aS:=SI.2 X;have hd:(decide (x=1)&&jD p ⟨h,i⟩)=false:=by rw[RN X];rfl
    have HD:=Zy hd;obtain⟨L,N,O,P⟩:=ak.o u.drew _ jg (D.at_.ext jg) rfl rfl;obtain⟨gz,x0,x1,-⟩:=I.ca;obtain⟨B,C,-⟩:=I.fz;have⟨Y,Z,F3,F4⟩:=kQ L N O P;clear L N O P X hd;go_wp2_with fail;refine kT e 12 [([0,1,2,3,4,5,6,7,8],9),([10],11)] [] ?_ ?_
    . exact⟨jg,D.at_.ext jg⟩
    refine mP ?_;intro d b;go_wp2_with fail;refine kk e b ⟨jg,D.at_.ext jg⟩ ?_;clear b d;refine mP ?_;intro d b;go_wp2_with fail;refine kk e b ⟨Y,Z⟩ ?_;clear b d;refine kG ?_;go_wp2_with fail;refine Px (h7 LG rfl w rfl [h,i] (hH.mO F4) rfl) rfl ?_;exact⟨by rw[HD.o];rfl,F3⟩
 have V:=Zy az;clear az;clear G;refine ve e 14 (.two [0,1,2,3,4,7] 5 12 (.two [] 6 12 (.two [] 8 12 (.one [9,10,11] 12 (.one [] 13 (.fin []))) (.one [] 8 (.one [9,10,11] 13 (.fin [])))) (.one [] 6 (.one [] 8 (.one [9,10,11] 13 (.fin []))))) (.one [] 5 (.one [] 6 (.one [] 8 (.one [9,10,11] 13 (.fin [])))))) ?_ ?_
 . exact a
 refine two [_,_,_,_,_,_] rfl rfl rfl fun aa G=>?_;(repeat (go_big_quiet_step (fail)));((refine JE G (fun d b=>?_) fun d b=>?_)<;>clear G aa)
 . go_wp2_with fail;refine(kX (s.qj a.kp a.at_) r c J).mono ?_;rintro m wc ⟨rfl,j⟩;replace a:=Zy (a.ext j);clear j;go_wp2_with fail;refine kk e b a ?_;clear b d;refine FJ rfl rfl (fun d b=>?_) fun d b=>?_
   . go_wp2_with fail;refine(nP c.f.of.of.keeper (((s.qj a.kp a.at_).at_ J).blk.c 0 _ rfl)).mono ?_;rintro m we ⟨rfl,rfl⟩;go_wp2_with fail;refine kk e b a ?_;clear b d;refine FJ rfl rfl (fun d b=>?_) fun d b=>?_
     . go_wp2_with fail;refine(K _ a).mono ?_;rintro m wc ⟨rfl,j⟩;replace a:=Zy (a.ext j);clear j;go_wp2_with fail;refine kk e b a ?_;clear b d;refine EF ?_;intro d b;go_wp2_with fail;refine kk e b (a.ext (jh _)) ?_;clear b d;refine jX rfl fun d b=>?_;go_wp2_with fail;refine kk e b (a.ext (jh _)) ?_;clear b d;have t:(q:Nat)<=wc:=a.kp.size;have f:=Zy (h9.new (wc) 64 #[h,i]);replace a:=Zy (a.ext (jh (.cells #[h,i] 64)));clear e R;refine kJ ?_;go_wp2_with fail;exact V _ _ a f t
     . go_wp2_with fail;refine kk e b (a.ext (jh _)) ?_;clear b d;have t:=a.kp.size;have f:Zz (h9 (wc.alloc (.cells #[SS, ""] 64)) wc 64 #[SS, ""]):=Zy (h9.new _ _ _);replace a:=Zy (a.ext (jh (.cells #[SS, ""] 64)));refine jX rfl fun d b=>?_;go_wp2_with fail;refine(K _ a).mono ?_;rintro m wc ⟨rfl,j⟩;replace f:=Zy (f.ext j);replace a:=Zy (a.ext j);clear j;go_wp2_with fail;refine kk e b a ?_;clear b d;refine EF ?_;intro d b;obtain⟨U,S,T,-⟩:=f.ca;obtain⟨B,C,-⟩:=f.fz;go_wp2_with fail;replace a:=Zy (LC.set2 a t h i ah);replace f:=Zy (f.set2 h i);refine kk e b a ?_;clear b d;clear S T B C U;clear e R;refine kJ ?_;go_wp2_with fail;exact V _ _ a f t
   . go_wp2_with fail;refine kk e b (a.ext (jh _)) ?_;clear b d;have t:=a.kp.size;have f:Zz (h9 (wc.alloc (.cells #[SS, ""] 64)) wc 64 #[SS, ""]):=Zy (h9.new _ _ _);replace a:=Zy (a.ext (jh (.cells #[SS, ""] 64)));refine jX rfl fun d b=>?_;go_wp2_with fail;refine(nP c.f.of.of.keeper (((s.qj a.kp a.at_).at_ J).blk.c 0 _ rfl)).mono ?_;rintro m we ⟨rfl,rfl⟩;go_wp2_with fail;refine kk e b a ?_;clear b d;refine jX rfl fun d b=>?_;go_wp2_with fail;refine(K _ a).mono ?_;rintro m wc ⟨rfl,j⟩;replace f:=Zy (f.ext j);replace a:=Zy (a.ext j);clear j;go_wp2_with fail;refine kk e b a ?_;clear b d;refine EF ?_;intro d b;obtain⟨U,S,T,-⟩:=f.ca;obtain⟨B,C,-⟩:=f.fz;go_wp2_with fail;replace a:=Zy (LC.set2 a t h i ah);replace f:=Zy (f.set2 h i);refine kk e b a ?_;clear b d;clear S T B C U;clear e R;refine kJ ?_;go_wp2_with fail;exact V _ _ a f t
 . go_wp2_with fail;refine kk e b (a.ext (jh _)) ?_;clear b d;have t:(q:Nat)<=q:=a.kp.size;have f:Zz (h9 (q.drew.alloc (.cells #[SS, ""] 64)) q 64 #[SS, ""]):=Zy (h9.new _ _ _);replace a:=Zy (a.ext (jh (.cells #[SS, ""] 64)));refine jX rfl fun d b=>?_;go_wp2_with fail;refine(kX (s.qj a.kp a.at_) r c J).mono ?_;rintro m wc ⟨rfl,j⟩;replace f:=Zy (f.ext j);replace a:=Zy (a.ext j);clear j;go_wp2_with fail;refine kk e b a ?_;clear b d;refine jX rfl fun d b=>?_;go_wp2_with fail;refine(nP c.f.of.of.keeper (((s.qj a.kp a.at_).at_ J).blk.c 0 _ rfl)).mono ?_;rintro m we ⟨rfl,rfl⟩;go_wp2_with fail;refine kk e b a ?_;clear b d;refine jX rfl fun d b=>?_;go_wp2_with fail;refine(K _ a).mono ?_;rintro m wc ⟨rfl,j⟩;replace f:=Zy (f.ext j);replace a:=Zy (a.ext j);clear j;go_wp2_with fail;refine kk e b a ?_;clear b d;refine EF ?_;intro d b;obtain⟨U,S,T,-⟩:=f.ca;obtain⟨B,C,-⟩:=f.fz;go_wp2_with fail;replace a:=Zy (LC.set2 a t h i ah);replace f:=Zy (f.set2 h i);refine kk e b a ?_;clear b d;clear S T B C U;clear e R;refine kJ ?_;go_wp2_with fail;exact V _ _ a f t
theorem IG:Elem 40 72 3:=nM (z:=.agg #[SS, "",()]) (bytes:=48) underlying40 Zo rfl Zn Zn
theorem lU.relabel{r:Nat×Nat}{c: Nat}{xs:List Value}(d:lU w e a r c k v n xs)(i:∀b r,e b=some r->f b=some r):lU w f a r c k v n xs:=
 ⟨d.row,fun g h=>i g r (d.role g h)⟩
theorem qP.relabel{g: Own}{i: Nat}(a:qP w l p f d i c)(b:∀e h,f e=some h->g e=some h):qP w l p g d i c:=
 ⟨a.blk,b _ _ a.role,a.low,a.ml,a.loc.relabel b,a.ky.relabel b⟩
theorem jd.relabel{h d:Own}{e f:Nat}(a:jd w l p h e f lk g)(c:∀b i,h b=some i->d b=some i)(m:∀b,d b≠none->e<=b/\b<w.heap.size)(n:Ih w d):jd w l p d e f lk g:=
 ⟨a.kK,a.hB,a.blk,c _ _ a.role,a.low,a.calls.relabel c,fun q j k=>(a.call q j k).relabel c,a.heap.relabel c,fun r s o=>(a.obj r s o).relabel c,a.outs.relabel c,m,a.good,n⟩
theorem jd.Re{n: World}{t:Own}{f: Nat}(a:jd w l p t o f lk g)(j:qi)(r:Value)(O:lU w t o (7,g.os.length) 42 2 r j.fields.length (j.fields.flatMap jS))
    (d h:Nat) (N:n.ownsRow o 72 3 (d,g.os.length+1,h) (g.os.length+1) (g.os.flatMap qw++[.int .i64 j.of.keeper,.string j.of.name,r])) (B:Kp (fun b=>g.vh.ownBlock=some b) w n) (A:g.vh.ownBlock=some d\/w<=d)
    (H:M.Good p ({g with os:=g.os++[⟨j,r⟩],vh:=(d,g.os.length+1,h)}:Gh).st):
    Kp (MO l t) w (n.setCell (f,4) (d,g.os.length+1,h))/\∃F,nA w t F/\jd (n.setCell (f,4) (d,g.os.length+1,h)) l p F o f lk {g with os:=g.os++[⟨j,r⟩],vh:=(d,g.os.length+1,h)}:=by
 have y:Kp (·=f) n (n.setCell (f,4) (d,g.os.length+1,h)):=qA;obtain⟨q,v⟩:=SH (n.setCell (f,4) (d,g.os.length+1,h));have C:g.vh.ownBlock≠some f:=fun c=>by have:=a.heap.role _ c;rw[a.role]at this;cases this
 have I:h9 q f 78 (yN l lk {g with os:=g.os++[⟨j,r⟩],vh:=(d,g.os.length+1,h)}):=by rw[v];exact(a.blk.kp B C).jE 4 _
 have L:d≠f:=fun c=>by
  subst c;rcases A with u|u
  . exact C u
  . have:=a.blk.lt;omega
 have D:q.ownsRow o 72 3 (d,g.os.length+1,h) (g.os.length+1) (g.os.flatMap qw++[.int .i64 j.of.keeper,.string j.of.name,r]):=by
  rw[v];exact iY N y (fun m e _ c=>L (by cases e;exact c))
 rw[<-v]at y |-;clear v;have i:Kp (PO t fun m=>m=(0,0)\/m=(2,0)) w q:=(B.weak fun b _ c=>⟨_,a.heap.role b c,.inr rfl⟩).trans (y.weak fun b _ c=>⟨_,by rw[c];exact a.role,.inl rfl⟩);have k:=Own.y8 (by
  rcases A with u|u
  . exact .inl (a.heap.role _ u)
  . exact .inr Zm)
 have K:∀b,t.add d (2,0) b≠none->o<=b/\b<q.heap.size:=fun b s=>by
  by_cases c:b=d
  . subst c;exact D.lt b rfl
  . rw[Own.lS _ c]at s;exact a.Ar i.size b s
 refine⟨i.weak fun b _ c=>c.mo,_,k,a.Gb i,a.hB,I,(k _ a.blk.lt).trans a.role,a.low,a.calls.yu i k Zl,fun z G J=>(a.call z G J).yu i k Zl a.yM,⟨?_,fun m e=>?_⟩,?_,a.outs.yu i k Zl,K,H,a.zS.kp i (fun b z s ⟨m,h1,h2⟩=>by rw[s]at h1;cases h1;simp at h2) fun b z s=>Own.Hm Zl s⟩
 . simpa [qw]using D
 . cases e;exact Own.add_eq _ _ _
 . intro E m e;simp only at e;rcases UH E g.os.length with x|x|x
   . rw[Tn x]at e;exact(a.obj E m e).yu i k Zl
   . subst x;simp at e;subst e;exact O.yu i k Zl
   . rw[TS Zr]at e;cases e
theorem Cx (w : World) (l : iZ) (p : hZ) (y : Own) (Q H : Nat) (lk : Bool) {g: Gh} (R : jd w l p y Q H lk g) (r : Ref) (hr : jD p r = true) (bW : g.os.length < 12) :Calls prog 47 #[some H,.agg #[.int .i64 r.keeper,.string r.name]] w (jT w l p y Q H lk (.agg #[.int .i64 2,g.os.length]) (create p r g.st).2):=by
 obtain⟨f,h⟩:=r;obtain⟨I,Z⟩:=SH (((w.alloc (.cells #[f,h] 64)).alloc (.cells #[SS,SS] 42)).alloc (.cells #[f,h,()] 72));have aD:Ext w I:=by rw[Z];exact kx
 have b3:h9 I w 64 #[f,h]:=by rw[Z];exact(h9.new _ _ _).ext kx
 have b4:h9 I (w+1) 42 #[SS,SS]:=by rw[Z];exact(h9.newAt (W:=w.alloc (.cells #[f,h] 64)) (g:=w.heap.size+1) _ _ Zl).ext kx
 have b5:h9 I (w+2) 72 #[f,h,()]:=by rw[Z];exact h9.newAt _ _ Zl
 have dx:=R.kK.lt;have dn:=R.kK.Fj;have⟨HA,bI,bE,bF,aO,bQ,n⟩:=uA (R.ext aD) aD b3 b4 b5 Z R;clear R aD b3 b4 b5 Z;go_enter func47,ntmps47;go_wp2_with fail;rw[<-bQ.o];obtain⟨aS,A,bu,q⟩:=uD.ex (fun W'=>LC l p I W') _ (LC.refl HA.kK);have bS:¬w=l.D:=Zm
 have rm:=fun D=>(HA.qj (q.jv D).kp (q.jv D).at_).blk.c 0 (some l.L) rfl;obtain⟨-,cO,cZ,-⟩:=h9.qW fun D=>(bE.kp (q.jv D).kp bS);have j:=Zy q;clear q;refine kT j 8 [([0,1,2,3,4,7],5)] [6] ?_ ?_
 . exact(LC.refl HA.kK).drew
 refine mP ?_;intro i d;go_wp2_with fail;refine(xu (HA.kK.ext jg) ⟨f,h⟩).mono ?_;rintro b z ⟨⟨bC,rfl,S⟩,aX,aW⟩;obtain⟨fa,dm,rfl,hn,dz⟩:=S.form;have⟨T,HS⟩:=jc ((LC.refl HA.kK).drew.step aX aW) S;clear S aX aW;go_wp2_with fail;refine kk j d T ?_;clear d i;clear j rm cO cZ;refine uG ?_;have dI:=T.kp.size;have dH:w.heap.size+3<=(I:Nat):=SK aO.lt
 have bH:=Zy (aO.kp T.kp Zm);have ax:Zz (fresh p ⟨f,h⟩=⟨⟨f,h⟩,(layout p ⟨f,h⟩).map fun A=>if A.kind.kind=1 then mg 0 else rE⟩):=Zy rfl;have bV:(layout p ⟨f,h⟩).length<=1000:=by
  have h1:=sH n.kK.ok (chain p ⟨f,h⟩).reverse;have h2:=wu p ⟨f,h⟩;unfold layout;rw[SV hr];rw[Vh]at h1;omega
 obtain⟨k,aJ⟩:∃k,layout p ⟨f,h⟩=k:=⟨_,rfl⟩;rw[aJ]at HS ax bV;simp only[aJ];clear aJ;go_wp2;go_loopw [17] (fun C wr=>∃(c:Nat) (fv:Value),c<=k.length/\C=.int .i64 c/\Kp (·=w+2) z wr/\h9 wr (w+2) 72 #[f,h,fv]/\
     wr.ownsRow z 42 2 fv c (((k.take c).map fun A=>if A.kind.kind=1 then mg 0 else rE).flatMap jS)) (fun C _=>k.length - (intOf C).toNat)
 case atStart=>exact⟨0,(),T9 _,rfl,Kp.rr,bH,U8 _ _ _ _⟩
 case round =>
  obtain⟨c,fv,hq,rfl,L,aa,O⟩:=hrel;obtain⟨t,u,rfl⟩:=jL O;by_cases bX:c<k.length
  . obtain⟨⟨⟨xk,xn⟩,xa,kq,kn⟩,hx⟩:=nR k c bX;obtain⟨a,cB,cs,rfl,aV,rfl,-,aZ⟩:=HS.get hx;have dw:I.heap.size<=a:=aV;have X:hH wr a (cB+c*5) _:=fun cz bC hj=>L.nQ (aZ cz bC hj) Zm;have g0:=X 0 xk rfl;have g1:=X 1 xn rfl;have g2:=X 2 xa rfl;have g3:=X 3 kq rfl;have g4:=X 4 kn rfl;rw[Uh]at g0;have gz:=iV g0;have dE:(c:Int)<k.length:=Zm
    have dG:IntKind.i64.wrap ((c:Int)+1)=c+1:=Tg _ Zm;obtain⟨J,aM⟩:=SH (wr.alloc (.cells #[xk,xn,xa,kq,kn] 173));have ae:Ext wr J:=by rw[aM];exact kx
    have Y:¬(Value.slice t c u).ownBlock=some (w.heap.size+2):=fun b=>SK ((O.lt _ b).1)
    obtain⟨aS,A,bu,q⟩:=uD.ex (fun W'=>Kp (fun a=>(Value.slice t c u).ownBlock=some a) J W') _ Kp.rr;have r2:=fun D=>((aa.ext ae).kp (q.jv D) Y).c 2 (.slice t c u) rfl;have⟨j,aR,aP,aQ,U,ay,HX⟩:=uA q aM (aa.ext ae) Y (iY (D:=fun _=>False) O ae fun _ _ _ K=>K) (L.trans ae.any) hx;have dJ:z.heap.size<=J:=ay.size;clear q aM ae aa Y O L hx aZ X aV;by_cases au:kq=1
    . subst au;go_wp2_with fail;rw[<-aR.o];refine kT j 5 [([0,1],2),([],3),([],4)] [] ?_ ?_
      . exact jg
      refine mP ?_;intro i d;go_wp2_with fail;refine(Dh 0).mono ?_;rintro b w5 ⟨rfl,af⟩;have s:=Zy (((Kp.refl _ J).drew:Ext J _).trans af);clear af;go_wp2_with fail;refine kk j d s.any ?_;clear d i;refine lK rfl fun i d=>?_;go_wp2_with fail;refine kk j d (s.alloc _).any ?_;clear d i;refine lK rfl fun i d=>?_;refine ji uV rfl (.tmp 26) (.tmp 28) rfl z (.slice t c u) c _ rfl (iY (D:=fun _=>False) U (s.alloc _) fun _ _ _ K=>K) w5 1 (jS (mg 0)) rfl rfl (hH.nC _ _ rfl) (xG _) Zm (by have:=s.size;simp;omega) ?_;intro m x v N E G;change i _ _;have o:=(s.alloc _).any.trans E;refine kk j d o ?_;clear d i;have F:=aP.kp o aQ;obtain⟨hz,-,-,x2,-⟩:=F.ca;have f2:=F.frozen 2;have aA:Zz ((v.ownsRow z 42 2 (m,c+1,x) (c+1) (((k.take (c+1)).map fun A=>if A.kind.kind=1 then mg 0 else rE).flatMap jS))/\Kp (·=w+2) z v/\h9 v (w+2) 72 #[f,h,.slice t c u]/\m≠w+2):=Zy (by
       refine⟨?_,?_,F,?_⟩
       . rw[Tm,HX.o];simpa [mg,jS]using N
       . exact(ay.own o (fun a b=>U.lt a b |>.1))
       . rcases G with b|b
         . have:=(U.lt m b).1;omega
         . have:=s.size;simp at b;omega)
      clear j r2 F N E G o;refine kG ?_;go_wp2_with fail;have B:Kp (·=w+2) v (v.setCell ⟨w+2,2,none⟩ (m,c+1,x)):=qA;obtain⟨q1,q2,q3,q4⟩:=aA.o;exact⟨⟨c+1,(m,c+1,x),Zm,by go_num,q2.trans B,q3.jE 2 _,iY q1 B (fun a e _ b=>q4 (by cases e;exact b))⟩,by simp[intOf];omega⟩
    . have dA:=SI.2 au;have bK:=Zy au;clear au;go_wp2_with fail;rw[<-aR.o];refine kT j 5 [([0,1],2),([],3),([],4)] [] ?_ ?_
      . exact jg
      refine mP ?_;intro i d;go_wp2_with fail;refine(Jo).mono ?_;rintro b w5 ⟨rfl,af⟩;have s:=Zy (((Kp.refl _ J).drew:Ext J _).trans af);clear af;go_wp2_with fail;refine kk j d s.any ?_;clear d i;refine lK rfl fun i d=>?_;go_wp2_with fail;refine kk j d (s.alloc _).any ?_;clear d i;refine lK rfl fun i d=>?_;refine ji uV rfl (.tmp 32) (.tmp 34) rfl z (.slice t c u) c _ rfl (iY (D:=fun _=>False) U (s.alloc _) fun _ _ _ K=>K) w5 1 (jS rE) rfl rfl (hH.nC _ _ rfl) (xG _) Zm (by have:=s.size;simp;omega) ?_;intro m x v N E G;change i _ _;have o:=(s.alloc _).any.trans E;refine kk j d o ?_;clear d i;have F:=aP.kp o aQ;obtain⟨hz,-,-,x2,-⟩:=F.ca;have f2:=F.frozen 2;have aA:Zz ((v.ownsRow z 42 2 (m,c+1,x) (c+1) (((k.take (c+1)).map fun A=>if A.kind.kind=1 then mg 0 else rE).flatMap jS))/\Kp (·=w+2) z v/\h9 v (w+2) 72 #[f,h,.slice t c u]/\m≠w+2):=Zy (by
       refine⟨?_,?_,F,?_⟩
       . rw[Tm,HX.o];simpa [rE,jS,bK.o]using N
       . exact(ay.own o (fun a b=>U.lt a b |>.1))
       . rcases G with b|b
         . have:=(U.lt m b).1;omega
         . have:=s.size;simp at b;omega)
      clear j r2 F N E G o;refine kG ?_;go_wp2_with fail;have B:Kp (·=w+2) v (v.setCell ⟨w+2,2,none⟩ (m,c+1,x)):=qA;obtain⟨q1,q2,q3,q4⟩:=aA.o;exact⟨⟨c+1,(m,c+1,x),Zm,by go_num,q2.trans B,q3.jE 2 _,iY q1 B (fun a e _ b=>q4 (by cases e;exact b))⟩,by simp[intOf];omega⟩
  . have bZ:c=k.length:=Zm
    subst bZ;rw[TV]at O;have aF:(fresh p ⟨f,h⟩).fields.length=k.length/\(fresh p ⟨f,h⟩).of=⟨f,h⟩:=by rw[ax.o];simp
    have aG:=(bI.any.trans T.kp).own L (fun a b=>Zm);have aY:=T.at_.kp L (fun a e b=>Zm);have ag:=n.qj aG aY;obtain⟨P,bB,bf,bz,bg,bR⟩:∃P:Own,(∀a r,y a=some r->P a=some r)/\(∀a,P a≠none->Q<=a/\a<wr.heap.size)/\(∀a,(Value.slice t k.length u).ownBlock=some a->P a=some (7,g.os.length))/\(∀a,a<z.heap.size->P a=y a)/\∀a C,P a=some (4,C)->y a=some (4,C):=by
     have aT:Q<=w:=by have:=(n.dom H (by rw[n.o.role];simp)).2;have:=n.low;omega
     cases b:(Value.slice t k.length u).ownBlock with
     |none=>exact⟨y,fun _ _ R=>R,ag.dom,(fun a e=>by cases e),(fun _ _=>rfl),fun _ _ K=>K⟩
     | some qb =>
      have bY:=O.lt qb b;have cu:y qb=none:=by
       cases e2:y qb with
       |none=>rfl
       |some r=>have:=(n.dom qb (by rw[e2];simp)).2;omega
      refine⟨y.add qb (7,g.os.length),fun a r e=>?_,fun a e=>?_,(fun a e=>by cases e;exact Own.add_eq _ _ _),(fun a e=>Own.lS _ Zm),fun a C e=>Own.Hm Zl e⟩
      . rw[Own.lS _ (fun e3=>by subst e3;rw[cu]at e;cases e)];exact e
      . by_cases e3:a=qb
        . subst e3;exact⟨Zm,bY.2⟩
        . rw[Own.lS _ e3]at e;exact ag.dom a e
    have V:=ag.relabel bB bf fun a C e=>ag.zS a C (bR a C e);have aT:Q<=z:=by have:=(n.dom H (by rw[n.o.role];simp)).2;have:=n.low;omega
    have bA:lU wr P Q (7,g.os.length) 42 2 (.slice t k.length u) (fresh p ⟨f,h⟩).fields.length ((fresh p ⟨f,h⟩).fields.flatMap jS):=by
     rw[aF.1,ax.o];exact⟨lL O aT,bz⟩
    obtain⟨ha,aI,aK⟩:=V.heap.form;have aL:¬g.vh.ownBlock=some H:=fun b=>by have:=V.heap.role _ b;rw[V.role]at this;cases this
    have Y:¬g.vh.ownBlock=some (w.heap.size+2):=fun b=>SK ((n.heap.blk b).2)
    obtain⟨aS,A,bu,q⟩:=uD.ex (fun W'=>Kp (fun a=>g.vh.ownBlock=some a) wr W') _ Kp.rr;have rm:=fun D=>(V.blk.kp (q.jv D) aL).c 4 (.slice ha g.os.length aI) (by rw[<-aK];rfl);obtain⟨-,df,dh,di,-⟩:=h9.qW fun D=>(aa.kp (q.jv D) Y);have⟨j,az,bO,ai,aB,bM,aN,bP,bJ⟩:=Bz q V bA bg aK aG ((bF.kp T.kp Zm).kp L Zm) aL aF;have dK:=L.size;clear q V bA bg aK aG aY ag bB bf bz L aa O aL Y aF;go_wp2_with fail;refine kT j 8 [([0,1,2,3,4,5],6),([],7)] [] ?_ ?_
    . exact jg
    refine mP ?_;intro i d;go_wp2_with fail;refine kk j d kx ?_;clear d i;refine lK rfl fun i d=>?_;refine ji IG rfl (.tmp 42) (.tmp 44) rfl Q (.slice ha g.os.length aI) g.os.length (g.os.flatMap qw) rfl (by rw[<-aB.o];exact iY (D:=fun _=>False) az.heap.row kx fun _ _ _ K=>K) wr 1 [f,h,.slice t k.length u] rfl rfl (hH.M8 _ _ rfl) Zt Zm Zr ?_;intro m x v N E G;change i _ _;rw[<-aB.o]at E G;have o:=(kx:Ext wr _).any.trans E;refine kk j d o ?_;clear d i;have av:=az.blk.kp o bP;have x4:=av.c 4 (.slice ha g.os.length aI) (by rw[<-aB.o];rfl);have f4:=av.frozen 4;have hz:=av.lt;have S:({g with os:=g.os++[⟨fresh p ⟨f,h⟩,.slice t k.length u⟩],vh:=(m,g.os.length+1,x)}:Gh).st=(create p ⟨f,h⟩ g.st).2:=by simp[Gh.st,create]
    obtain⟨aj,cK,aH,ak⟩:=az.Re (fresh p ⟨f,h⟩) (.slice t k.length u) bO m x (by rw[bJ.o.2];exact N) o (by
     rcases G with b|b
     . exact .inl b
     . right;simp at b;omega) (by rw[S];exact n.good.grow hr (by simpa [Gh.st]using bW))
    have bq:cK (w+1)=none:=by
     rw[aH _ Zm,ai.o _ Zm];cases b:y (w+1)with
     |none=>rfl
     |some r=>have:=(n.dom _ (by rw[b];simp)).2;omega
    obtain⟨W,hW⟩:=SH (v.setCell (H,4) (m,g.os.length+1,x));rw[<-hW]at aj ak;have y4:=ak.blk.c 4 (m,g.os.length+1,x) rfl;have⟨HW,bL,ah,bD,bN⟩:=qR hW aj ak aH bq;have bn:P (w+1)=none:=by
     rw[ai.o _ Zm];cases b:y (w+1)with
     |none=>rfl
     |some r=>have:=(n.dom _ (by rw[b];simp)).2;omega
    have aU:=aN.kp aj (fun b=>by
     rcases b with b|b
     . omega
     . exact b bn)
    have aC:=aN.kp o (fun b=>SK ((n.heap.blk b).2));obtain⟨zz,z0,z1,-⟩:=aC.ca;obtain⟨dL,dM,-⟩:=aC.fz;have dB:=n.blk.lt;have dC:¬H=w+1:=Zm
    have dD:¬w+1=H:=Zm
    have⟨bG,HS⟩:=jc aU S;have dF:IntKind.i64.wrap ((g.os.length:Int)+1 - 1)=g.os.length:=by rw[Tg _ Zm];omega
    clear aj ak aH bq bn aU aC y4 N E G o av j rm df dh di S hW;refine kG ?_;go_wp2_with fail;rw[<-HW.o];have B:Kp (·=w+1) W ((W.setCell ⟨w+1,0,none⟩ (.int .i64 2)).setCell ⟨w+1,1,none⟩ g.os.length):=qA;refine Px (jA Am rfl (w+1) rfl [.int .i64 2,g.os.length] (hH.mO (bG.set2 _ _)) rfl) rfl ?_;have bT:=ah.kK.kp B (fun a e b=>Zm);have bU:=ah.keep B (nA.refl _ _) (ah.Ar B.size) bT (fun a e b=>by subst b;exact e bN) (fun a e b=>SK ah.kK.ord);refine jT.mk' ?_ (fun a e=>?_) bU HS
    . refine Kp.own (D':=(·=w+1)) ?_ B (fun a b=>Zm);exact(bM.weak fun a _ b=>.inl b).mo (bL) (fun a e=>ai.o a Zm)
    . rw[bD.o a Zm,ai.o a Zm]
section
variable {w w':World} {l:iZ} {p:M.hZ} {own:Own} {B mb:Nat} {lk:Bool} {g:Gh} {r:List GC} {c:GC}
theorem jd.fresh(c:jd w l p own B mb lk g){b:Nat}(d:w<=b):¬MO l own b:=by
 rintro(a|a)
 . have:=c.kK.Fj;omega
 . have:=(c.dom b a).2;omega
def Gh.ky(g:Gh)(r:List GC)(c:GC)(st:List Val)(vs:Value):Gh:={g with cs:=r++[{c with f:={c.f with stack:=st},vs:=vs}]}
theorem Gh.RA(st:List Val)(vs:Value):(g.ky r c st vs).st={g.st with frames:=r.map GC.f++[{c.f with stack:=st}]}:=by simp[Gh.ky,Gh.st]
theorem Gh.lH(b:g.cs=r++[c]){n:Nat}{st vs:List Val}(a:c.f.stack=st++vs)(e:vs.length=n)(vs':Value):M.lH n g.st=some (vs,(g.ky r c st vs').st):=by
 unfold M.lH;have d:c.f.stack.length - n=st.length:=by rw[a];simp;omega
 rw[Gh.top b,oI (Gh.fr b),SX (by rw[a];simp;omega),d,Gh.RA,a];simp
theorem Gh.zF(a:g.cs=r++[c]){n:Nat}(b:c.f.stack.length<n):M.lH n g.st=none:=by
 unfold M.lH;rw[Gh.top a,SV b]
theorem Gh.pop(a:g.cs=r++[c]){st:List Val}{v:Val}(b:c.f.stack=st++[v])(vs':Value):M.pop g.st=some (v,(g.ky r c st vs').st):=by
 unfold M.pop;rw[Gh.lH a (n:=1) b rfl vs'];rfl
theorem Gh.Ah(a:g.cs=r++[c])(b:c.f.stack=[]):M.pop g.st=none:=by
 unfold M.pop;rw[Gh.zF a (by rw[b];simp)];rfl
theorem jd.popped(e:jd w l p own B mb lk g)(j:g.cs=r++[c]){a:Option Addr}{n k:Nat}{st:List Val}(o:c.vs=.slice a (st.length+n) k)(m:∃vs,c.f.stack=st++vs/\vs.length=n)(L:0<n)(s:h9 w' c.cb 129 ((Bp p c).setIfInBounds 13 (.slice a st.length k)))(i:Kp (·=c.cb) w w'):Kp (MO l own) w w'/\jd w' l p own B mb lk (g.ky r c st (.slice a st.length k)):=by
 obtain⟨vs,m,H⟩:=m;have d:=e.at_ j;have G:c.f.stack.length=st.length+n:=by rw[m];simp[H]
 have y:=d.ky.row;rw[o,G]at y;obtain⟨t,N,b,-⟩:=jP y Zm;cases b;have z:=BO y (j:=st.length) Zm;rw[m,Bu (enc:=jS) (k:=2) (fun _=>rfl)]at z;have D:c.vs.ownBlock≠some c.cb:=fun b=>by have:=d.ky.role _ b;rw[d.role]at this;cases this
 have h:=jk.1 (e.CU j);obtain⟨E,O,K,F⟩:=e.setStack j st (t,st.length,k) s (iY z i (fun g v _ b=>D (by rw[o];subst b;exact v))) (fun u A=>.inl (by rw[o];exact A)) (i.weak fun q _ b=>.inl b) (by
  rw[show({g with cs:=r++[{c with f:={c.f with stack:=st},vs:=(t,st.length,k)}]}:Gh).st={g.st with frames:=r.map GC.f++[{c.f with stack:=st}]}from by simp[Gh.st]];refine e.good.turn (Gh.fr j) (jk.2 ⟨h.1,h.2.1,h.2.2.1,h.2.2.2.1,?_,h.2.2.2.2.2.1,fun J I=>h.2.2.2.2.2.2 J (by rw[m];simp[I])⟩);have:=h.2.2.2.2.1;simp only;omega)
 refine⟨E,?_⟩;have x:Kp (PO own (·=(4,r.length))) w w':=i.weak fun q _ b=>⟨_,by rw[b];exact d.role,rfl⟩;have C:=nA.refl w own;refine e.H5 j rfl (x.weak fun q _ ⟨t,e1,e2⟩=>⟨t,e1,.inl e2⟩) C (e.Ar i.size) ⟨s,d.role,d.low,jK.kp jb.stays x (fun q s=>e.yM q s) d.ml,d.loc.yu x C Zl,⟨?_,fun u A=>d.ky.role u (by rw[o];exact A)⟩⟩ F.good i (fun _ _ _ b=>b) fun _ _ u=>u;exact iY z i (fun g v _ b=>D (by rw[o];subst b;exact v))
end
theorem wF{f: Nat}(b:jd w l p i f k lk g)(r:List GC)(c:GC)(e:g.cs=r++[c])(st:List Val)(v:Val)(h:c.f.stack=st++[v]):Calls prog 104 #[some (c.cb,13)] w fun a j=>a=.returned (.tuple #[.agg #[v.kind,v.n],.bool true])/\Kp (MO l i) w j/\∃x,jd j l p i f k lk (g.ky r c st x):=by
 have d:=b.at_ e;have s:=jk.1 (b.CU e);have z:=(b.mi e).stack;have A:=s.2.2.2.2.1;have t:c.f.stack.length=st.length+1:=by rw[h];simp
 refine(Pw w c.cb 13 f c.vs st.length st v d.blk rfl (by rw[<-h,<-t];exact d.ky.row) rfl Zm (fun a=>by have:=d.ky.role _ a;rw[d.role]at this;cases this)).mono ?_;rintro a j ⟨rfl,⟨y,B,u,q⟩,o⟩;obtain⟨m,n⟩:=b.popped e u ⟨[v],h,rfl⟩ Zm q o;exact⟨rfl,m,_,n⟩
theorem rT(f:jd w l p m d k lk g)(r:List GC)(c:GC)(h:g.cs=r++[c])(i:c.f.stack=[]):Calls prog 104 #[some (c.cb,13)] w fun a n=>a=.returned (.tuple #[.agg #[SS,SS],.bool false])/\Ext w n:=by
 have b:=f.at_ h;obtain⟨e,j,a⟩:=b.ky.form;rw[i]at a;exact Pv w c.cb 13 c.vs b.blk rfl ⟨e,j,a⟩
theorem Cy{i v:Nat}(b:jd w l p m i v lk g)(r:List GC)(c:GC)(e:g.cs=r++[c])(st vs:List Val)(n:Nat)(k:c.f.stack=st++vs)(q:vs.length=n)(s:0<n):Calls prog 106 #[some (c.cb,13),n] w fun a h=>∃f,a=.returned (.tuple #[f,.bool true])/\h.ownsRow w 42 2 f n (vs.flatMap jS)/\Kp (MO l m) w h/\∃C,jd h l p m i v lk (g.ky r c st C):=by
 have d:=b.at_ e;have B:=jk.1 (b.CU e);have E:=(b.mi e).stack;have F:=B.2.2.2.2.1;have j:c.f.stack.length=st.length+n:=by rw[k];simp[q]
 refine(rU w c.cb 13 i _ _ c.vs c.f.stack.length c.f.stack d.blk rfl d.ky.row rfl n Zm s Zm (fun a=>by have:=d.ky.role _ a;rw[d.role]at this;cases this)).mono ?_;rintro a h ⟨f,rfl,t,⟨D,G,u,o⟩,A⟩;rw[j]at u;rw[j,Vx]at o;have x:c.f.stack.drop (c.f.stack.length - n)=vs:=by rw[j,Vx,k,List.drop_left]
 rw[x]at t;obtain⟨y,z⟩:=b.popped e u ⟨vs,k,q⟩ s o A;exact⟨f,rfl,t,y,_,z⟩
theorem uX{k:Own}{j: Nat}(e:jd w l p k b j lk g)(r:List GC)(c:GC)(f:g.cs=r++[c])(n:Nat)(h:c.f.stack.length<n)(i:n<=1000):Calls prog 106 #[some (c.cb,13),n] w fun d m=>d=.returned (.tuple #[(),.bool false])/\w=m:=by
 have a:=e.at_ f;exact CJ w c.cb 13 c.vs _ a.blk rfl a.ky.form n h i
theorem Ro{n:Own}(h:jd w l p n d b lk g)(r:List GC)(c:GC)(m:g.cs=r++[c])(x:g.status=1)(i:Ins)(u:nJ (M.method p c.f.of) i=true)(a:i.op=1):Calls prog 57 #[some b,.agg #[i.op,i.a,i.name,i.member]] w (jT w l p n d b lk (.int .i64 (jm p lk i g.st).1) (jm p lk i g.st).2):=by
 have s:Zz (jm p lk i g.st=push p (mg i.a) g.st):=Zy (by unfold jm;rw[SV a]);have v:=(qX u).2.2.2.1 a;have⟨o,q⟩:=jc h m;clear h m a;go_enter func57,ntmps57;go_wp2_with fail;refine(Dh i.a).mono ?_;rintro t y ⟨rfl,j⟩;have e:=Zy ((kx:Ext w _).trans j);clear j;go_wp2_with fail;refine(sJ (o.ext e) r c q x (mg i.a) (mR _ v)).mono ?_;rintro t z k;have f:=Zy (jT.behind e k);obtain⟨rfl,-⟩:=k;rw[<-s.o]at f |-;go_wp2;go_ret;exact f
theorem P8{n:Own}(f:jd w l p n b a lk g)(r:List GC)(c:GC)(k:g.cs=r++[c])(u:g.status=1)(i:Ins)(m:i.op=5):Calls prog 61 #[some a,.agg #[i.op,i.a,i.name,i.member]] w (jT w l p n b a lk (.int .i64 (jm p lk i g.st).1) (jm p lk i g.st).2):=by
 have s:Zz (jm p lk i g.st=push p rE g.st):=Zy (by unfold jm;rw[m];rfl);have⟨o,q⟩:=jc f k;clear f k m;go_enter func61,ntmps61;go_wp2_with fail;refine(Jo).mono ?_;rintro t v ⟨rfl,h⟩;have d:=Zy ((kx:Ext w _).trans h);clear h;go_wp2_with fail;refine(sJ (o.ext d) r c q u rE (xQ _)).mono ?_;rintro t x j;have e:=Zy (jT.behind d j);obtain⟨rfl,-⟩:=j;rw[<-s.o]at e |-;go_wp2;go_ret;exact e
theorem Sa{n:Own}(h:jd w l p n d b lk g)(r:List GC)(c:GC)(m:g.cs=r++[c])(v:g.status=1)(i:Ins)(u:nJ (M.method p c.f.of) i=true)(a:i.op=13):Calls prog 69 #[some b,.agg #[i.op,i.a,i.name,i.member]] w (jT w l p n d b lk (.int .i64 (jm p lk i g.st).1) (jm p lk i g.st).2):=by
 have s:Zz (jm p lk i g.st=jump p i.a g.st):=Zy (by unfold jm;rw[a];rfl);have t:=((qX u).2.2.1 (.inr (.inr a))).1;have j:Ext w (w.alloc (.cells #[i.op,i.a,i.name,i.member] 134)):=kx;have⟨e,o,q⟩:=jr j h m;clear h m a j;go_enter func69,ntmps69;go_wp2_with fail;refine(BF (o.ext e) r c q v i.a t).mono ?_;rintro x y k;have f:=Zy (jT.behind e k);obtain⟨rfl,-⟩:=k;rw[<-s.o]at f |-;go_wp2;go_ret;exact f
theorem Qa{X:Own}(C:jd w l p X L I lk g)(r:List GC)(c:GC)(R:g.cs=r++[c])(T:g.status=1)(i:Ins)(S:nJ (M.method p c.f.of) i=true)(n:i.op=11):Calls prog 67 #[.pointer (some ⟨I,0,none⟩),.agg #[.int .i64 i.op,.int .i64 i.a,.string i.name,.string i.member]] w (jT w l p X L I lk (.int .i64 (jm p lk i g.st).1) (jm p lk i g.st).2):=by
 have HI:=Zy (qX S);obtain⟨w0,V,D,B⟩:=nu w #[.int .i64 i.op,.int .i64 i.a,.string i.name,.string i.member] 134;have⟨af,h,N,aa,O,d⟩:=rX (C.fresh (Tz _)) (C.ext D) D B V R;have av:=B.lt;clear C D B V R S;rcases Ta c.f.stack with b|⟨v,o,b⟩
 . have a:Zz (jm p lk i g.st=(10,g.st)):=Zy (by unfold jm;rw[n];simp only[Gh.Ah d.o b];rfl);have z:=Zy b;clear b n;go_enter func67,ntmps67;go_wp2_with fail;rw[<-O.o];refine(kX h.o r c d.o).mono ?_;rintro k w1 ⟨rfl,e⟩;have⟨q,s⟩:=jc (h.o.ext e) (N.o.trans e);clear e;go_wp2_with fail;refine(rT q.o r c d.o z.o).mono ?_;rintro k Y ⟨rfl,E⟩;have⟨Z,ae⟩:=jc (q.o.ext E) (s.o.trans E);clear E;go_wp2;go_ret;rw[a.o];exact jT.mk' (ae.o.alloc _).any (nA.refl _ _) (Z.o.ext kx) rfl
 . rw[TZ]at b;have U:=(jk.1 (h.o.CU d.o)).2.2.2.2.2.2 o (by rw[b];simp);have aj:Zz (jH o g.os.length=true):=Zy (by simpa [Gh.st]using U);have a:Zz (∀f,jm p lk i g.st=if o.kind=1 then(if o.n=0 then jump p i.a (g.ky r c v f).st else next p (g.ky r c v f).st)else(10,(g.ky r c v f).st)):=Zy (fun f=>by unfold jm;rw[n];simp only[Gh.pop d.o b f];rfl);have⟨z,ag⟩:=jc b n;clear b n U;obtain⟨J,K⟩:=o;simp only at a;go_enter func67,ntmps67;go_wp2_with fail;rw[<-O.o];refine(kX h.o r c d.o).mono ?_;rintro k w1 ⟨rfl,e⟩;have⟨q,s⟩:=jc (h.o.ext e) e;clear e;go_wp2_with fail;refine(wF q.o r c d.o v ⟨J,K⟩ z.o).mono ?_;rintro k Y ⟨rfl,G,f,H⟩;replace a:=Zy (a.o f);obtain⟨w3,W,F,P⟩:=nu Y #[.int .i64 J,.int .i64 K] 42;have⟨y,x⟩:=jc (H.ext F) (((N.o.trans s.o).any.trans G).trans F.any);have Q:=(aa.o.ext s.o).kp G af.o;obtain⟨yz,-,y1,-⟩:=Q.ca;have⟨A,ah,ai⟩:=jr W P (H.fresh (Tz _));clear F P G H Q W;by_cases t:J=1
   . subst t;by_cases u:K=0
     . subst u;replace a:=Zy (a.o.trans (SV rfl));replace a:=Zy (a.o.trans (SV rfl));go_wp2_with fail;rw[<-A.o];refine(BF y.o r _ rfl T i.a (HI.o.2.2.1 (.inl ag.o)).1).mono ?_;rintro k w4 m;have j:=Zy (jT.after x.o (nA.refl _ _) m);obtain⟨rfl,-⟩:=m;rw[<-a.o]at j |-;go_wp2;go_ret;exact j.o
     . have au:=SI.2 u;replace a:=Zy (a.o.trans (SV rfl));replace a:=Zy (a.o.trans (SX u));clear u;go_wp2_with fail;rw[<-A.o];refine(uR y.o r rfl T).mono ?_;rintro k w4 m;have j:=Zy (jT.after x.o (nA.refl _ _) m);obtain⟨rfl,-⟩:=m;rw[<-a.o]at j |-;go_wp2;go_ret;exact j.o
   . have ak:=TP.2 t;replace a:=Zy (a.o.trans (SX t));clear t;go_wp2;go_ret;rw[a.o,<-A.o];exact jT.mk' x.o (nA.refl _ _) y.o rfl
theorem jd.Rf{i: World}{q:Own}{e: Nat}(a:jd w l p q o e lk g)(n:Int)
    (d f:Nat) (v:i.ownsRow o 3 1 (d,g.outs.length+1,f) (g.outs.length+1) (g.outs.flatMap vF++[.int .i64 n])) (A:Kp (fun b=>g.vo.ownBlock=some b) w i) (z:g.vo.ownBlock=some d\/w<=d)
    (F:M.Good p ({g with outs:=g.outs++[n],vo:=(d,g.outs.length+1,f)}:Gh).st):
    Kp (MO l q) w (i.setCell (e,5) (d,g.outs.length+1,f))/\∃D,nA w q D/\jd (i.setCell (e,5) (d,g.outs.length+1,f)) l p D o e lk {g with outs:=g.outs++[n],vo:=(d,g.outs.length+1,f)}:=by
 have u:Kp (·=e) i (i.setCell (e,5) (d,g.outs.length+1,f)):=qA;obtain⟨j,t⟩:=SH (i.setCell (e,5) (d,g.outs.length+1,f));have B:g.vo.ownBlock≠some e:=fun c=>by have:=a.outs.role _ c;rw[a.role]at this;cases this
 have G:h9 j e 78 (yN l lk {g with outs:=g.outs++[n],vo:=(d,g.outs.length+1,f)}):=by rw[t];exact(a.blk.kp A B).jE 5 _
 have J:d≠e:=fun c=>by
  subst c;rcases z with s|s
  . exact B s
  . have:=a.blk.lt;omega
 have C:j.ownsRow o 3 1 (d,g.outs.length+1,f) (g.outs.length+1) (g.outs.flatMap vF++[.int .i64 n]):=by
  rw[t];exact iY v u (fun r x _ c=>J (by cases x;exact c))
 rw[<-t]at u |-;clear t;have h:Kp (PO q fun r=>r=(0,0)\/r=(3,0)) w j:=(A.weak fun b _ c=>⟨_,a.outs.role b c,.inr rfl⟩).trans (u.weak fun b _ c=>⟨_,by rw[c];exact a.role,.inl rfl⟩);have k:=Own.y8 (by
  rcases z with s|s
  . exact .inl (a.outs.role _ s)
  . exact .inr Zm)
 have I:∀b,q.add d (3,0) b≠none->o<=b/\b<j.heap.size:=fun b m=>by
  by_cases c:b=d
  . subst c;exact C.lt b rfl
  . rw[Own.lS _ c]at m;exact a.Ar h.size b m
 refine⟨h.weak fun b _ c=>c.mo,_,k,a.Gb h,a.hB,G,(k _ a.blk.lt).trans a.role,a.low,a.calls.yu h k Zl,fun y E H=>(a.call y E H).yu h k Zl a.yM,a.heap.yu h k Zl,fun K L v=>(a.obj K L v).yu h k Zl,⟨?_,fun r x=>?_⟩,I,F,a.zS.kp h (fun b y m ⟨r,h1,h2⟩=>by rw[m]at h1;cases h1;simp at h2) fun b y m=>Own.Hm Zl m⟩
 . simpa [vF]using C
 . cases x;exact Own.add_eq _ _ _
theorem Rp {x: Nat} (Z : jd w l p B x n lk g) (r : List GC) (c : GC) (aC : g.cs = r ++ [c]) (aD : g.status = 1) (i : Ins) (hi : nJ (M.method p c.f.of) i = true) (A : i.op = 14) :Calls prog 70 #[some n,.agg #[i.op,i.a,i.name,i.member]] w (jT w l p B x n lk (.int .i64 (jm p lk i g.st).1) (jm p lk i g.st).2):=by
 have HI:=Zy (qX hi);obtain⟨w0,aH,aa,W⟩:=nu w #[i.op,i.a,i.name,i.member] 134;have⟨aQ,y,au,aL,av,k⟩:=rX (Z.fresh (Tz _)) (Z.ext aa) aa W aH aC;have bz:=W.lt;clear Z aa W aH aC hi;rcases Ta c.f.stack with h|⟨j,C,h⟩
 . have a:Zz (jm p lk i g.st=(10,g.st)):=Zy (by unfold jm;rw[A];simp only[Gh.Ah k.o h];rfl);have T:=Zy h;clear h A;go_enter func70,ntmps70;go_wp2_with fail;rw[<-av.o];refine(kX y r c k).mono ?_;rintro b w1 ⟨rfl,m⟩;have⟨D,E⟩:=jc (y.ext m) (au.trans m);clear m;go_wp2_with fail;refine(rT D r c k T).mono ?_;rintro b w2 ⟨rfl,ae⟩;have⟨aK,aN⟩:=jc (D.ext ae) (E.trans ae);clear ae;go_wp2;go_ret;rw[a.o];exact jT.mk' (aN.alloc _).any (nA.refl _ _) (aK.ext kx) rfl
 . rw [TZ] at h; have aG := (jk.1 (y.CU k)).2.2.2.2.2.2 C (by rw [h]; simp); have aR : Zz (jH C g.os.length = true) := Zy (by simpa [Gh.st] using aG); have a : Zz (∀ e, jm p lk i g.st = if C.kind = 1 then next p (if (g.ky r c j e).st.outs.length < 40 then { (g.ky r c j e).st with outs := (g.ky r c j e).st.outs ++ [C.n] } else (g.ky r c j e).st) else (10, (g.ky r c j e).st)) := Zy (fun e => by unfold jm; rw [A]; simp only [Gh.pop k.o h e]; rfl); have ⟨T, aY⟩ := jc h A; clear h A aG; obtain ⟨vk, v⟩ := C; simp only at a; go_enter func70, ntmps70; go_wp2_with fail; rw [<- av.o]; refine (kX y r c k).mono ?_; rintro b w1 ⟨rfl, m⟩; have ⟨D, E⟩ := jc (y.ext m) m; clear m; go_wp2_with fail; refine (wF D r c k j ⟨vk, v⟩ T).mono ?_; rintro b w2 ⟨rfl, f, e, s⟩; replace a := Zy (a e); obtain ⟨w3, aI, af, b5⟩ := nu w2 #[vk, v] 42; have ⟨d, F⟩ := jc (s.ext af) (((au.trans E).any.trans f).trans af.any); have ax := (aL.ext E).kp f aQ; obtain ⟨yz,-, y1,-⟩ := ax.ca; have ⟨U, aM, aP⟩ := jr aI b5 (s.fresh (Tz _)); obtain ⟨t, u, aj⟩ := s.outs.form; have m5 := s.blk.c 5 (.slice t g.outs.length u) (by rw [show (Value.slice t g.outs.length u) = g.vo from aj.symm]; rfl); have mz := s.blk.lt; have I : Zz (g.vo = .slice t g.outs.length u) := Zy aj; clear af b5 f s ax aI aj; by_cases O : vk = 1
   . subst O;replace a:=Zy (a.trans (SV rfl));have aU:=wN aR rfl;simp only at aU;by_cases P:g.outs.length<40
     . have aT:(g.outs.length:Int)<40:=Zm
       replace a:=Zy (a.trans (by rw[SV (show(g.ky r c j e).st.outs.length<40 from P)]));have ai:¬g.vo.ownBlock=some n:=fun b=>by have:=d.outs.role _ b;rw[d.o.role]at this;cases this
       have aF:¬g.vo.ownBlock=some w2.heap.size:=fun b=>aP.o (.inr (by rw[d.o.outs.role _ b];simp));obtain⟨aZ,bf,bu,G⟩:=uD.ex (fun W'=>Kp (fun V=>g.vo.ownBlock=some V) w3 W') _ Kp.rr;have rm:=fun ak=>(d.blk.kp (G.jv ak) ai).c 5 (.slice t g.outs.length u) (by rw[<-I.o];rfl);have aW:=fun ak=>(aM.kp (G.jv ak) aF).c 1 v rfl;have⟨H,aS⟩:=jc G ai;have bn:=d.low;have bq:=d.blk.lt;clear G ai aF P;go_wp2_with fail;rw[<-U.o];refine kT H 9 [([0,1,2,3,4,5,6],7),([],8)] [] ?_ ?_
       . exact jg
       refine mP ?_;intro J f;go_wp2_with fail;refine kk H f kx ?_;clear f J;refine lK rfl fun J f=>?_;refine ji Dz rfl (.tmp 32) (.tmp 35) rfl x (.slice t g.outs.length u) g.outs.length (g.outs.flatMap vF) rfl (by rw[<-I.o];exact iY (D:=fun _=>False) d.outs.row kx fun _ _ _ aX=>aX) w3 1 [v] rfl rfl (hH.M8 _ _ rfl) Zt Zm Zr ?_;intro Y X w9 aA ag ah;change J _ _;rw[<-I.o]at ag ah;have L:=(kx:Ext w3 _).any.trans ag;refine kk H f L ?_;clear f J;have Q:=d.blk.kp L aS;have x5:=Q.c 5 (.slice t g.outs.length u) (by rw[<-I.o];rfl);have f5:=Q.frozen 5;have S:=Q.lt;have q:=d.good;obtain⟨ay,aJ,aB,az⟩:=d.Rf v Y X aA L (by
        rcases ah with b|b
        . exact .inl b
        . right;simp at b;omega) ⟨q.heap,q.frames,q.nf,by simp[Gh.st,Gh.ky];omega,(fun aV R=>by
          simp only[Gh.st,Gh.ky,Ty,TU]at R;rcases R with R|rfl
          . exact q.rO aV R
          . unfold nT;simp;omega),q.back⟩
       obtain⟨K,N⟩:=SH (w9.setCell (n,5) (Y,g.outs.length+1,X));have HX:Zz (Kp (MO l B) w K/\nA w B aJ):=Zy (by
        rw[N];exact⟨F.mo ay (nA.refl _ _),fun V hb=>aB V (SK F.size)⟩)
       have HW:=Zy N;have aO:Zz (jd K l p aJ x n lk {(g.ky r c j e)with outs:=g.outs++[v],vo:=(Y,g.outs.length+1,X)}):=Zy (by rw[N];exact az);clear ay aB az N aA ag ah L Q H rm aW q m5 mz;refine kG ?_;go_wp2_with fail;rw[<-HW.o];refine(uR aO r rfl aD).mono ?_;rintro b w4 z;have o:=Zy (jT.after HX.1 HX.2 z);obtain⟨rfl,-⟩:=z;replace o:Zz (jT w l p B x n lk (.int .i64 (jm p lk i g.st).1) (jm p lk i g.st).2 _ w4):=Zy (by rw[a.o];exact o);clear x5 f5 S;go_wp2;go_ret;have S:=o.o;rw[a.o]at S |-;exact S
     . have aT:¬(g.outs.length:Int)<40:=Zm
       replace a:=Zy (a.trans (by rw[SX (show¬(g.ky r c j e).st.outs.length<40 from P)]));clear P;go_wp2_with fail;rw[<-U.o];refine(uR d r rfl aD).mono ?_;rintro b w4 z;have o:=Zy (jT.after F (nA.refl _ _) z);obtain⟨rfl,-⟩:=z;rw[<-a.o]at o |-;go_wp2;go_ret;exact o
   . have bg:=TP.2 O;replace a:=Zy (a.trans (SX O));clear O;go_wp2;go_ret;rw[a.o,<-U.o];exact jT.mk' F (nA.refl _ _) d rfl
theorem vJ{Q:Own}{D: Nat}(v:jd w l p Q D C lk g)(r:List GC)(c:GC)(y:g.cs=r++[c])(z:c.f.stack=[]):Calls prog 112 #[some C] w fun b R=>b=.returned (.tuple #[.agg #[SS,SS],.bool false])/\Ext w R:=by
 obtain⟨S,B,j,i⟩:=nu w #[SS,SS] 42;have⟨o,H,F,K,q⟩:=qR (v.ext j) j i B y;have aa:=i.lt;have J:=Zy z;clear v j i B y z;go_enter func112,ntmps112;go_wp2_with fail;rw[<-K.o];refine(kX o r c q).mono ?_;rintro b w1 ⟨rfl,k⟩;have⟨E,s⟩:=jc (o.ext k) k;clear k;go_wp2_with fail;refine(rT E r c q J).mono ?_;rintro b f ⟨rfl,m⟩;obtain⟨a,e⟩:=SH (f.alloc (.cells #[SS,SS] 42));have n:Ext S a:=by rw[e];exact(s.trans m).alloc _
 have ae:(w:Nat)<f:=SL m.size s.size
 have u:h9 a f 42 #[SS,SS]:=by rw[e];exact h9.new _ _ _
 have P:¬(f:Nat)=w:=Zm
 obtain⟨U,W,Z,h⟩:=uD.ex (fun O=>Kp (·=w) a O) _ Kp.rr;obtain⟨-,af,ag,-⟩:=h9.qW fun T=>(u.kp (h.jv T) P);have⟨t,L⟩:=jc h e;have d:=F.ext n;obtain⟨hz,x0,x1,-⟩:=d.ca;obtain⟨X,Y,-⟩:=d.fz;have⟨G,I⟩:=jc d n;clear n u m e h d;go_wp2_with fail;rw[<-L.o];refine kT t 13 [([0,1,2,3,4,5,6,7,8,9,10,11],12)] [] ?_ ?_
 . exact jg
 refine mP ?_;intro N x;go_wp2_with fail;have A:Kp (·=w) a ((a.drew.setCell w SS).setCell (w,1) SS):=(((Kp.refl (·=w) a).drew).setCell (p:=⟨w,0,none⟩) (fun _=>rfl) _).setCell (p:=⟨w,1,none⟩) (fun _=>rfl) _;refine kk t x A ?_;clear x N;refine kG ?_;go_wp2_with fail;refine Px (h7 Am rfl w rfl [SS,SS] (hH.mO ((G.ext jg).set2 _ _)) rfl) rfl ?_;exact⟨rfl,(H.trans I).own A (fun V b=>Zm)⟩
theorem yP{k:Own}{z: Nat}(q:jd w l p k z y lk g)(r:List GC)(c:GC)(S:g.cs=r++[c])(st:List Val)(v:Val)(T:c.f.stack=st++[v]):Calls prog 112 #[some y] w fun f V=>f=.returned (.tuple #[.agg #[v.kind,v.n],.bool (decide (v.kind=2\/v.kind=3))])/\Kp (MO l k) w V/\∃m,jd V l p k z y lk (g.ky r c st m):=by
 obtain⟨b,e⟩:=v;obtain⟨w0,U,J,H⟩:=nu w #[SS,SS] 42;have P:=Zy (q.fresh (Tz _));have au:=q.kK.lt;have⟨N,Z,X,ae,O⟩:=qR (q.ext J) J H U S;have ax:=H.lt;have HS:=Zy T;clear q J H U S T;go_enter func112,ntmps112;go_wp2_with fail;rw[<-ae.o];refine(kX N r c O).mono ?_;rintro f w1 ⟨rfl,K⟩;have⟨W,B⟩:=jc (N.ext K) K;clear K;go_wp2_with fail;refine(wF W r c O st ⟨b,e⟩ HS).mono ?_;rintro f n ⟨rfl,a,m,R⟩;obtain⟨d,x⟩:=SH (n.alloc (.cells #[b,e] 42));have t:Ext n d:=by rw[x];exact kx
 have ay:(w:Nat)<n:=SL a.size B.size
 have Q:h9 d n 42 #[b,e]:=by rw[x];exact h9.new _ _ _
 have af:¬(n:Nat)=w:=Zm
 obtain⟨ah,ai,av,E⟩:=uD.ex (fun W'=>Kp (·=w) d W') _ Kp.rr;obtain⟨-,az,aA,-⟩:=h9.qW fun ag=>(Q.kp (E.jv ag) af);have⟨h,F⟩:=jc E x;have u:=((X.ext B).kp a P).ext t;obtain⟨hz,x0,x1,-⟩:=u.ca;obtain⟨f0,f1,-⟩:=u.fz;have⟨A,aa,o⟩:=jr u (((Z.trans B).any.trans a).trans t.any) (R.ext t);have i:Kp (·=w) d ((d.drew.setCell w b).setCell (w,1) e):=(((Kp.refl (·=w) d).drew).setCell (p:=⟨w,0,none⟩) (fun _=>rfl) _).setCell (p:=⟨w,1,none⟩) (fun _=>rfl) _;have D:=Zy i;have C:Zz (Kp (MO l k) w ((d.drew.setCell w b).setCell (w,1) e)/\∃m,jd ((d.drew.setCell w b).setCell (w,1) e) l p k z y lk (g.ky r c st m)):=Zy (by
  refine⟨aa.own i (fun G f=>Zm),m,o.o.keep i (nA.refl _ _) (o.o.Ar i.size) (o.o.kK.kp i (fun G L f=>Zm)) (fun G L f=>by subst f;exact P (.inr L)) (fun G L f=>SK o.kK.ord)⟩)
 clear t Q a R x E u i;by_cases s:b=2
 . subst s;go_wp2_with fail;rw[<-F.o];refine kT h 13 [([0,1,2,3,4,5,6,7,8,9,10,11],12)] [] ?_ ?_
   . exact jg
   refine mP ?_;intro j a;go_wp2_with fail;refine kk h a D ?_;clear a j;refine kG ?_;go_wp2_with fail;refine Px (h7 Am rfl w rfl [.int .i64 2,e] (hH.mO ((A.ext jg).set2 _ _)) rfl) rfl ?_;exact⟨rfl,C⟩
 by_cases I:b=3
 . subst I;clear s;go_wp2_with fail;rw[<-F.o];refine kT h 13 [([0,1,2,3,4,5,6,7,8,9,10,11],12)] [] ?_ ?_
   . exact jg
   refine mP ?_;intro j a;go_wp2_with fail;refine kk h a D ?_;clear a j;refine kG ?_;go_wp2_with fail;refine Px (h7 Am rfl w rfl [.int .i64 3,e] (hH.mO ((A.ext jg).set2 _ _)) rfl) rfl ?_;exact⟨rfl,C⟩
 . have aj:=SI.2 s;have ak:=SI.2 I;have Y:Zz (decide (b=2\/b=3)=false):=Zy (RN Zm);clear s I;go_wp2_with fail;rw[<-F.o];refine kT h 13 [([0,1,2,3,4,5,6,7,8,9,10,11],12)] [] ?_ ?_
   . exact jg
   refine mP ?_;intro j a;go_wp2_with fail;refine kk h a D ?_;clear a j;refine kG ?_;go_wp2_with fail;refine Px (h7 Am rfl w rfl [b,e] (hH.mO ((A.ext jg).set2 _ _)) rfl) rfl ?_;exact⟨by rw[Y.o];rfl,C⟩
theorem Gh.split{r:List Fr}{f:Fr}(a:g.st.frames=r++[f]):∃d c,g.cs=d++[c]/\c.f=f:=by
 rcases Ta g.cs with b|⟨d,c,b⟩
 . unfold Gh.st at a;rw[b]at a;simp at a
 . rw[TZ]at b;refine⟨d,c,b,?_⟩;unfold Gh.st at a;rw[b]at a;simp only[U0,TH,Vm]at a;have:=List.append_inj_right' a rfl;simpa using this
theorem LC.mo{c:Own}(b:LC l p w W):Kp (MO l c) w W:=b.kp.weak fun d _ a=>.inl a
theorem Od{U:Own}{H: Nat}(B:jd w l p U I H lk g)(r:List GC)(c:GC)(O:g.cs=r++[c])(Q:g.status=1)(i:Ins)(P:nJ (M.method p c.f.of) i=true)(n:i.op=12):Calls prog 68 #[some H,.agg #[i.op,i.a,i.name,i.member]] w (jT w l p U I H lk (.int .i64 (jm p lk i g.st).1) (jm p lk i g.st).2):=by
 have HI:=Zy (qX P);obtain⟨w0,S,C,z⟩:=nu w #[i.op,i.a,i.name,i.member] 134;have⟨aa,q,J,Y,K,j⟩:=rX (B.fresh (Tz _)) (B.ext C) C z S O;have aj:=z.lt;clear B C z S O P;rcases Ta c.f.stack with b|⟨t,h,b⟩
 . have a:Zz (jm p lk i g.st=(10,g.st)):=Zy (by unfold jm;rw[n];simp only[Gh.Ah j.o b];rfl);have x:=Zy b;clear b n;go_enter func68,ntmps68;go_wp2_with fail;rw[<-K.o];refine(vJ q r c j x).mono ?_;rintro A W ⟨rfl,D⟩;have⟨X,Z⟩:=jc (q.ext D) (J.trans D);clear D;go_wp2;go_ret;rw[a.o];exact jT.mk' (Z.alloc _).any (nA.refl _ _) (X.ext kx) rfl
 . rw[TZ]at b;have R:=(jk.1 (q.CU j)).2.2.2.2.2.2 h (by rw[b];simp);have ah:Zz (jH h g.os.length=true):=Zy (by simpa [Gh.st]using R);have a:Zz (∀e,jm p lk i g.st=if h.kind=2\/h.kind=3 then(if h.kind=3 then jump p i.a (g.ky r c t e).st else next p (g.ky r c t e).st)else(10,(g.ky r c t e).st)):=Zy (fun e=>by unfold jm;rw[n];simp only[Gh.pop j.o b e];rfl);have⟨x,ae⟩:=jc b n;clear b n R;obtain⟨o,V⟩:=h;simp only at a;go_enter func68,ntmps68;go_wp2_with fail;rw[<-K.o];refine(yP q r c j t ⟨o,V⟩ x).mono ?_;rintro A W ⟨rfl,F,e,G⟩;replace a:=Zy (a e);obtain⟨w3,T,E,L⟩:=nu W #[o,V] 42;have⟨v,u⟩:=jc (G.ext E) ((J.any.trans F).trans E.any);have N:=Y.kp F aa;obtain⟨yz,-,y1,y2,-⟩:=N.ca;have⟨y,af,ag⟩:=jr T L (G.fresh (Tz _));clear E L F G N T;by_cases d:o=2\/o=3
   . have f:=SY d;simp only[f];replace a:=Zy (a.trans (SV d));by_cases s:o=3
     . subst s;replace a:=Zy (a.trans (SV rfl));clear d f;go_wp2_with fail;rw[<-y.o];refine(BF v r _ rfl Q i.a (HI.2.2.1 (.inr (.inl ae))).1).mono ?_;rintro A w4 m;have k:=Zy (jT.after u (nA.refl _ _) m);obtain⟨rfl,-⟩:=m;rw[<-a.o]at k |-;go_wp2;go_ret;exact k
     . have ai:=SI.2 s;replace a:=Zy (a.trans (SX s));clear s d f;go_wp2_with fail;rw[<-y.o];refine(uR v r rfl Q).mono ?_;rintro A w4 m;have k:=Zy (jT.after u (nA.refl _ _) m);obtain⟨rfl,-⟩:=m;rw[<-a.o]at k |-;go_wp2;go_ret;exact k
   . have f:=RN d;simp only[f];replace a:=Zy (a.trans (SX d));clear d f;go_wp2;go_ret;rw[a.o,<-y.o];exact jT.mk' u (nA.refl _ _) v rfl
theorem P7{aJ:Own}{ah mb:Nat}(U:jd w l p aJ ah mb lk g)(r:List GC)(c:GC)(aB:g.cs=r++[c])(aD:g.status=1)(i:Ins)(hi:nJ (M.method p c.f.of) i=true)(B:i.op=15):Calls prog 71 #[some mb,.agg #[i.op,i.a,i.name,i.member]] w (jT w l p aJ ah mb lk (.int .i64 (jm p lk i g.st).1) (jm p lk i g.st).2):=by
 have HI:=Zy (qX hi);obtain⟨w0,aG,V,T⟩:=nu w #[i.op,i.a,i.name,i.member] 134;have⟨aS,D,ai,aM,ak,x⟩:=rX (U.fresh (Tz _)) (U.ext V) V T aG aB;have bE:=T.lt;clear U V T aG aB hi;rcases Ta c.f.stack with f|⟨d,j,f⟩
 . have a:Zz (jm p lk i g.st=(10,g.st)):=Zy (by unfold jm;rw[B];simp only[Gh.Ah x.o f];rfl);have Q:=Zy f;clear f B;go_enter func71,ntmps71;go_wp2_with fail;rw[<-ak.o];refine(vJ D.o r c x.o Q.o).mono ?_;rintro q w2 ⟨rfl,W⟩;have⟨aL,aP⟩:=jc (D.o.ext W) (ai.o.trans W);clear W;go_wp2;go_ret;rw[a.o];exact jT.mk' (aP.o.alloc _).any (nA.refl _ _) (aL.o.ext kx) rfl
 . rw [TZ] at f; have aF := (jk.1 (D.o.CU x.o)).2.2.2.2.2.2 j (by rw [f]; simp); have R : Zz (jH j g.os.length = true) := Zy (by simpa [Gh.st] using aF); have a : Zz (∀ b, jm p lk i g.st = if j.kind = 2 \/ j.kind = 3 then (if j.kind = 3 then push p j (g.ky r c d b).st else if (lW p i.name (g.ky r c d b).st).2 then (if under p (tH (g.ky r c d b).st.heap j.n) (lW p i.name (g.ky r c d b).st).1 then push p j (g.ky r c d b).st else (6, (g.ky r c d b).st)) else (4, (g.ky r c d b).st)) else (10, (g.ky r c d b).st)) := Zy (fun b => by unfold jm; rw [B]; simp only [Gh.pop x.o f b]; rfl); have ⟨Q, bq⟩ := jc f B; clear f B aF; obtain ⟨v, t⟩ := j; simp only at a; go_enter func71, ntmps71; go_wp2_with fail; rw [<- ak.o]; refine (yP D.o r c x.o d ⟨v, t⟩ Q.o).mono ?_; rintro q w2 ⟨rfl, n, b, Y⟩; replace a := Zy (a.o b); obtain ⟨w3, aH, X, b5⟩ := nu w2 #[v, t] 42; have ⟨E, O⟩ := jc (Y.ext X) ((ai.o.any.trans n).trans X.any); have ax := aM.o.kp n aS.o; obtain ⟨yz,-, y1, y2,-⟩ := ax.ca; have ⟨S, aN, aR⟩ := jr aH b5 (Y.fresh (Tz _)); clear X b5 n Y ax aH; by_cases s : v = 2 \/ v = 3
   . have u:=SY s;simp only[u];replace a:=Zy (a.o.trans (SV s));by_cases H:v=3
     . subst H;replace a:=Zy (a.o.trans (SV rfl));clear s u;go_wp2_with fail;rw[<-S.o];refine(sJ E.o r _ rfl aD ⟨3,t⟩ R.o).mono ?_;rintro q w4 A;have y:=Zy (jT.after O.o (nA.refl _ _) A);obtain⟨rfl,-⟩:=A;rw[<-a.o]at y |-;go_wp2;go_ret;exact y.o
     . have bB:=SI.2 H;obtain rfl:v=2:=by omega
       replace a:=Zy (a.o.trans (SX H));clear H s u;obtain⟨⟨⟨K,L⟩,lb⟩,hF⟩:∃aK,lW p i.name (g.ky r c d b).st=aK:=⟨_,rfl⟩;rw[hF]at a;go_wp2_with fail;rw[<-S.o];have ae:=D9 E.o r _ rfl i.name;rw[hF]at ae;refine ae.mono ?_;rintro q w4 ⟨rfl,z⟩;clear ae hF y1 y2 yz;simp only;have Z:=E.o.qj z.kp z.at_;have ay:=aN.o.kp z.kp (fun q=>aR.o (.inl q));have⟨bn,aQ,N⟩:=jr Z (O.o.trans z.mo) ay;obtain⟨w5,aI,G,b7⟩:=nu w4 #[K,L] 64;have⟨aO,k,P,au,aj⟩:=qR b7 (Z.ext G) (aQ.o.trans G.any) aI G;clear z Z ay aI G b7;cases lb
       . replace a:Zz (jm p lk i g.st=(4,(g.ky r c d b).st)):=Zy (a.o.trans rfl);go_wp2;go_ret;rw[a.o,<-au.o];exact jT.mk' P.o (nA.refl _ _) k.o rfl
       . replace a:Zz (jm p lk i g.st=if under p (tH (g.ky r c d b).st.heap t) ⟨K,L⟩then push p ⟨2,t⟩ (g.ky r c d b).st else(6,(g.ky r c d b).st)):=Zy (a.o.trans rfl);obtain⟨aT,af⟩:=qM R.o rfl;simp only at aT af;obtain⟨h,rfl⟩:∃h:Nat,t=h:=⟨t.toNat,by omega⟩;obtain⟨C,ho⟩:∃C,g.os[h]?=some C:=⟨g.os[h]'Zm,Dj _⟩;have aC:tH (g.ky r c d b).st.heap h=C.o.of:=AX (by simp[Gh.st,Gh.ky,ho]);rw[aC]at a;obtain⟨ha,aA,ag⟩:=k.o.heap.form;have I:=k.o.heap.row;rw[ag]at I;obtain⟨av,bz,eb,-⟩:=jP I (by show 0<g.os.length;omega);cases eb;have aa:=lG (enc:=qw) (k:=3) (fun _=>rfl) I (l:=g.os) ho;obtain⟨bu,bA,bD,m⟩:=mJ w5;have bf:=fun e=>(k.o.ext (m.jv e)).blk.c 0 (some l.L) rfl;have bg:=fun e=>(k.o.ext (m.jv e)).blk.c 4 (av,g.os.length,aA) (by rw[show(Value.slice (some ⟨av,0,none⟩) g.os.length aA)=g.vh from ag.symm];rfl);have aV:=fun e=>((N.o.ext aj.o).ext (m.jv e)).c 1 h rfl;obtain⟨-,aW,aX,-⟩:=h9.qW fun e=>(aO.o.ext (m.jv e));have aY:=fun e=>(hH.ext aa (m.jv e)).three.1;have aZ:=fun e=>(hH.ext aa (m.jv e)).three.2.1;have q0:=N.o.c 0 (.int .i64 2) rfl;have F:=Zy m;have bC:(h:Int)<g.os.length:=af;clear m ag I aa ho aC af;go_wp2_with fail;rw[<-au.o];refine kT F 16 [([0,1,2,3,4,5,6,7,8,9,10,11,12,13],14)] [15] ?_ ?_
         . exact jg
         refine mP ?_;intro K2 n;go_wp2_with fail;refine(vI (k.o.kK.ext jg) C.o.of ⟨K,L⟩).mono ?_;rintro q w6 ⟨rfl,az⟩;have o:=Zy (((Kp.refl _ w5).drew:Ext w5 _).trans az);clear az;obtain⟨-,aU,bF,-⟩:=((N.o.ext aj.o).ext o.o).ca;have bG:=iV aU;cases J:under p C.o.of ⟨K,L⟩
         . rw[J]at a;replace a:Zz (jm p lk i g.st=(6,(g.ky r c d b).st)):=Zy (a.o.trans rfl);clear J;go_wp2_with fail;refine kk F n o.o ?_;clear n K2;refine uG ?_;go_wp2;go_ret;rw[a.o];exact jT.mk' (P.o.trans o.o.any) (nA.refl _ _) (k.o.ext o.o) rfl
         . rw[J]at a;replace a:Zz (jm p lk i g.st=push p ⟨2,h⟩ (g.ky r c d b).st):=Zy (a.o.trans rfl);clear J;go_wp2_with fail;refine kk F n o.o ?_;clear n K2;clear F bf bg aV aW aX aY aZ;refine uG ?_;go_wp2_with fail;refine(sJ (k.o.ext o.o) r _ rfl aD ⟨2,h⟩ R.o).mono ?_;rintro q w7 A;have y:=Zy (jT.after (P.o.trans o.o.any) (nA.refl _ _) A);obtain⟨rfl,-⟩:=A;rw[<-a.o]at y |-;go_wp2;go_ret;exact y.o
   . have u:=RN s;simp only[u];replace a:=Zy (a.o.trans (SX s));clear s u;go_wp2;go_ret;rw[a.o,<-S.o];exact jT.mk' O.o (nA.refl _ _) E.o rfl
theorem FY:∀(l:List Val) (q:Nat) (x:Val),((l.flatMap jS).set (q*2) x.kind).set (q*2+1) x.n=(l.set q x).flatMap jS:=by
 intro l;induction l with
 |nil=>intro q x;simp
 | cons c b a =>
  intro q x;cases q with
  |zero=>simp[jS]
  |succ q=>
   rw[show(q+1)*2=q*2+1+1 from by omega];simp only[UG,TQ,jS,Td,Ti];rw[a]
theorem jd.yV{s: Nat}(h:jd w l p j s C lk g){r:List GC}{c:GC}(m:g.cs=r++[c]){a E:Nat}(y:c.vl=.slice (some ⟨a,0,none⟩) c.f.locals.length E)(q:Nat)(x:Val)(D:jH x g.os.length=true):
    Kp (MO l j) w ((w.setCell (a,q*2) x.kind).setCell (a,q*2+1) x.n)/\jd ((w.setCell (a,q*2) x.kind).setCell (a,q*2+1) x.n) l p j s C lk {g with cs:=r++[{c with f:={c.f with locals:=c.f.locals.set q x}}]}:=by
 have b:=h.at_ m;have n:Kp (·=a) w ((w.setCell (a,q*2) x.kind).setCell (a,q*2+1) x.n):=
  ((Kp.refl (·=a) w).setCell (p:=⟨a,q*2,none⟩) (fun _=>rfl) _).setCell (p:=⟨a,q*2+1,none⟩) (fun _=>rfl) _
 have u:=b.loc.role a (by rw[y];rfl);have o:Kp (PO j (·=(5,r.length))) w ((w.setCell (a,q*2) x.kind).setCell (a,q*2+1) x.n):=n.weak fun i _ d=>⟨_,by rw[d];exact u,rfl⟩;have A:=nA.refl w j;have B:=b.loc.row;rw[y]at B;have z:=(B.stored (q*2) x.kind).1.stored (q*2+1) x.n;have t:=FY c.f.locals q x;rw[t]at z;have e:=jk.1 (h.CU m);refine⟨o.weak fun i _ d=>d.mo,h.H5 m rfl (o.weak fun i _ ⟨q,e1,t⟩=>⟨q,e1,.inr (.inl t)⟩) A (h.Ar n.size) ⟨b.blk.kp n (fun d=>?_),b.role,b.low,jK.kp jb.stays o (fun i k=>h.yM i k) b.ml,⟨?_,b.loc.role⟩,b.ky.yu o A Zl⟩ ?_ n (fun i G k d=>by rw[d,u]at k;cases k) fun _ _ x=>x⟩
 . have:=b.role;rw[d,u]at this;cases this
 . show World.ownsRow _ s _ 2 c.vl (c.f.locals.set q x).length _
   rw[VJ,y];exact z.1
 . rw[show({g with cs:=r++[{c with f:={c.f with locals:=c.f.locals.set q x}}]}:Gh).st={g.st with frames:=r.map GC.f++[{c.f with locals:=c.f.locals.set q x}]}from by simp[Gh.st]];refine h.good.turn (Gh.fr m) (jk.2 ⟨e.1,e.2.1,e.2.2.1,by simp;exact e.2.2.2.1,e.2.2.2.2.1,?_,e.2.2.2.2.2.2⟩);intro F v;rcases Uw v with v|rfl
   . exact e.2.2.2.2.2.1 F v
   . simpa [Gh.st]using D
theorem Rn{n:Own}{E: Nat}(t:jd w l p n E C lk g)(r:List GC)(c:GC)(y:g.cs=r++[c])(ak:g.status=1)(i:Ins)(hi:nJ (M.method p c.f.of) i=true)(P:i.op=6):Calls prog 62 #[some C,.agg #[i.op,i.a,i.name,i.member]] w (jT w l p n E C lk (.int .i64 (jm p lk i g.st).1) (jm p lk i g.st).2):=by
 obtain⟨D,z⟩:=SH (w.alloc (.cells #[i.op,i.a,i.name,i.member] 134));have u:Ext w D:=by rw[z];exact kx
 have⟨F,X,aa,W,ax⟩:=qR (t.ext u) u z y t;obtain⟨⟨⟨b,d⟩,B⟩,hF⟩:∃S,lW p i.name g.st=S:=⟨_,rfl⟩;have a:Zz (jm p lk i g.st=if B=true then(if 12<=g.st.heap.length then(8,g.st)else push p (create p ⟨b,d⟩ g.st).1 (create p ⟨b,d⟩ g.st).2)else(4,g.st)):=Zy (by unfold jm;rw[P];simp only[hF];rfl);have V:Zz (B=true->jD p ⟨b,d⟩=true):=Zy (fun k=>by
  subst k;unfold lW at hF;simp only[Wu,S9]at hF;rw[<-hF.1];exact hF.2.2)
 have x:=D9 F r c y i.name;rw[hF]at x;have G:=Zy x;clear t u z y hi P hF x;go_enter func62,ntmps62;go_wp2_with fail;rw[<-aa.o];refine G.mono ?_;rintro k R ⟨rfl,m⟩;have f:=F.qj m.kp m.at_;obtain⟨o,A⟩:=SH (R.alloc (.cells #[b,d] 64));have v:Ext R o:=by rw[A];exact kx
 obtain⟨ha,ag,Q⟩:=f.heap.form;have m4:=f.blk.c 4 (.slice ha g.os.length ag) (by rw[<-Q];rfl);have mz:=f.blk.lt;have q:=Zy (f.ext v);have j:Zz (Kp (MO l n) w o):=Zy ((X.any.trans m.mo).trans v.any);have s:=Zy A;clear G m f A v Q;have aj:g.st.heap.length=g.os.length:=by simp[Gh.st]
 cases B
 . replace a:Zz (jm p lk i g.st=(4,g.st)):=Zy a.o;go_wp2;go_ret;rw[a.o,<-s.o];exact jT.mk' j (nA.refl _ _) q rfl
 . replace a:Zz (jm p lk i g.st=if 12<=g.st.heap.length then(8,g.st)else push p (create p ⟨b,d⟩ g.st).1 (create p ⟨b,d⟩ g.st).2):=Zy a.o;by_cases af:12<=g.os.length
   . replace a:=Zy (a.trans (SV Zm));have I:decide ((12:Int)<=g.os.length)=true:=SY Zm;have ay:(12:Int)<=g.os.length:=Zm
     go_wp2;go_ret;rw[a.o,<-s.o];exact jT.mk' j (nA.refl _ _) q rfl
   . replace a:=Zy (a.trans (SX Zm));have I:((12:Int)<=g.os.length)=False:=Wv Zm;have ai:g.os.length<12:=Zm
     clear af aj;go_wp2_with fail;rw[<-s.o];refine(Cx _ _ _ _ _ _ _ q ⟨b,d⟩ (V Zl) ai).mono ?_;rintro k w3 ⟨rfl,K,av,e,N,L,h⟩;obtain⟨r3,c3,O,-⟩:=Gh.split (g:=e) (r:=r.map GC.f) (f:=c.f) (by rw[h];exact Gh.fr W);have au:e.status=1:=by
      have:e.st.status=g.st.status:=by rw[h];rfl
      exact this.trans ak
     have ah:e.os.length=g.os.length+1:=by
      have:e.st.heap.length=g.st.heap.length+1:=by rw[h];simp[create]
      simpa [Gh.st]using this
     have⟨Z,Y⟩:=jc L (j.mo K (nA.refl _ _));have T:Zz (nA w n av):=Zy (fun ae hb=>N ae (SK j.size));replace a:Zz (jm p lk i g.st=push p ⟨2,g.os.length⟩ e.st):=Zy (by rw[a.o,<-h];simp[create,Gh.st]);have U:=Zy O;clear K N L h O m4 mz I;go_wp2_with fail;refine(sJ Z r3 c3 U au ⟨2,g.os.length⟩ (wM _ Zm (by rw[ah];omega))).mono ?_;rintro k w4 J;have H:=Zy (jT.after Y T J);obtain⟨rfl,-⟩:=J;rw[<-a.o]at H |-;go_wp2;go_ret;exact H
theorem Rq{ak:Own}{R O:Nat}(F:jd w l p ak R O lk g)(r:List GC)(c:GC)(ae:g.cs=r++[c])(aK:g.status=1)(i:Ins)(hi:nJ (M.method p c.f.of) i=true)(t:i.op=3):Calls prog 59 #[some O,.agg #[i.op,i.a,i.name,i.member]] w (jT w l p ak R O lk (.int .i64 (jm p lk i g.st).1) (jm p lk i g.st).2):=by
 have HI:=Zy (qX hi);obtain⟨w0,ai,G,E⟩:=nu w #[i.op,i.a,i.name,i.member] 134;have⟨U,n,T,S,W,d⟩:=rX (F.fresh (Tz _)) (F.ext G) G E ai ae;have aW:=E.lt;clear F G E ai ae hi;rcases Ta c.f.stack with b|⟨u,B,b⟩
 . have e:Zz (jm p lk i g.st=(10,g.st)):=Zy (by unfold jm;rw[t];simp only[Gh.Ah d.o b];rfl);have D:=Zy b;clear b t;go_enter func59,ntmps59;go_wp2_with fail;rw[<-W.o];refine(kX n r c d).mono ?_;rintro y w1 ⟨rfl,h⟩;have⟨x,o⟩:=jc (n.ext h) (T.trans h);clear h;go_wp2_with fail;refine(rT x r c d D).mono ?_;rintro y w2 ⟨rfl,H⟩;have⟨au,ax⟩:=jc (x.ext H) (o.trans H);clear H;go_wp2;go_ret;rw[e.o];exact jT.mk' (ax.alloc _).any (nA.refl _ _) (au.ext kx) rfl
 . rw[TZ]at b;have ah:=(jk.1 (n.CU d)).2.2.2.2.2.2 B (by rw[b];simp);have aD:Zz (jH B g.os.length=true):=Zy (by simpa [Gh.st]using ah);have e:Zz (∀k,jm p lk i g.st=next p ({(g.ky r c u k)with cs:=r++[{c with f:={c.f with stack:=u,locals:=c.f.locals.set i.a.toNat B},vs:=k}]}:Gh).st):=Zy (fun k=>by unfold jm;rw[t];simp only[Gh.pop d.o b k];rw[oI (s:=(g.ky r c u k).st) (r:=r.map GC.f) (t:={c.f with stack:=u}) (by simp[Gh.ky,Gh.st])];simp[Gh.ky,Gh.st]);have⟨D,aB⟩:=jc b t;clear b t ah;obtain⟨P,Q⟩:=B;simp only at e;go_enter func59,ntmps59;go_wp2_with fail;rw[<-W.o];refine(kX n r c d).mono ?_;rintro y w1 ⟨rfl,h⟩;have⟨x,o⟩:=jc (n.ext h) h;clear h;go_wp2_with fail;refine(wF x r c d u ⟨P,Q⟩ D).mono ?_;rintro y w2 ⟨rfl,A,k,I⟩;replace e:=Zy (e k);obtain⟨m,aj,z,Y⟩:=nu w2 #[P,Q] 42;have⟨C,az⟩:=jc (I.ext z) (((T.trans o).any.trans A).trans z.any);have Z:=(S.ext o).kp A U;obtain⟨yz,-,y1,-⟩:=Z.ca;have⟨aF,av,aP,aA,ay⟩:=qR aj Y (I.fresh (Tz _)) A z;clear z Y A I Z aj;obtain⟨aS,aT⟩:=HI.2.1 (.inr aB);obtain⟨a,hq⟩:∃a:Nat,i.a=a:=⟨i.a.toNat,Zm⟩;have ag:i.a.toNat=a:=Zm
   have af:=jk.1 (n.CU d);have aJ:a<c.f.locals.length:=SK af.2.2.2.1
   obtain⟨N,lc,j,-⟩:=jP (C.at_ rfl).loc.row (by show 0<c.f.locals.length;omega);replace j:=j;have J:=C.at_ rfl;have L:=J.loc.row;obtain⟨aX,hu⟩:=nR c.f.locals a aJ;have K:=lG (enc:=jS) (k:=2) (fun _=>rfl) (l:=c.f.locals) (by rw[<-j];exact L) hu;obtain⟨aR,s⟩:=oJ L (g:=N) (by show c.vl.ownBlock=some N;rw[j];rfl);obtain⟨aQ,f,aU,q⟩:=mJ m;have rc:=fun v=>(J.blk.ext (q.jv v)).c 12 (N,c.f.locals.length,lc) (by rw[<-j];rfl);obtain⟨-,aM,aN,-⟩:=h9.qW fun v=>(av.ext (q.jv v));have aL:=fun v=>(((S.ext o).kp aA U).ext (ay.trans (q.jv v))).c 1 a (by rw[<-hq];rfl);have x0:=K.two.1;have x1:=K.two.2;have f0:=s.frozen (a*2);have f1:=s.frozen (a*2+1);have hz:=s.lt;have aV:(a:Int)<c.f.locals.length:=Zm
   have aC:=Zy ((C.ext ((Kp.refl _ m).drew:Ext m m.drew)).yV rfl j a ⟨P,Q⟩ aD);rw[ag]at e;have⟨V,aO⟩:=jc q s;clear q j J L hu K s hq ag y1 yz af;go_wp2_with fail;rw[<-aF.o];refine kT V 7 [] [0,1,2,3,4,5,6] ?_ ?_
   . exact jg
   refine wG [_,_,_,_,_,_,_] rfl fun aG hK=>?_;(repeat (go_big_quiet_step (fail)));refine qn hK ?_;clear hK aG;clear V rc aM aN aL;go_wp2_with fail;obtain⟨aH,aI⟩:=aC.o;refine(uR aI r rfl aK).mono ?_;rintro y w4 aa;have X:=Zy (jT.after ((az.trans ((Kp.refl _ m).drew:Ext m m.drew).any).trans aH) (nA.refl _ _) aa);obtain⟨rfl,-⟩:=aa;rw[<-e.o]at X |-;go_wp2;go_ret;exact X
theorem P9{aj:Own}{Y X:Nat}(N:jd w l p aj Y X lk g)(r:List GC)(c:GC)(D:g.cs=r++[c])(ah:g.status=1)(i:Ins)(T:nJ (M.method p c.f.of) i=true)(U:i.op=2):Calls prog 58 #[some X,.agg #[i.op,i.a,i.name,i.member]] w (jT w l p aj Y X lk (.int .i64 (jm p lk i g.st).1) (jm p lk i g.st).2):=by
 have HI:=Zy (qX T);obtain⟨a,ai,P,b3⟩:=nu w #[i.op,i.a,i.name,i.member] 134;have S:=jk.1 (N.CU D);obtain⟨ay,az⟩:=(qX T).2.1 (.inl U);obtain⟨o,hq⟩:∃o:Nat,i.a=o:=⟨i.a.toNat,Zm⟩;have af:i.a.toNat=o:=Zm
 have aB:o<c.f.locals.length:=SK S.2.2.2.1
 obtain⟨⟨e,h⟩,K⟩:=nR c.f.locals o aB;have aa:Zz (jH ⟨e,h⟩ g.os.length=true):=Zy (by simpa [Gh.st]using S.2.2.2.2.2.1 _ (Sy K));have b:Zz (jm p lk i g.st=if e=0 then(10,g.st)else push p ⟨e,h⟩ g.st):=Zy (by
  unfold jm;rw[U];simp only[Gh.top D,af,K];rfl)
 have O:=N.ext P;have J:=O.at_ D;obtain⟨lg,lc,W,-⟩:=jP J.loc.row Zm;have ag:=J.loc.row;have R:=lG (enc:=jS) (k:=2) (fun _=>rfl) (l:=c.f.locals) (by rw[<-W];exact ag) K;obtain⟨aD,aG,aH,t⟩:=mJ a;have rc:=fun q=>(J.blk.ext (t.jv q)).c 12 (lg,c.f.locals.length,lc) (by rw[<-W];rfl);have ak:=fun q=>(b3.ext (t.jv q)).c 1 o (by rw[<-hq];rfl);have au:=fun q=>(hH.ext R (t.jv q)).two.1;have av:=fun q=>(hH.ext R (t.jv q)).two.2;have aI:(o:Int)<c.f.locals.length:=Zm
 have⟨j,F,Z,ax,G⟩:=qR t O P ai D;clear N P b3 ai D T U O J W ag K R t S hq af ay az;go_enter func58,ntmps58;go_wp2_with fail;rw[<-ax.o];refine ve j 10 (.two [0,5,6] 1 9 (.one [2,3,4,7,8] 9 (.fin [])) (.one [] 1 (.fin [2,3,4,7,8]))) ?_ ?_
 . exact jg
 refine two [_,_,_] rfl rfl rfl fun L C=>?_;(repeat (go_big_quiet_step (fail)));((refine JE C (fun k d=>?_) fun k d=>?_)<;>clear C L)
 . go_wp2_with fail;refine(kX (F.ext jg) r c G).mono ?_;rintro H E ⟨rfl,u⟩;have s:=Zy (((Kp.refl _ a).drew:Ext a _).trans u);clear u;go_wp2_with fail;refine kk j d s ?_;clear d k;refine EF ?_;intro k d;go_wp2_with fail;refine kk j d (s.alloc _) ?_;clear d k;obtain⟨v,n⟩:=SH (E.alloc (.cells #[e,h] 42));have m:Ext a v:=by rw[n];exact s.alloc _
   have⟨y,x,z⟩:=jr (Z.trans m) (F.ext m) n;clear j rc ak au av n m;refine kJ ?_;by_cases f:e=0
   . subst f;replace b:=Zy (b.trans (SV rfl));go_wp2;go_ret;rw[b.o,<-z.o];exact jT.mk' y.any (nA.refl _ _) (x) rfl
   . have aA:=SI.2 f;replace b:=Zy (b.trans (SX f));clear f;go_wp2_with fail;rw[<-z.o];refine(sJ x r c G ah ⟨e,h⟩ aa).mono ?_;rintro H w4 B;have A:=Zy (jT.behind y B);obtain⟨rfl,-⟩:=B;rw[<-b.o]at A |-;go_wp2;go_ret;exact A
 . go_wp2_with fail;refine kk j d (((Kp.refl _ a).drew).alloc _) ?_;clear d k;refine jX rfl fun k d=>?_;have b5:h9 (a.drew.alloc (.cells #[SS,SS] 42)) a 42 #[SS,SS]:=h9.new _ _ _;have ae:Ext a (a.drew.alloc (.cells #[SS,SS] 42)):=((Kp.refl _ a).drew).alloc _;go_wp2_with fail;refine(kX (F.ext (((Kp.refl _ a).drew).alloc _)) r c G).mono ?_;rintro H E ⟨rfl,u⟩;have s:=Zy (ae.trans u);have I:=b5.ext u;obtain⟨hz,x0,x1,-⟩:=I.ca;obtain⟨f0,f1,-⟩:=I.fz;have V:Kp (·=a) E ((E.setCell a e).setCell (a,1) h):=qA;have Q:=I.set2 e h;obtain⟨v,n⟩:=SH ((E.setCell a e).setCell (a,1) h);rw[<-n]at V Q;have m:=s.own V (fun aF H=>Zm);have⟨y,x,z,aC⟩:=kQ (Z.trans m) (F.ext m) n Q;clear u I V Q n m b5 ae;go_wp2_with fail;refine kk j d s ?_;clear d k;clear j;refine L8 [_,_,_,_,_] rfl fun L C=>?_;(repeat (go_big_quiet_step (fail)));refine qn C ?_;clear C L;clear rc ak au av;by_cases f:e=0
   . subst f;replace b:=Zy (b.trans (SV rfl));go_wp2;go_ret;rw[b.o,<-z.o];exact jT.mk' y.any (nA.refl _ _) (x) rfl
   . have aA:=SI.2 f;replace b:=Zy (b.trans (SX f));clear f;go_wp2_with fail;rw[<-z.o];refine(sJ x r c G ah ⟨e,h⟩ aa).mono ?_;rintro H w4 B;have A:=Zy (jT.behind y B);obtain⟨rfl,-⟩:=B;rw[<-b.o]at A |-;go_wp2;go_ret;exact A
theorem Rk{ai:Own}{Q N:Nat}(W:jd w l p ai Q N lk g)(r:List GC)(c:GC)(ah:g.cs=r++[c])(ay:g.status=1)(i:Ins)(hi:nJ (M.method p c.f.of) i=true)(F:i.op=4):Calls prog 60 #[some N,.agg #[i.op,i.a,i.name,i.member]] w (jT w l p ai Q N lk (.int .i64 (jm p lk i g.st).1) (jm p lk i g.st).2):=by
 obtain⟨O,L⟩:=SH (w.alloc (.cells #[i.op,i.a,i.name,i.member] 134));have I:Ext w O:=by rw[L];exact kx
 have⟨t,R,U,m⟩:=kQ (W.ext I) I L ah;clear W I L ah hi;by_cases o:c.f.stack.length<2
 . have a:Zz (jm p lk i g.st=(10,g.st)):=Zy (by unfold jm;rw[F];simp only[Gh.zF m.o o];rfl);clear F;go_enter func60,ntmps60;go_wp2_with fail;rw[<-U.o];refine(kX t r c m).mono ?_;rintro e w1 ⟨rfl,n⟩;have⟨z,H⟩:=jc (t.ext n) (R.trans n);clear n;go_wp2_with fail;refine(uX z r c m 2 o Zm).mono ?_;rintro e q ⟨rfl,rfl⟩;go_wp2;go_ret;rw[a.o];exact jT.mk' H.any (nA.refl _ _) z rfl
 . obtain⟨k,f,h,y⟩:∃k f h,c.f.stack=k++[f,h]:=by
    rcases Ta c.f.stack with e|⟨s1,h,e⟩
    . rw[e]at o;simp at o
    . rw[TZ]at e;rcases Ta s1 with D|⟨s2,f,D⟩
      . rw[e,D]at o;simp at o
      . rw[TZ]at D;exact⟨s2,f,h,by rw[e,D];simp⟩
   have K:=(jk.1 (t.CU m)).2.2.2.2.2.2;have az:jH f g.os.length=true:=by simpa [Gh.st]using K f (by rw[y];simp)
   have aA:jH h g.os.length=true:=by simpa [Gh.st]using K h (by rw[y];simp)
   have a:Zz (∀j,jm p lk i g.st=if f.kind=1/\h.kind=1 then(if nT (f.n+h.n)then push p (mg (f.n+h.n)) (g.ky r c k j).st else(9,(g.ky r c k j).st))else(10,(g.ky r c k j).st)):=Zy (fun j=>by unfold jm;rw[F];simp only[Gh.lH m.o (n:=2) y rfl j];rfl);have HS:=Zy y;clear y F K o;obtain⟨s,b⟩:=f;obtain⟨u,d⟩:=h;simp only at a;go_enter func60,ntmps60;go_wp2_with fail;rw[<-U.o];refine(kX t r c m).mono ?_;rintro e w1 ⟨rfl,n⟩;have⟨z,H⟩:=jc (t.ext n) (R.trans n);clear n;go_wp2_with fail;refine(Cy z r c m k [⟨s,b⟩,⟨u,d⟩] 2 HS rfl Zm).mono ?_;rintro e q ⟨v',rfl,G,aa,j,ae⟩;replace a:=Zy (a j);obtain⟨gt,gc,rfl,-⟩:=jP G Zm;have af:=(lG (enc:=jS) (k:=2) (fun _=>rfl) (l:=[⟨s,b⟩,⟨u,d⟩]) G (i:=0) (x:=⟨s,b⟩) rfl).two;have ag:=(lG (enc:=jS) (k:=2) (fun _=>rfl) (l:=[⟨s,b⟩,⟨u,d⟩]) G (i:=1) (x:=⟨u,d⟩) rfl).two;simp only[UX,Nat.one_mul,Tq]at af ag;obtain⟨x0,x1⟩:=af;obtain⟨x2,x3⟩:=ag;have⟨B,A⟩:=jc ae (H.any.trans aa);clear G aa ae;by_cases v:s=1/\u=1
   . obtain⟨rfl,rfl⟩:=v;have av:=wN az rfl;have ax:=wN aA rfl;simp only at av ax;replace a:=Zy (a.trans (SV ⟨rfl,rfl⟩));have aH:IntKind.i64.wrap (b+d)=b+d:=Tg _ Zm;obtain⟨aB,aC,aG,C⟩:=mJ q;have r1:=fun P=>(C.jv P).iW x1;have r3:=fun P=>(C.jv P).iW x3;have T:=Zy C;clear C;go_wp2_with fail;refine kT T 9 [] [0,1,2,3,4,5,6,7,8] ?_ ?_
     . exact jg
     refine wG [_,_,_,_,_,_,_,_,_] rfl fun au Z=>?_;(repeat (go_big_quiet_step (fail)));refine qn Z ?_;clear Z au;clear T r1 r3;go_wp2_with fail;have J:=Ho (b+d) q.drew;rw[show(decide (-9999<=b+d)&&decide (b+d<=9999))=nT (b+d)from rfl]at J;refine J.mono ?_;rintro e w3 ⟨rfl,rfl⟩;clear J;cases x:nT (b+d)
     . rw[x]at a;replace a:Zz (jm p lk i g.st=(9,(g.ky r c k j).st)):=Zy a.o;clear x;go_wp2;go_ret;rw[a.o];exact jT.mk' (A.trans ((Kp.refl _ q).drew:Ext q _).any) (nA.refl _ _) (B.ext jg) rfl
     . have aj:=Zy x;rw[x]at a;replace a:Zz (jm p lk i g.st=push p (mg (b+d)) (g.ky r c k j).st):=Zy a.o;clear x;go_wp2_with fail;refine(Dh (b+d)).mono ?_;rintro e w3 ⟨rfl,X⟩;have S:=Zy (((Kp.refl _ q).drew:Ext q _).trans X);clear X;go_wp2_with fail;refine(sJ (B.ext S) r _ rfl ay (mg (b+d)) (mR _ aj)).mono ?_;rintro e w4 Y;have V:=Zy (jT.after (A.trans S.any) (nA.refl _ _) Y);obtain⟨rfl,-⟩:=Y;rw[<-a.o]at V |-;go_wp2;go_ret;exact V
   . replace a:=Zy (a.trans (SX v));by_cases E:s=1
     . have aF:=TP.2 (fun e=>v ⟨E,e⟩);subst E;clear v;go_wp2;go_ret;rw[a.o];exact jT.mk' A (nA.refl _ _) B rfl
     . have aD:=TP.2 E;clear v E;go_wp2;go_ret;rw[a.o];exact jT.mk' A (nA.refl _ _) B rfl
theorem Rs {L: Own} {T: Nat} (Q : jd w l p L T k lk g) (r : List GC) (c : GC) (aN : g.cs = r ++ [c]) (bK : g.status = 1) (i : Ins) (hi : nJ (M.method p c.f.of) i = true) (R : i.op = 10) :Calls prog 66 #[some k,.agg #[i.op,i.a,i.name,i.member]] w (jT w l p L T k lk (.int .i64 (jm p lk i g.st).1) (jm p lk i g.st).2):=by
 have HI:=Zy (qX hi);obtain⟨w0,aU,au,b3⟩:=nu w #[i.op,i.a,i.name,i.member] 134;have⟨bD,G,aD,bn,aH,v⟩:=rX (Q.fresh (Tz _)) (Q.ext au) au b3 aU aN;have bX:=b3.lt;clear Q au b3 aU aN hi;rcases Ta c.f.stack with A|⟨m,N,A⟩
 . have b:Zz (jm p lk i g.st=(10,g.st)):=Zy (by unfold jm;rw[R];simp only[Gh.Ah v.o A];rfl);have HS:=Zy A;clear A R;go_enter func66,ntmps66;go_wp2_with fail;rw[<-aH.o];refine(kX G r c v).mono ?_;rintro a w1 ⟨rfl,E⟩;have⟨U,V⟩:=jc (G.ext E) (aD.trans E);clear E;go_wp2_with fail;refine(rT U r c v HS).mono ?_;rintro a O ⟨rfl,av⟩;have⟨bg,bq⟩:=jc (U.ext av) (V.trans av);clear av;obtain⟨h,K⟩:=SH (O.alloc (.cells #[SS,SS] 42));have F:Ext O h:=by rw[K];exact kx
   obtain⟨bG,f,bI,y⟩:=mJ h;have⟨o,aj,af⟩:=jr y K F;clear y K F;go_wp2_with fail;rw[<-aj.o];refine kT o 22 [([0,1,2,3,4,5,6,7,9,10,11,12,13,14,15,16,17,18],8),([],19)] [20,21] ?_ ?_
   . exact jg
   refine mP ?_;intro z d;go_wp2_with fail;refine kk o d ((Kp.refl _ h).drew:Ext h _) ?_;clear d z;refine lK rfl fun z d=>?_;go_wp2_with fail;refine kk o d ((Kp.refl _ h).drew:Ext h _) ?_;clear d z;refine uG ?_;go_wp2;go_ret;rw[b.o];exact jT.mk' ((bq.trans af).drew).any (nA.refl _ _) (bg.ext (af.drew)) rfl
 . rw [TZ] at A; have aT := (jk.1 (G.CU v)).2.2.2.2.2.2 N (by rw [A]; simp); have ai : Zz (jH N g.os.length = true) := Zy (by simpa [Gh.st] using aT); have b : Zz (∀ e, jm p lk i g.st = if hasType p c.f.of.of.keeper g.st.heap N (M.method p c.f.of).ret then (if r.length = 0 then (2, { (g.ky r c m e).st with back := N }) else push p N { g.st with frames := r.map GC.f }) else (10, (g.ky r c m e).st)) := Zy (fun e => by unfold jm; rw [R]; simp only [Gh.pop v.o A e, Gh.top v.o]; simp [Gh.ky, Gh.st]); have ⟨HS, bM⟩ := jc A R; clear A R aT; obtain ⟨s, t⟩ := N; simp only at b; go_enter func66, ntmps66; go_wp2_with fail; rw [<- aH.o]; refine (kX G r c v).mono ?_; rintro a w1 ⟨rfl, E⟩; have ⟨U, V⟩ := jc (G.ext E) E; clear E; go_wp2_with fail; refine (wF U r c v m ⟨s, t⟩ HS).mono ?_; rintro a O ⟨rfl, d, e, ax⟩; replace b := Zy (b e); obtain ⟨h, K, F, b5⟩ := nu O #[s, t] 42; have ⟨D, ag⟩ := jc (ax.ext F) (((aD.trans V).any.trans d).trans F.any); have aI := (bn.ext V).kp d bD; obtain ⟨yz,-, y1,-⟩ := aI.ca; have ⟨aj, aC, bC, bL, af⟩ := qR K b5 (ax.fresh (Tz _)) d F; clear F b5 d ax aI K y1 yz; obtain ⟨Z, aa, aA⟩ := D.heap.form; have aO := D.Oz; have ay := D.at_ rfl; obtain ⟨bG, f, bI, y⟩ := mJ h; have aZ := fun B => (D.ext (y.jv B)).blk.c 0 (some l.L) rfl; have bf := fun B => (D.ext (y.jv B)).blk.c 4 (.slice Z g.os.length aa) (by rw [show (Value.slice Z g.os.length aa) = g.vh from aA.symm]; rfl); obtain ⟨-, aV, aW,-⟩ := h9.qW fun B => (aC.ext (y.jv B)); obtain ⟨-,-,-,-,-,-, aX, aY,-⟩ := h9.qW fun B => (ay.blk.ext (y.jv B)); have aQ := fun W (Y : Ext h W) => (ay.blk.ext Y).c 0 c.f.of.of.keeper rfl; have bz := Zy aQ; have aP := fun W (Y : Ext h W) => vR W l p (D.kK.ext Y) c.f.of.of.keeper (.slice Z g.os.length aa) g.st.heap (by
    have:=aO.ext Y;rw[show(Value.slice Z g.os.length aa)=g.vh from aA.symm];exact this) ⟨s,t⟩ (fun a=>by have:=qM ai a;simpa [Gh.st]using this) (M.method p c.f.of).ret
   have⟨bu,o⟩:=jc aP y;clear y ay aQ aP aO aA;go_wp2_with fail;rw[<-aj.o];refine kT o 22 [([0,1,2,3,4,5,6,7,9,10,11,12,13,14,15,16,17,18],8),([],19)] [20,21] ?_ ?_
   . exact jg
   refine mP ?_;intro z d;go_wp2_with fail;refine(nP _ (bz _ jg)).mono ?_;rintro a we ⟨rfl,rfl⟩;go_wp2_with fail;refine kk o d ((Kp.refl _ h).drew:Ext h _) ?_;clear d z;refine lK rfl fun z d=>?_;go_wp2_with fail;refine(bu _ jg).mono ?_;rintro a j ⟨rfl,aK⟩;have C:=Zy (((Kp.refl _ h).drew:Ext h _).trans aK);have H:=D.ext C;have aJ:=aC.ext C;obtain⟨qz,q0,q1,-⟩:=aJ.ca;have bJ:¬k=O:=fun a=>bC.o (.inr (by rw[<-a,D.o.role];simp));have bR:¬O=k:=fun a=>bJ a.symm;have az:=H.calls.row;have aS:(g.ky r c m e).cs.length=r.length+1:=by simp[Gh.ky]
   rw[aS]at az;obtain⟨u,q,aB,-,-,bV⟩:=jP az Zm;have m3:=H.blk.c 3 (u,r.length+1,q) (by rw[<-aB];rfl);obtain⟨mz,-,-,-,-,-,-,m6,m7,-⟩:=H.blk.ca;obtain⟨-,-,-,f3,-,-,f6,f7,-⟩:=H.blk.fz;have⟨x,aG⟩:=jc H aB;have bS:r.length+1<=8:=by have:=G.good.nf;rw[Gh.fr v.o]at this;simpa using this
   clear aK H aJ az aS aB;cases ae:hasType p c.f.of.of.keeper g.st.heap ⟨s,t⟩ (M.method p c.f.of).ret
   . rw[ae]at b;replace b:Zz (jm p lk i g.st=(10,(g.ky r c m e).st)):=Zy b.o;clear ae;go_wp2_with fail;refine kk o d C ?_;clear d z;refine uG ?_;go_wp2;go_ret;rw[b.o];exact jT.mk' (ag.trans C.any) (nA.refl _ _) x rfl
   . rw [ae] at b; replace b : Zz (jm p lk i g.st = if r.length = 0 then (2, { (g.ky r c m e).st with back := ⟨s, t⟩ }) else push p ⟨s, t⟩ { g.st with frames := r.map GC.f }) := Zy b.o; clear ae; by_cases J : r.length = 0
     . replace b:=Zy (b.trans (SV J));go_wp2_with fail;refine kk o d C ?_;clear d z;clear o aZ bf aV aW aX aY;refine uG ?_;go_wp2;go_ret;rw[b.o];have hk:Kp (·=k) j ((j.setCell (k,6) s).setCell (k,7) t):=qA;have I:Kp (PO L (·=(0,0))) j ((j.setCell (k,6) s).setCell (k,7) t):=hk.weak fun ak _ a=>⟨_,by rw[a];exact x.role,rfl⟩;have n:=x.good;exact jT.mk' ((ag.trans C.any).trans (I.weak fun ak _ a=>a.mo)) (nA.refl _ _) (x.H4 {(g.ky r c m e)with back:=⟨s,t⟩} I ((x.blk.jE 6 _).jE 7 _) (.inl ⟨rfl,rfl⟩) ⟨rfl,rfl,rfl,rfl⟩ ⟨n.heap,n.frames,n.nf,n.outs,n.rO,by simpa [Gh.st,Gh.ky]using ai.o⟩) rfl
     . replace b:=Zy (b.trans (SX J));obtain⟨S,P,aR⟩:∃S P,r=S++[P]:=by
        rcases Ta r with a|⟨S,P,a⟩
        . rw[a]at J;exact absurd rfl J
        . exact⟨S,P,by rw[a,TZ]⟩
       have bE:=Zy aR;clear aR;have bN:((r.length:Int)+1==1)=false:=SI.2 Zm;have bO:¬r.length=0:=J;have bP:((r.length:Int)==0)=false:=SI.2 Zm;have bW:IntKind.i64.wrap ((r.length:Int)+1 - 1)=r.length:=by rw[Tg _ Zm];omega
       have bT:(0:Int)<=r.length:=Zm
       have bU:(r.length:Int)<=q:=Zm
       have hk:Kp (·=k) j.drew (j.drew.setCell (k,3) (u,r.length,q)):=qA;have X:=x.ext ((Kp.refl _ j).drew:Ext j j.drew);have I:Kp (PO L (·=(0,0))) j.drew (j.drew.setCell (k,3) (u,r.length,q)):=hk.weak fun ak _ a=>⟨_,by rw[a];exact x.role,rfl⟩;have n:=x.good;have aM:jd (j.drew.setCell (k,3) (u,r.length,q)) l p L T k lk {(g.ky r c m e)with cs:=r,vc:=(u,r.length,q)}:=by
        refine X.H4 {(g.ky r c m e)with cs:=r,vc:=(u,r.length,q)} I (X.blk.jE 3 _) (.inr ⟨?_,[_],rfl⟩) ⟨rfl,rfl,rfl,rfl⟩ ?_
        . have h1:=X.calls;have h2:lU j.drew L T (1,0) 124 1 (u,r.length+1,q) (r.length+1) ((r++[{c with f:={c.f with stack:=m},vs:=e}]).flatMap vO):=by
           have e1:(g.ky r c m e).vc=.slice (some ⟨u,0,none⟩) (r.length+1) q:=aG.o;have e2:(g.ky r c m e).cs.length=r.length+1:=by simp[Gh.ky]
           rw[<-e1,<-e2];exact h1
          have h3:=h2.take (j:=r.length) Zm;rw[Bu (enc:=vO) (k:=1) (fun _=>rfl)]at h3;exact h3
        . exact⟨n.heap,(fun f hf=>n.frames f (by simp only[Gh.st,Gh.ky,U0,Ty];exact .inl hf)),by simp[Gh.st];omega,n.outs,n.rO,n.back⟩
       have⟨bB,bA⟩:=jc aM (((ag.trans C.any).trans ((Kp.refl _ j).drew:Ext j _).any).trans (I.weak fun ak _ a=>a.mo));obtain⟨T2,f2,bQ,ah⟩:=mJ j;have s3:=fun B=>(x.ext (ah.jv B)).blk.c 3 (u,r.length+1,q) (by rw[<-aG.o];rfl);have aF:=Zy ah;clear ah hk I X n aM J m6 m7 f6 f7;go_wp2_with fail;refine kk o d C ?_;clear d z;clear o aZ bf aV aW aX aY;refine uG ?_;go_wp2_with fail;(refine xJ f2 12 [] [0,1,2,3,4,5,6,7,8,9,10,11] (aF.o.o _ ?_) Zo Zo (fun _ _ bH _ _ Q=>by cases bH<;>exact Q) ?_)
       . exact jg
       refine wG [_,_,_,_,_,_,_,_,_,_,_,_] rfl fun bF hK=>?_;(repeat (go_big_quiet_step (fail)));refine qn hK ?_;clear hK bF;clear aF s3;go_wp2_with fail;refine(sJ bB S P bE bK ⟨s,t⟩ ai).mono ?_;rintro a w6 aL;have HZ:=Zy (jT.after bA (nA.refl _ _) aL);obtain⟨rfl,-⟩:=aL;replace b:Zz (jm p lk i g.st=push p ⟨s,t⟩ ({(g.ky r c m e)with cs:=r,vc:=(u,r.length,q)}:Gh).st):=Zy b.o;rw[<-b.o]at HZ |-;go_wp2;go_ret;exact HZ
theorem LC.own{c: World}(d:LC l p w W)(a:Kp (·=b) W c)(h:w<=b)(g:l.L<w):LC l p w c:=
 ⟨d.kp.own a (fun f e=>Zm),d.at_.kp a (fun f a e=>Zm)⟩
theorem Rl{z:Own}{aP: Nat}(U:jd w l p z aP K lk g)(r:List GC)(c:GC)(bB:g.cs=r++[c])(cK:g.status=1)(i:Ins)(hi:nJ (M.method p c.f.of) i=true)(aN:i.op=7):Calls prog 63 #[some K,.agg #[i.op,i.a,i.name,i.member]] w (jT w l p z aP K lk (.int .i64 (jm p lk i g.st).1) (jm p lk i g.st).2):=by
 have HI:=Zy (qX hi);obtain⟨w0,bH,aH,b3⟩:=nu w #[i.op,i.a,i.name,i.member] 134;have cZ:=Zy (U.fresh (Tz _));have aT:Zz (∀q,w.heap.size<=q->¬MO l z q):=Zy (fun q B=>U.fresh B);have dm:=U.kK.lt;have dh:=U.kK.ord.2.2;have⟨aQ,bQ,bM,bU,G⟩:=qR (U.ext aH) aH b3 bH bB;have dC:=b3.lt;clear U aH b3 bH bB hi;obtain⟨⟨⟨⟨h,j⟩,m,⟨D,E⟩⟩,cd⟩,hF⟩:∃bL,M.get p c.f.of.of.keeper i.name i.member=bL:=⟨_,rfl⟩;have k:Zz (jm p lk i g.st=if cd=1 then(match pop g.st with
     |none=>(10,g.st)
     |some (v,s1)=>if object p v ⟨h,j⟩ s1=1 then push p (((oV s1.heap v.n)[m.toNat]?).getD ll) s1 else(object p v ⟨h,j⟩ s1,s1))else(4,g.st)):=Zy (by
  unfold jm;rw[aN];simp only[Gh.top G.o,hF];rfl)
 have⟨HF,df⟩:=jc hF aN;clear aN;go_enter func63,ntmps63;go_wp2_with fail;rw[<-bU.o];refine(kX aQ.o r c G.o).mono ?_;rintro u o ⟨rfl,ag⟩;have⟨O,bR,aB⟩:=jr (aQ.o.ext ag) (bQ.o.trans ag) (bM.o.ext ag);have bn:l.L<o.heap.size:=O.o.kK.lt;have di:l.D<o.heap.size:=by omega
 have dD:w.heap.size<o.heap.size:=aB.o.lt;have bD:∀Z,LC l p o Z->Calls prog 108 #[some l.L,c.f.of.of.keeper,i.name,i.member] Z fun u w'=>∃x,u=.returned (.tuple #[.agg #[h,j,m,D,E],x])/\Ci x cd/\Kp (·=l.D) Z w'/\LC l p o w':=fun Z hW=>by
  have hl:=zA Z l p hW.at_ c.f.of.of.keeper i.name i.member;rw[HF.o]at hl;refine hl.mono ?_;rintro u w' ⟨⟨x,rfl,y⟩,hL,H⟩;exact⟨x,rfl,y.weak,H,hW.step hL H⟩
 have af:=Zy bD;have a:=Zy (LC.refl O.o.kK).drew;obtain⟨bX,bY,cz,t⟩:=uD.ex (fun W'=>LC l p o W') o (LC.refl O.o.kK);have aA:=fun s=>(O.o.qj (t.jv s).kp (t.jv s).at_).blk.c 0 (some l.L) rfl;obtain⟨-,-,-,ay,az,-⟩:=h9.qW fun s=>(aB.o.kp (t.jv s).kp Zm);have f:=Zy t;clear t bD ag;go_wp2_with fail;rename_i aD H
 have bK : ∀ (b6 : Nat) (w7 : World) (x : Value), LC l p o w7 -> h9 w7 b6 173 #[h, j, m, D, E] -> o.heap.size <= b6 -> Ci x cd -> aD { tmps := #[.pointer (some ⟨K, 0, none⟩), .agg #[i.op, i.a, i.name, i.member], undef, .pointer (some ⟨w.heap.size, 0, none⟩), .int .i64 0, .pointer (some ⟨c.cb, 0, none⟩), .pointer (some ⟨b6, 0, none⟩), x, undef, undef, undef, .pointer (some ⟨K, 0, none⟩), .pointer (some ⟨c.cb, 0, none⟩), .tuple #[.agg #[h, j, m, D, E], x], .pointer (some ⟨K, 0, none⟩), .pointer (some ⟨K, 0, none⟩), .pointer (some ⟨K, 0, none⟩), .pointer (some ⟨l.L, 0, none⟩), .pointer (some ⟨c.cb, 0, none⟩), .int .i64 c.f.of.of.keeper, .pointer (some ⟨w.heap.size, 2, none⟩), .string i.name, .pointer (some ⟨w.heap.size, 3, none⟩), .string i.member, .tuple #[.agg #[h, j, m, D, E], x], .agg #[h, j, m, D, E], x, undef, undef, undef, undef, undef, undef, undef, undef, undef, undef, undef, undef, undef, undef, undef, undef, undef, undef, undef, undef, undef, undef, undef, undef, undef, undef, undef, undef, undef, undef, undef, undef, undef, undef], defers := [] } w7 := by
  intro b6 w7 x hC aZ J y;refine H _ _ ?_;clear H f aA ay az a af;have Y:=Zy (O.o.qj hC.kp hC.at_);have X:Zz (Kp (MO l z) w w7):=Zy (bR.o.any.trans hC.mo);have⟨e,cO,aW⟩:=jr aZ (aB.o.kp hC.kp Zm) (aT.o b6 Zm);clear hC aZ;rcases y with⟨rfl,rfl⟩|⟨C,eb,rfl⟩;rotate_left
  . replace k:Zz (jm p lk i g.st=(4,g.st)):=Zy (by rw[k.o,SX C]);clear C;go_wp2;go_ret;rw[k.o];exact jT.mk' X.o (nA.refl _ _) Y.o rfl
  replace k:Zz (jm p lk i g.st=(match pop g.st with
   |none=>(10,g.st)
   |some (v,s1)=>if object p v ⟨h,j⟩ s1=1 then push p (((oV s1.heap v.n)[m.toNat]?).getD ll) s1 else(object p v ⟨h,j⟩ s1,s1))):=Zy k.o
  obtain⟨xz,x0,x1,-⟩:=e.o.ca;rcases Ta c.f.stack with I|⟨L,v,I⟩
  . replace k:Zz (jm p lk i g.st=(10,g.st)):=Zy (by rw[k.o,Gh.Ah G.o I]);have HS:=Zy I;clear I;go_wp2_with fail;refine(rT Y.o r c G.o HS.o).mono ?_;rintro u w8 ⟨rfl,bf⟩;have aS:=Zy bf;clear bf;go_wp2;go_ret;rw[k.o];exact jT.mk' (X.o.trans (aS.o.alloc _).any) (nA.refl _ _) (Y.o.ext (aS.o.alloc _)) rfl
  . rw [TZ] at I; have bG := (jk.1 (Y.o.CU G.o)).2.2.2.2.2.2 v (by rw [I]; simp); have aY : Zz (jH v g.os.length = true) := Zy (by simpa [Gh.st] using bG); have aX : Zz (∀ F, jm p lk i g.st = if object p v ⟨h, j⟩ (g.ky r c L F).st = 1 then push p (((oV g.st.heap v.n)[m.toNat]?).getD ll) (g.ky r c L F).st else (object p v ⟨h, j⟩ (g.ky r c L F).st, (g.ky r c L F).st)) := Zy (fun F => by rw [k.o, Gh.pop G.o I F]; rfl); have HS := Zy I; clear I bG k; obtain ⟨vk, N⟩ := v; go_wp2_with fail; refine (wF Y.o r c G.o L ⟨vk, N⟩ HS.o).mono ?_; rintro u w8 ⟨rfl, ai, F, bq⟩; have k := Zy (aX.o F); have aG := e.o.kp ai aW.o; obtain ⟨zz, z0, z1,-⟩ := aG.ca; obtain ⟨w9, bI, ah, b8⟩ := nu w8 #[vk, N] 42; have ⟨aC, aV, bO, aR, bV⟩ := qR (bq.ext ah) ((X.o.trans ai).trans ah.any) (aG.ext ah) b8 bI; have bW : Zz (w.heap.size <= w8.heap.size) := Zy (by have := ai.size; have := X.o.size; omega); clear ai bq aG ah b8 bI aX x0 x1 xz; go_wp2_with fail; rw [<- bV.o]; refine (yO aC.o ⟨vk, N⟩ aY.o ⟨h, j⟩).mono ?_; rintro u ae ⟨rfl, aa⟩; have ⟨A, aU, bN, bP⟩ := kQ (aC.o.ext aa) (aV.o.trans aa.any) (bO.o.ext aa) (aR.o.ext aa); clear aa z0 z1 zz; obtain ⟨ob, S⟩ : ∃ ob, object p ⟨vk, N⟩ ⟨h, j⟩ (g.ky r c L F).st = ob := ⟨_, rfl⟩; by_cases ak : ob = 1
    . subst ak;replace k:Zz (jm p lk i g.st=push p (((oV g.st.heap N)[m.toNat]?).getD ll) (g.ky r c L F).st):=Zy (by rw[k.o,SV S]);have aL:=vE (p:=p) A.o.good (k:=c.f.of.of.keeper) (n:=i.name) (m:=i.member) (by rw[HF.o]) (v:=⟨vk,N⟩) (by simpa [Gh.st,Gh.ky]using aY.o) (by rw[HF.o];exact S);rw[HF.o]at aL;simp only at aL;obtain⟨dx,dz,bZ,dE,ho,-,bC,aI⟩:=aL;obtain⟨n,rfl⟩:∃n:Nat,N=n:=⟨N.toNat,by omega⟩;obtain⟨T,rfl⟩:∃T:Nat,m=T:=⟨m.toNat,by omega⟩;simp only[Vu]at ho aI;simp only[Gh.st,Gh.ky,Um,U1]at ho;obtain⟨P,V,rfl⟩:=ho;obtain⟨aO,hu⟩:=nR P.o.fields T aI;have bF:(((oV g.st.heap n)[(T:Int).toNat]?).getD ll)=aO:=by
       have:oV g.st.heap n=P.o.fields:=bC;rw[this,Vu,hu];rfl
      rw[bF]at k;have bT:=Zy (by
       have Q:=((lX.1 A.o.good.heap).2 P.o (by simp only[Gh.st,Gh.ky,TM];exact⟨P,Sy V,rfl⟩)).2.2 aO (Sy hu);simpa [Gh.st,Gh.ky]using Q)
      obtain⟨ha,bz,av⟩:=A.o.heap.form;have au:=A.o.heap.row;rw[av]at au;have cB:=(Tv.1 V).1;obtain⟨B,dw,eb,-⟩:=jP au (by show 0<g.os.length;omega);cases eb;have bA:=lG (enc:=qw) (k:=3) (fun _=>rfl) au (l:=g.os) V;have aj:=(A.o.obj n P V).row;obtain⟨fb,fc,aM,-⟩:=jP aj Zm;rw[aM]at aj;have aK:=lG (enc:=jS) (k:=2) (fun _=>rfl) aj hu;obtain⟨bX,bY,cz,t⟩:=uD.ex (fun W'=>Kp (PO z (Ig r.length)) ae W') _ Kp.rr;obtain⟨uk,un⟩:=aO;have e1:=bA.three.2.2;rw[aM]at e1;have no:∀q ax,z q=some ax->¬Ig r.length ax->¬PO z (Ig r.length) q:=fun q ax B hq ⟨q',Q,h2⟩=>by rw[B]at Q;cases Q;exact hq h2
      have bJ:∀q,z q=none->¬PO z (Ig r.length) q:=fun q B ⟨q',Q,_⟩=>by rw[B]at Q;cases Q
      have ro:∀q,¬MO l z q->z q=none:=fun q B=>by
       cases u:z q with
       |none=>rfl
       |some ax=>exact absurd (.inr (by rw[u];simp)) B
      have cu:=ro _ (aT.o _ (by have:=aV.o.size;have:=X.o.size;have:=aC.o.blk.lt;have:=aR.o.lt;have:=bW.o;omega));have bE:=A.o.heap.role B (by rw[av];rfl);have aJ:=(A.o.obj n P V).role fb (by rw[aM];rfl);have dK:=fun s=>(A.o.blk.kp (t.jv s) (no _ _ A.o.role (by simp[Ig]))).c 4 (B,g.os.length,bz) (by rw[show(Value.slice (some ⟨B,0,none⟩) g.os.length bz)=g.vh from av.symm];rfl);have dG:=fun s=>(bP.o.kp (t.jv s) (bJ _ cu)).c 1 n rfl;have dJ:=fun s=>(t.jv s).nQ e1 (no _ _ bE (by simp[Ig]));have dF:=fun s=>(bN.o.kp (t.jv s) (bJ _ (ro _ aW.o))).c 2 T rfl;have dH:=fun s=>(t.jv s).nQ aK.two.1 (no _ _ aJ (by simp[Ig]));have dI:=fun s=>(t.jv s).nQ aK.two.2 (no _ _ aJ (by simp[Ig]));have f:=Zy t;have dA:(n:Int)<g.os.length:=by omega
      have dn:(T:Int)<P.o.fields.length:=by omega
      clear t au bA aj aK e1 av V hu bF bC bE aJ cB aI bZ;rw[S];clear S;go_wp2_with fail;refine kT f 15 [([0,1,2,3,4,5,6,7,8,9,10,11,12,13],14)] [] ?_ ?_
      . exact jg
      refine mP ?_;intro d b;go_wp2_with fail;refine(Gd _ _ _ _ _ _ _ _ (A.o.ext jg) r _ rfl cK ⟨uk,un⟩ bT.o).mono ?_;rintro u dL ⟨bg,bu⟩;have⟨bS,HZ⟩:=jc ((((Kp.refl _ ae).drew:Ext ae _).any).trans bu) (jT.after (aU.o.trans ((Kp.refl _ ae).drew:Ext ae _).any) (nA.refl _ _) bg);obtain⟨rfl,-⟩:=bg;rw[<-k.o]at HZ |-;clear bu;go_wp2_with fail;refine kk f b bS.o ?_;clear b d;refine kG ?_;go_wp2;go_ret;exact HZ.o
    . replace k:Zz (jm p lk i g.st=(ob,(g.ky r c L F).st)):=Zy (by rw[k.o,S,SX ak]);have dB:=TP.2 ak;rw[S];clear S ak;go_wp2;go_ret;rw[k.o];exact jT.mk' aU.o (nA.refl _ _) A.o rfl
 have aF:=Zy bK;clear bK H;refine ve f 16 (.two [0,1,2,3,4,6,7,8,9] 5 14 (.two [] 10 14 (.one [11,12,13] 14 (.one [] 15 (.fin []))) (.one [] 10 (.one [11,12,13] 15 (.fin [])))) (.one [] 5 (.one [] 10 (.one [11,12,13] 15 (.fin []))))) ?_ ?_
 . exact a.o
 refine two [_,_,_,_,_,_,_,_,_] rfl rfl rfl fun aD H=>?_;(repeat (go_big_quiet_step (fail)));((refine JE H (fun d b=>?_) fun d b=>?_)<;>clear H aD)
 . go_wp2_with fail;refine(nP c.f.of.of.keeper (((O.o.qj a.o.kp a.o.at_).at_ G.o).blk.c 0 _ rfl)).mono ?_;rintro u we ⟨rfl,rfl⟩;go_wp2_with fail;refine kk f b a.o ?_;clear b d;refine FJ rfl rfl (fun d b=>?_) fun d b=>?_
   . go_wp2_with fail;refine(af.o _ a.o).mono ?_;rintro u wc ⟨x,rfl,y,R,C⟩;replace a:=Zy C;have W:=Zy y;clear R C y;go_wp2_with fail;refine kk f b a.o ?_;clear b d;refine EF ?_;intro d b;go_wp2_with fail;refine kk f b (a.o.ext (jh _)) ?_;clear b d;refine jX rfl fun d b=>?_;go_wp2_with fail;refine kk f b (a.o.ext (jh _)) ?_;clear b d;have J:=a.o.kp.size;have e:=Zy (h9.new (wc) 173 #[h,j,m,D,E]);replace a:=Zy (a.o.ext (jh (.cells #[h,j,m,D,E] 173)));clear f aA ay az;refine kJ ?_;go_wp2_with fail;exact aF.o _ _ _ a.o e.o J W.o
   . go_wp2_with fail;refine kk f b (a.o.ext (jh _)) ?_;clear b d;have J:o.heap.size<=o.heap.size:=a.o.kp.size;have e:Zz (h9 (o.drew.alloc (.cells #[SS, "",SS,SS, ""] 173)) o.heap.size 173 #[SS, "",SS,SS, ""]):=Zy (h9.new _ _ _);replace a:=Zy (a.o.ext (jh (.cells #[SS, "",SS,SS, ""] 173)));refine jX rfl fun d b=>?_;go_wp2_with fail;refine(af.o _ a.o).mono ?_;rintro u wc ⟨x,rfl,y,R,C⟩;replace e:=Zy (e.o.kp R Zm);replace a:=Zy C;have W:=Zy y;clear R C y;go_wp2_with fail;refine kk f b a.o ?_;clear b d;refine EF ?_;intro d b;obtain⟨z6,y0,y1,y2,y3,y4,-⟩:=e.o.ca;obtain⟨g0,g1,g2,g3,g4,-⟩:=e.o.fz;go_wp2_with fail;replace a:=Zy (LC.own a.o (Kp.wL (D:=(·=_)) rfl h j m D E) J bn);replace e:=Zy (e.o.wL h j m D E);refine kk f b a.o ?_;clear b d;clear y0 g0 y1 g1 y2 g2 y3 g3 y4 g4 z6;clear f aA ay az;refine kJ ?_;go_wp2_with fail;exact aF.o _ _ _ a.o e.o J W.o
 . go_wp2_with fail;refine kk f b (a.o.ext (jh _)) ?_;clear b d;have J:o.heap.size<=o.heap.size:=a.o.kp.size;have e:Zz (h9 (o.drew.alloc (.cells #[SS, "",SS,SS, ""] 173)) o.heap.size 173 #[SS, "",SS,SS, ""]):=Zy (h9.new _ _ _);replace a:=Zy (a.o.ext (jh (.cells #[SS, "",SS,SS, ""] 173)));refine jX rfl fun d b=>?_;go_wp2_with fail;refine(nP c.f.of.of.keeper (((O.o.qj a.o.kp a.o.at_).at_ G.o).blk.c 0 _ rfl)).mono ?_;rintro u we ⟨rfl,rfl⟩;go_wp2_with fail;refine kk f b a.o ?_;clear b d;refine jX rfl fun d b=>?_;go_wp2_with fail;refine(af.o _ a.o).mono ?_;rintro u wc ⟨x,rfl,y,R,C⟩;replace e:=Zy (e.o.kp R Zm);replace a:=Zy C;have W:=Zy y;clear R C y;go_wp2_with fail;refine kk f b a.o ?_;clear b d;refine EF ?_;intro d b;obtain⟨z6,y0,y1,y2,y3,y4,-⟩:=e.o.ca;obtain⟨g0,g1,g2,g3,g4,-⟩:=e.o.fz;go_wp2_with fail;replace a:=Zy (LC.own a.o (Kp.wL (D:=(·=_)) rfl h j m D E) J bn);replace e:=Zy (e.o.wL h j m D E);refine kk f b a.o ?_;clear b d;clear y0 g0 y1 g1 y2 g2 y3 g3 y4 g4 z6;clear f aA ay az;refine kJ ?_;go_wp2_with fail;exact aF.o _ _ _ a.o e.o J W.o
theorem KP{l:List α}{x:α}(b:l[n]?=some x)(f:α->α):l.modify n f=l.set n (f x):=by
 apply List.ext_getElem?;intro c;rw[Vp,List.getElem?_set];by_cases a:n=c
 . subst a;rw[b];have:=(Tv.1 b).1;simp[this]
 . simp[a]
theorem PD{enc:α->List Value}:∀(l:List α) (n:Nat) (x y:α),l[n]?=some x->enc y=enc x->(l.set n y).flatMap enc=l.flatMap enc:=by
 intro l;induction l with
 |nil=>intro n x y a;simp at a
 |cons e d c=>
  intro n x y a b;cases n with
  |zero=>simp at a;subst a;simp[b]
  |succ n=>simp at a;simp[c n x y a b]
def Gh.Ru(g:Gh)(n:Nat)(go:GO)(a:Nat)(x:Val):Gh:={g with os:=g.os.set n ⟨{go.o with fields:=go.o.fields.set a x},go.v⟩}
theorem Gh.Ol{go:GO}(b:g.os[n]?=some go)(a:Nat)(x:Val):(g.Ru n go a x).st={g.st with heap:=lM g.st.heap n a x}:=by
 unfold Gh.Ru Gh.st lM;simp only[Vu];rw[KP (x:=go.o) (by simp[b])];simp[List.map_set]
theorem jd.Ry(b:jd w l p j o y lk g){n:Nat}{go:GO}(i:g.os[n]?=some go){c B:Nat}(r:go.v=.slice (some ⟨c,0,none⟩) go.o.fields.length B)(a:Nat)(x:Val)(E:jH x g.os.length=true):Kp (MO l j) w ((w.setCell (c,a*2) x.kind).setCell (c,a*2+1) x.n)/\jd ((w.setCell (c,a*2) x.kind).setCell (c,a*2+1) x.n) l p j o y lk (g.Ru n go a x):=by
 have u:=(b.obj n go i).row;have t:=(b.obj n go i).role c (by rw[r];rfl);have s:Kp (·=c) w ((w.setCell (c,a*2) x.kind).setCell (c,a*2+1) x.n):=
  ((Kp.refl (·=c) w).setCell (p:=⟨c,a*2,none⟩) (fun _=>rfl) _).setCell (p:=⟨c,a*2+1,none⟩) (fun _=>rfl) _
 have e:Kp (PO j (·=(7,n))) w ((w.setCell (c,a*2) x.kind).setCell (c,a*2+1) x.n):=s.weak fun k _ d=>⟨_,by rw[d];exact t,rfl⟩;rw[r]at u;have m:=(u.stored (a*2) x.kind).1.stored (a*2+1) x.n;rw[FY]at m;have h:=nA.refl w.heap.size j;have C:M.Good p (g.Ru n go a x).st:=by
  rw[Gh.Ol i];exact b.good.set (by simpa [Gh.st]using E)
 refine⟨e.weak fun k _ d=>d.mo,b.Gb e,b.hB,b.blk.kp s (fun d=>?_),b.role,b.low,b.calls.yu e h Zl,fun v A D=>(b.call v A D).yu e h Zl b.yM,?_,?_,b.outs.yu e h Zl,b.Ar s.size,C,b.zS.kp e (fun k v q ⟨z,h1,m⟩=>by rw[q]at h1;cases h1;cases m) fun _ _ x=>x⟩
 . have:=b.role;rw[d,t]at this;cases this
 . have:=b.heap.yu e h Zl;unfold Gh.Ru;simp only[VJ];rw[PD (enc:=qw) g.os n go ⟨{go.o with fields:=go.o.fields.set a x},go.v⟩ i rfl];exact this
 . intro F z f;unfold Gh.Ru at f;simp only[List.getElem?_set]at f;split at f
   . rename_i d;subst d;split at f
     . cases f;refine⟨?_,fun k q=>(b.obj n go i).role k q⟩;show World.ownsRow _ o _ 2 go.v (go.o.fields.set a x).length _
       rw[VJ,r];exact m.1
     . cases f
   . rename_i d;exact(b.obj F z f).yu e h Zr
theorem Rt {bg U: Nat} (S : jd w l p aG bg U lk g) (r : List GC) (c : GC) (bT : g.cs = r ++ [c]) (dB : g.status = 1) (i : Ins) (hi : nJ (M.method p c.f.of) i = true) (aX : i.op = 8) :Calls prog 64 #[some U,.agg #[i.op,i.a,i.name,i.member]] w (jT w l p aG bg U lk (.int .i64 (jm p lk i g.st).1) (jm p lk i g.st).2):=by
 have HI:=Zy (qX hi);obtain⟨w0,bX,aR,b3⟩:=nu w #[i.op,i.a,i.name,i.member] 134;have dH:=Zy (S.fresh (Tz _));have df:Zz (∀X,w.heap.size<=X->¬MO l aG X):=Zy (fun X hb=>S.fresh hb);have dM:=S.kK.lt;have dK:=S.kK.ord.2.2;have⟨bn,cO,cK,dn,L⟩:=qR (S.ext aR) aR b3 bX bT;have dW:=b3.lt;clear S aR b3 bX bT hi;obtain⟨⟨⟨⟨h,o⟩,u,⟨z,A⟩⟩,cd⟩,hF⟩:∃cB,M.get p c.f.of.of.keeper i.name i.member=cB:=⟨_,rfl⟩;have j:Zz (jm p lk i g.st=if cd=1 then(match lH 2 g.st with
     |some ([V,v],x)=>if hasType p h x.heap v ⟨z,A⟩then(if object p V ⟨h,o⟩ x=1 then next p {x with heap:=lM x.heap V.n u v}else(object p V ⟨h,o⟩ x,x))else(10,x)
     |_=>(10,g.st))else(4,g.st)):=Zy (by
  unfold jm;rw[aX];simp only[Gh.top L.o,hF];rfl)
 have⟨HF,dI⟩:=jc hF aX;clear aX;go_enter func64,ntmps64;go_wp2_with fail;rw[<-dn.o];refine(kX bn r c L).mono ?_;rintro m y ⟨rfl,az⟩;have⟨W,cZ,aK⟩:=jr (bn.ext az) (cO.trans az) (cK.ext az);have bO:l.L<y:=W.kK.lt;have dL:l.D<y:=Zm
 have dX:(w:Nat)<y:=aK.lt;have bU:∀R,LC l p y R->Calls prog 108 #[some l.L,c.f.of.of.keeper,i.name,i.member] R fun m w'=>∃C,m=.returned (.tuple #[.agg #[h,o,u,z,A],C])/\Ci C cd/\Kp (·=l.D) R w'/\LC l p y w':=fun R hW=>by
  have hl:=zA R l p hW.at_ c.f.of.of.keeper i.name i.member;rw[HF.o]at hl;refine hl.mono ?_;rintro m w' ⟨⟨C,rfl,G⟩,hL,F⟩;exact⟨C,rfl,G.weak,F,hW.step hL F⟩
 have ay:=Zy bU;have b:=Zy (LC.refl W.kK).drew;obtain⟨aN,aP,aW,k⟩:=uD.ex (fun W'=>LC l p y W') y (LC.refl W.kK);have ah:=fun d=>(W.qj (k.jv d).kp (k.jv d).at_).blk.c 0 (some l.L) rfl;obtain⟨-,-,-,aH,aI,-⟩:=h9.qW fun d=>(aK.kp (k.jv d).kp Zm);have e:=Zy k;clear k bU az;go_wp2_with fail;rename_i au F
 have cz : ∀ (b6 : Nat) (K : World) (C : Value), LC l p y K -> h9 K b6 173 #[h, o, u, z, A] -> y <= b6 -> Ci C cd -> au { tmps := #[.pointer (some ⟨U, 0, none⟩), .agg #[i.op, i.a, i.name, i.member], undef, .pointer (some ⟨w, 0, none⟩), .int .i64 0, .pointer (some ⟨c.cb, 0, none⟩), .pointer (some ⟨b6, 0, none⟩), C, undef, undef, undef, .pointer (some ⟨U, 0, none⟩), .pointer (some ⟨c.cb, 0, none⟩), .tuple #[.agg #[h, o, u, z, A], C], .pointer (some ⟨U, 0, none⟩), .pointer (some ⟨U, 0, none⟩), .pointer (some ⟨U, 0, none⟩), .pointer (some ⟨l.L, 0, none⟩), .pointer (some ⟨c.cb, 0, none⟩), .int .i64 c.f.of.of.keeper, .pointer (some ⟨w, 2, none⟩), .string i.name, .pointer (some ⟨w, 3, none⟩), .string i.member, .tuple #[.agg #[h, o, u, z, A], C], .agg #[h, o, u, z, A], C, undef, undef, undef, undef, undef, undef, undef, undef, undef, undef, undef, undef, undef, undef, undef, undef, undef, undef, undef, undef, undef, undef, undef, undef, undef, undef, undef, undef, undef, undef, undef, undef, undef, undef, undef, undef, undef, undef, undef, undef, undef, undef, undef, undef, undef, undef, undef, undef, undef, undef, undef, undef, undef, undef, undef, undef, undef, undef, undef, undef], defers := [] } K := by
  intro b6 K C hC bJ T G;refine F _ _ ?_;clear F e ah aH aI b ay;have ak:=Zy (W.qj hC.kp hC.at_);have aM:Zz (Kp (MO l aG) w K):=Zy (cZ.any.trans hC.mo);have⟨t,dG,di⟩:=jr bJ (aK.kp hC.kp Zm) (df b6 Zm);clear hC bJ;rcases G with⟨rfl,rfl⟩|⟨J,eb,rfl⟩;rotate_left
  . replace j:Zz (jm p lk i g.st=(4,g.st)):=Zy (by rw[j.o,SX J]);clear J;go_wp2;go_ret;rw[j.o];exact jT.mk' aM (nA.refl _ _) ak rfl
  replace j:Zz (jm p lk i g.st=(match lH 2 g.st with
   |some ([V,v],x)=>if hasType p h x.heap v ⟨z,A⟩then(if object p V ⟨h,o⟩ x=1 then next p {x with heap:=lM x.heap V.n u v}else(object p V ⟨h,o⟩ x,x))else(10,x)
   |_=>(10,g.st))):=Zy j.o
  by_cases aa:c.f.stack.length<2
  . replace j:Zz (jm p lk i g.st=(10,g.st)):=Zy (by rw[j.o,Gh.zF L.o aa]);obtain⟨aN,aP,aW,k⟩:=mJ K;have e:=Zy k;clear k;go_wp2_with fail;refine(uX ak r c L 2 aa Zm).mono ?_;rintro m w8 ⟨rfl,rfl⟩;go_wp2_with fail;refine kT e 22 [([0,1,2,3,4,5,6,7,8,9,10,11,12,13,14,15,16,17,18],19)] [20,21] ?_ ?_
    . exact jg
    refine mP ?_;intro f a;go_wp2_with fail;refine kk e a ((Kp.refl _ K).drew:Ext K _) ?_;clear a f;refine uG ?_;go_wp2;go_ret;rw[j.o];exact jT.mk' (aM.trans ((Kp.refl _ K).drew:Ext K _).any) (nA.refl _ _) (ak.ext (jg)) rfl
  . obtain⟨s,oo,vv,hs⟩:∃s B X,c.f.stack=s++[B,X]:=by
     rcases Ta c.f.stack with m|⟨x,X,m⟩
     . rw[m]at aa;simp at aa
     . rw[TZ]at m;rcases Ta x with e2|⟨s2,B,e2⟩
       . rw[m,e2]at aa;simp at aa
       . rw[TZ]at e2;exact⟨s2,B,X,by rw[m,e2];simp⟩
    have aY:=(jk.1 (ak.CU L)).2.2.2.2.2.2;have bD:Zz (jH oo g.os.length=true):=Zy (by simpa [Gh.st]using aY oo (by rw[hs];simp));have bI:Zz (jH vv g.os.length=true):=Zy (by simpa [Gh.st]using aY vv (by rw[hs];simp));have bG:Zz (∀q,jm p lk i g.st=if hasType p h g.st.heap vv ⟨z,A⟩then(if object p oo ⟨h,o⟩ (g.ky r c s q).st=1 then next p {(g.ky r c s q).st with heap:=lM g.st.heap oo.n u vv}else(object p oo ⟨h,o⟩ (g.ky r c s q).st,(g.ky r c s q).st))else(10,(g.ky r c s q).st)):=Zy (fun q=>by rw[j.o,Gh.lH L.o (n:=2) hs rfl q];rfl);have HS:=Zy hs;clear hs aY aa j;obtain⟨O,E⟩:=oo;obtain⟨H,I⟩:=vv;go_wp2_with fail;refine(Cy ak r c L s [⟨O,E⟩,⟨H,I⟩] 2 HS rfl Zm).mono ?_;rintro m w8 ⟨v',rfl,N,aS,q,Y⟩;have j:=Zy (bG q);obtain⟨gt,gc,rfl,dP,-⟩:=jP N Zm;have bR:=lG (enc:=jS) (k:=2) (fun _=>rfl) (l:=[⟨O,E⟩,⟨H,I⟩]) N (i:=0) (x:=⟨O,E⟩) rfl;have aA:=lG (enc:=jS) (k:=2) (fun _=>rfl) (l:=[⟨O,E⟩,⟨H,I⟩]) N (i:=1) (x:=⟨H,I⟩) rfl;have aQ:=t.kp aS di;have bV:=Y.Oz;obtain⟨ha,Z,aF⟩:=Y.heap.form;obtain⟨aN,aP,aW,k⟩:=mJ w8;have ah:=fun d=>(Y.ext (k.jv d)).blk.c 0 (some l.L) rfl;have dE:=fun d=>(Y.ext (k.jv d)).blk.c 4 (.slice ha g.os.length Z) (by rw[show(Value.slice ha g.os.length Z)=g.vh from aF.symm];rfl);obtain⟨-,aJ,-,-,dC,dD,-⟩:=h9.qW fun d=>(aQ.ext (k.jv d));have bZ:=fun d=>(hH.ext aA (k.jv d)).two.1;have cu:=fun d=>(hH.ext aA (k.jv d)).two.2;simp only[Nat.one_mul]at bZ cu;have bW:=fun R (hW:Ext w8 R)=>vR R l p (Y.kK.ext hW) h (.slice ha g.os.length Z) g.st.heap (by
     have:=bV.ext hW;rw[show(Value.slice ha g.os.length Z)=g.vh from aF.symm];exact this) ⟨H,I⟩ (fun m=>by have:=qM bI m;simpa [Gh.st]using this) ⟨z,A⟩
    have⟨dh,e,bB,bA,bq,aL,bu,bH⟩:=IQ bW k Y (aM.trans aS) aQ bR aA aF;clear k bW bV aF N aS Y bR aA aQ bG;go_wp2_with fail;refine kT e 22 [([0,1,2,3,4,5,6,7,8,9,10,11,12,13,14,15,16,17,18],19)] [20,21] ?_ ?_
    . exact jg
    refine mP ?_;intro f a;go_wp2_with fail;refine(dh _ jg).mono ?_;rintro m w9 ⟨rfl,bL⟩;have D:=Zy (((Kp.refl _ w8).drew:Ext w8 _).trans bL);clear bL;cases aD:hasType p h g.st.heap ⟨H,I⟩ ⟨z,A⟩
    . rw[aD]at j;replace j:Zz (jm p lk i g.st=(10,(g.ky r c s q).st)):=Zy j.o;clear aD;go_wp2_with fail;refine kk e a D ?_;clear a f;refine uG ?_;go_wp2;go_ret;rw[j.o];exact jT.mk' (bA.trans D.any) (nA.refl _ _) (bB.ext D) rfl
    . rw[aD]at j;replace j:Zz (jm p lk i g.st=if object p ⟨O,E⟩ ⟨h,o⟩ (g.ky r c s q).st=1 then next p {(g.ky r c s q).st with heap:=lM g.st.heap E u ⟨H,I⟩}else(object p ⟨O,E⟩ ⟨h,o⟩ (g.ky r c s q).st,(g.ky r c s q).st)):=Zy j.o;clear aD;go_wp2_with fail;refine kk e a D ?_;clear a f;clear e ah dE aJ dC dD bZ cu;refine uG ?_;have bP:=bB.ext D;obtain⟨aN,aP,aW,k⟩:=mJ w9;obtain⟨-,aJ,bY,-⟩:=h9.qW fun d=>((bq.ext D).ext (k.jv d));have aZ:=fun d=>(hH.ext (hH.ext aL D) (k.jv d)).two.1;have bf:=fun d=>(hH.ext (hH.ext aL D) (k.jv d)).two.2;simp only[UX,Tq]at aZ bf;have⟨e,bC⟩:=jc k bP;clear k bP;go_wp2_with fail;refine kT e 7 [([0,1,2,3,4,5],6)] [] ?_ ?_
      . exact jg
      refine mP ?_;intro f a;go_wp2_with fail;refine(yO (bC.ext jg) ⟨O,E⟩ bD ⟨h,o⟩).mono ?_;rintro m ai ⟨rfl,bK⟩;have P:=Zy (((Kp.refl _ w9).drew:Ext w9 _).trans bK);have⟨af,bz⟩:=jc (bC.ext P) ((bA.trans D.any).trans P.any);clear bK;obtain⟨ob,ae⟩:∃ob,object p ⟨O,E⟩ ⟨h,o⟩ (g.ky r c s q).st=ob:=⟨_,rfl⟩;by_cases aC:ob=1
      . subst aC;replace j:Zz (jm p lk i g.st=next p {(g.ky r c s q).st with heap:=lM g.st.heap E u ⟨H,I⟩}):=Zy (by rw[j.o,SV ae]);have aV:=vE (p:=p) af.good (k:=c.f.of.of.keeper) (n:=i.name) (m:=i.member) (by rw[HF.o]) (v:=⟨O,E⟩) (by simpa [Gh.st,Gh.ky]using bD.o) (by rw[HF.o];exact ae);rw[HF.o]at aV;simp only at aV;obtain⟨dQ,dR,dx,V,ho,-,dz,aT⟩:=aV;obtain⟨n,rfl⟩:∃n:Nat,E=n:=⟨E.toNat,Zm⟩;obtain⟨B,rfl⟩:∃B:Nat,u=B:=⟨u.toNat,Zm⟩;simp only[Vu]at ho aT;simp only[Gh.st,Gh.ky,Um,U1]at ho;obtain⟨go,ag,rfl⟩:=ho;obtain⟨dY,hu⟩:=nR go.o.fields B aT;have dA:=(Tv.1 ag).1;have N:=af.heap.row;rw[show(g.ky r c s q).vh=.slice ha g.os.length Z from bH.o]at N;obtain⟨hb,dO,eb,-⟩:=jP N (by show 0<g.os.length;omega);cases eb;have bS:=lG (enc:=qw) (k:=3) (fun _=>rfl) N (l:=g.os) ag;have av:=(af.obj n go ag).row;obtain⟨fb,fc,ax,-⟩:=jP av Zm;obtain⟨dJ,aB⟩:=oJ av (g:=fb) (by rw[ax];rfl);rw[ax]at av;have aU:=lG (enc:=jS) (k:=2) (fun _=>rfl) av hu;have e1:=bS.three.2.2;rw[ax]at e1;have dm:=Zy ((af.ext ((Kp.refl _ ai).drew:Ext ai ai.drew)).Ry (n:=n) (go:=go) ag ax B ⟨H,I⟩ bI);have bE:Zz (((g.ky r c s q).Ru n go B ⟨H,I⟩).st={(g.ky r c s q).st with heap:=lM g.st.heap n B ⟨H,I⟩}):=Zy (Gh.Ol (g:=g.ky r c s q) ag B ⟨H,I⟩);obtain⟨T2,f2,dS,Q⟩:=mJ ai;have s4:=fun d=>(af.ext (Q.jv d)).blk.c 4 (hb,g.os.length,Z) (by rw[show(Value.slice (some ⟨hb,0,none⟩) g.os.length Z)=g.vh from bH.o.symm];rfl);have s0:=fun d=>(hH.ext (hH.ext (hH.ext aL D) P) (Q.jv d)).two.2;have s2:=fun d=>(hH.ext (hH.ext (hH.ext bu D) P) (Q.jv d)).two.1;have s3:=fun d=>(hH.ext (hH.ext (hH.ext bu D) P) (Q.jv d)).two.2;simp only[UX,Tq,Nat.one_mul]at s0 s2 s3;have sh:=fun d=>(Q.jv d).iW e1;have dF:=fun d=>(((bq.ext D).ext P).ext (Q.jv d)).c 2 (.int .i64 B) rfl;have x0:=aU.two.1;have x1:=aU.two.2;have g0:=aB.frozen (B*2);have g1:=aB.frozen (B*2+1);have gz:=aB.lt;have bF:=Zy Q;have dU:(n:Int)<g.os.length:=Zm
        have dN:(B:Int)<go.o.fields.length:=Zm
        clear Q N bS av aU e1 ag hu dz ax aB dA aT dx;rw[ae];clear ae;go_wp2_with fail;refine kk e a P ?_;clear a f;clear e aJ bY aZ bf;refine kG ?_;go_wp2_with fail;(refine xJ f2 16 [] [0,1,2,3,4,5,6,7,8,9,10,11,12,13,14,15] (bF.o.o _ ?_) Zo Zo (fun _ _ dw _ _ S=>by cases dw<;>exact S) ?_)
        . exact jg
        refine wG [_,_,_,_,_,_,_,_,_,_,_,_,_,_,_,_] rfl fun au F=>?_;(repeat (go_big_quiet_step (fail)));refine qn F ?_;clear F au;clear bF s4 s0 s2 s3 sh dF;go_wp2_with fail;obtain⟨bN,bQ⟩:=dm.o;refine(uR bQ r rfl dB).mono ?_;rintro m dZ bM;have HZ:=Zy (jT.after ((bz.trans ((Kp.refl _ ai).drew:Ext ai _).any).trans bN) (nA.refl _ _) bM);obtain⟨rfl,-⟩:=bM;rw[bE.o,<-j.o]at HZ;rw[bE.o,<-j.o];clear bN bQ x0 x1 g0 g1 gz;go_wp2;go_ret;exact HZ
      . replace j:Zz (jm p lk i g.st=(ob,(g.ky r c s q).st)):=Zy (by rw[j.o,ae,SX aC]);have dV:=TP.2 aC;rw[ae];clear ae aC;go_wp2_with fail;refine kk e a P ?_;clear a f;clear e aJ bY aZ bf;refine kG ?_;go_wp2;go_ret;rw[j.o];exact jT.mk' bz (nA.refl _ _) af rfl
 have aO:=Zy cz;clear cz F;refine ve e 16 (.two [0,1,2,3,4,6,7,8,9] 5 14 (.two [] 10 14 (.one [11,12,13] 14 (.one [] 15 (.fin []))) (.one [] 10 (.one [11,12,13] 15 (.fin [])))) (.one [] 5 (.one [] 10 (.one [11,12,13] 15 (.fin []))))) ?_ ?_
 . exact b
 refine two [_,_,_,_,_,_,_,_,_] rfl rfl rfl fun au F=>?_;(repeat (go_big_quiet_step (fail)));((refine JE F (fun f a=>?_) fun f a=>?_)<;>clear F au)
 . go_wp2_with fail;refine(nP c.f.of.of.keeper (((W.qj b.kp b.at_).at_ L).blk.c 0 _ rfl)).mono ?_;rintro m we ⟨rfl,rfl⟩;go_wp2_with fail;refine kk e a b ?_;clear a f;refine FJ rfl rfl (fun f a=>?_) fun f a=>?_
   . go_wp2_with fail;refine(ay _ b).mono ?_;rintro m wc ⟨C,rfl,G,hk,J⟩;replace b:=Zy J;have aj:=Zy G;clear hk J G;go_wp2_with fail;refine kk e a b ?_;clear a f;refine EF ?_;intro f a;go_wp2_with fail;refine kk e a (b.ext (jh _)) ?_;clear a f;refine jX rfl fun f a=>?_;go_wp2_with fail;refine kk e a (b.ext (jh _)) ?_;clear a f;have T:=b.kp.size;have t:=Zy (h9.new (wc) 173 #[h,o,u,z,A]);replace b:=Zy (b.ext (jh (.cells #[h,o,u,z,A] 173)));clear e ah aH aI;refine kJ ?_;go_wp2_with fail;exact aO _ _ _ b t T aj
   . go_wp2_with fail;refine kk e a (b.ext (jh _)) ?_;clear a f;have T:(y:Nat)<=y:=b.kp.size;have t:Zz (h9 (y.drew.alloc (.cells #[SS, "",SS,SS, ""] 173)) y 173 #[SS, "",SS,SS, ""]):=Zy (h9.new _ _ _);replace b:=Zy (b.ext (jh (.cells #[SS, "",SS,SS, ""] 173)));refine jX rfl fun f a=>?_;go_wp2_with fail;refine(ay _ b).mono ?_;rintro m wc ⟨C,rfl,G,hk,J⟩;replace t:=Zy (t.kp hk Zm);replace b:=Zy J;have aj:=Zy G;clear hk J G;go_wp2_with fail;refine kk e a b ?_;clear a f;refine EF ?_;intro f a;obtain⟨z6,y0,y1,y2,y3,y4,-⟩:=t.ca;obtain⟨g0,g1,g2,g3,g4,-⟩:=t.fz;go_wp2_with fail;replace b:=Zy (LC.own b (Kp.wL (D:=(·=_)) rfl h o u z A) T bO);replace t:=Zy (t.wL h o u z A);refine kk e a b ?_;clear a f;clear y0 g0 y1 g1 y2 g2 y3 g3 y4 g4 z6;clear e ah aH aI;refine kJ ?_;go_wp2_with fail;exact aO _ _ _ b t T aj
 . go_wp2_with fail;refine kk e a (b.ext (jh _)) ?_;clear a f;have T:(y:Nat)<=y:=b.kp.size;have t:Zz (h9 (y.drew.alloc (.cells #[SS, "",SS,SS, ""] 173)) y 173 #[SS, "",SS,SS, ""]):=Zy (h9.new _ _ _);replace b:=Zy (b.ext (jh (.cells #[SS, "",SS,SS, ""] 173)));refine jX rfl fun f a=>?_;go_wp2_with fail;refine(nP c.f.of.of.keeper (((W.qj b.kp b.at_).at_ L).blk.c 0 _ rfl)).mono ?_;rintro m we ⟨rfl,rfl⟩;go_wp2_with fail;refine kk e a b ?_;clear a f;refine jX rfl fun f a=>?_;go_wp2_with fail;refine(ay _ b).mono ?_;rintro m wc ⟨C,rfl,G,hk,J⟩;replace t:=Zy (t.kp hk Zm);replace b:=Zy J;have aj:=Zy G;clear hk J G;go_wp2_with fail;refine kk e a b ?_;clear a f;refine EF ?_;intro f a;obtain⟨z6,y0,y1,y2,y3,y4,-⟩:=t.ca;obtain⟨g0,g1,g2,g3,g4,-⟩:=t.fz;go_wp2_with fail;replace b:=Zy (LC.own b (Kp.wL (D:=(·=_)) rfl h o u z A) T bO);replace t:=Zy (t.wL h o u z A);refine kk e a b ?_;clear a f;clear y0 g0 y1 g1 y2 g2 y3 g3 y4 g4 z6;clear e ah aH aI;refine kJ ?_;go_wp2_with fail;exact aO _ _ _ b t T aj
end Go.Proofs.YtenhnldnpdlniaaGreat
