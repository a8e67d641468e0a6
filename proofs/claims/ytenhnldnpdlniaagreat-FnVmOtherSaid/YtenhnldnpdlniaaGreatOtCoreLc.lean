/- Walks. -/
import Derived.Test.YtenhnldnpdlniaaGreatOtCoreLa
import Derived.Maps.Own
set_option maxRecDepth 100000
set_option maxHeartbeats 4000000
set_option linter.all false
namespace Go.Proofs.YtenhnldnpdlniaaGreat.M
variable {n: ByteArray}{c: Class}{t: Fr}{k: Int}{m: Method}{i: Nat}{q r: Ref}{b s: St}{α: Type}{v: Val}{p: hZ}{x: p8}{f: qg}
theorem Ev:∀{f:Nat} {a:List Int} {k:Int},a.getLastD 0=k->(ou p n f a k).2=1→
    ym p ((ou p n f a k).1.getLastD 0) n=none
 |0,_,_,_,h=>by simp[ou]at h
 |f+1,a,k,hl,h=>by
  unfold ou at h |-;split at h
  . rename_i c;split at h
    . rename_i b;simp only[b,UC];rw[hl];exact c
    . simp at h
  . rename_i next c
    split at h
    . simp at h
    . rename_i b;simp only[b,UJ,UN];exact Ev Zl h
theorem Hv(b:(resolve p k n).2=1):(resolve p k n).1.name=n/\(path p k n).2=1/\(resolve p k n).1.keeper=(path p k n).1.getLastD 0:=by
 unfold resolve at b |-;split at b
 . rename_i a;rw[SV a];exact⟨rfl,a,rfl⟩
 . rename_i a;exact absurd b a
theorem Hw(b:(resolve p k n).2=1):resolve p (resolve p k n).1.keeper (resolve p k n).1.name=((resolve p k n).1,1):=by
 obtain⟨e,a,f⟩:=Hv b;obtain⟨j,c⟩:=lD b;have h:=Dc c;have g:ym p (resolve p k n).1.keeper (resolve p k n).1.name=none:=by
  rw[e,f];unfold path at a |-;split at a
  . rename_i i;rw[SV i];exact Ev rfl a
  . simp at a
 have d:path p (resolve p k n).1.keeper (resolve p k n).1.name=([(resolve p k n).1.keeper],1):=by
  unfold path;rw[SV (De.2 h)];unfold ou;rw[g];simp only;rw[SV (by unfold owned;show(cls? p (resolve p k n).1).isSome=true;rw[c];rfl)]
 generalize (resolve p k n).1=x at d;unfold resolve;rw[d];rfl
theorem I6{x:Ref}(f:resolve p x.keeper x.name=(x,1))(h:∃b a,jN p b x=some a/\a.length<=6):lv p x=true/\∃b a,jN p b x=some a/\chain p x=a:=by
 obtain⟨b,a,c,g⟩:=h;have d:om p x=some a:=wU _ _ _ c 6 g;have e:lv p x=true:=by
  unfold lv find;rw[f];simp[d]
 exact⟨e,b,a,c,by unfold chain;rw[SV e,d];rfl⟩
theorem tq(a:lv p r=true):resolve p r.keeper r.name=(r,1)/\∃c,om p r=some c/\chain p r=c:=by
 have g:=a;unfold lv find at a;by_cases b:(resolve p r.keeper r.name).2=1
 . rw[SV b]at a;split at a
   . rename_i e;simp at a;have d:resolve p r.keeper r.name=(r,1):=Prod.ext a b;rw[d]at e;obtain⟨c,f⟩:=Vf.1 e;exact⟨d,c,f,by unfold chain;rw[SV g,f];rfl⟩
   . simp at a
 . rw[SX b]at a;simp at a;exact absurd a.1 b
theorem Bq:∀(f:Nat) (r:Ref) (l:List Ref),jN p f r=some l->resolve p r.keeper r.name=(r,1)->∀c∈l,resolve p c.keeper c.name=(c,1):=by
 intro f;induction f with
 |zero=>intro r l a;simp[jN]at a
 |succ f h=>
  intro r l a e c b;unfold jN at a;split at a
  . cases a;simp at b;subst b;exact e
  . split at a
    . rename_i g;cases d:jN p f (resolve p r.keeper (je p r)).1 with
      |none=>rw[d]at a;simp at a
      |some i=>
       rw[d]at a;simp at a;subst a;rcases TI.1 b with rfl|b
       . exact e
       . exact h _ _ d (Hw g) c b
    . cases a
theorem wB{x: Ref}(a:x∈chain p r):lv p x=true/\∃n,chain p r=n++chain p x:=by
 have l:lv p r=true:=by
  unfold chain at a;split at a
  . rename_i b;exact b
  . simp at a
 obtain⟨h,m,b,j⟩:=tq l;rw[j]at a |-;obtain⟨d,k⟩:=Vq a;obtain⟨i,c⟩:=uU _ _ _ b d x k;have q:=Cn _ _ _ b;obtain⟨e,o,s,f,g⟩:=I6 (Bq _ _ _ b h x a) ⟨i,_,c,by simp;omega⟩;refine⟨e,m.take d,?_⟩;rw[g,Co f c,UB]
theorem wS(a:lv p r=true):∃d,chain p r=r::d:=by
 obtain⟨e,f,b,c⟩:=tq a;rw[c];exact wT _ _ _ b
theorem kI{x: Ref}(c:x∈chain p r):∃b,cls? p x=some b:=by
 obtain⟨a,_⟩:=tq (wB c).1;have:=lD (p:=p) (k:=x.keeper) (n:=x.name) (by rw[a]);rwa[a]at this
def Az(p:hZ)(r:Ref):Nat:=(kv p (chain p r).reverse []).length
theorem AO(p:hZ):∀(a:List Ref) (b:List qg),(kv p a b).length=b.length+(a.map fun c=>(cls p c).fields.length).sum:=by
 intro a;induction a with
 |nil=>intro b;simp[kv]
 |cons c e d=>intro b;unfold kv;rw[d,tK];simp;omega
theorem GI(p:hZ)(c:Ref):∀(a K:List Ref) (n:Nat),c ∉ a->mK p c (a++c::K) n=n+(a.map fun c=>(cls p c).fields.length).sum:=by
 intro a;induction a with
 |nil=>intro K n _;simp[mK]
 |cons f g e=>
  intro K n b;simp only[TI,not_or]at b;simp only[Td,mK];rw[SX (fun d=>b.1 d.symm),e _ _ b.2];simp;omega
theorem G7(g:(layout p r)[i]?=some f):i<Az p f.of:=by
 obtain⟨_,k,_,q,n,h,b,_⟩:=zt g;obtain⟨j,s,l⟩:=wB k;obtain⟨m,a⟩:=wS j;have c:=Cm p f.of;rw[a,Wx]at c;have e:mF p f.of r=((m.reverse).map fun d=>(cls p d).fields.length).sum:=by
  unfold mF;rw[l,a,VI,List.reverse_cons,Te,List.singleton_append,GI _ _ _ _ _ (by simpa using c.1),Tq]
 have o:=(Tv.1 h).1;unfold Az;rw[AO,a,List.reverse_cons,U0,List.sum_append];simp;rw[e]at b;simp at b;omega
theorem JS{a top:Ref}(d:jD p a=true)(b:under p a top=true):Az p top<=(layout p a).length:=by
 unfold under at b;obtain⟨_,f,e⟩:=wB (by simpa using b);unfold layout Az;rw[SV d,e,VI,xX];obtain⟨g,c⟩:=G6 p f.reverse (kv p (chain p top).reverse []);rw[c];simp
theorem uJ(a:jD p r=true):lv p r=true/\r∈chain p r:=by
 have b:lv p r=true:=by
  unfold jD at a;cases b:lv p r
  . unfold chain at a;rw[b]at a;simp at a
  . rfl
 obtain⟨d,c⟩:=wS b;exact⟨b,by rw[c];simp⟩
theorem yG{m:ByteArray}:∀{l:List qg},(qd p k m r l).2=1->(qd p k m r l).1∈l
 |[],h=>by simp[qd]at h
 |f::l,h=>by
  unfold qd at h |-;split at h
  . rename_i a;rw[SV a];split at h
    . rename_i b;rw[SV b];simp
    . simp at h
  . rename_i a;rw[SX a];exact UZ _ (yG h)
theorem Ms{m: ByteArray}(a:(get p k n m).2=1):∃(r:Ref) (i:Nat),(layout p r)[i]?=some (get p k n m).1:=by
 unfold get at a |-;split at a
 . rename_i b;rw[SV b];obtain⟨i,c⟩:=Vq (yG a);exact⟨_,i,c⟩
 . rename_i b;exact absurd a b
theorem Mq{m: ByteArray}(c:(get p k n m).2=1){a:Ref}(d:jD p a=true)(e:under p a (get p k n m).1.of=true):0<=(get p k n m).1.at_/\(get p k n m).1.at_.toNat<(layout p a).length:=by
 obtain⟨j,i,b⟩:=Ms c;have f:=(zt b).2.2.1;have g:=G7 b;have h:=JS d e;omega
theorem uK:∀{l:List Ref} {x:p8},pO p n l=some x->x.of∈l/\∃a:Nat,x.at_=a/\q8 (cls p x.of) n=some a
 |[],x,h=>by simp[pO]at h
 |c::r,x,h=>by
  unfold pO at h;split at h
  . rename_i a e;cases h;exact⟨by simp,a,rfl,e⟩
  . obtain⟨b,d⟩:=uK h;exact⟨UZ _ b,d⟩
theorem xH(b:pick p r n=some x):jD p r=true/\x.of∈chain p r/\∃i a d,x.at_=(i:Nat)/\cls? p x.of=some a/\a.methods[i]?=some d/\d.name=n/\method? p x=some d:=by
 unfold pick at b;split at b
 . rename_i l;obtain⟨f,i,g,c⟩:=uK b;obtain⟨a,h⟩:=kI f;have e:cls p x.of=a:=by unfold cls;rw[h];rfl
   rw[e]at c;unfold q8 at c;rw[Ut]at c;obtain⟨j,k,_⟩:=c;exact⟨l,f,i,a,a.methods[i],g,h,Dj j,by simpa using k,by
    unfold method?;rw[g,SV (Int.natCast_nonneg i),e];exact Dj j⟩
 . cases b
theorem rM{m: ByteArray}(a:(call p k n m).2=1):∃e,pick p e m=some (call p k n m).1:=by
 unfold call at a |-;split at a
 . rename_i b;rw[SV b];cases c:pick p (jy p k n m).1 m with
   |none=>rw[c]at a;simp at a
   |some f=>
    rw[c]at a;refine⟨_,c.trans ?_⟩;simp only at a |-;split at a
    . rename_i d;rw[SV d]
    . simp at a
 . rename_i b;exact absurd a b
theorem uy(b:jM p x=true):jD p x.of=true/\∃i a g,x.at_=(i:Nat)/\cls? p x.of=some a/\a.methods[i]?=some g/\method? p x=some g:=by
 unfold jM at b;simp only[S9,SF]at b;obtain⟨⟨d,h⟩,j⟩:=b;obtain⟨a,e⟩:=kI (uJ d).2;have c:cls p x.of=a:=by unfold cls;rw[e];rfl
 rw[c]at j;have f:x.at_.toNat<a.methods.length:=Zm
 exact⟨d,x.at_.toNat,a,a.methods[x.at_.toNat],Zm,e,Dj f,by
  unfold method?;rw[SV h,c];exact Dj f⟩
structure Good(p:hZ)(s:St):Prop where
 heap:pG p s.heap=true
 frames:∀f∈s.frames,kW p f s.heap.length=true
 nf:s.frames.length<=8
 outs:s.outs.length<=40
 rO:∀n∈s.outs,nT n=true
 back:jH s.back s.heap.length=true
theorem jk{f:Fr}{n:Nat}:kW p f n=true↔jM p f.of=true/\0<=f.pc/\f.pc<(method p f.of).code.length/\(f.locals.length:Int)=(method p f.of).locals/\(f.stack.length:Int)<=(method p f.of).stack/\(∀a∈f.locals,jH a n=true)/\(∀a∈f.stack,jH a n=true):=by
 unfold kW;simp only[S9,SF,Tx,and_assoc]
theorem lX{a:List qi}:pG p a=true↔a.length<=12/\∀b∈a,jD p b.of=true/\b.fields.length=(layout p b.of).length/\∀c∈b.fields,jH c a.length=true:=by
 unfold pG;simp only[S9,SF,Tx,and_assoc]
theorem xP{n m:Nat}(a:jH v n=true)(e:n<=m):jH v m=true:=by
 unfold jH at*;split at a
 . rename_i b;rw[SV b];exact a
 . rename_i b;rw[SX b];split at a
   . rename_i c;rw[SV c];exact a
   . rename_i c;rw[SX c];split at a
     . rename_i d;rw[SV d];simp only[S9,SF]at*;omega
     . cases a
theorem qM{n:Nat}(a:jH v n=true)(b:v.kind=2):0<=v.n/\v.n<n:=by
 unfold jH at a;rw[b]at a;simpa using a
theorem wN{n:Nat}(a:jH v n=true)(b:v.kind=1): -9999<=v.n/\v.n<=9999:=by
 unfold jH nT at a;rw[b]at a;simpa using a
theorem xQ(n:Nat):jH rE n=true:=by simp[jH,rE]
theorem ES(n:Nat):jH ll n=true:=by simp[jH,ll]
theorem mR(n:Nat)(a:nT k=true):jH (mg k) n=true:=by
 unfold jH mg;simpa using a
theorem wM(n:Nat)(a:0<=k)(b:k<n):jH ⟨2,k⟩ n=true:=by
 unfold jH;simp;omega
theorem nH{r:List Fr}(a:s.frames=r++[t]):top s=t:=by unfold top;rw[a];simp
theorem oI{r:List Fr}(a:s.frames=r++[t])(f:Fr->Fr):AY s f={s with frames:=r++[f t]}:=by unfold AY;rw[a];simp
theorem Kv(a:s.frames≠[]):∃b c,s.frames=b++[c]:=⟨s.frames.dropLast,s.frames.getLast a,(UE a).symm⟩
section
variable {p:hZ} {s:St} {r:List Fr} {t:Fr}
theorem Good.top(b:Good p s)(a:s.frames=r++[t]):kW p t s.heap.length=true:=b.frames t (by rw[a];simp)
theorem Good.turn(a:Good p s)(c:s.frames=r++[t]){d:Fr}(f:kW p d s.heap.length=true):Good p {s with frames:=r++[d]}:=by
 refine⟨a.heap,?_,?_,a.outs,a.rO,a.back⟩
 . intro e b;rcases Ty.1 b with b|b
   . exact a.frames e (by rw[c];exact List.mem_append_left _ b)
   . simp at b;subst b;exact f
 . have:=a.nf;rw[c]at this;simpa using this
def rH(p:hZ)(x:Int×St):Prop:=1<=x.1/\x.1<=10/\Good p x.2/\(x.1=1->x.2.frames≠[])/\x.2.status=1
theorem wD(c:Good p s)(b:s.frames=r++[t])(d:s.status=1){e:Int}(h0:0<=e):rH p (jump p e s):=by
 have g:=c.top b;have a:=jk.1 g;unfold jump;rw[nH b,oI b];split
 . exact⟨by simp,by simp,c,fun f=>by simp at f,d⟩
 . rename_i h;refine⟨by simp,by simp,c.turn b (jk.2 ⟨a.1,h0,by simp only;omega,a.2.2.2.1,a.2.2.2.2.1,a.2.2.2.2.2.1,a.2.2.2.2.2.2⟩),fun _=>by simp,d⟩
theorem tC(b:Good p s)(a:s.frames=r++[t])(c:s.status=1):rH p (next p s):=by
 have d:=jk.1 (b.top a);unfold next
 rw[nH a];exact wD b a c Zm
theorem qK(d:Good p s)(c:s.frames=r++[t])(e:s.status=1){v:Val}(g:jH v s.heap.length=true):rH p (push p v s):=by
 have a:=jk.1 (d.top c);unfold push;rw[nH c,oI c];split
 . exact⟨by simp,by simp,d,fun f=>by simp at f,e⟩
 . rename_i i;refine tC (r:=r) (t:={t with stack:=t.stack++[v]}) (d.turn c (jk.2 ⟨a.1,a.2.1,a.2.2.1,a.2.2.2.1,by simp;omega,a.2.2.2.2.2.1,?_⟩)) rfl e;intro h b;rcases Ty.1 b with b|b
   . exact a.2.2.2.2.2.2 h b
   . simp at b;subst b;exact g
theorem rU{c:Nat}(b:s.frames=r++[t]){vs:List Val}{d:St}(a:lH c s=some (vs,d)):
    c<=t.stack.length/\vs=t.stack.drop (t.stack.length - c)/\vs.length=c/\d={s with frames:=r++[{t with stack:=t.stack.take (t.stack.length - c)}]}:=by
 unfold lH at a;rw[nH b,oI b]at a;split at a
 . cases a
 . cases a;refine⟨Zm,rfl,by simp;omega,rfl⟩
theorem Good.popped(c:Good p s)(b:s.frames=r++[t])(n:Nat):Good p {s with frames:=r++[{t with stack:=t.stack.take n}]}:=by
 have a:=jk.1 (c.top b);refine c.turn b (jk.2 ⟨a.1,a.2.1,a.2.2.1,a.2.2.2.1,?_,a.2.2.2.2.2.1,fun e d=>a.2.2.2.2.2.2 e (U2 d)⟩);have:(t.stack.take n).length<=t.stack.length:=by simp;omega
 have:=a.2.2.2.2.1;simp only;omega
theorem uo{c:Nat}(e:Good p s)(b:s.frames=r++[t]){vs:List Val}{a:St}(h:lH c s=some (vs,a)):
    vs.length=c/\(∀d∈vs,jH d s.heap.length=true)/\Good p a/\a.frames=r++[{t with stack:=t.stack.take (t.stack.length - c)}]/\a.heap=s.heap/\a.outs=s.outs/\a.back=s.back/\a.status=s.status:=by
 obtain⟨j,f,g,rfl⟩:=rU b h;refine⟨g,fun d i=>?_,e.popped b _,rfl,rfl,rfl,rfl,rfl⟩;subst f;exact(jk.1 (e.top b)).2.2.2.2.2.2 d (Vs i)
theorem JD(i:Good p s)(f:s.frames=r++[t]){v:Val}{a:St}(b:pop s=some (v,a)):
    jH v s.heap.length=true/\Good p a/\a.frames=r++[{t with stack:=t.stack.take (t.stack.length - 1)}]/\a.heap=s.heap/\a.outs=s.outs/\a.back=s.back/\a.status=s.status:=by
 unfold pop at b;rw[U1]at b;obtain⟨⟨j,k⟩,g,h⟩:=b;cases h;obtain⟨c,d,e⟩:=uo i f g;refine⟨?_,e⟩;match j,c with
 |[x],_=>exact d x Zl
theorem rH.bad{n:Int}(c:Good p s)(d:s.status=1)(e:1<n)(b:n<=10):rH p (n,s):=⟨by simp only;omega,b,c,fun a=>by simp only at a;omega,d⟩
theorem BN(v:Val)(q:Ref)(s:St):object p v q s=1\/(1<object p v q s/\object p v q s<=10):=by
 unfold object;split
 . right;decide
 . split
   . right;decide
   . split
     . left;rfl
     . right;decide
theorem tF(a:object p v q s=1):v.kind=2/\under p (tH s.heap v.n) q=true:=by
 unfold object at a;split at a
 . cases a
 . split at a
   . cases a
   . rename_i c;split at a
     . rename_i b;exact⟨Zm,b⟩
     . cases a
theorem LM{n:Int}(h0:0<=n)(c:n<s.heap.length):∃a,s.heap[n.toNat]?=some a/\a∈s.heap/\tH s.heap n=a.of/\oV s.heap n=a.fields:=by
 have b:n.toNat<s.heap.length:=Zm
 refine⟨s.heap[n.toNat],Dj b,UL _,?_,?_⟩
 . unfold tH;rw[Dj b];rfl
 . unfold oV;rw[Dj b];rfl
theorem vE(o:Good p s){k:Int}{n m:ByteArray}(q:(get p k n m).2=1){v:Val}(t:jH v s.heap.length=true)(r:object p v (get p k n m).1.of s=1):0<=v.n/\v.n<s.heap.length/\0<=(get p k n m).1.at_/\∃a,s.heap[v.n.toNat]?=some a/\a∈s.heap/\oV s.heap v.n=a.fields/\(get p k n m).1.at_.toNat<a.fields.length:=by
 obtain⟨h,b⟩:=tF r;obtain⟨c,d⟩:=qM t h;obtain⟨a,i,e,j,l⟩:=LM (s:=s) c d;rw[j]at b;have:=(lX.1 o.heap).2 a e;obtain⟨f,g⟩:=Mq q this.1 b;exact⟨c,d,f,a,i,e,l,by rw[this.2.1];exact g⟩
theorem Ou(n:Nat):∀b∈(fresh p q).fields,jH b n=true:=by
 intro b a;unfold fresh at a;simp only[TM]at a;obtain⟨c,_,rfl⟩:=a;split
 . exact mR n Zn
 . exact xQ n
theorem Good.grow(a:Good p s){q:Ref}(v:jD p q=true)(x:s.heap.length<12):Good p {s with heap:=s.heap++[fresh p q]}:=by
 have e:s.heap.length<=(s.heap++[fresh p q]).length:=by simp
 obtain⟨_,t⟩:=lX.1 a.heap;refine⟨lX.2 ⟨by simp;omega,?_⟩,?_,a.nf,a.outs,a.rO,xP a.back e⟩
 . intro w b;rcases Ty.1 b with b|b
   . obtain⟨f,n,o⟩:=t w b;exact⟨f,n,fun d c=>xP (o d c) e⟩
   . simp at b;subst b;exact⟨v,by simp[fresh],Ou _⟩
 . intro r u;obtain⟨g,h,i,j,k,l,m⟩:=jk.1 (a.frames r u);exact jk.2 ⟨g,h,i,j,k,fun d c=>xP (l d c) e,fun d c=>xP (m d c) e⟩
theorem Good.set(c:Good p s){n a:Int}{v:Val}(q:jH v s.heap.length=true):Good p {s with heap:=lM s.heap n a v}:=by
 have d:(lM s.heap n a v).length=s.heap.length:=by simp[lM]
 obtain⟨k,l⟩:=lX.1 c.heap;refine⟨lX.2 ⟨by rw[d];exact k,?_⟩,?_,c.nf,c.outs,c.rO,?_⟩
 . intro w o;rw[d];obtain⟨r,b⟩:=Vq o;unfold lM at b;rw[Vp]at b;cases e:s.heap[r]? with
   |none=>rw[e]at b;simp at b
   |some t=>
    rw[e]at b;obtain⟨g,h,i⟩:=l t (Sy e);simp at b;subst b;split
    . refine⟨g,by simpa using h,?_⟩;intro u f;rcases Uw f with f|rfl
      . exact i u f
      . exact q
    . exact⟨g,h,i⟩
 . intro j m;simp only[d];exact c.frames j m
 . simp only[d];exact c.back
end
theorem GA(e:jY p=true){r:Ref}{c:Class}(a:cls? p r=some c):mY c=true:=by
 unfold cls? at a;rw[V7]at a;obtain⟨g,f,d⟩:=a;have b:=F9 e f;unfold jC at b;simp only[S9]at b;exact ug b.1.2 c (TA d)
theorem KQ(a:mY c=true):∀b∈c.methods,ng b=true:=by
 unfold mY at a;simp only[S9]at a;exact ug a.2
theorem oC(g:jY p=true){x:p8}(d:jM p x=true):ng (method p x)=true/\method? p x=some (method p x):=by
 obtain⟨_,j,h,b,i,e,f,a⟩:=uy d;have c:method p x=b:=by unfold method;rw[a];rfl
 rw[c];exact⟨KQ (GA g e) b (Sy f),a⟩
structure LA(m:Method):Prop where
 args:(m.args.length:Int)+1<=m.locals
 Il:m.args.length<=3
 locals:m.locals<=6
 PK:1<=m.stack
 stack:m.stack<=5
 R8:1<=m.code.length
 code:m.code.length<=16
 ins:∀i∈m.code,nJ m i=true
 ret:kY m.ret=true
 kinds:∀k∈m.args,kY k=true
 maps:m.maps.length<=5
 uF:∀f∈m.maps,uF m f=true
theorem Cz:∀{l:List SMap} {n:Int},j3 m n l=true->∀a∈l,uF m a=true
 |[],_,_=>by simp
 |x::r,n,h=>by
  unfold j3 at h;simp only[S9]at h;intro a b;rcases TI.1 b with rfl|b
  . exact h.1.2
  . exact Cz h.2 a b
theorem uC(a:ng m=true):LA m:=by
 unfold ng codeOk qU at a;simp only[S9,SF,Tx]at a;obtain⟨⟨⟨⟨⟨⟨⟨⟨⟨_,f⟩,g⟩,h⟩,i⟩,j⟩,k⟩,l⟩,⟨⟨n,b⟩,c⟩⟩,d,e⟩:=a;exact⟨i,f,j,k,l,n,b,c,g,h,d,Cz e⟩
theorem wR:∀{l k:List Ref},kM p (l++k)=true->kM p k=true/\∀b∈l,∀a∈k,nX p b a=true
 |[],k,h=>⟨h,by simp⟩
 |x::l,k,h=>by
  simp only[Td,kM,S9,Tx]at h;obtain⟨e,f⟩:=wR h.2;refine⟨e,fun b c a d=>?_⟩;rcases TI.1 c with rfl|c
  . exact h.1 a (List.mem_append_right _ d)
  . exact f b c a d
theorem Mh{x: Ref}(a:jD p r=true)(b:x∈chain p r):jD p x=true:=by
 obtain⟨c,f,d⟩:=wB b;obtain⟨g,e⟩:=wS c;unfold jD at a |-;simp only[S9,VV,List.isEmpty_eq_false_iff]at a |-;rw[d]at a;exact⟨by rw[e];simp,(wR a.2).1⟩
theorem Fz(a:q8 c n=some i)(e:c.methods[i]?=some m):c.methods.find? (fun b=>b.name=n)=some m:=by
 unfold q8 at a;have:∀(d:List Method) (i:Nat) (m:Method),d.findIdx? (fun b=>decide (b.name=n))=some i->d[i]?=some m->d.find? (fun b=>decide (b.name=n))=some m:=by
  intro d;induction d with
  |nil=>intro i m a;simp at a
  |cons b k h=>
   intro i m a e;rw[Vb]at a;rw[List.find?_cons];cases f:decide (b.name=n)
   . rw[f]at a;simp only[UN,UJ,U1]at a;obtain⟨j,g,rfl⟩:=a;exact h j m g (by simpa using e)
   . rw[f]at a;simp only[UC,TF]at a;subst a;simpa using e
 exact this _ _ _ a e
theorem BP {j: Ref} {y: p8} (d : pick p r n = some x) (v : under p j x.of = true) (b : pick p j n = some y) : (method p y).args = (method p x).args := by
 have N:=d;have O:=b;unfold pick at d b;split at d
 . split at b
   . rename_i Z c;obtain⟨S,aa,g,k⟩:=uK d;obtain⟨T,ae,U,V⟩:=uK b;obtain⟨M,w,t⟩:=wB (p:=p) (r:=j) (x:=x.of) (by unfold under at v;simpa using v);obtain⟨R,u⟩:=wS M;have Y:=c;unfold jD at c;simp only[S9]at c;rw[t]at c;obtain⟨_,_,i',A,Q,l,C,D,W,m⟩:=xH N;obtain⟨_,_,j',B,z,X,H,I,J,h⟩:=xH O;have F:method p x=Q:=by unfold method;rw[m];rfl
     have G:method p y=z:=by unfold method;rw[h];rfl
     rw[F,G];have o:cls p x.of=A:=by unfold cls;rw[C];rfl
     have K:cls p y.of=B:=by unfold cls;rw[H];rfl
     rw[t,u]at b;by_cases q:y.of∈w
     . have i:=(wR c.2).2 y.of q x.of (by rw[u];simp);unfold nX at i;simp only[S9,Tx]at i;have f:=i.2 z (by rw[K];exact Sy I);unfold kS at f;rw[g]at l;have E:=Int.ofNat.inj l;subst E;rw[J,o,Fz (by rw[<-o];exact k) D]at f;simp only[S9,SF]at f;exact f.1.2
     . have:∀(e:List Ref),pO p n (e++x.of::R)=some y->y.of ∉ e->y=x:=by
        intro e;induction e with
        |nil=>
         intro a _;simp only[Ti,pO,k]at a;cases a;obtain⟨xo,xa⟩:=x;simp at g;subst g;rfl
        |cons af e P=>
         intro a s;simp only[Td,pO]at a;split at a
         . cases a;simp at s
         . exact P a (fun L=>s (UZ _ L))
       have:=this w b q;subst this;rw[m]at h;cases h;rfl
   . cases b
 . cases d
theorem qx(c:pick p r n=some x):jM p x=true:=by
 obtain⟨d,e,k,a,l,f,g,h,i,j⟩:=xH c;unfold jM;have b:cls p x.of=a:=by unfold cls;rw[g];rfl
 rw[Mh d e,f,b];have:=(Tv.1 h).1;simp;omega
section
variable {p:hZ} {s:St} {r:List Fr} {t:Fr}
theorem Aa(i:jY p=true)(a:Good p s)(d:s.status=1){lk:Bool}{x:p8}{vs:List Val}(g:jM p x=true)(j:∀e∈vs,jH e s.heap.length=true)(hl:(vs.length:Int)<=(method p x).locals):rH p (enter p lk x vs s):=by
 unfold enter;split
 . exact rH.bad a d Zn Zn
 . rename_i k;split
   . exact rH.bad a d Zn Zn
   . split
     . have f:=uC (oC i g).1;refine⟨by simp,by simp,⟨a.heap,?_,by simp;omega,a.outs,a.rO,a.back⟩,fun _=>by simp,d⟩;intro h b;rcases Ty.1 b with b|b
       . exact a.frames h b
       . simp only[TU]at b;subst b;refine jk.2 ⟨g,by simp,by simp only;have:=f.R8;omega,by simp;omega,by simp;have:=f.PK;omega,?_,by simp⟩;intro e c;rcases Ty.1 c with c|c
         . exact j e c
         . rw[List.mem_replicate]at c;rw[c.2];exact ES _
     . exact rH.bad a d Zn Zn
theorem qX{i:Ins}(c:nJ m i=true):kE i=true/\((i.op=2\/i.op=3)->0<=i.a/\i.a<m.locals)/\((i.op=11\/i.op=12\/i.op=13)->0<=i.a/\i.a<m.code.length)/\(i.op=1->nT i.a=true)/\(1<=i.op/\i.op<=15)/\((i.op=6\/i.op=15)->jf i.name=true)/\((i.op=7\/i.op=8\/i.op=9)->jf i.name=true/\jf i.member=true):=by
 unfold nJ at c;simp only[S9]at c;have b:=c.1;refine⟨b,?_,?_,?_,?_,?_,?_⟩
 . intro a;have d:=c.2;rw[SV a]at d;simp only[SF]at d;unfold kE isNum at b;rcases a with a|a<;>rw[a]at b<;>simp[pX,qG]at b<;>omega
 . intro a;have d:=c.2;rw[SX Zm,SV a]at d;simp only[SF]at d;unfold kE isNum at b;rcases a with a|a|a<;>rw[a]at b<;>simp[pX,qG]at b<;>omega
 . intro a;unfold kE isNum at b;rw[a]at b;simp[pX,qG]at b;unfold nT;simp;omega
 . unfold kE isNum oG pq qY at b;simp only[V4,Ub]at b;repeat' split at b
   all_goals first|omega|cases b
 . intro a;unfold kE isNum oG at b;rcases a with a|a<;>rw[a]at b<;>simp at b<;>exact b.2
 . intro a;unfold kE isNum oG pq at b;rcases a with a|a|a<;>rw[a]at b<;>simp at b<;>exact⟨b.1.2,b.2⟩
theorem Ko (W : jY p = true) (q : Good p s) (o : s.frames = r ++ [t]) (m : s.status = 1) {lk : Bool} {i : Ins} (hi : nJ (method p t.of) i = true) : rH p (jm p lk i s) := by
 have h:∀A:Int,1<A->A<=10->rH p (A,s):=fun A j h2=>rH.bad q m j h2;obtain⟨_,i2,L,i4,i5,_,_⟩:=qX hi;have Y:=jk.1 (q.top o);have y:∀{k d},pop s=some (k,d)->jH k s.heap.length=true/\Good p d/\d.frames=r++[{t with stack:=t.stack.take (t.stack.length - 1)}]/\d.heap=s.heap/\d.outs=s.outs/\d.back=s.back/\d.status=1:=fun e=>by
  obtain⟨f,a,b,g,l,n,c⟩:=JD q o e;exact⟨f,a,b,g,l,n,c.trans m⟩
 unfold jm;by_cases E:i.op=1
 . rw[SV E];exact qK q o m (mR _ (i4 E))
 rw[SX E];by_cases I:i.op=2
 . rw[SV I];rw[nH o];split
   . exact h _ Zn Zn
   . refine qK q o m ?_;have af:i.a.toNat<t.locals.length:=by have:=i2 (.inl I);omega
     rw[Dj af];exact Y.2.2.2.2.2.1 _ (UL _)
 rw[SX I];by_cases P:i.op=3
 . rw[SV P];split
   . exact h _ Zn Zn
   . rename_i k d e;obtain⟨f,a,b,g,l,n,c⟩:=y e;have z:=jk.1 (a.top b);rw[oI b];refine tC (r:=r) (a.turn b (jk.2 ⟨z.1,z.2.1,z.2.2.1,by simp;exact Y.2.2.2.1,z.2.2.2.2.1,?_,z.2.2.2.2.2.2⟩)) rfl c;intro ag J;rcases Uw J with J|rfl
     . exact z.2.2.2.2.2.1 ag J
     . rw[g];exact f
 rw[SX P];by_cases Q:i.op=4
 . rw [SV Q]; split
   . rename_i ah ai d e;obtain⟨f,a,b,g,l,n,c,w⟩:=uo q o e;split
     . split
       . rename_i u;exact qK b g (w.trans m) (mR _ u)
       . exact rH.bad b (w.trans m) Zn Zn
     . exact rH.bad b (w.trans m) Zn Zn
   . exact h _ Zn Zn
 rw[SX Q];by_cases R:i.op=5
 . rw[SV R];exact qK q o m (xQ _)
 rw[SX R];by_cases S:i.op=6
 . rw[SV S];split
   . rename_i B;split
     . exact h _ Zn Zn
     . rename_i aj;unfold lW at B;simp only[S9]at B;refine qK (r:=r) (t:=t) (q.grow B.2 Zm) o m ?_;exact wM _ Zl Zr
   . exact h _ Zn Zn
 rw[SX S];by_cases T:i.op=7
 . rw [SV T]; split
   . rename_i hg;split
     . exact h _ Zn Zn
     . rename_i k d e;obtain⟨f,a,b,g,l,n,c⟩:=y e;split
       . rename_i v;obtain⟨_,_,_,M,b1,Z,b3,b4⟩:=vE a hg (by rw[g];exact f) v;refine qK a b c ?_;rw[b3,Dj b4];exact((lX.1 a.heap).2 M Z).2.2 _ (UL _)
       . rename_i v;rcases BN (p:=p) k (get p (top s).of.of.keeper i.name i.member).1.of d with j|j
         . exact absurd j v
         . exact rH.bad a c j.1 j.2
   . exact h _ Zn Zn
 rw[SX T];by_cases U:i.op=8
 . rw [SV U]; split
   . split
     . rename_i M k d e;obtain⟨f,a,b,g,l,n,c,w⟩:=uo q o e;have x:=w.trans m;split
       . split
         . exact tC (r:=r) (b.set (by rw[l];exact a k Zl)) g x
         . rename_i v;rcases BN (p:=p) M (get p (top s).of.of.keeper i.name i.member).1.of d with j|j
           . exact absurd j v
           . exact rH.bad b x j.1 j.2
       . exact rH.bad b x Zn Zn
     . exact h _ Zn Zn
   . exact h _ Zn Zn
 rw[SX U];by_cases V:i.op=9
 . rw [SV V]; split
   . rename_i B;split
     . rename_i vs d e;obtain⟨f,a,b,g,l,n,c,w⟩:=uo q o e;have x:=w.trans m;split
       . rename_i v;split
         . rename_i au K;obtain⟨o1,o2⟩:=tF v;obtain⟨ak,hq⟩:=rM B;have ae:=BP hq o2 K;have hm:=uC (oC W (qx K)).1;refine Aa W b x (qx K) (by rw[l];exact a) ?_;have:=hm.args;rw[f,<-ae];simpa using this
         . exact rH.bad b x Zn Zn
       . rename_i v;rcases BN (p:=p) (vs.headD ll) (call p (top s).of.of.keeper i.name i.member).1.of d with j|j
         . exact absurd j v
         . exact rH.bad b x j.1 j.2
     . exact h _ Zn Zn
   . exact h _ Zn Zn
 rw[SX V];by_cases N:i.op=10
 . rw [SV N]; split
   . exact h _ Zn Zn
   . rename_i k d e;obtain⟨f,a,b,g,l,n,c⟩:=y e;split
     . split
       . exact rH.bad (s:={d with back:=k}) ⟨a.heap,a.frames,a.nf,a.outs,a.rO,by rw[g];exact f⟩ c Zn Zn
       . rename_i u;have X:r≠[]:=by
          rintro rfl;rw[b]at u;simp at u
         obtain⟨C,D,rfl⟩:∃C D,r=C++[D]:=⟨r.dropLast,r.getLast X,(UE X).symm⟩;have hd:d.frames.dropLast=C++[D]:=by rw[b];simp
         refine qK (s:={d with frames:=d.frames.dropLast}) (r:=C) (t:=D) ⟨a.heap,?_,?_,a.outs,a.rO,a.back⟩ hd c (by rw[g];exact f)
         . intro aa hf;exact a.frames aa (List.dropLast_subset _ hf)
         . have:=a.nf;simp only[List.length_dropLast];omega
     . exact rH.bad a c Zn Zn
 rw[SX N];by_cases F:i.op=11
 . rw [SV F]; split
   . exact h _ Zn Zn
   . rename_i k d e;obtain⟨f,a,b,g,l,n,c⟩:=y e;split
     . split
       . exact wD a b c (L (.inl F)).1
       . exact tC a b c
     . exact rH.bad a c Zn Zn
 rw[SX F];by_cases G:i.op=12
 . rw [SV G]; split
   . exact h _ Zn Zn
   . rename_i k d e;obtain⟨f,a,b,g,l,n,c⟩:=y e;split
     . split
       . exact wD a b c (L (.inr (.inl G))).1
       . exact tC a b c
     . exact rH.bad a c Zn Zn
 rw[SX G];by_cases H:i.op=13
 . rw[SV H];exact wD q o m (L (.inr (.inr H))).1
 rw[SX H];by_cases O:i.op=14
 . rw [SV O]; split
   . exact h _ Zn Zn
   . rename_i k d e;obtain⟨f,a,b,g,l,n,c⟩:=y e;split
     . rename_i hk;split
       . rename_i v;refine tC (r:=r) (s:={d with outs:=d.outs++[k.n]}) ⟨a.heap,a.frames,a.nf,by simp;omega,?_,a.back⟩ b c;intro A u;rcases Ty.1 u with u|u
         . exact a.rO A u
         . simp at u;subst u;have:=wN f hk;unfold nT;simp;omega
       . exact tC a b c
     . exact rH.bad a c Zn Zn
 rw[SX O]
 . split
   . exact h _ Zn Zn
   . rename_i k d e;obtain⟨f,a,b,g,l,n,c⟩:=y e;split
     . split
       . exact qK a b c (by rw[g];exact f)
       . split
         . split
           . exact qK a b c (by rw[g];exact f)
           . exact rH.bad a c Zn Zn
         . exact rH.bad a c Zn Zn
     . exact rH.bad a c Zn Zn
structure zL(p:hZ)(s:St):Prop where
 good:Good p s
 st:1<=s.status/\s.status<=10
 goes:s.status=1↔s.frames≠[]
theorem EE{p:hZ}{s:St}:Cb p s=true↔zL p s:=by
 unfold Cb;simp only[S9,SF,Tx,Ub];constructor
 . rintro⟨⟨⟨⟨⟨⟨⟨⟨⟨c,e⟩,j⟩,f⟩,g⟩,a⟩,h⟩,i⟩,b⟩,d⟩;refine⟨⟨b,i,g,f,h,d⟩,⟨c,e⟩,?_⟩;rw[Ud]at a;simp only[SF]at a;rw[<-a,Vi]
 . rintro⟨⟨b,i,g,f,h,d⟩,⟨c,e⟩,a⟩;refine⟨⟨⟨⟨⟨⟨⟨⟨⟨c,e⟩,(lX.1 b).1⟩,f⟩,g⟩,?_⟩,h⟩,i⟩,b⟩,d⟩;rw[Ud];simp only[SF];rw[a,Vi]
theorem rH.runs{x:Int×St}(c:rH p x):zL p (end_ x.1 x.2):=by
 obtain⟨h,s⟩:=x;obtain⟨d,e,a,f,g⟩:=c;unfold end_;simp only at*;split
 . rename_i b;exact⟨a,Zm,by simp[g,f b]⟩
 . rename_i b;exact⟨⟨a.heap,by simp,by simp,a.outs,a.rO,a.back⟩,⟨d,e⟩,by simp[b]⟩
theorem JP(f:jY p=true)(hR:zL p s)(g:s.status=1):∃r t c,s.frames=r++[t]/\kW p t s.heap.length=true/\(method p t.of).code[t.pc.toNat]?=some c/\nJ (method p t.of) c=true:=by
 obtain⟨r,t,a⟩:=Kv (hR.goes.1 g);have b:=hR.good.top a;obtain⟨d,h,i,_⟩:=jk.1 b;have e:t.pc.toNat<(method p t.of).code.length:=Zm
 exact⟨r,t,_,a,b,Dj e,(uC (oC f d).1).ins _ (UL _)⟩
theorem Gq(b:jY p=true)(hR:zL p s)(lk:Bool):zL p (step p lk s):=by
 unfold step;split
 . rename_i c;obtain⟨r,t,f,a,_,d,e⟩:=JP b hR c;refine rH.runs ?_;unfold stepped;rw[nH a,d];exact Ko b hR.good a c e
 . exact hR
end
theorem all_eq{f g:α->Bool}:∀{l:List α},(∀x∈l,f x=g x)->l.all f=l.all g
 |[],_=>rfl
 |x::l,h=>by rw[List.all_cons,List.all_cons,h x Zl,all_eq fun b a=>h b (by simp[a])]
def Said(c:Class)(n:ByteArray):Prop:=
 n=c.je\/(∃f∈c.fields,n=f.kind.name)\/∃m∈c.methods,n=m.ret.name\/(∃a∈m.args,n=a.name)\/(∃i∈m.code,n=i.name)\/∃f∈m.maps,∃t∈f.locals++f.stack,n=t.name
structure mf(p q:hZ)(ρ:Ref->Ref)(S:Int->Int->ByteArray->Prop):Prop where
 has:∀{k k' n},S k k' n->has q k'=has p k
 res:∀{k k' n},S k k' n->((resolve q k' n).2=1↔(resolve p k n).2=1)/\((resolve p k n).2=1->(resolve q k' n).1=ρ (resolve p k n).1)
 own:∀{r c},cls? p r=some c->cls? q (ρ r)=some c/\(∀n,Said c n->S r.keeper (ρ r).keeper n)/\S r.keeper (ρ r).keeper r.name
 path:∀{k k' n},S k k' n->(resolve p k n).2=1->∀l,om p (resolve p k n).1=some l->∀x∈l,∀c,cls? p x=some c->∀n',Said c n'->S k k' n'
 name:∀r,(ρ r).name=r.name
 inj:∀{r r' c c'},cls? p r=some c->cls? p r'=some c'->ρ r=ρ r'->r=r'
section
variable {p q:hZ} {ρ:Ref->Ref} {S:Int->Int->ByteArray->Prop}
theorem mf.cls(b:mf p q ρ S){r:Ref}{c:Class}(a:cls? p r=some c):M.cls q (ρ r)=M.cls p r:=by
 unfold M.cls;rw[(b.own a).1,a]
theorem mf.je(b:mf p q ρ S){r:Ref}{c:Class}(a:cls? p r=some c):M.je q (ρ r)=M.je p r:=by
 unfold M.je;rw[(b.own a).1,a]
theorem mf.om(b:mf p q ρ S):∀(f:Nat) {r:Ref} {c:Class},cls? p r=some c->jN q f (ρ r)=(jN p f r).map (List.map ρ)
 |0,_,_,_=>rfl
 |f+1,r,c,hc=>by
  have j:=b.je hc;have h:S r.keeper (ρ r).keeper (M.je p r):=(b.own hc).2.1 _ (.inl (by unfold M.je;rw[hc];rfl));unfold jN;rw[j];by_cases d:M.je p r=none_
  . rw[SV d,SV d];rfl
  rw[SX d,SX d];have e:=b.res h;by_cases a:(resolve p r.keeper (M.je p r)).2=1
  . obtain⟨k,i⟩:=lD a;rw[SV (e.1.2 a),SV a,e.2 a,b.om f i];cases jN p f (resolve p r.keeper (M.je p r)).1<;>rfl
  . rw[SX (fun g=>a (e.1.1 g)),SX a];rfl
theorem mf.find(e:mf p q ρ S){k k':Int}{n:ByteArray}(i:S k k' n):((find q k' n).2=1↔(find p k n).2=1)/\((find p k n).2=1->(find q k' n).1=ρ (find p k n).1/\∃g,cls? p (find p k n).1=some g):=by
 have c:=e.res i;unfold M.find;by_cases a:(resolve p k n).2=1
 . obtain⟨h,f⟩:=lD a;have d:M.om q (resolve q k' n).1=(M.om p (resolve p k n).1).map (List.map ρ):=by unfold M.om;rw[c.2 a,e.om 6 f]
   rw[SV (c.1.2 a),SV a,d];cases j:M.om p (resolve p k n).1 with
   |none=>simp
   |some l=>simpa using⟨c.2 a,h,f⟩
 . have d:¬(resolve q k' n).2=1:=fun b=>a (c.1.1 b);rw[SX d,SX a];exact⟨⟨fun b=>absurd b d,fun b=>absurd b a⟩,fun b=>absurd b a⟩
theorem Ku(a:(find p k n).2=1):(resolve p k n).2=1/\(find p k n).1=(resolve p k n).1/\∃c,om p (resolve p k n).1=some c:=by
 unfold find at a |-;by_cases b:(resolve p k n).2=1
 . rw[SV b]at a |-;cases d:om p (resolve p k n).1 with
   |none=>rw[d]at a;simp at a
   |some c=>exact⟨b,by simp,c,rfl⟩
 . rw[SX b]at a;exact absurd a b
theorem mf.lv(b:mf p q ρ S){r:Ref}{c:Class}(f:cls? p r=some c):lv q (ρ r)=lv p r:=by
 have e:=b.find (b.own f).2.2;rw[<-b.name r]at e;unfold M.lv;rw[b.name r]at e |-;by_cases d:(M.find p r.keeper r.name).2=1
 . obtain⟨g,i,h⟩:=e.2 d;rw[SY (e.1.2 d),SY d,g];congr 1;exact Ug.2 ⟨fun a=>b.inj h f a,fun a=>by rw[a]⟩
 . rw[RN (fun a=>d (e.1.1 a)),RN d];simp
theorem mf.chain(b:mf p q ρ S){r:Ref}{c:Class}(d:cls? p r=some c):chain q (ρ r)=(chain p r).map ρ:=by
 unfold M.chain;rw[b.lv d];by_cases a:M.lv p r=true
 . rw[SV a,SV a];unfold M.om;rw[b.om 6 d];cases jN p 6 r<;>rfl
 . rw[SX a,SX a];rfl
theorem mf.under(b:mf p q ρ S){r t:Ref}{c e:Class}(f:cls? p r=some c)(h:cls? p t=some e):under q (ρ r) (ρ t)=under p r t:=by
 unfold M.under;rw[b.chain f];refine Ud.2 ⟨fun a=>?_,fun a=>?_⟩
 . obtain⟨k,d,i⟩:=TM.1 (UO.1 a);obtain⟨j,g⟩:=kI d;exact UO.2 (b.inj g h i▸d)
 . exact UO.2 (TM.2 ⟨_,UO.1 a,rfl⟩)
theorem mf.agree(l:mf p q ρ S){a j b h:Int}{k:Kind}(r:S a j k.name)(s:S b h k.name):agree q j h k=agree p a b k:=by
 have i:=l.find r;have g:=l.find s;unfold M.agree;congr 1;by_cases e:(M.find p a k.name).2=1
 . obtain⟨n,v,t⟩:=i.2 e;by_cases d:(M.find p b k.name).2=1
   . obtain⟨o,w,u⟩:=g.2 d;rw[SV ⟨i.1.2 e,g.1.2 d⟩,SV ⟨e,d⟩,n,o];exact Ug.2 ⟨fun c=>l.inj t u c,fun c=>by rw[c]⟩
   . have f:¬(M.find q h k.name).2=1:=fun c=>d (g.1.1 c);rw[SX (fun c=>f c.2),SX (fun c=>d c.2)];simp[e,i.1.2 e]
 . have f:¬(M.find q j k.name).2=1:=fun c=>e (i.1.1 c);rw[SX (fun c=>f c.1),SX (fun c=>e c.1)];by_cases d:(M.find p b k.name).2=1
   . simp[e,d,f,g.1.2 d]
   . have m:¬(M.find q h k.name).2=1:=fun c=>d (g.1.1 c);simp[e,d,f,m]
theorem mf.jQ(g:mf p q ρ S){a e b f:Int}{m:Method}(h:∀c,(c=m.ret.name\/∃d∈m.args,c=d.name)->S a e c)(i:∀c,(c=m.ret.name\/∃d∈m.args,c=d.name)->S b f c):jQ q e f m=jQ p a b m:=by
 unfold M.jQ;rw[g.agree (h _ (.inl rfl)) (i _ (.inl rfl))];congr 1;exact all_eq fun d j=>g.agree (h _ (.inr ⟨d,j,rfl⟩)) (i _ (.inr ⟨d,j,rfl⟩))
theorem Said.method(b:m∈c.methods){n:ByteArray}(a:n=m.ret.name\/∃d∈m.args,n=d.name):Said c n:=.inr (.inr ⟨m,b,a.imp id .inl⟩)
theorem mf.kS(b:mf p q ρ S){r t:Ref}{c d:Class}(k:cls? p r=some c)(g:cls? p t=some d){m:Method}(n:m∈c.methods):kS q (ρ r) (ρ t) m=kS p r t m:=by
 unfold M.kS;rw[b.cls g];have j:M.cls p t=d:=by unfold M.cls;rw[g];rfl
 rw[j];cases l:d.methods.find? (fun a=>decide (a.name=m.name))with
 |none=>rfl
 |some i=>
  have o:=TA l;simp only;by_cases e:m.ret=i.ret
  . by_cases f:m.args=i.args
    . rw[SY e,SY f];simp only[TB];exact b.jQ (fun a h=>(b.own k).2.1 a (Said.method n h)) (fun a h=>(b.own g).2.1 a (Said.method o (by rw[<-e,<-f];exact h)))
    . rw[RN f];simp
  . rw[RN e];simp
theorem mf.nX(a:mf p q ρ S){r t:Ref}{c e:Class}(b:cls? p r=some c)(d:cls? p t=some e):nX q (ρ r) (ρ t)=nX p r t:=by
 unfold M.nX;rw[a.cls b,a.cls d];have f:M.cls p r=c:=by unfold M.cls;rw[b];rfl
 congr 1;exact all_eq fun h g=>a.kS b d (by rw[<-f];exact g)
theorem mf.kM(d:mf p q ρ S):∀{l:List Ref},(∀a∈l,∃c,cls? p a=some c)->kM q (l.map ρ)=kM p l
 |[],_=>rfl
 |r::l,ho=>by
  obtain⟨c,e⟩:=ho r Zl;rw[TH];unfold M.kM;rw[d.kM fun a b=>ho a (by simp[b]),List.all_map];congr 1;exact all_eq fun a b=>by obtain⟨g,f⟩:=ho a (by simp[b]);exact d.nX e f
theorem mf.jD(a:mf p q ρ S){r:Ref}{c:Class}(b:cls? p r=some c):jD q (ρ r)=jD p r:=by
 unfold M.jD;rw[a.chain b,a.kM fun e d=>kI d];simp
def mapM(ρ:Ref->Ref)(x:p8):p8:=⟨ρ x.of,x.at_⟩
def yo(ρ:Ref->Ref)(x:qg):qg:=⟨ρ x.of,x.at_,x.kind⟩
theorem mf.pO(c:mf p q ρ S){n:ByteArray}:∀{l:List Ref},(∀a∈l,∃b,cls? p a=some b)->pO q n (l.map ρ)=(pO p n l).map (mapM ρ)
 |[],_=>rfl
 |r::l,ho=>by
  obtain⟨b,d⟩:=ho r Zl;simp only[TH];unfold M.pO;rw[c.cls d,c.pO fun a e=>ho a (by simp[e])];cases q8 (M.cls p r) n<;>rfl
theorem mf.pick(a:mf p q ρ S){r:Ref}{c:Class}(b:cls? p r=some c)(n:ByteArray):pick q (ρ r) n=(pick p r n).map (mapM ρ):=by
 unfold M.pick;rw[a.jD b,a.chain b,a.pO fun e d=>kI d];split<;>rfl
theorem sj(b:jD p r=true):∃a,cls? p r=some a:=kI (uJ b).2
theorem mf.jy(d:mf p q ρ S){k k':Int}{n:ByteArray}(f:S k k' n)(m:ByteArray):(M.jy q k' n m).2=(M.jy p k n m).2/\((M.jy p k n m).2=1->(M.jy q k' n m).1=ρ (M.jy p k n m).1/\M.jD p (M.jy p k n m).1=true/\(M.jy p k n m).1=(M.find p k n).1/\(M.find p k n).2=1):=by
 have e:=d.find f;unfold M.jy;rw[d.has f];split
 . by_cases b:(M.find p k n).2=1
   . obtain⟨g,i,h⟩:=e.2 b;rw[SV (e.1.2 b),SV b,g,d.jD h];by_cases c:M.jD p (M.find p k n).1=true
     . rw[SV c,SV c];exact⟨rfl,fun _=>⟨rfl,c,rfl,b⟩⟩
     . rw[SX c,SX c];exact⟨rfl,fun a=>by simp at a⟩
   . rw[SX b,SX (fun a=>b (e.1.1 a))];exact⟨rfl,fun a=>by simp at a⟩
 . exact⟨rfl,fun a=>by simp at a⟩
theorem zO(ρ:Ref->Ref)(r:Ref):∀(b:List Field) (a:List qg),ko (ρ r) b (a.map (yo ρ))=(ko r b a).map (yo ρ)
 |[],_=>rfl
 |f::l,a=>by
  unfold ko;rw[<-zO ρ r l];simp[yo]
theorem mf.kv(d:mf p q ρ S):∀{l:List Ref},(∀b∈l,∃c,cls? p b=some c)->∀a:List qg,kv q (l.map ρ) (a.map (yo ρ))=(kv p l a).map (yo ρ)
 |[],_,_=>rfl
 |r::l,ho,a=>by
  obtain⟨c,e⟩:=ho r Zl;simp only[TH];unfold M.kv;rw[d.cls e,zO,d.kv fun b f=>ho b (by simp[f])]
theorem mf.layout(a:mf p q ρ S){r:Ref}{c:Class}(b:cls? p r=some c):layout q (ρ r)=(layout p r).map (yo ρ):=by
 unfold M.layout;rw[a.jD b,a.chain b,<-List.map_reverse];split
 . exact a.kv (fun e d=>kI (List.mem_reverse.1 d)) []
 . rfl
theorem mf.mK(b:mf p q ρ S){t:Ref}{h:Class}(g:cls? p t=some h):∀{l:List Ref},(∀d∈l,∃e,cls? p d=some e)->∀c,mK q (ρ t) (l.map ρ) c=mK p t l c
 |[],_,_=>rfl
 |r::l,ho,c=>by
  obtain⟨e,f⟩:=ho r Zl;simp only[TH];unfold M.mK;by_cases a:r=t
  . rw[SV a,SV (by rw[a])]
  . rw[SX a,SX (fun i=>a (b.inj f g i)),b.cls f,b.mK g fun d j=>ho d (by simp[j])]
theorem mf.fieldName(a:mf p q ρ S){r:Ref}{c:Class}(g:cls? p r=some c){f:qg}{d:Class}(b:cls? p f.of=some d):fieldName q (ρ r) (yo ρ f)=fieldName p r f:=by
 have e:mF q (ρ f.of) (ρ r)=mF p f.of r:=by
  unfold mF;rw[a.chain g,<-List.map_reverse];exact a.mK b (fun i h=>kI (List.mem_reverse.1 h)) 0
 simp only[M.fieldName,yo,a.cls b,e]
theorem G8(h:f∈layout p r):f.of∈chain p r/\∃a,cls? p f.of=some a/\∃k∈a.fields,f.kind=k.kind:=by
 obtain⟨l,j⟩:=Vq h;obtain⟨-,b,-,m,g,c,-,i⟩:=zt j;obtain⟨a,d⟩:=kI b;have e:cls p f.of=a:=by unfold cls;rw[d];rfl
 rw[e]at c;exact⟨b,a,d,g,Sy c,i⟩
end
section
variable {p q:hZ} {ρ:Ref->Ref} {S:Int->Int->ByteArray->Prop}
theorem Iw{l:List Ref}(b:om p r=some l){x:Ref}(a:x∈chain p r):x∈l:=by
 unfold chain at a;split at a
 . rw[b]at a;exact a
 . cases a
theorem mf.said(e:mf p q ρ S){k k':Int}{n:ByteArray}(h:S k k' n)(j:(M.find p k n).2=1){x:Ref}(d:x∈M.chain p (M.find p k n).1){c:Class}(i:cls? p x=some c){a:ByteArray}(l:Said c a):S k k' a:=by
 obtain⟨f,g,m,b⟩:=Ku j;rw[g]at d;exact e.path h f m b x (Iw b d) c i a l
theorem mf.qd(b:mf p q ρ S){k k':Int}{m:ByteArray}{r:Ref}{c:Class}(e:cls? p r=some c):∀{l:List qg},(∀f∈l,∃d,cls? p f.of=some d/\S k k' f.kind.name/\Said d f.kind.name)→
    (M.qd q k' m (ρ r) (l.map (yo ρ))).2=(M.qd p k m r l).2/\((M.qd p k m r l).2=1->(M.qd q k' m (ρ r) (l.map (yo ρ))).1=yo ρ (M.qd p k m r l).1)
 |[],_=>⟨rfl,fun a=>by simp[M.qd]at a⟩
 |f::l,ho=>by
  obtain⟨d,g,h,i⟩:=ho f Zl;have n:=b.qd (k:=k) (k':=k') (m:=m) e (l:=l) fun o j=>ho o (by simp[j]);rw[TH];unfold M.qd;rw[b.fieldName e g];by_cases a:M.fieldName p r f=m
  . rw[SV a,SV a,show M.agree q k' (yo ρ f).of.keeper (yo ρ f).kind=M.agree p k f.of.keeper f.kind from b.agree h ((b.own g).2.1 _ i)];split
    . exact⟨rfl,fun _=>rfl⟩
    . exact⟨rfl,fun a=>by simp at a⟩
  . rw[SX a,SX a];exact n
theorem Mr{m: ByteArray}(a:(get p k n m).2=1):(jy p k n m).2=1/\(get p k n m).1∈layout p (jy p k n m).1:=by
 unfold get at a |-;by_cases b:(jy p k n m).2=1
 . rw[SV b]at a |-;exact⟨b,yG a⟩
 . rw[SX b]at a;exact absurd a b
theorem mf.get(f:mf p q ρ S){k k':Int}{n:ByteArray}(j:S k k' n)(m:ByteArray):(M.get q k' n m).2=(M.get p k n m).2/\((M.get p k n m).2=1->(M.get q k' n m).1=yo ρ (M.get p k n m).1/\(∃a,cls? p (M.get p k n m).1.of=some a/\Said a (M.get p k n m).1.kind.name)/\S k k' (M.get p k n m).1.kind.name):=by
 have s:=f.jy j m;have i:=Mr (p:=p) (k:=k) (n:=n) (m:=m);revert i;unfold M.get;rw[s.1];by_cases b:(M.jy p k n m).2=1
 . obtain⟨v,w,x,y⟩:=s.2 b;obtain⟨B,o⟩:=sj w;have l:∀c∈M.layout p (M.jy p k n m).1,∃a,cls? p c.of=some a/\S k k' c.kind.name/\Said a c.kind.name:=fun c z=>by
    obtain⟨g,a,e,A,h,u⟩:=G8 z;have t:Said a c.kind.name:=.inr (.inl ⟨A,h,by rw[u]⟩);exact⟨a,e,f.said j y (x▸g) e t,t⟩
   rw[SV b,SV b,v,f.layout o];intro i;have r:=f.qd (k:=k) (k':=k') (m:=m) o l;refine⟨r.1,fun d=>⟨r.2 d,?_⟩⟩;obtain⟨a,g,e,h⟩:=l _ (i d).2;exact⟨⟨a,g,h⟩,e⟩
 . rw[SX b,SX b];exact fun _=>⟨rfl,fun d=>absurd d b⟩
theorem yR(a:method? p x=some m):∃b,cls? p x.of=some b/\m∈b.methods/\method p x=m:=by
 have d:=a;unfold method? at a;split at a
 . unfold cls at a;cases c:cls? p x.of with
   |none=>rw[c]at a;simp[RH]at a
   |some b=>rw[c]at a;exact⟨b,rfl,Sy a,by unfold method;rw[d];rfl⟩
 . cases a
theorem mf.method(a:mf p q ρ S){x:p8}{c:Class}(b:cls? p x.of=some c):M.method q (mapM ρ x)=M.method p x:=by
 unfold M.method method? mapM;rw[a.cls b]
theorem mf.call(c:mf p q ρ S){k k':Int}{n:ByteArray}(j:S k k' n)(m:ByteArray):(M.call q k' n m).2=(M.call p k n m).2/\((M.call p k n m).2=1->(M.call q k' n m).1=mapM ρ (M.call p k n m).1/\∃g,cls? p (M.call p k n m).1.of=some g/\M.method p (M.call p k n m).1∈g.methods/\∀b,Said g b->S k k' b):=by
 have l:=c.jy j m;unfold M.call;rw[l.1];by_cases a:(M.jy p k n m).2=1
 . obtain⟨x,y,z,A⟩:=l.2 a;obtain⟨g,C⟩:=sj y;rw[SV a,SV a,x,c.pick C];cases D:M.pick p (M.jy p k n m).1 m with
   |none=>exact⟨rfl,fun a=>by simp at a⟩
   | some d =>
    obtain⟨-,u,H,s,I,E,v,F,G,w⟩:=xH D;obtain⟨h,f,i,r⟩:=yR w;obtain rfl:h=s:=Vd (f.symm.trans v);have o:∀b,Said h b->S k k' b:=fun b e=>c.said j A (z▸u) f e;have B:M.jQ q k' (ρ d.of).keeper (M.method q (mapM ρ d))=M.jQ p k d.of.keeper (M.method p d):=by
     rw[c.method f,r];exact c.jQ (fun b e=>o b (Said.method i e)) (fun b e=>(c.own f).2.1 b (Said.method i e))
    simp only[TN];rw[show(mapM ρ d).of=ρ d.of from rfl,B];split
    . exact⟨rfl,fun _=>⟨rfl,h,f,by rw[r];exact i,o⟩⟩
    . exact⟨rfl,fun a=>by simp at a⟩
 . rw[SX a,SX a];exact⟨rfl,fun t=>absurd t a⟩
theorem mf.jM(a:mf p q ρ S){x:p8}{c:Class}(b:cls? p x.of=some c):M.jM q (mapM ρ x)=M.jM p x:=by
 unfold M.jM mapM;rw[a.jD b,a.cls b]
def oN(T:ByteArray->Prop)(t:Tag):Prop:=t.kind=2->T t.name
def sQ(T:ByteArray->Prop)(s:nV):Prop:=(∀t∈s.locals,oN T t)/\∀t∈s.stack,oN T t
variable {T:ByteArray->Prop} {k k':Int}
theorem oN.num:oN T nG:=fun a=>by simp[nG]at a
theorem oN.null:oN T AV:=fun a=>by simp[AV]at a
theorem oN.zero:oN T Cg:=fun a=>by simp[Cg]at a
theorem oN.cls(a:T n):oN T (kZ n):=fun _=>a
theorem oN.of{a:Kind}(b:T a.name):oN T (lN a):=by
 unfold lN;split
 . exact fun _=>b
 . exact oN.zero
theorem sQ.take{s:nV}(a:sQ T s){x:Tag×nV}(b:sI s=some x):oN T x.1/\sQ T x.2:=by
 unfold sI at b;obtain⟨f,c,rfl⟩:=U1.1 b;exact⟨a.2 _ (List.mem_of_getLast? c),a.1,fun e d=>a.2 e (List.dropLast_subset _ d)⟩
theorem mf.may(h:mf p q ρ S){a b:Tag}(l:oN (S k k') a)(m:oN (S k k') b):M.may q k' a b=M.may p k a b:=by
 unfold M.may;split
 . rfl
 split
 . rfl
 split
 . rfl
 split
 . rfl
 rename_i v i w j;have f:=h.find (l (by simpa using j));have g:=h.find (m (by simpa using i));by_cases c:(M.find p k a.name).2=1
 . obtain⟨n,t,r⟩:=f.2 c;by_cases d:(M.find p k b.name).2=1
   . obtain⟨o,u,s⟩:=g.2 d;rw[SY c,SY d,SY (f.1.2 c),SY (g.1.2 d),n,o,h.under r s]
   . rw[RN d,RN (fun e=>d (g.1.1 e))];simp
 . rw[RN c,RN (fun e=>c (f.1.1 e))];simp
theorem mf.mr(e:mf p q ρ S){t:Tag}{s:nV}(g:oN (S k k') t)(f:sQ (S k k') s):M.mr q k' t s=M.mr p k t s/\∀c,M.mr p k t s=some c->sQ (S k k') c:=by
 unfold M.mr;cases a:sI s with
 |none=>exact⟨rfl,fun _ a=>by cases a⟩
 |some h=>
  have d:=f.take a;simp only[TT];rw[e.may d.1 g];refine⟨rfl,fun c b=>?_⟩;split at b
  . cases b;exact d.2
  . cases b
theorem sQ.obj{s s':nV}(c:sQ T s)(a:wE s=some s'):sQ T s':=by
 unfold wE at a;cases b:sI s with
 |none=>rw[b]at a;cases a
 |some d=>
  rw[b]at a;simp only[TT]at a;split at a
  . cases a;exact(c.take b).2
  . cases a
theorem sQ.put{t:Tag}{s s':nV}(c:sQ T s)(d:oN T t)(b:mZ m t s=some s'):sQ T s':=by
 unfold mZ at b;split at b
 . cases b
 . cases b;refine⟨c.1,fun e a=>?_⟩;rcases Ty.1 a with a|a
   . exact c.2 e a
   . simp at a;rw[a];exact d
theorem mf.lT(e:mf p q ρ S):∀{a b:List Tag},(∀c∈a,oN (S k k') c)->(∀c∈b,oN (S k k') c)->M.lT q k' a b=M.lT p k a b
 |a::r,b::l,ha,hb=>by
  unfold M.lT;rw[e.may (ha a Zl) (hb b Zl),e.lT (fun c d=>ha c (by simp[d])) (fun c d=>hb c (by simp[d]))]
 |[],_,_,_=>by unfold M.lT;rfl
 |_::_,[],_,_=>by unfold M.lT;rfl
def Md(T:ByteArray->Prop)(f:SMap):Prop:=∀t∈f.locals++f.stack,T t.name
theorem Md.CU{f:SMap}(c:Md T f):sQ T ⟨f.locals,f.stack⟩:=⟨fun b a _=>c b (Ty.2 (.inl a)),fun b a _=>c b (Ty.2 (.inr a))⟩
theorem mf.kN(a:mf p q ρ S){s:nV}{f:SMap}(c:sQ (S k k') s)(b:Md (S k k') f):M.kN q k' s f=M.kN p k s f:=by
 unfold M.kN;rw[a.lT c.1 b.CU.1,a.lT c.2 b.CU.2]
theorem mf.branch(g:mf p q ρ S){m:Method}{a:Int}{s:nV}(h:∀d∈m.maps,Md (S k k') d)(f:sQ (S k k') s):lZ q k' m a s=lZ p k m a s/\∀e,lZ p k m a s=some e->sQ (S k k') e:=by
 unfold lZ;cases b:zV m a with
 |none=>exact⟨rfl,fun _ b=>by cases b⟩
 |some d=>
  simp only[TT];rw[g.kN f (h d (TA b))];refine⟨rfl,fun e c=>?_⟩;split at c
  . cases c;exact f
  . cases c
theorem mf.meet(g:mf p q ρ S){m:Method}{at_:Int}{goes:Bool}{s:nV}(h:∀c∈m.maps,Md (S k k') c)(e:sQ (S k k') s):qa q k' m goes at_ s=qa p k m goes at_ s/\∀b,qa p k m goes at_ s=some b->sQ (S k k') b:=by
 unfold qa;cases f:zV m at_ with
 |none=>
  refine⟨rfl,fun b a=>?_⟩;simp only at a;split at a
  . cases a;exact e
  . cases a
 |some c=>
  have d:=h c (TA f);simp only;rw[g.kN e d];refine⟨rfl,fun b a=>?_⟩;split at a
  . cases a
  . cases a;exact d.CU
theorem mf.QQ(d:mf p q ρ S):∀{l:List Kind} {s:nV},(∀a∈l,S k k' a.name)->sQ (S k k') s->nN q k' l s=nN p k l s/\∀c,nN p k l s=some c->sQ (S k k') c
 |[],s,_,hs=>⟨rfl,fun c b=>by cases b;exact hs⟩
 |a::l,s,ha,hs=>by
  have e:=d.mr (oN.of (ha a Zl)) hs;unfold nN;rw[e.1];cases b:M.mr p k (lN a) s with
  |none=>exact⟨rfl,fun _ b=>by cases b⟩
  |some h=>exact d.QQ (fun f g=>ha f (by simp[g])) (e.2 h b)
structure Bn(T:ByteArray->Prop)(m:Method):Prop where
 ret:T m.ret.name
 args:∀a∈m.args,T a.name
 code:∀i∈m.code,T i.name
 maps:∀f∈m.maps,Md T f
theorem Bn.of(b:m∈c.methods)(a:∀d,Said c d->T d):Bn T m:=
 ⟨a _ (.inr (.inr ⟨m,b,.inl rfl⟩)),fun e g=>a _ (.inr (.inr ⟨m,b,.inr (.inl ⟨e,g,rfl⟩)⟩)),fun k i=>a _ (.inr (.inr ⟨m,b,.inr (.inr (.inl ⟨k,i,rfl⟩))⟩)),
  fun f h l j=>a _ (.inr (.inr ⟨m,b,.inr (.inr (.inr ⟨f,h,l,j,rfl⟩))⟩))⟩
theorem si{d: Type}{P:α->Prop}{R:d->Prop}{x y:Option α}{f g:α->Option d}(c:x=y/\∀a,y=some a->P a)(h:∀a,P a->f a=g a/\∀b,g a=some b->R b):x.bind f=y.bind g/\∀b,y.bind g=some b->R b:=by
 obtain⟨rfl,c⟩:=c;cases x with
 |none=>exact⟨rfl,fun _ e=>by cases e⟩
 |some a=>exact h a (c a rfl)
theorem mf.put(T:ByteArray->Prop){m:Method}{t:Tag}(e:oN T t):∀a:nV,sQ T a->mZ m t a=mZ m t a/\∀b,mZ m t a=some b->sQ T b:=fun _ d=>⟨rfl,fun _ c=>d.put e c⟩
theorem mf.jG(b:mf p q ρ S){m:Method}{i:Ins}{s:nV}(l:Bn (S k k') m)(f:S k k' i.name)(c:sQ (S k k') s):M.jG q k' m i s=M.jG p k m i s/\∀E,M.jG p k m i s=some E->sQ (S k k') E:=by
 have j:=b.get f i.member;have H:=b.call f i.member;unfold M.jG;by_cases n:i.op=1
 . rw[SV n,SV n];exact mf.put _ oN.num s c
 rw[SX n,SX n];by_cases w:i.op=2
 . rw[SV w,SV w];refine⟨rfl,fun E a=>?_⟩;cases F:s.locals[i.a.toNat]? with
   |none=>rw[F]at a;cases a
   |some G=>
    rw[F]at a;simp only[TT]at a;split at a
    . cases a
    . exact c.put (c.1 G (Sy F)) a
 rw[SX w,SX w];by_cases x:i.op=3
 . rw[SV x,SV x];refine⟨rfl,fun E a=>?_⟩;obtain⟨P,N,rfl⟩:=U1.1 a;have:=c.take N;exact⟨fun G L=>(Uw L).elim (this.2.1 G) (fun a=>a▸this.1),this.2.2⟩
 rw[SX x,SX x];by_cases y:i.op=4
 . rw[SV y,SV y];exact si (b.mr oN.num c) fun e d=>si (b.mr oN.num d) (mf.put _ oN.num)
 rw[SX y,SX y];by_cases z:i.op=5
 . rw[SV z,SV z];exact mf.put _ oN.null s c
 rw[SX z,SX z];by_cases A:i.op=6
 . rw[SV A,SV A];exact mf.put _ (oN.cls f) s c
 rw[SX A,SX A];by_cases B:i.op=7
 . rw[SV B,SV B];rw[j.1];split
   . rename_i a;obtain⟨g,-,h⟩:=j.2 a;rw[g];exact si (b.mr (oN.cls f) c) (mf.put _ (oN.of h))
   . exact⟨rfl,fun _ a=>by cases a⟩
 rw[SX B,SX B];by_cases C:i.op=8
 . rw[SV C,SV C];rw[j.1];split
   . rename_i a;obtain⟨g,-,h⟩:=j.2 a;rw[g];exact si (b.mr (oN.of h) c) fun e d=>b.mr (oN.cls f) d
   . exact⟨rfl,fun _ a=>by cases a⟩
 rw[SX C,SX C];by_cases D:i.op=9
 . rw[SV D,SV D];rw[H.1];split
   . rename_i a;obtain⟨g,O,h,J,K⟩:=H.2 a;rw[g,b.method h];have I:=Bn.of J K;exact si (b.QQ (fun e d=>I.args e (List.mem_reverse.1 d)) c) fun e d=>si (b.mr (oN.cls f) d) (mf.put _ (oN.of I.ret))
   . exact⟨rfl,fun _ a=>by cases a⟩
 rw[SX D,SX D];by_cases o:i.op=10
 . rw[SV o,SV o];exact b.mr (oN.of l.ret) c
 rw[SX o,SX o];by_cases r:i.op=11
 . rw[SV r,SV r];exact si (b.mr oN.num c) fun e d=>b.branch l.maps d
 rw[SX r,SX r];by_cases t:i.op=12
 . rw[SV t,SV t];exact si (P:=sQ (S k k')) ⟨rfl,fun e a=>c.obj a⟩ fun e d=>b.branch l.maps d
 rw[SX t,SX t];by_cases u:i.op=13
 . rw[SV u,SV u];exact b.branch l.maps c
 rw[SX u,SX u];by_cases v:i.op=14
 . rw[SV v,SV v];exact b.mr oN.num c
 . rw[SX v,SX v];exact si (P:=sQ (S k k')) ⟨rfl,fun e a=>c.obj a⟩ (mf.put _ (oN.cls f))
theorem mf.lu(a:mf p q ρ S){m:Method}(b:Bn (S k k') m):∀{l:List Ins} {at_:Nat} {goes:Bool} {s:nV} {c:List nV},(∀i∈l,S k k' i.name)->sQ (S k k') s->M.lu q k' m l at_ goes s c=M.lu p k m l at_ goes s c
 |[],_,_,_,_,_,_=>rfl
 | i :: l, at_, goes, s, c, hl, hs => by
  have d:=a.meet (at_:=(at_:Int)) (goes:=goes) b.maps hs;unfold M.lu;rw[d.1];cases g:qa p k m goes at_ s with
  |none=>rfl
  |some f=>
   have e:=a.jG b (hl i Zl) (d.2 f g);simp only;rw[e.1];cases h:M.jG p k m i f with
   |none=>rfl
   |some o=>exact a.lu b (fun n j=>hl n (by simp[j])) (e.2 o h)
theorem mf.look(b:mf p q ρ S){x:p8}{c:Class}(e:cls? p x.of=some c)(j:M.method p x∈c.methods):M.look q (mapM ρ x)=M.look p x:=by
 have f:=(b.own e).2;have d:Bn (S x.of.keeper (ρ x.of).keeper) (M.method p x):=Bn.of j f.1;have k:vG (mapM ρ x) (M.method p x)=vG x (M.method p x):=by unfold vG mapM;rw[b.name]
 have i:sQ (S x.of.keeper (ρ x.of).keeper) (vG x (M.method p x)):=by
  refine⟨fun l a=>?_,fun l a=>by cases a⟩;rcases Ty.1 a with a|a
  . rcases TI.1 a with rfl|a
    . exact oN.cls f.2
    . obtain⟨g,h,rfl⟩:=TM.1 a;exact oN.of (d.args g h)
  . rw[(List.mem_replicate.1 a).2];exact oN.zero
 unfold M.look;rw[b.method e,k,show(mapM ρ x).of.keeper=(ρ x.of).keeper from rfl,b.lu d d.code i]
theorem mf.right(a:mf p q ρ S){x:p8}{c:Class}(b:cls? p x.of=some c)(d:M.method p x∈c.methods):M.right q (mapM ρ x)=M.right p x:=by
 unfold M.right;rw[a.look b d]
theorem mf.kV(b:mf p q ρ S){r:Ref}{c:Class}(d:cls? p r=some c):M.kV q (ρ r)=M.kV p r:=by
 unfold M.kV;have e:M.cls p r=c:=by unfold M.cls;rw[d];rfl
 rw[b.jD d,b.cls d];congr 1;refine all_eq fun a f=>?_;have j:a<c.methods.length:=by rw[e]at f;simpa using f
 have k:method? p ⟨r,a⟩=some c.methods[a]:=by unfold method?;simp[e,j]
 obtain⟨l,g,h,i⟩:=yR k;exact b.right (x:=⟨r,a⟩) g (by rw[i];exact h)
end
theorem zL.link:zL p p9:=⟨⟨by simp[p9,pG],by simp[p9],by simp[p9],by simp[p9],by simp[p9],by simp[p9,jH,ll]⟩,by simp[p9],by simp[p9]⟩
theorem Good.one(b:jD p q=true):Good p ⟨1,[],[fresh p q],[],ll⟩:=by
 have a:Good p ⟨1,[],[],[],ll⟩:=⟨by simp[pG],by simp,by simp,by simp,by simp,by simp[jH,ll]⟩;exact a.grow b Zl
theorem Li(d:jY p=true){lk:Bool}{k:Int}{n m:ByteArray}{args:List Int}(e:args.all nT=true):zL p (start p lk k n m args):=by
 unfold start;split
 . rename_i f;split
   . rename_i c;obtain⟨j,g⟩:=rM c.1;have a:=qx g;have i:(method p (call p k n m).1).args.length=args.length:=by
      have:=c.2;unfold pY at this;simp only[S9,SF]at this;exact this.1
     refine rH.runs (Aa d (Good.one f.2) rfl a ?_ ?_)
     . intro l b;rcases TI.1 b with rfl|b
       . exact wM _ Zm Zl
       . obtain⟨h,a,rfl⟩:=TM.1 b;exact mR _ (Tx.1 e h a)
     . have:=(uC (oC d a).1).args;simp;omega
   . exact zL.link
 . exact zL.link
theorem JV{lk:Bool}{f:Nat}(a:jY p=true)(b:zL p s)(c:f<=400):sN p lk s f=steps p lk f s:=by
 unfold sN;rw[SY Zm,a,EE.2 b];rfl
def sK(ρ:Ref->Ref)(f:Fr):Fr:={f with of:=mapM ρ f.of}
def KM(ρ:Ref->Ref)(o:qi):qi:=⟨ρ o.of,o.fields⟩
def mD(ρ:Ref->Ref)(s:St):St:={s with frames:=s.frames.map (sK ρ),heap:=s.heap.map (KM ρ)}
def Jh(ρ:Ref->Ref)(x:Int×St):Int×St:=(x.1,mD ρ x.2)
section
variable {p q:hZ} {ρ:Ref->Ref} {S:Int->Int->ByteArray->Prop} {s:St} {r:List Fr} {t:Fr}
theorem uj(a:s.frames=r++[t]):(mD ρ s).frames=r.map (sK ρ)++[sK ρ t]:=by simp[mD,a]
theorem xy(a:s.frames=r++[t]){f:Fr->Fr}(b:f (sK ρ t)=sK ρ (f t)):AY (mD ρ s) f=mD ρ (AY s f):=by
 rw[oI (uj a),oI a,b];simp[mD]
theorem LK(c:jM p x=true):∃a,cls? p x.of=some a/\method p x∈a.methods:=by
 obtain⟨-,j,a,k,-,h,i,d⟩:=uy c;obtain⟨b,e,f,g⟩:=yR d;exact⟨b,e,by rw[g];exact f⟩
theorem zm{n:Nat}(b:kW p t n=true):∃a,cls? p t.of.of=some a/\method p t.of∈a.methods:=LK (jk.1 b).1
theorem mf.jump(b:mf p q ρ S)(c:Good p s)(a:s.frames=r++[t])(k:Int):M.jump q k (mD ρ s)=Jh ρ (M.jump p k s):=by
 obtain⟨e,d,-⟩:=zm (c.top a);unfold M.jump Jh;rw[nH (uj a),nH a,show(sK ρ t).of=mapM ρ t.of from rfl,b.method d,xy a (f:=fun f=>{f with pc:=k}) rfl];split<;>rfl
theorem mf.next(b:mf p q ρ S)(c:Good p s)(a:s.frames=r++[t]):M.next q (mD ρ s)=Jh ρ (M.next p s):=by
 unfold M.next;rw[nH (uj a),nH a];exact b.jump c a _
theorem mf.push(e:mf p q ρ S)(d:Good p s)(a:s.frames=r++[t]){v:Val}(h:jH v s.heap.length=true):M.push q v (mD ρ s)=Jh ρ (M.push p v s):=by
 obtain⟨j,g,-⟩:=zm (d.top a);have b:=jk.1 (d.top a);unfold M.push;rw[nH (uj a),nH a,show(sK ρ t).of=mapM ρ t.of from rfl,e.method g,xy a (f:=fun f=>{f with stack:=f.stack++[v]}) rfl,show(sK ρ t).stack=t.stack from rfl];split
 . rfl
 . rename_i k;rw[oI a];refine e.next (r:=r) (t:={t with stack:=t.stack++[v]}) (d.turn a (jk.2 ⟨b.1,b.2.1,b.2.2.1,b.2.2.2.1,by simp;omega,b.2.2.2.2.2.1,?_⟩)) rfl;intro i c;rcases Ty.1 c with c|c
   . exact b.2.2.2.2.2.2 i c
   . simp at c;subst c;exact h
theorem vL(a:s.frames=r++[t])(c:Nat):lH c (mD ρ s)=(lH c s).map fun b=>(b.1,mD ρ b.2):=by
 unfold lH;rw[nH (uj a),nH a,xy a (f:=fun f=>{f with stack:=f.stack.take (f.stack.length - c)}) rfl,show(sK ρ t).stack=t.stack from rfl];split<;>rfl
theorem uY(b:s.frames=r++[t]):pop (mD ρ s)=(pop s).map fun a=>(a.1,mD ρ a.2):=by
 unfold pop;rw[vL b];cases lH 1 s<;>rfl
theorem IP(c:Good p s){a:qi}(d:a∈s.heap):∃b,cls? p a.of=some b:=sj ((lX.1 c.heap).2 a d).1
theorem Jz{n:Int}(h0:0<=n)(c:n<s.heap.length):tH (mD ρ s).heap n=ρ (tH s.heap n)/\∃a∈s.heap,tH s.heap n=a.of:=by
 obtain⟨a,d,e,b,-⟩:=LM (s:=s) h0 c;refine⟨?_,a,e,b⟩;rw[b];unfold tH mD;simp only[Um,d];rfl
theorem mf.Ib(d:mf p q ρ S)(g:Good p s){v:Val}(k:jH v s.heap.length=true)(i:v.kind=2){x:Ref}{c:Class}(l:cls? p x=some c):M.under q (tH (mD ρ s).heap v.n) (ρ x)=M.under p (tH s.heap v.n) x:=by
 obtain⟨e,f⟩:=qM k i;obtain⟨a,n,j,b⟩:=Jz (ρ:=ρ) (s:=s) e f;obtain⟨m,h⟩:=IP g j;rw[a,b];exact d.under h l
theorem mf.hasType(d:mf p q ρ S)(g:Good p s){v:Val}(j:jH v s.heap.length=true){k k':Int}{a:Kind}(h:S k k' a.name):M.hasType q k' (mD ρ s).heap v a=M.hasType p k s.heap v a:=by
 have c:=d.find h;unfold M.hasType;split
 . rfl
 split
 . rfl
 split
 . rfl
 rename_i n o f;by_cases b:(M.find p k a.name).2=1
 . obtain⟨l,m,i⟩:=c.2 b;rw[SY b,SY (c.1.2 b),l,d.Ib g j (by simpa using f) i]
 . rw[RN b,RN (fun e=>b (c.1.1 e))];rfl
theorem mf.lJ(b:mf p q ρ S)(c:Good p s){k k':Int}:∀{vs:List Val} {l:List Kind},(∀v∈vs,jH v s.heap.length=true)->(∀a∈l,S k k' a.name)->M.lJ q k' (mD ρ s).heap vs l=M.lJ p k s.heap vs l
 |v::r,a::l,hv,ha=>by
  unfold M.lJ;rw[b.hasType c (hv v Zl) (ha a Zl),b.lJ c (fun g f=>hv g (by simp[f])) (fun d e=>ha d (by simp[e]))]
 |[],_,_,_=>by unfold M.lJ;rfl
 |_::_,[],_,_=>by unfold M.lJ;rfl
theorem mf.object(b:mf p q ρ S)(d:Good p s){v:Val}(e:jH v s.heap.length=true){x:Ref}{c:Class}(f:cls? p x=some c):M.object q v (ρ x) (mD ρ s)=M.object p v x s:=by
 unfold M.object;split
 . rfl
 split
 . rfl
 rename_i g a;rw[b.Ib d e (by simpa using a) f]
theorem mf.fresh(a:mf p q ρ S){x:Ref}{c:Class}(b:cls? p x=some c):M.fresh q (ρ x)=KM ρ (M.fresh p x):=by
 unfold M.fresh KM;rw[a.layout b,List.map_map];rfl
theorem mf.lW(d:mf p q ρ S)(e:s.frames=r++[t]){n:ByteArray}(f:S t.of.of.keeper (ρ t.of.of).keeper n):(M.lW q n (mD ρ s)).2=(M.lW p n s).2/\((M.lW p n s).2=true->(M.lW q n (mD ρ s)).1=ρ (M.lW p n s).1/\M.jD p (M.lW p n s).1=true):=by
 have c:=d.find f;unfold M.lW;rw[nH (uj e),nH e,show(sK ρ t).of.of.keeper=(ρ t.of.of).keeper from rfl];by_cases b:(M.find p t.of.of.keeper n).2=1
 . obtain⟨h,i,g⟩:=c.2 b;simp only[SY b,SY (c.1.2 b),h,d.jD g,TB];exact⟨trivial,fun a=>⟨trivial,a⟩⟩
 . simp only[RN b,RN (fun a=>b (c.1.1 a)),U3];exact⟨trivial,fun a=>by cases a⟩
theorem GH(n:Int):oV (mD ρ s).heap n=oV s.heap n:=by
 unfold oV mD;simp only[Um];cases s.heap[n.toNat]?<;>rfl
theorem Hz(n a:Int)(v:Val):lM (mD ρ s).heap n a v=(lM s.heap n a v).map (KM ρ):=by
 refine List.ext_getElem? fun b=>?_;simp only[lM,mD,Vp,Um];cases s.heap[b]? with
 |none=>rfl
 |some c=>
  simp only[TN];split<;>rfl
theorem mf.enter(a:mf p q ρ S)(g:Good p s){lk:Bool}{x:p8}{vs:List Val}(k:M.jM p x=true)(j:∀l∈vs,jH l s.heap.length=true):M.enter q lk (mapM ρ x) vs (mD ρ s)=Jh ρ (M.enter p lk x vs s):=by
 obtain⟨m,b,c⟩:=LK k;have d:=(a.own b).2;have i:Bn (S x.of.keeper (ρ x.of).keeper) (M.method p x):=Bn.of c d.1;unfold M.enter;rw[show(mD ρ s).frames.length=s.frames.length by simp[mD],a.right b c,a.method b,show(mapM ρ x).of.keeper=(ρ x.of).keeper from rfl,show(mapM ρ x).of.name=x.of.name from a.name _,
  a.lJ g j (fun e h=>(TI.1 h).elim (fun f=>f▸d.2) (i.args e))]
 split
 . rfl
 split
 . rfl
 split
 . simp[Jh,mD,sK]
 . rfl
theorem mf.jm (d : mf p q ρ S) (o : Good p s) (j : s.frames = r ++ [t]) {lk : Bool} {i : Ins} (hi : nJ (M.method p t.of) i = true) (V : S t.of.of.keeper (ρ t.of.of).keeper i.name) : M.jm q lk i (mD ρ s) = Jh ρ (M.jm p lk i s) := by
 obtain⟨_,i2,i3,i4,i5,_,_⟩:=qX hi;have ht:=jk.1 (o.top j);obtain⟨aa,hc,az⟩:=zm (o.top j);have n:Bn (S t.of.of.keeper (ρ t.of.of).keeper) (M.method p t.of):=Bn.of az (d.own hc).2.1;have W:=d.get V i.member;have ai:=d.call V i.member;have x:∀{m e},pop s=some (m,e)->jH m e.heap.length=true/\Good p e/\e.frames=r++[{t with stack:=t.stack.take (t.stack.length - 1)}]:=fun k=>by
  obtain⟨h,c,g,a4,a5,a6,a7⟩:=JD o j k;exact⟨by rw[a4];exact h,c,g⟩
 have af:∀{aa u e},lH aa s=some (u,e)->(∀m∈u,jH m e.heap.length=true)/\Good p e/\e.frames=r++[{t with stack:=t.stack.take (t.stack.length - aa)}]:=fun k=>by
  obtain⟨h,c,g,a4,a5,-⟩:=uo o j k;exact⟨by rw[a5];exact c,g,a4⟩
 have B:top (mD ρ s)=sK ρ t:=nH (uj j);have U:(sK ρ t).of.of.keeper=(ρ t.of.of).keeper:=rfl;unfold M.jm;by_cases z:i.op=1
 . rw[SV z,SV z];exact d.push o j (mR _ (i4 z))
 rw[SX z,SX z];by_cases A:i.op=2
 . rw[SV A,SV A,B,nH j,show(sK ρ t).locals=t.locals from rfl];split
   . rfl
   . refine d.push o j ?_;have ay:i.a.toNat<t.locals.length:=SK (i2 (.inl A))
     rw[Dj ay];exact ht.2.2.2.2.2.1 _ (UL _)
 rw[SX A,SX A];by_cases L:i.op=3
 . rw[SV L,SV L,uY j];cases k:pop s with
   |none=>rfl
   |some l=>
    obtain⟨m,e⟩:=l;obtain⟨h,c,g⟩:=x k;have y:=jk.1 (c.top g);simp only[TN];rw[xy g (f:=fun f=>{f with locals:=f.locals.set i.a.toNat m}) rfl,oI g];refine d.next (r:=r) (c.turn g (jk.2 ⟨y.1,y.2.1,y.2.2.1,by simp;exact ht.2.2.2.1,y.2.2.2.2.1,?_,y.2.2.2.2.2.2⟩)) rfl;intro ah hu;rcases Uw hu with hu|rfl
    . exact y.2.2.2.2.2.1 ah hu
    . exact h
 rw[SX L,SX L];by_cases N:i.op=4
 . rw [SV N, SV N, vL j]; cases k : lH 2 s with
   |none=>rfl
   | some l =>
    obtain⟨u,e⟩:=l;obtain⟨h,c,g⟩:=af k;simp only[TN];match u with
    |[]=>rfl
    |[_]=>rfl
    |_::_::_::_=>rfl
    | [a, b] =>
     simp only;split
     . split
       . rename_i n;exact d.push c g (mR _ n)
       . rfl
     . rfl
 rw[SX N,SX N];by_cases O:i.op=5
 . rw[SV O,SV O];exact d.push o j (xQ _)
 rw[SX O,SX O];by_cases P:i.op=6
 . have w := d.lW (s := s) j V; rw [SV P, SV P, w.1, show (mD ρ s).heap.length = s.heap.length by simp [mD]]; split
   . rename_i ag;obtain⟨k1,Z⟩:=w.2 ag;obtain⟨F,D⟩:=sj Z;split
     . rfl
     . rename_i aC;rw[k1];have ae:create q (ρ (M.lW p i.name s).1) (mD ρ s)=((create p (M.lW p i.name s).1 s).1,mD ρ (create p (M.lW p i.name s).1 s).2):=by
        unfold create;rw[d.fresh D];simp[mD]
       rw[ae];exact d.push (r:=r) (t:=t) (o.grow Z Zm) j (wM _ Zl Zr)
   . rfl
 rw[SX P,SX P];by_cases Q:i.op=7
 . rw [SV Q, SV Q, B, nH j, U, W.1]; split
   . rename_i X;obtain⟨C,⟨F,v,-⟩,-⟩:=W.2 X;rw[C,uY j];cases k:pop s with
     |none=>rfl
     |some l=>
      obtain⟨m,e⟩:=l;obtain⟨h,c,g⟩:=x k;simp only[TN];rw[show(yo ρ (M.get p t.of.of.keeper i.name i.member).1).of=ρ (M.get p t.of.of.keeper i.name i.member).1.of from rfl,d.object c h v,GH];split
      . rename_i Y;obtain⟨_,_,_,E,b1,b2,b3,b4⟩:=vE c X h Y;refine d.push c g ?_;rw[b3,show(yo ρ (M.get p t.of.of.keeper i.name i.member).1).at_=(M.get p t.of.of.keeper i.name i.member).1.at_ from rfl,Dj b4];exact((lX.1 c.heap).2 E b2).2.2 _ (UL _)
      . rfl
   . rfl
 rw[SX Q,SX Q];by_cases R:i.op=8
 . rw [SV R, SV R, B, nH j, U, W.1]; split
   . rename_i X;obtain⟨C,⟨F,v,g3⟩,-⟩:=W.2 X;rw[C,vL j];cases k:lH 2 s with
     |none=>rfl
     | some l =>
      obtain⟨u,e⟩:=l;obtain⟨h,c,g⟩:=af k;simp only[TN];match u,h with
      |[],_=>rfl
      |[_],_=>rfl
      |_::_::_::_,_=>rfl
      | [E, m], h =>
       simp only;rw[show(yo ρ (M.get p t.of.of.keeper i.name i.member).1).of=ρ (M.get p t.of.of.keeper i.name i.member).1.of from rfl,show(yo ρ (M.get p t.of.of.keeper i.name i.member).1).kind=(M.get p t.of.of.keeper i.name i.member).1.kind from rfl,
        d.hasType c (h m Zl) ((d.own v).2.1 _ g3),d.object c (h E Zl) v,Hz]
       split
       . split
         . exact d.next (r:=r) (c.set (h m Zl)) g
         . rfl
       . rfl
   . rfl
 rw[SX R,SX R];by_cases T:i.op=9
 . rw [SV T, SV T, B, nH j, U, ai.1]; split
   . rename_i ak;obtain⟨C,F,v,g3,g4⟩:=ai.2 ak;rw[C,d.method v,vL j];cases k:lH ((M.method p (M.call p t.of.of.keeper i.name i.member).1).args.length+1) s with
     |none=>rfl
     | some l =>
      obtain⟨u,e⟩:=l;obtain⟨h,c,g⟩:=af k;simp only[TN];have hh:jH (u.headD ll) e.heap.length=true:=by
       cases u with
       |nil=>exact ES _
       |cons ah aD=>exact h ah Zl
      rw[show(mapM ρ (M.call p t.of.of.keeper i.name i.member).1).of=ρ (M.call p t.of.of.keeper i.name i.member).1.of from rfl,d.object c hh v];split
      . rename_i Y;obtain⟨o1,o2⟩:=tF Y;obtain⟨v1,v2⟩:=qM hh o1;obtain⟨f1,E,aA,f2⟩:=Jz (ρ:=ρ) (s:=e) v1 v2;obtain⟨dd,au⟩:=IP c aA;rw[f1,f2,d.pick au];cases hx:M.pick p E.of i.member with
        |none=>rfl
        |some l=>exact d.enter c (qx hx) h
      . rfl
   . rfl
 rw[SX T,SX T];by_cases G:i.op=10
 . rw [SV G, SV G, B, nH j, U, uY j]; cases k : pop s with
   |none=>rfl
   |some l=>
    obtain⟨m,e⟩:=l;obtain⟨h,c,g⟩:=x k;simp only[TN];rw[show(sK ρ t).of=mapM ρ t.of from rfl,d.method hc,d.hasType c h n.ret,show(mD ρ e).frames.length=e.frames.length by simp[mD]];split
    . split
      . rfl
      . rename_i aj;have hr:r≠[]:=by
         rintro rfl;rw[g]at aj;simp at aj
        obtain⟨r',t',rfl⟩:∃r' t',r=r'++[t']:=⟨r.dropLast,r.getLast hr,(UE hr).symm⟩;have D:e.frames.dropLast=r'++[t']:=by rw[g];simp
        have ae:({mD ρ e with frames:=(mD ρ e).frames.dropLast}:St)=mD ρ {e with frames:=e.frames.dropLast}:=by simp[mD,List.map_dropLast]
        rw[ae];refine d.push (s:={e with frames:=e.frames.dropLast}) (r:=r') (t:=t') ⟨c.heap,?_,?_,c.outs,c.rO,c.back⟩ D h
        . intro f j;exact c.frames f (List.dropLast_subset _ j)
        . have:=c.nf;simp only[List.length_dropLast];omega
    . rfl
 rw[SX G,SX G];by_cases H:i.op=11
 . rw [SV H, SV H, uY j]; cases k : pop s with
   |none=>rfl
   |some l=>
    obtain⟨m,e⟩:=l;obtain⟨h,c,g⟩:=x k;simp only[TN];split
    . split
      . exact d.jump c g _
      . exact d.next c g
    . rfl
 rw[SX H,SX H];by_cases I:i.op=12
 . rw [SV I, SV I, uY j]; cases k : pop s with
   |none=>rfl
   |some l=>
    obtain⟨m,e⟩:=l;obtain⟨h,c,g⟩:=x k;simp only[TN];split
    . split
      . exact d.jump c g _
      . exact d.next c g
    . rfl
 rw[SX I,SX I];by_cases J:i.op=13
 . rw[SV J,SV J];exact d.jump o j _
 rw[SX J,SX J];by_cases K:i.op=14
 . rw [SV K, SV K, uY j]; cases k : pop s with
   |none=>rfl
   |some l=>
    obtain⟨m,e⟩:=l;obtain⟨h,c,g⟩:=x k;simp only[TN];rw[show(mD ρ e).outs=e.outs from rfl];split
    . rename_i w;split
      . rename_i Y;refine d.next (r:=r) (s:={e with outs:=e.outs++[m.n]}) ⟨c.heap,c.frames,c.nf,by simp;omega,?_,c.back⟩ g;intro aB n;rcases Ty.1 n with n|n
        . exact c.rO aB n
        . simp at n;subst n;have:=wN h w;unfold nT;simp;omega
      . exact d.next c g
    . rfl
 rw[SX K,SX K,uY j];cases k:pop s with
 |none=>rfl
 | some l =>
  obtain⟨m,e⟩:=l;obtain⟨h,c,g⟩:=x k;simp only[TN];have w:=d.lW (s:=e) g V;rw[w.1];split
  . split
    . exact d.push c g h
    . split
      . rename_i av ax ag;obtain⟨k1,Z⟩:=w.2 ag;obtain⟨F,D⟩:=sj Z;rw[k1,d.Ib c h (av.resolve_right ax) D];split
        . exact d.push c g h
        . rfl
      . rfl
  . rfl
theorem Jg(c:Int):end_ c (mD ρ s)=mD ρ (end_ c s):=by
 unfold end_;split<;>rfl
theorem mf.step(b:mf p q ρ S)(j:jY p=true)(hR:zL p s)(lk:Bool):M.step q lk (mD ρ s)=mD ρ (M.step p lk s):=by
 unfold M.step;rw[show(mD ρ s).status=s.status from rfl];by_cases a:s.status=1
 . rw[SV a,SV a];obtain⟨r,t,l,c,k,e,g⟩:=JP j hR a;obtain⟨m,d,h⟩:=zm k;have i:Bn (S t.of.of.keeper (ρ t.of.of).keeper) (M.method p t.of):=Bn.of h (b.own d).2.1;have f:stepped q lk (mD ρ s)=Jh ρ (stepped p lk s):=by
    unfold stepped;rw[nH (uj c),nH c,show(sK ρ t).of=mapM ρ t.of from rfl,b.method d,show(sK ρ t).pc=t.pc from rfl,e];exact b.jm hR.good c g (i.code l (Sy e))
   rw[f];exact Jg _
 . rw[SX a,SX a]
theorem mf.steps(b:mf p q ρ S)(a:jY p=true)(lk:Bool):∀(f:Nat) {s:St},zL p s->M.steps q lk f (mD ρ s)=mD ρ (M.steps p lk f s)
 |0,_,_=>rfl
 |f+1,s,hR=>by
  unfold M.steps;rw[show(mD ρ s).status=s.status from rfl];split
  . rw[b.step a hR lk];exact b.steps a lk f (Gq a hR lk)
  . rfl
theorem mf.start(b:mf p q ρ S){k k':Int}{n:ByteArray}(h:S k k' n)(lk:Bool)(m:ByteArray){args:List Int}(s:args.all nT=true):M.start q lk k' n m args=mD ρ (M.start p lk k n m args):=by
 have f:=b.find h;have i:=b.call h m;unfold M.start;by_cases c:(M.find p k n).2=1
 . obtain ⟨v, y, j⟩ := f.2 c; rw [v, b.jD j]; by_cases d : M.jD p (M.find p k n).1 = true
   . rw [SV (show (M.find q k' n).2 = 1 /\ M.jD p (M.find p k n).1 = true from ⟨f.1.2 c, d⟩), SV (show (M.find p k n).2 = 1 /\ M.jD p (M.find p k n).1 = true from ⟨c, d⟩), i.1]; by_cases e : (M.call p k n m).2 = 1
     . obtain⟨w,z,x,A,B⟩:=i.2 e;rw[w,b.method x,b.fresh j];split
       . obtain⟨r,u⟩:=rM e;have a:=b.enter (s:=⟨1,[],[M.fresh p (M.find p k n).1],[],ll⟩) (Good.one d) (lk:=lk) (qx u) (vs:=⟨2,0⟩::args.map mg) (fun C g=>by
          rcases TI.1 g with rfl|g
          . exact wM _ Zl Zl
          . obtain⟨l,t,rfl⟩:=TM.1 g;exact mR _ (Tx.1 s l t))
         have o:mD ρ ⟨1,[],[M.fresh p (M.find p k n).1],[],ll⟩=⟨1,[],[KM ρ (M.fresh p (M.find p k n).1)],[],ll⟩:=rfl;rw[o]at a;rw[a];exact Jg _
       . rfl
     . rw[SX (fun a=>e a.1),SX (fun a=>e a.1)];rfl
   . rw[SX (fun a=>d a.2),SX (fun a=>d a.2)];rfl
 . rw[SX (fun a=>c (f.1.1 a.1)),SX (fun a=>c a.1)];rfl
end
open Go Tryz M
def xV(h h':List qi):Prop:=h.length<=h'.length/\h'.length<=h.length+1/\∀(k:Nat) (o:qi),h[k]?=some o->∃o',h'[k]?=some o'/\o'.of=o.of/\o'.fields.length=o.fields.length
def LB(o o':List Int):Prop:=o'=o\/∃k,o'=o++[k]
def Gs(f f':List Fr):Prop:=∃r t,f=r++[t]/\((∃t',f'=r++[t'])\/(∃t' x,f'=r++[t',x])\/(∃r0 c c',r=r0++[c]/\f'=r0++[c']))
structure uE(op:Int)(s:St)(x:Int×St):Prop where
 heap:xV s.heap x.2.heap
 outs:LB s.outs x.2.outs
 frames:x.1=1->Gs s.frames x.2.frames
 deep:x.1=7->8<=s.frames.length
 room:x.1=8->12<=s.heap.length
 null:x.1=3->op=7\/op=8\/op=9
 link:x.1=4->op=6\/op=7\/op=8\/op=9\/op=15
 cast:x.1=6->op=15
 big:x.1=9->op=4
 done:x.1=2->op=10
theorem uE.of{op:Int}{a: St}{n:Int}(j:xV s.heap a.heap)(k:LB s.outs a.outs)(b:n=1->Gs s.frames a.frames)(g:n=7->8<=s.frames.length)(h:n=8->12<=s.heap.length)(d:n=3->op=7\/op=8\/op=9)(e:n=4->op=6\/op=7\/op=8\/op=9\/op=15) (f:n=6->op=15) (i:n=9->op=4) (c:n=2->op=10):uE op s (n,a):=⟨j,k,b,g,h,d,e,f,i,c⟩
theorem xV.refl(a:List qi):xV a a:=⟨Tz _,Vo _,fun _ c b=>⟨c,b,rfl,rfl⟩⟩
theorem xV.snoc(a:List qi)(x:qi):xV a (a++[x]):=⟨by simp,by simp,fun d c b=>⟨c,by rw[Tn (Tv.1 b).1];exact b,rfl,rfl⟩⟩
theorem xV.set(d:List qi)(n a:Int)(v:Val):xV d (lM d n a v):=by
 refine⟨by simp[lM],by simp[lM],fun f b e=>?_⟩;unfold lM;rw[Vp,e];by_cases c:n.toNat=f
 . exact⟨{b with fields:=b.fields.set a.toNat v},by simp[c],rfl,by simp⟩
 . exact⟨b,by simp[c],rfl,rfl⟩
section
variable {p:hZ} {s s1:St} {r:List Fr} {t t1:Fr} {op:Int}
structure Mid(s s1:St)(r:List Fr):Prop where
 fr:∃t,s.frames=r++[t]
 Sb:∃t,s1.frames=r++[t]
 heap:xV s.heap s1.heap
 outs:LB s.outs s1.outs
theorem Mid.refl(a:s.frames=r++[t]):Mid s s r:=⟨⟨_,a⟩,⟨_,a⟩,xV.refl _,.inl rfl⟩
theorem Mid.bad(b:Mid s s1 r)(k:xV s.heap s1.heap){n:Int}(c:n≠1)(h:n≠7)(i:n=8->12<=s.heap.length)(e:n=3->op=7\/op=8\/op=9)(f:n=4->op=6\/op=7\/op=8\/op=9\/op=15)(g:n=6->op=15) (j:n=9->op=4) (d:n=2->op=10):uE op s (n,s1):=
 uE.of k b.outs (fun a=>absurd a c) (fun a=>absurd a h) i e f g j d
theorem Mid.ten(b:Mid s s1 r):uE op s (10,s1):=
 uE.of b.heap b.outs (fun a=>absurd a Zn) (fun a=>absurd a Zn) (fun a=>absurd a Zn) (fun a=>absurd a Zn) (fun a=>absurd a Zn) (fun a=>absurd a Zn) (fun a=>absurd a Zn) (fun a=>absurd a Zn)
theorem Mid.one(c:xV s.heap b.heap)(d:LB s.outs b.outs)(e:Gs s.frames b.frames):uE op s (1,b):=
 uE.of c d (fun _=>e) (fun a=>absurd a Zn) (fun a=>absurd a Zn) (fun a=>absurd a Zn) (fun a=>absurd a Zn) (fun a=>absurd a Zn) (fun a=>absurd a Zn) (fun a=>absurd a Zn)
theorem Mid.jump(a:Mid s s1 r)(k:Int):uE op s (jump p k s1):=by
 unfold M.jump;split
 . exact a.ten
 . obtain⟨t,b⟩:=a.fr;obtain⟨t1,c⟩:=a.Sb;rw[oI c];exact Mid.one a.heap a.outs ⟨r,t,b,.inl ⟨_,rfl⟩⟩
theorem Mid.next(a:Mid s s1 r):uE op s (next p s1):=a.jump _
theorem Mid.turn(a:Mid s s1 r)(f:Fr->Fr):Mid s (AY s1 f) r:=by
 obtain⟨t1,b⟩:=a.Sb;rw[oI b];exact⟨a.fr,⟨_,rfl⟩,a.heap,a.outs⟩
theorem Mid.push(a:Mid s s1 r)(v:Val):uE op s (push p v s1):=by
 unfold M.push;split
 . exact a.ten
 . exact(a.turn _).next
theorem Mid.lH{c:Nat}{vs:List Val}(a:Mid s s1 r)(d:lH c s1=some (vs,b)):Mid s b r:=by
 obtain⟨t1,e⟩:=a.Sb;obtain⟨-,-,-,rfl⟩:=rU e d;exact⟨a.fr,⟨_,rfl⟩,a.heap,a.outs⟩
theorem Mid.pop(c:Mid s s1 r)(a:pop s1=some (v,b)):Mid s b r:=by
 unfold M.pop at a;rw[U1]at a;obtain⟨⟨g,f⟩,d,e⟩:=a;cases e;exact c.lH d
theorem Mid.enter(b:Mid s s1 r)(hl:s1.frames.length=s.frames.length){lk:Bool}{x:p8}{vs:List Val}:uE op s (enter p lk x vs s1):=by
 unfold M.enter;split
 . rename_i e;exact uE.of b.heap b.outs (fun a=>absurd a Zn) (fun _=>Zm) (fun a=>absurd a Zn) (fun a=>absurd a Zn) (fun a=>absurd a Zn) (fun a=>absurd a Zn) (fun a=>absurd a Zn) (fun a=>absurd a Zn)
 . split
   . exact uE.of b.heap b.outs (fun a=>absurd a Zn) (fun a=>absurd a Zn) (fun a=>absurd a Zn) (fun a=>absurd a Zn) (fun a=>absurd a Zn) (fun a=>absurd a Zn) (fun a=>absurd a Zn) (fun a=>absurd a Zn)
   . split
     . obtain⟨t,c⟩:=b.fr;obtain⟨t1,d⟩:=b.Sb;exact Mid.one b.heap b.outs ⟨r,t,c,.inr (.inl ⟨t1,_,by rw[d,Te];rfl⟩)⟩
     . exact b.ten
theorem Mid.len(a:Mid s s1 r):s1.frames.length=s.frames.length:=by
 obtain⟨t,b⟩:=a.fr;obtain⟨t1,c⟩:=a.Sb;rw[b,c];simp
theorem Mid.obj(b:Mid s s1 r){v:Val}{q:Ref}(c:object p v q s1≠1)(d:op=7\/op=8\/op=9):uE op s (object p v q s1,s1):=by
 have : object p v q s1 = 3 \/ object p v q s1 = 10 \/ object p v q s1 = 1 := by
  unfold object;split
  . exact .inl rfl
  . split
    . exact .inr (.inl rfl)
    . split
      . exact .inr (.inr rfl)
      . exact .inr (.inl rfl)
 rcases this with a|a|a
 . rw[a];exact b.bad b.heap Zn Zn (fun a=>absurd a Zn) (fun _=>d) (fun a=>absurd a Zn) (fun a=>absurd a Zn) (fun a=>absurd a Zn) (fun a=>absurd a Zn)
 . rw[a];exact b.ten
 . exact absurd a c
theorem Mid.four(b:Mid s s1 r)(c:op=6\/op=7\/op=8\/op=9\/op=15):uE op s (4,s1):=
 b.bad b.heap Zn Zn (fun a=>absurd a Zn) (fun a=>absurd a Zn) (fun _=>c) (fun a=>absurd a Zn) (fun a=>absurd a Zn) (fun a=>absurd a Zn)
end
theorem CR{m: ByteArray}{args:List Int}:(∀b,nY p b k n m args=Fa)\/(jY p=true/\∀b,nY p b k n m args=start p b k n m args/\zL p (nY p b k n m args)):=by
 unfold nY;by_cases a:(jY p&&has p k&&jf n&&jf m&&args.all nT)=true
 . right;simp only[S9]at a;refine⟨a.1.1.1.1,fun b=>?_⟩;rw[a.1.1.1.1,a.1.1.1.2,a.1.1.2,a.1.2,a.2];exact⟨rfl,Li a.1.1.1.1 a.2⟩
 . left;intro b;rw[SX a]
end Go.Proofs.YtenhnldnpdlniaaGreat.M
namespace Go.Proofs.YtenhnldnpdlniaaGreat.M
variable {l n x: ByteArray}{k: Int}{α: Type}{p: hZ}
section
variable {p q:hZ} {ρ:Ref->Ref} {S:Int->Int->ByteArray->Prop}
theorem vM{p:hZ}{r:Ref}:r∈classes p↔(∃b,cls? p r=some b)/\0<(chain p r).length:=by
 unfold classes;simp only[List.mem_flatMap,List.mem_filter,UY,SF];constructor
 . rintro⟨f,g,c,d⟩;refine⟨?_,d⟩;rw[Dj g]at c;simp only[TN,U7,TM]at c;obtain⟨b,a,rfl⟩:=c;have i:lF p (f:Int)=some p[f]:=by unfold lF;simp[g]
   unfold cls?;rw[i,TT];cases j:p[f].owns.find? (fun m=>decide (m.name=b.name))with
   |none=>exact absurd (List.find?_eq_none.1 j b a) Zl
   |some h=>exact⟨h,rfl⟩
 . rintro⟨⟨b,a⟩,d⟩;obtain⟨l,n⟩:=Dc a;have k:=Dw a;unfold cls? lF at a;rw[SV l]at a;have e:r.keeper.toNat<p.length:=Zm
   rw[Dj e,TT]at a;refine⟨r.keeper.toNat,e,?_,d⟩;rw[Dj e];simp only[TN,U7,TM];exact⟨b,TA a,Ref.nW.2 ⟨by simp only;omega,k⟩⟩
theorem mf.l9(c:mf p q ρ S)(j:jY q=jY p)(o:∀a b,cls? q a=some b->0<(M.chain q a).length->(∃f g,cls? p f=some g/\ρ f=a)\/M.kV q a=true):M.l9 q=M.l9 p:=by
 unfold M.l9;rw[j];congr 1;refine Ud.2 ?_;rw[Tx,Tx];constructor
 . intro l f m;obtain⟨⟨b,e⟩,d⟩:=vM.1 m;rw[<-c.kV e];refine l _ (vM.2 ⟨⟨b,(c.own e).1⟩,?_⟩);rw[c.chain e,Uu];exact d
 . intro k a n;obtain⟨⟨b,e⟩,d⟩:=vM.1 n;rcases o a b e d with⟨f,g,h,rfl⟩|i
   . rw[c.kV h];refine k _ (vM.2 ⟨⟨g,h⟩,?_⟩);rw[c.chain h,Uu]at d;exact d
   . exact i
end
section
variable {a b c:kC}
theorem KC{x:kC}(a:lF p k=some x):x∈p:=by
 unfold lF at a;split at a
 . exact Sy a
 . cases a
end
def yC(p:hZ)(x:ByteArray):Prop:=∀k∈p,(∀a∈k.asks,a.name≠x)/\∀c∈k.owns,c.name≠x/\∀n,Said c n->n≠x
def bare(x:ByteArray):Class:=⟨x,none_,[],[]⟩
def nD(r:hZ)(l:kC)(x:ByteArray):hZ:=r++[⟨l.owns++[bare x],l.asks⟩]
section
variable {r:hZ} {l:kC} {x:ByteArray}
theorem Bf(k:Int):lF (nD r l x) k=lF (r++[l]) k\/(lF (r++[l]) k=some l/\lF (nD r l x) k=some ⟨l.owns++[bare x],l.asks⟩):=by
 unfold lF nD;by_cases a:0<=k
 . rw[SV a,SV a];by_cases b:k.toNat<r.length
   . left;rw[Tn b,Tn b]
   . by_cases c:k.toNat=r.length
     . right;rw[c];simp
     . left;rw[TS Zr,TS Zr]
 . left;rw[SX a,SX a]
theorem Ce(f:n≠x):cls? (nD r l x) ⟨k,n⟩=cls? (r++[l]) ⟨k,n⟩:=by
 unfold cls?;rcases Bf (r:=r) (l:=l) (x:=x) k with c|⟨d,e⟩
 . rw[c]
 . rw[d,e,TT,TT];simp only;rw[VO];have:[bare x].find? (fun a=>decide (a.name=n))=none:=by
    simp only[List.find?_cons,List.find?_nil,bare];rw[RN (fun b=>f b.symm)]
   rw[this,Option.or_none]
theorem NH(k:Int)(n:ByteArray):ym (nD r l x) k n=ym (r++[l]) k n:=by
 unfold ym;rcases Bf (r:=r) (l:=l) (x:=x) k with a|⟨b,c⟩
 . rw[a]
 . rw[b,c];rfl
theorem zJ(k:Int):has (nD r l x) k=has (r++[l]) k:=by
 unfold has nD;simp
theorem EX(b:n≠x):∀(f:Nat) (a:List Int) (k:Int),ou (nD r l x) n f a k=ou (r++[l]) n f a k
 |0,_,_=>rfl
 |f+1,a,k=>by
  unfold ou;rw[NH];have:owned (nD r l x) ⟨k,n⟩=owned (r++[l]) ⟨k,n⟩:=by unfold owned;rw[Ce b]
  rw[this];cases ym (r++[l]) k n with
  |none=>rfl
  |some c=>simp only;rw[EX b f]
theorem FK(a:n≠x)(k:Int):resolve (nD r l x) k n=resolve (r++[l]) k n:=by
 unfold resolve path;rw[zJ,EX a]
theorem Gz{f:Ref}{c:Class}(a:cls? p f=some c):∃d∈p,c∈d.owns:=by
 unfold cls? at a;cases b:lF p f.keeper with
 |none=>rw[b]at a;cases a
 |some e=>
  rw[b,TT]at a;exact⟨e,KC b,TA a⟩
theorem Cf(j:yC (r++[l]) x):mf (r++[l]) (nD r l x) id (fun a n e=>n=a/\e≠x):=by
 refine⟨fun⟨b,_⟩=>?_,fun⟨b,d⟩=>?_,fun{k f} c=>?_,fun⟨b,_⟩ _ _ _ k _ f c e d=>?_,fun _=>rfl,fun _ _ m=>m⟩
 . rw[b];exact zJ _
 . rw[b,FK d];exact⟨Iff.rfl,fun _=>rfl⟩
 . obtain⟨a,g,h⟩:=Gz c;have i:=((j a g).2 f h).1;rw[Dw c]at i;exact⟨by rw[id,Ce i];exact c,fun e d=>⟨rfl,((j a g).2 f h).2 e d⟩,rfl,i⟩
 . obtain⟨a,g,h⟩:=Gz c;exact⟨b,((j a g).2 f h).2 e d⟩
theorem DF{a:α->ByteArray}{ok:α->Bool}{y:α}(e:ok y=true):∀{s:List α} {seen:List ByteArray},(∀z∈s,a z≠a y)->(∀b∈seen,b≠a y)->jw a ok (s++[y]) seen=jw a ok s seen
 |[],seen,_,h=>by
  simp only[Ti];unfold jw;have:(seen.any fun z=>decide (z=a y))=false:=by rw[VD];intro b c;simpa using h b c
  rw[e,this];rfl
 |z::s,seen,h1,h2=>by
  rw[Td];unfold jw;rw[DF e (fun g f=>h1 g (by simp[f])) fun b c=>(Ty.1 c).elim (h2 b) fun d=>by simp only[TU]at d;rw[d];exact h1 z Zl]
theorem EW(j:yC (r++[l]) x)(k:jf x=true)(m:l.owns.length<5):jY (nD r l x)=jY (r++[l]):=by
 have d:(nD r l x).length=(r++[l]).length:=by unfold nD;simp
 have e:∀a,jC (nD r l x) a=jC (r++[l]) a:=fun a=>by
  unfold jC;rw[show has (nD r l x)=has (r++[l])from funext zJ]
 have f:jC (r++[l]) ⟨l.owns++[bare x],l.asks⟩=jC (r++[l]) l:=by
  unfold jC;rw[show(jw Class.name mY (l.owns++[bare x]) [])=jw Class.name mY l.owns []from DF (by unfold mY bare;simp[k,jw]) (fun c i=>((j l Zl).2 c i).1) Zl];have g:decide ((l.owns++[bare x]).length<=5)=true:=by simp;omega
  have h:decide (l.owns.length<=5)=true:=by simp;omega
  simp only[g,h]
 unfold jY;rw[d,show(nD r l x).all (jC (nD r l x))=(r++[l]).all (jC (r++[l]))from ?_];unfold nD;rw[V5,V5,List.all_cons,List.all_cons,List.all_nil];have b:(jC (nD r l x))=jC (r++[l]):=funext e;unfold nD at b;rw[b,f,List.all_nil]
theorem JW(f:yC (r++[l]) x)(s:jf x=true)(q:l.owns.length<5):l9 (nD r l x)=l9 (r++[l]):=by
 refine(Cf f).l9 (EW f s q) fun a e b g=>?_;by_cases i:a.name=x
 . right;have h:e=bare x\/e.name≠x:=by
    obtain⟨j,c,d⟩:=Gz b;rcases Ty.1 c with c|c
    . exact .inr ((f j (by simp[c])).2 e d).1
    . simp only[TU]at c;subst c;rcases Ty.1 d with d|d
      . exact .inr ((f l Zl).2 e d).1
      . exact .inl (by simpa using d)
   rcases h with rfl|h
   . have k:cls (nD r l x) a=bare x:=by unfold cls;rw[b];rfl
     have m:je (nD r l x) a=none_:=by unfold je;rw[b];rfl
     have n:om (nD r l x) a=some [a]:=by unfold om jN;rw[SV m]
     have o:chain (nD r l x) a=[a]:=by
      unfold chain at g |-;split
      . rw[n];rfl
      . rename_i p;rw[SX p]at g;simp at g
     unfold kV jD;rw[k,o];simp[bare,kM]
   . exact absurd ((Dw b).trans i) h
 . left;obtain⟨j,t⟩:=a;rw[Ce i]at b;exact⟨_,e,b,rfl⟩
theorem Hj(s:St):mD id s=s:=by
 obtain⟨f,b,c,i,g,h⟩:=s;simp only[mD];have d:b.map (sK id)=b:=by rw[show(sK id:Fr->Fr)=id from funext fun a=>by cases a;rfl];simp
 have e:c.map (KM id)=c:=by rw[show(KM id:qi->qi)=id from funext fun a=>by cases a;rfl];simp
 rw[d,e]
theorem zK(b:yC (r++[l]) x)(e:jf x=true)(d:l.owns.length<5)(lk:Bool){n:ByteArray}(c:n≠x)(m:ByteArray)(args:List Int):nY (nD r l x) lk 0 n m args=nY (r++[l]) lk 0 n m args:=by
 unfold nY;rw[EW b e d,zJ];split
 . rename_i a;simp only[S9]at a;have:=(Cf b).start (k:=0) (k':=0) ⟨rfl,c⟩ lk m a.2;rw[Hj]at this;exact this
 . rfl
theorem NI(a:yC (r++[l]) x)(c:jf x=true)(b:l.owns.length<5)(lk:Bool){n:ByteArray}(h:n≠x)(m:ByteArray)(args:List Int){f:Nat}(o:f<=400):sN (nD r l x) lk (nY (nD r l x) lk 0 n m args) f=sN (r++[l]) lk (nY (r++[l]) lk 0 n m args) f:=by
 rw[zK a c b lk h];rcases CR (p:=r++[l]) (k:=0) (n:=n) (m:=m) (args:=args)with d|⟨i,d⟩
 . rw[d lk];have j:∀p:hZ,sN p lk Fa f=Fa:=fun p=>by unfold sN;rw[show Cb p Fa=false from by simp[Cb,Fa]];simp
   rw[j,j]
 . obtain⟨-,g⟩:=d lk;have s:jY (nD r l x)=true:=(EW a c b).trans i;have q:zL (nD r l x) (nY (r++[l]) lk 0 n m args):=by
    rcases CR (p:=nD r l x) (k:=0) (n:=n) (m:=m) (args:=args)with e|⟨-,e⟩
    . have k:=congrArg St.status (e lk);rw[zK a c b lk h]at k;have t:(nY (r++[l]) lk 0 n m args).status=0:=k;have:=g.st;omega
    . have:=(e lk).2;rw[zK a c b lk h]at this;exact this
   rw[JV i g o,JV s q o];have:=(Cf a).steps i lk f g;rw[Hj,Hj]at this;exact this
end
open Go Tryz M
def og(k:Kind):ByteArray:=if kY k then if k.kind=1 then⟨#[35]⟩else k.name else none_
def qL(t:Tag):ByteArray:=if oZ t then if t.kind=0 then⟨#[63]⟩else if t.kind=1 then⟨#[35]⟩else if t.kind=3 then⟨#[33]⟩else t.name else none_
def o9(l:List Tag):ByteArray:=l.foldl (fun s t=>s++Fe++qL t) none_
abbrev G5:ByteArray:=⟨#[109,101,116,104,111,100,32]⟩
abbrev OQ:ByteArray:=⟨#[102,114,97,109,101,32]⟩
abbrev OO:ByteArray:=⟨#[99,108,97,115,115,32]⟩
abbrev OP:ByteArray:=⟨#[102,105,101,108,100,32]⟩
abbrev QU:ByteArray:=⟨#[97,115,107,115,32]⟩
abbrev Sg:ByteArray:=⟨#[32,47]⟩
def tY(s:ByteArray)(l:List Kind):ByteArray:=l.foldl (fun s k=>s++Fe++og k) s
def tQ(m:Method):ByteArray:=G5++m.name++Fe++qV m.locals++Fe++qV m.stack++Fe++og m.ret
def vN(m:Method):ByteArray:=tY (tQ m) m.args
def vK(f:SMap):ByteArray:=OQ++qV f.at_++o9 f.locals++Sg++o9 f.stack
def qF(m:Method):List ByteArray:=[vN m]++m.maps.map vK++m.code.map lY
def rW(s:ByteArray):ByteArray:=if s=none_ then dash else s
def tN(c:Class):ByteArray:=OO++c.name++Fe++rW c.je
def qD(f:Field):ByteArray:=OP++f.name++Fe++og f.kind
def qB(c:Class):List ByteArray:=[tN c]++c.fields.map qD++c.methods.flatMap qF
def tL(a:Ask):ByteArray:=QU++a.name++Fe++qV a.keeper
def sG(k:kC):List ByteArray:=[j6]++k.asks.map tL++k.owns.flatMap qB
def print(p:hZ):List ByteArray:=if jY p then p.flatMap sG else []
def Has(l n:ByteArray):Prop:=∃a b,l=a++n++b
theorem NZ(a:ByteArray):a++none_=a:=ByteArray.append_empty
theorem Pk(a:ByteArray):none_++a=a:=ByteArray.empty_append
theorem Has.self(n:ByteArray):Has n n:=⟨none_,none_,by rw[NZ,Pk]⟩
theorem Has.left(c:Has l n)(x:ByteArray):Has (l++x) n:=by
 obtain⟨a,b,rfl⟩:=c;exact⟨a,b++x,by rw[ByteArray.append_assoc]⟩
theorem Has.right(c:Has l n)(x:ByteArray):Has (x++l) n:=by
 obtain⟨a,b,rfl⟩:=c;exact⟨x++a,b,by simp only[ByteArray.append_assoc]⟩
theorem Has.last(x n:ByteArray):Has (x++n) n:=(Has.self n).right x
theorem has_fold(f:α->ByteArray):∀(l:List α) (s n:ByteArray),(Has s n\/∃b∈l,Has (f b) n)->Has (l.foldl (fun s b=>s++Fe++f b) s) n
 |[],s,n,a=>by
  rcases a with a|⟨b,c,-⟩
  . exact a
  . cases c
 |y::l,s,n,a=>by
  rw[List.foldl_cons];refine has_fold f l _ n ?_;rcases a with a|⟨b,c,a⟩
  . exact .inl ((a.left _).left _)
  . rcases TI.1 c with rfl|c
    . exact .inl (a.right _)
    . exact .inr ⟨b,c,a⟩
theorem pg{c:α->ByteArray}{ok:α->Bool}:∀{l:List α} {seen:List ByteArray},jw c ok l seen=true->∀b∈l,ok b=true
 |[],_,_,b,a=>by cases a
 |y::l,seen,h,b,a=>by
  unfold jw at h;simp only[S9]at h;rcases TI.1 a with rfl|a
  . exact h.1.1
  . exact pg h.2 b a
theorem GZ{k:Kind}(a:kY k=true){x:ByteArray}(d:x≠none_):k.name=x->Has (og k) x:=fun b=>by
 unfold og;rw[SV a];split
 . rename_i c;unfold kY at a;rw[c]at a;simp at a;exact absurd (b.symm.trans a) d
 . rw[b];exact Has.self x
theorem QC{t:Tag}(b:oZ t=true){x:ByteArray}(d:x≠none_):t.name=x->Has (qL t) x:=fun a=>by
 unfold qL;rw[SV b];unfold oZ at b;split at b
 . exact absurd (a.symm.trans (TE b)) d
 . rename_i c;rw[SX (fun a=>c (.inl a)),SX (fun a=>c (.inr (.inl a))),SX (fun a=>c (.inr (.inr a))),a];exact Has.self x
theorem Qe{i:Ins}(a:kE i=true){x:ByteArray}(d:x≠none_):i.name=x->Has (lY i) x:=fun b=>by
 unfold lY;rw[SV a];unfold kE at a;split at a
 . simp only[S9,SF]at a;exact absurd (b.symm.trans a.1.1.1) d
 . rename_i e;rw[SX e];split at a
   . rename_i c;rw[SV c,b];exact Has.last _ x
   . rename_i c;rw[SX c];split at a
     . rename_i f;rw[SV f,b];exact((Has.last _ x).left _).left _
     . split at a
       . simp only[S9,SF]at a;exact absurd (b.symm.trans a.1.2) d
       . cases a
theorem Qq{m:Method}(l:ng m=true){x:ByteArray}(j:x≠none_)(c:x=m.ret.name\/(∃i∈m.args,x=i.name)\/(∃g∈m.code,x=g.name)\/∃a∈m.maps,∃h∈a.locals++a.stack,x=h.name):∃b∈qF m,Has b x:=by
 unfold ng at l;simp only[S9,SF,Tx]at l;obtain⟨⟨⟨⟨⟨⟨⟨⟨⟨-,-⟩,w⟩,v⟩,-⟩,-⟩,-⟩,-⟩,n⟩,o⟩:=l;rcases c with c|⟨i,e,c⟩|⟨g,e,c⟩|⟨a,d,h,f,c⟩
 . exact⟨vN m,by simp[qF],has_fold _ _ _ _ (.inl ((GZ w j c.symm).right _))⟩
 . exact⟨vN m,by simp[qF],has_fold _ _ _ _ (.inr ⟨i,e,GZ (v i e) j c.symm⟩)⟩
 . refine⟨lY g,by unfold qF;exact Ty.2 (.inr (TM.2 ⟨g,e,rfl⟩)),Qe ?_ j c.symm⟩;unfold codeOk at n;simp only[S9,Tx]at n;have:=n.2 g e;unfold nJ at this;simp only[S9]at this;exact this.1
 . refine⟨vK a,by unfold qF;exact Ty.2 (.inl (Ty.2 (.inr (TM.2 ⟨a,d,rfl⟩)))),?_⟩
   have p:qy a.locals=true/\qy a.stack=true:=by
    unfold qU at o;simp only[S9]at o;have u:∀(b:List SMap) (t:Int),j3 m t b=true->∀a∈b,qy a.locals=true/\qy a.stack=true:=fun b=>by
     induction b with
     |nil=>intro _ _ a d;cases d
     |cons z b y=>
      intro t k a d;unfold j3 at k;simp only[S9]at k;rcases TI.1 d with rfl|d
      . have:=k.1.2;unfold uF at this;simp only[S9]at this;exact⟨this.1.2,this.2⟩
      . exact y _ k.2 a d
    exact u _ _ o.2 a d
   have s:∀b:List Tag,qy b=true->h∈b->Has (o9 b) x:=fun b q r=>has_fold _ _ _ _ (.inr ⟨h,r,QC (by unfold qy at q;exact Tx.1 q h r) j c.symm⟩);rcases Ty.1 f with f|f
   . exact(((s _ p.1 f).right _).left _).left _
   . exact(s _ p.2 f).right _
theorem NG(f:jY p=true){x:ByteArray}(l:x≠none_)(k:∀a∈print p,¬Has a x):yC p x:=fun m r=>by
 unfold print at k;rw[SV f]at k;have t:∀a∈sG m,¬Has a x:=fun a c=>k a (List.mem_flatMap.2 ⟨m,r,c⟩);unfold jY at f;simp only[S9,Tx]at f;have j:=f.2 m r;unfold jC at j;simp only[S9]at j;refine⟨fun n v e=>t (tL n) (by unfold sG;exact Ty.2 (.inl (Ty.2 (.inr (TM.2 ⟨n,v,rfl⟩))))) (by unfold tL;rw[e];exact((Has.last _ x).left _).left _),fun d o=>?_⟩;have h:∀a∈qB d,¬Has a x:=fun a c=>t a (by unfold sG;exact Ty.2 (.inr (List.mem_flatMap.2 ⟨d,o,c⟩)));have g:=pg j.1.2 d o;unfold mY at g;simp only[S9]at g;have c:tN d∈qB d:=by simp[qB]
 refine⟨fun e=>h _ c (by unfold tN;rw[e];exact((Has.last _ x).left _).left _),fun z b e=>?_⟩;rw[e]at b;rcases b with b|⟨i,q,b⟩|⟨u,s,b⟩
 . refine h _ c ?_;unfold tN rW;rw[<-b,SX l];exact Has.last _ x
 . have:=pg g.1.2 i q;simp only[S9]at this;exact h (qD i) (by unfold qB;exact Ty.2 (.inl (Ty.2 (.inr (TM.2 ⟨i,q,rfl⟩))))) ((GZ this.2 l b.symm).right _)
 . obtain⟨a,y,w⟩:=Qq (pg g.2 u s) l b;exact h a (by unfold qB;exact Ty.2 (.inr (List.mem_flatMap.2 ⟨u,s,y⟩))) w
theorem Oy(d:∀c,c+x.size<=l.size->l.extract c (c+x.size)≠x):¬Has l x:=fun⟨a,b,e⟩=>by
 refine d a.size (by rw[e];simp only[Tj];omega) ?_;rw[e,ByteArray.append_assoc];refine ByteArray.ext ?_;rw[ByteArray.data_extract,ByteArray.data_append,ByteArray.data_append];apply Vl.1;rw[Array.toList_extract,List.extract_eq_take_drop,Array.toList_append,Array.toList_append];have f:a.data.toList.length=a.size:=Array.length_toList;have g:x.data.toList.length=x.size:=Array.length_toList;rw[<-f,List.drop_left,Nat.add_sub_cancel_left,<-g,List.take_left]
end Go.Proofs.YtenhnldnpdlniaaGreat.M
namespace Go.Proofs.YtenhnldnpdlniaaGreat
open Go Go.RowKit Tryz M
variable {v: Int}{b: Nat}{D: Nat->Prop}{a c w: World}{p: hZ}
abbrev Key:=Int×ByteArray
def qQ(r:Key):Value:=.agg #[.int .i64 r.1,.string r.2]
def Aw(x:Key×Int):Value×Value:=(qQ x.1,.int .i64 x.2)
def oF(w:World)(b:Nat)(m:List (Key×Int)):Prop:=
 ∃es clock,w.heap[b]?=some (.map es clock)/\es.toList.map (fun e=>(e.key,e.val))=m.map Aw
def look(m:List (Key×Int))(k:Key):Option Int:=(m.find? fun x=>decide (k=x.1)).map Prod.snd
theorem yL{m:List (Key×Int)}{k:Key}(a:look m k=none):look (m++[(k,v)]) k=some v:=by
 unfold look at*;rw[VO];cases b:m.find? fun c=>decide (k=c.1)
 . simp
 . rw[b]at a;simp at a
theorem x8{m:List (Key×Int)}{k k':Key}(a:k'≠k):look (m++[(k,v)]) k'=look m k':=by
 unfold look;rw[VO];cases c:m.find? fun b=>decide (k'=b.1)
 . simp[a]
 . rfl
theorem oF.lt{m:List (Key×Int)}(a:oF w b m):b<w:=by
 obtain⟨e,d,c,_⟩:=a;exact(Tk.1 c).1
theorem oF.keep{m:List (Key×Int)}(f:oF w b m)(h:a.heap[b]?=w.heap[b]?):oF a b m:=by
 obtain⟨e,c,g,d⟩:=f;exact⟨e,c,h.trans g,d⟩
theorem oF.kp{m:List (Key×Int)}(a:oF w b m)(e:Kp D w c)(d:¬D b):oF c b m:=a.keep (e.block b a.lt d)
theorem oF.new(w:World):oF (w.alloc (.map #[] 0)) w []:=⟨#[],0,heap_alloc_new w _,rfl⟩
theorem FI(a b:Key)(w:World):(Op.equal 64 (qQ a) (qQ b)).run prog w=.ok (decide (a=b)) w:=by
 unfold Op.equal qQ;show(Op.equalIn 10000 _ _ _).run _ w=_
 go_simp;obtain⟨e,c⟩:=a;obtain⟨f,d⟩:=b;have g:(c.toList=d.toList)↔c=d:=by
  rw[U4,U4];obtain⟨⟨j⟩⟩:=c;obtain⟨⟨k⟩⟩:=d;simp
 simp only[g,Wu];by_cases h:e=f<;>by_cases i:c=d<;>simp[h,i]
theorem ru(a:Bool)(k:Int)(s:ByteArray)(w:World):(Instr.checkKey a 10000 64 (.agg #[k,s])).run prog w=.ok () w:=by
 cases a<;>kernel_rfl
theorem Ed:prog.underlying 97=some (.map 64 3):=underlying97
theorem OI:∃a,prog.underlying 64=some (.struct a):=⟨_,underlying64⟩
theorem CY(k:Key)(w:World):∀(a:List MapEntry) (m:List (Key×Int)) (i:Nat),a.map (fun c=>(c.key,c.val))=m.map Aw→ (look m k=none/\(Instr.findAsking 64 (qQ k) a i).run prog w=.ok none w)\/∃h q,look m k=some h/\(Instr.findAsking 64 (qQ k) a i).run prog w=.ok (some (q,.int .i64 h)) w:=by
 intro a;induction a with
 |nil=>
  intro m i d;cases m with
  |nil=>exact .inl ⟨rfl,rfl⟩
  |cons b f=>simp at d
 | cons c a p =>
  intro m i d;cases m with
  |nil=>simp at d
  |cons b f=>
   simp only[TH,TG]at d;obtain⟨g,j⟩:=d;have l:c.key=qQ b.1:=congrArg Prod.fst g;have o:c.val=.int .i64 b.2:=congrArg Prod.snd g;unfold Instr.findAsking;rw[l];simp only[Ui,FI,UU];by_cases e:k=b.1
   . refine .inr ⟨b.2,i,by unfold look;rw[List.find?_cons_of_pos (by simp[e])];rfl,?_⟩;simp[e,o]
   . have n:look (b::f) k=look f k:=by unfold look;rw[List.find?_cons_of_neg (by simp[e])]
     rw[n,RN e];simpa using p f (i+1) j
theorem xK(k:Key)(w:World)(a:List MapEntry)(m:List (Key×Int))(c:a.map (fun b=>(b.key,b.val))=m.map Aw):(look m k=none/\(Instr.findKey 64 (qQ k) a).run prog w=.ok none w)\/∃d h,look m k=some d/\(Instr.findKey 64 (qQ k) a).run prog w=.ok (some (h,.int .i64 d)) w:=by
 obtain⟨e,f⟩:=OI;unfold Instr.findKey;simp only[Ui,Vr f,UU];cases a with
 |nil=>
  cases m with
  |nil=>exact .inl ⟨rfl,rfl⟩
  |cons j i=>simp at c
 |cons b a=>
  have g:Instr.findNow (.struct e) (qQ k) (b::a) 0=none:=by simp[Instr.findNow,Instr.sameNow]
  rw[g];exact CY k w (b::a) m 0 c
theorem tT{m:List (Key×Int)}(f:oF w b m)(k:Int)(s:ByteArray):(Instr.lookup 97 (.map (some b)) (.agg #[k,s]) true).run prog w=.ok (.tuple #[.int .i64 ((look m (k,s)).getD 0),.bool (look m (k,s)).isSome]) w:=by
 obtain⟨e,h,d,g⟩:=f;unfold Instr.lookup;simp only[Ui,Vr Ed,UU];rcases xK (k,s) w e.toList m g with⟨c,a⟩|⟨j,i,c,a⟩
 . simp only[qQ]at a;simp[getObj,Sem.run,d,ru,a,c,go_sem]
 . simp only[qQ]at a;simp[getObj,Sem.run,d,ru,a,c,go_sem]
theorem Ai{m:List (Key×Int)}(f:oF w b m)(k:Int)(s:ByteArray):(Instr.lookup 97 (.map (some b)) (.agg #[k,s]) false).run prog w=.ok (.int .i64 ((look m (k,s)).getD 0)) w:=by
 obtain⟨e,h,d,g⟩:=f;unfold Instr.lookup;simp only[Ui,Vr Ed,UU];rcases xK (k,s) w e.toList m g with⟨c,a⟩|⟨j,i,c,a⟩
 . simp only[qQ]at a;simp[getObj,Sem.run,d,ru,a,c,go_sem]
 . simp only[qQ]at a;simp[getObj,Sem.run,d,ru,a,c,go_sem]
theorem La{m:List (Key×Int)}(l:oF w b m)(k:Int)(s:ByteArray)(v:Int)(i:look m (k,s)=none):∃a,(Instr.mapUpdate 97 (.map (some b)) (.agg #[k,s]) v).run prog w=.ok () a/\oF a b (m++[((k,s),v)])/\Kp (·=b) w a/\a.heap.size=w:=by
 obtain⟨e,d,g,h⟩:=l;refine⟨{w with heap:=w.heap.setIfInBounds b (.map (e.push {key:=.agg #[k,s],val:=v,born:=d}) (d+1))},?_,?_,?_,by simp⟩
 . unfold Instr.mapUpdate;simp only[Ui,Vr Ed,UU];rcases xK (k,s) w e.toList m h with⟨f,c⟩|⟨v,r,f,c⟩
   . simp only[qQ]at c;simp[getObj,setObj,Sem.run,g,ru,c,go_sem]
   . rw[f]at i;cases i
 . have n:=(Tk.1 g).1;refine⟨_,_,by simp[n];exact⟨rfl,rfl⟩,?_⟩;simp[h,Aw,qQ]
 . refine⟨rfl,rfl,rfl,by simp,fun q p o=>?_⟩;simp only[Array.getElem?_setIfInBounds];rw[SX (fun j=>o j.symm)]
theorem ny{f:Array Oper}{rest:List Oper}{d:Oper}{a:Act}{Q:Exit->Act->World->Prop}(j:d.guard=none) {e x y:Operand} (o:d.op=Op.mapUpdate 97 e x y) (b:Nat) (m:List (Key×Int)) (k:Int) (s:ByteArray) (v:Int)(l:a.eval e=.map (some b)) (r:a.eval x=.agg #[k,s]) (q:a.eval y=.int .i64 v) (g:oF w b m) (n:look m (k,s)=none)(h:∀c,oF c b (m++[((k,s),v)])->Kp (·=b) w c->c.heap.size=w->wpList prog f Q rest (a.put d.dst undef) c):wpList prog f Q (d::rest) a w:=by
 refine Wz j fun A i=>?_;obtain⟨c,p,t,u,z⟩:=La g k s v n;unfold Oper.wp;simp[execOp,o,l,r,q,p,Result.andThen];exact i _ _ (h c t u z)
structure iZ where
 L:Nat
 O:Nat
 A:Nat
 D:Nat
structure ja(w:World)(l:iZ)(p:hZ):Prop where
 ok:jY p=true
 ord:l.O<l.A/\l.A<l.D/\l.D<l.L
 blk:∃a cap,h9 w l.L 99 #[.slice a p.length cap,.map (some l.O),.map (some l.A),.map (some l.D)]/\SliceOf 2 iX w (· <l.O) (.slice a p.length cap) p
 own:∃m,oF w l.O m/\∀k s,look m (k,s)=(wJ p ⟨k,s⟩).map Int.ofNat
 ask:∃m,oF w l.A m/\∀k s,look m (k,s)=ym p k s
 laid:∃m,oF w l.D m/\∀k s v,look m (k,s)=some v->v=if jD p ⟨k,s⟩then 1 else 2
theorem ja.lt{l:iZ}(a:ja w l p):l.L<w:=by
 obtain⟨c,d,b,_⟩:=a.blk;exact b.lt
theorem ja.keep{g: World}{l:iZ}(a:ja w l p)(c:∀f,f<=l.L->g.heap[f]?=w.heap[f]?):ja g l p:=by
 obtain⟨r,s,t⟩:=a.ord;refine⟨a.ok,a.ord,?_,?_,?_,?_⟩
 . obtain⟨h,j,k,n⟩:=a.blk;exact⟨h,j,k.keep (c _ (Tz _)),n.keep iX.stays (fun i q u o m=>(UK (c i Zm)).trans m) fun _ a=>a⟩
 . obtain⟨e,d,b⟩:=a.own;exact⟨e,d.keep (c _ Zm),b⟩
 . obtain⟨e,d,b⟩:=a.ask;exact⟨e,d.keep (c _ Zm),b⟩
 . obtain⟨e,d,b⟩:=a.laid;exact⟨e,d.keep (c _ Zm),b⟩
theorem ja.kp{l:iZ}(b:ja w l p)(e:Kp D w c)(d:∀a,a<=l.L->¬D a):ja c l p:=
 b.keep fun a f=>e.block a (SK b.lt) (d a f)
theorem ja.ext{l:iZ}(b:ja w l p)(c:Ext w a):ja a l p:=b.kp c fun _ _ d=>d
theorem ja.Hf{l:iZ}(e:ja w l p):∀a,Ext w a->∀b c,(Instr.lookup 97 (.map (some l.O)) (.agg #[.int .i64 b,.string c]) true).run prog a=.ok (.tuple #[.int .i64 (((wJ p ⟨b,c⟩).map Int.ofNat).getD 0),.bool (wJ p ⟨b,c⟩).isSome]) a:=by
 intro a f b c;obtain⟨i,g,d⟩:=e.own;rw[tT (g.kp f fun h=>h),d];simp
theorem ja.OY{l:iZ}(e:ja w l p):∀a,Ext w a->∀b c,(Instr.lookup 97 (.map (some l.O)) (.agg #[.int .i64 b,.string c]) false).run prog a=.ok (.int .i64 (((wJ p ⟨b,c⟩).map Int.ofNat).getD 0)) a:=by
 intro a f b c;obtain⟨i,g,d⟩:=e.own;rw[Ai (g.kp f fun h=>h),d]
theorem ja.He{l:iZ}(e:ja w l p):∀a,Ext w a->∀b c,(Instr.lookup 97 (.map (some l.A)) (.agg #[.int .i64 b,.string c]) true).run prog a=.ok (.tuple #[.int .i64 ((ym p b c).getD 0),.bool (ym p b c).isSome]) a:=by
 intro a f b c;obtain⟨i,g,d⟩:=e.ask;rw[tT (g.kp f fun h=>h),d]
theorem ja.cells{l:iZ}(f:ja w l p):∃c d,SliceOf 2 iX w (· <l.O) (.slice c p.length d) p/\(∀a,Ext w a->a.cell? l.L=some (.slice c p.length d))/\(∀a,Ext w a->a.cell? (l.L,1)=some (.map (some l.O)))/\(∀a,Ext w a->a.cell? (l.L,2)=some (.map (some l.A)))/\(∀a,Ext w a->a.cell? (l.L,3)=some (.map (some l.D))):=by
 obtain⟨c,d,e,g⟩:=f.blk;exact⟨c,d,g,fun a b=>Kp.iW b (e.c 0 _ rfl),fun a b=>Kp.iW b (e.c 1 _ rfl),fun a b=>Kp.iW b (e.c 2 _ rfl),fun a b=>Kp.iW b (e.c 3 _ rfl)⟩
end Go.Proofs.YtenhnldnpdlniaaGreat
