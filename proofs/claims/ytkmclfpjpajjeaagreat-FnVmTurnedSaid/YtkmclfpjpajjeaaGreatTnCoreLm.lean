/- Walks. -/
import Derived.Test.YtkmclfpjpajjeaaGreatTnCoreLl
set_option maxRecDepth 100000
set_option maxHeartbeats 4000000
set_option linter.unusedSimpArgs false
set_option linter.unusedVariables false
namespace Go.Proofs.YtkmclfpjpajjeaaGreat.M
theorem Gd{p:ax}{n:ByteArray}:∀{f:Nat} {asked:List Int} {k:Int},asked.getLastD 0=k→(gX p n f asked k).2=1→
    ug p ((gX p n f asked k).1.getLastD 0) n=none
 |0,_,_,_,h=>by simp[gX]at h
 |f+1,asked,k,hl,h=>by
  unfold gX at h ⊢;split at h
  · rename_i h1;split at h
    · rename_i h2;simp only[h2,if_true];rw[hl];exact h1
    · simp at h
  · rename_i next h1
    split at h
    · simp at h
    · rename_i h2;simp only[h2,if_false,Bool.false_eq_true];exact Gd Wf h
theorem Kk{p:ax}{k:Int}{n:ByteArray}(h:(resolve p k n).2=1):(resolve p k n).1.name=n∧(path p k n).2=1∧(resolve p k n).1.keeper=(path p k n).1.getLastD 0:=by
 unfold resolve at h ⊢;split at h
 · rename_i hp;rw[if_pos hp];exact⟨rfl,hp,rfl⟩
 · rename_i hp;exact absurd h hp
theorem Kl{p:ax}{k:Int}{n:ByteArray}(h:(resolve p k n).2=1):resolve p (resolve p k n).1.keeper (resolve p k n).1.name=((resolve p k n).1,1):=by
 obtain⟨h1,h2,h3⟩:=Kk h;obtain⟨c,hc⟩:=fu h;have hb:=Ej hc;have ha:ug p (resolve p k n).1.keeper (resolve p k n).1.name=none:=by
  rw[h1,h3];unfold path at h2 ⊢;split at h2
  · rename_i hk;rw[if_pos hk];exact Gd rfl h2
  · simp at h2
 have hp:path p (resolve p k n).1.keeper (resolve p k n).1.name=([(resolve p k n).1.keeper],1):=by
  unfold path;rw[if_pos (rq.2 hb)];unfold gX;rw[ha];simp only;rw[if_pos (by unfold owned;show(cls? p (resolve p k n).1).isSome=true;rw[hc];rfl)]
 generalize (resolve p k n).1=x at hp;unfold resolve;rw[hp];rfl
theorem Mk{p:ax}{x:Ref}(h:resolve p x.keeper x.name=(x,1))(hc:∃g l,bT p g x=some l∧l.length≤6):fo p x=true∧∃g l,bT p g x=some l∧chain p x=l:=by
 obtain⟨g,l,h1,h2⟩:=hc;have h6:jw p x=some l:=uo _ _ _ h1 6 h2;have hl:fo p x=true:=by
  unfold fo find;rw[h];simp[h6]
 exact⟨hl,g,l,h1,by unfold chain;rw[if_pos hl,h6];rfl⟩
theorem og{p:ax}{r:Ref}(h:fo p r=true):resolve p r.keeper r.name=(r,1)∧∃l,jw p r=some l∧chain p r=l:=by
 have h0:=h;unfold fo find at h;by_cases hc:(resolve p r.keeper r.name).2=1
 · rw[if_pos hc]at h;split at h
   · rename_i h2;simp at h;have e:resolve p r.keeper r.name=(r,1):=Prod.ext h hc;rw[e]at h2;obtain⟨l,hl⟩:=Option.isSome_iff_exists.1 h2;exact⟨e,l,hl,by unfold chain;rw[if_pos h0,hl];rfl⟩
   · simp at h
 · rw[if_neg hc]at h;simp at h;exact absurd h.1 hc
theorem BJ{p:ax}:∀(f:Nat) (r:Ref) (l:List Ref),bT p f r=some l→resolve p r.keeper r.name=(r,1)→∀x∈l,resolve p x.keeper x.name=(x,1):=by
 intro f;induction f with
 |zero=>intro r l h;simp[bT]at h
 |succ f ih=>
  intro r l h hr x hx;unfold bT at h;split at h
  · cases h;simp at hx;subst hx;exact hr
  · split at h
    · rename_i h2;cases hc:bT p f (resolve p r.keeper (aL p r)).1 with
      |none=>rw[hc]at h;simp at h
      |some rs=>
       rw[hc]at h;simp at h;subst h;rcases List.mem_cons.1 hx with rfl|hx
       · exact hr
       · exact ih _ _ hc (Kl h2) x hx
    · cases h
theorem sG{p:ax}{r x:Ref}(h:x∈chain p r):fo p x=true∧∃pre,chain p r=pre++chain p x:=by
 have hl:fo p r=true:=by
  unfold chain at h;split at h
  · rename_i h1;exact h1
  · simp at h
 obtain⟨e,l,h1,h2⟩:=og hl;rw[h2]at h ⊢;obtain⟨i,hi⟩:=List.getElem?_of_mem h;obtain⟨g,hg⟩:=qF _ _ _ h1 i x hi;have h6:=CQ _ _ _ h1;obtain⟨a,g',l',b1,b2⟩:=Mk (BJ _ _ _ h1 e x h) ⟨g,_,hg,by simp;omega⟩;refine⟨a,l.take i,?_⟩;rw[b2,CR b1 hg,List.take_append_drop]
theorem ui{p:ax}{r:Ref}(h:fo p r=true):∃t,chain p r=r::t:=by
 obtain⟨e,l,h1,h2⟩:=og h;rw[h2];exact uj _ _ _ h1
theorem dM{p:ax}{r x:Ref}(h:x∈chain p r):∃c,cls? p x=some c:=by
 obtain⟨e,_⟩:=og (sG h).1;have:=fu (p:=p) (k:=x.keeper) (n:=x.name) (by rw[e]);rwa[e]at this
def Al(p:ax)(r:Ref):Nat:=(dB p (chain p r).reverse []).length
theorem AO(p:ax):∀(L:List Ref) (acc:List ko),(dB p L acc).length=acc.length+(L.map fun c=>(cls p c).fields.length).sum:=by
 intro L;induction L with
 |nil=>intro acc;simp[dB]
 |cons c r ih=>intro acc;unfold dB;rw[ih,oG];simp;omega
theorem JB(p:ax)(c:Ref):∀(L K:List Ref) (n:Nat),c ∉ L→ig p c (L++c::K) n=n+(L.map fun c=>(cls p c).fields.length).sum:=by
 intro L;induction L with
 |nil=>intro K n _;simp[ig]
 |cons d r ih=>
  intro K n h;simp only[List.mem_cons,not_or]at h;simp only[List.cons_append,ig];rw[if_neg (fun e=>h.1 e.symm),ih _ _ h.2];simp;omega
theorem JZ{p:ax}{r:Ref}{i:Nat}{f:ko}(h:(layout p r)[i]?=some f):i<Al p f.of:=by
 obtain⟨_,hm,_,j,fd,h1,h2,_⟩:=xW h;obtain⟨hl,pre,hp⟩:=sG hm;obtain⟨t,ht⟩:=ui hl;have hn:=CP p f.of;rw[ht,List.nodup_cons]at hn;have e:gT p f.of r=((t.reverse).map fun c=>(cls p c).fields.length).sum:=by
  unfold gT;rw[hp,ht,List.reverse_append,List.reverse_cons,List.append_assoc,List.singleton_append,JB _ _ _ _ _ (by simpa using hn.1),Nat.zero_add]
 have hj:=(List.getElem?_eq_some_iff.1 h1).1;unfold Al;rw[AO,ht,List.reverse_cons,List.map_append,List.sum_append];simp;rw[e]at h2;simp at h2;omega
theorem M8{p:ax}{low top:Ref}(hc:bu p low=true)(h:under p low top=true):Al p top≤(layout p low).length:=by
 unfold under at h;obtain⟨_,pre,hp⟩:=sG (by simpa using h);unfold layout Al;rw[if_pos hc,hp,List.reverse_append,vD];obtain⟨t,e⟩:=JY p pre.reverse (dB p (chain p top).reverse []);rw[e];simp
theorem pU{p:ax}{r:Ref}(h:bu p r=true):fo p r=true∧r∈chain p r:=by
 have hl:fo p r=true:=by
  unfold bu at h;cases hl:fo p r
  · unfold chain at h;rw[hl]at h;simp at h
  · rfl
 obtain⟨t,e⟩:=ui hl;exact⟨hl,by rw[e];simp⟩
theorem wS{p:ax}{k:Int}{m:ByteArray}{r:Ref}:∀{l:List ko},(kE p k m r l).2=1→(kE p k m r l).1∈l
 |[],h=>by simp[kE]at h
 |f::l,h=>by
  unfold kE at h ⊢;split at h
  · rename_i h1;rw[if_pos h1];split at h
    · rename_i h2;rw[if_pos h2];simp
    · simp at h
  · rename_i h1;rw[if_neg h1];exact List.mem_cons_of_mem _ (wS h)
theorem Ra{p:ax}{k:Int}{n m:ByteArray}(h:(get p k n m).2=1):∃(r:Ref) (i:Nat),(layout p r)[i]?=some (get p k n m).1:=by
 unfold get at h ⊢;split at h
 · rename_i h1;rw[if_pos h1];obtain⟨i,hi⟩:=List.getElem?_of_mem (wS h);exact⟨_,i,hi⟩
 · rename_i h1;exact absurd h h1
theorem Q8{p:ax}{k:Int}{n m:ByteArray}(h:(get p k n m).2=1){o:Ref}(hc:bu p o=true)(hu:under p o (get p k n m).1.of=true):
    0≤(get p k n m).1.at_∧(get p k n m).1.at_.toNat<(layout p o).length:=by
 obtain⟨r,i,hi⟩:=Ra h;have h1:=(xW hi).2.2.1;have h2:=JZ hi;have h3:=M8 hc hu;omega
theorem p9{p:ax}{n:ByteArray}:∀{l:List Ref} {x:kI},jU p n l=some x→x.of∈l∧∃i:Nat,x.at_=i∧lM (cls p x.of) n=some i
 |[],x,h=>by simp[jU]at h
 |c::r,x,h=>by
  unfold jU at h;split at h
  · rename_i i hi;cases h;exact⟨by simp,i,rfl,hi⟩
  · obtain⟨h1,h2⟩:=p9 h;exact⟨List.mem_cons_of_mem _ h1,h2⟩
theorem uP{p:ax}{r:Ref}{n:ByteArray}{x:kI}(h:pick p r n=some x):bu p r=true∧x.of∈chain p r∧∃i c m,x.at_=(i:Nat)∧cls? p x.of=some c∧c.methods[i]?=some m∧m.name=n∧method? p x=some m:=by
 unfold pick at h;split at h
 · rename_i hc;obtain⟨h1,i,h2,h3⟩:=p9 h;obtain⟨c,fU⟩:=dM h1;have e:cls p x.of=c:=by unfold cls;rw[fU];rfl
   rw[e]at h3;unfold lM at h3;rw[List.findIdx?_eq_some_iff_getElem]at h3;obtain⟨bY,h4,_⟩:=h3;exact⟨hc,h1,i,c,c.methods[i],h2,fU,List.getElem?_eq_getElem bY,by simpa using h4,by
    unfold method?;rw[h2,if_pos (Int.natCast_nonneg i),e];exact List.getElem?_eq_getElem bY⟩
 · cases h
theorem l7{p:ax}{k:Int}{n m:ByteArray}(h:(call p k n m).2=1):∃r,pick p r m=some (call p k n m).1:=by
 unfold call at h ⊢;split at h
 · rename_i h1;rw[if_pos h1];cases hp:pick p (aS p k n m).1 m with
   |none=>rw[hp]at h;simp at h
   |some x=>
    rw[hp]at h;refine⟨_,hp.trans ?_⟩;simp only at h ⊢;split at h
    · rename_i h2;rw[if_pos h2]
    · simp at h
 · rename_i h1;exact absurd h h1
theorem pq{p:ax}{x:kI}(h:bP p x=true):bu p x.of=true∧∃i c m,x.at_=(i:Nat)∧cls? p x.of=some c∧c.methods[i]?=some m∧method? p x=some m:=by
 unfold bP at h;simp only[Bool.and_eq_true,decide_eq_true_eq]at h;obtain⟨⟨h1,h2⟩,h3⟩:=h;obtain⟨c,fU⟩:=dM (pU h1).2;have e:cls p x.of=c:=by unfold cls;rw[fU];rfl
 rw[e]at h3;have bY:x.at_.toNat<c.methods.length:=by omega
 exact⟨h1,x.at_.toNat,c,c.methods[x.at_.toNat],by omega,fU,List.getElem?_eq_getElem bY,by
  unfold method?;rw[if_pos h2,e];exact List.getElem?_eq_getElem bY⟩
structure Good(p:ax)(s:St):Prop where
 heap:jI p s.heap=true
 frames:∀f∈s.frames,dX p f s.heap.length=true
 nf:s.frames.length≤8
 outs:s.outs.length≤40
 l9:∀n∈s.outs,iH n=true
 back:bD s.back s.heap.length=true
theorem aM{p:ax}{f:Fr}{n:Nat}:dX p f n=true↔bP p f.of=true∧0≤f.pc∧f.pc<(method p f.of).code.length∧(f.locals.length:Int)=(method p f.of).locals∧
    (f.stack.length:Int)≤(method p f.of).stack∧(∀v∈f.locals,bD v n=true)∧(∀v∈f.stack,bD v n=true):=by
 unfold dX;simp only[Bool.and_eq_true,decide_eq_true_eq,List.all_eq_true,and_assoc]
theorem fV{p:ax}{h:List nP}:jI p h=true↔h.length≤12∧∀o∈h,bu p o.of=true∧o.fields.length=(layout p o.of).length∧∀v∈o.fields,bD v h.length=true:=by
 unfold jI;simp only[Bool.and_eq_true,decide_eq_true_eq,List.all_eq_true,and_assoc]
theorem uV{v:Val}{n m:Nat}(h:bD v n=true)(yF:n≤m):bD v m=true:=by
 unfold bD at*;split at h
 · rename_i h1;rw[if_pos h1];exact h
 · rename_i h1;rw[if_neg h1];split at h
   · rename_i h2;rw[if_pos h2];exact h
   · rename_i h2;rw[if_neg h2];split at h
     · rename_i h3;rw[if_pos h3];simp only[Bool.and_eq_true,decide_eq_true_eq]at*;omega
     · cases h
theorem lv{v:Val}{n:Nat}(h:bD v n=true)(hk:v.kind=2):0≤v.n∧v.n<n:=by
 unfold bD at h;rw[hk]at h;simpa using h
theorem tH{v:Val}{n:Nat}(h:bD v n=true)(hk:v.kind=1): -9999≤v.n∧v.n≤9999:=by
 unfold bD iH at h;rw[hk]at h;simpa using h
theorem uW(n:Nat):bD lY n=true:=by simp[bD,lY]
theorem GI(n:Nat):bD eU n=true:=by simp[bD,eU]
theorem il{k:Int}(n:Nat)(h:iH k=true):bD (gF k) n=true:=by
 unfold bD gF;simpa using h
theorem tF{k:Int}(n:Nat)(h1:0≤k)(h2:k<n):bD ⟨2,k⟩ n=true:=by
 unfold bD;simp;omega
theorem iM{s:St}{r:List Fr}{t:Fr}(h:s.frames=r++[t]):top s=t:=by unfold top;rw[h];simp
theorem j6{s:St}{r:List Fr}{t:Fr}(h:s.frames=r++[t])(f:Fr→Fr):Dl s f={s with frames:=r++[f t]}:=by unfold Dl;rw[h];simp
theorem Oo{s:St}(h:s.frames≠[]):∃r t,s.frames=r++[t]:=⟨s.frames.dropLast,s.frames.getLast h,(List.dropLast_concat_getLast h).symm⟩
section
variable {p:ax} {s:St} {r:List Fr} {t:Fr}
theorem Good.top(hG:Good p s)(h:s.frames=r++[t]):dX p t s.heap.length=true:=hG.frames t (by rw[h];simp)
theorem Good.turn(hG:Good p s)(h:s.frames=r++[t]){t':Fr}(ht:dX p t' s.heap.length=true):Good p {s with frames:=r++[t']}:=by
 refine⟨hG.heap,?_,?_,hG.outs,hG.l9,hG.back⟩
 · intro f hf;rcases List.mem_append.1 hf with hf|hf
   · exact hG.frames f (by rw[h];exact List.mem_append_left _ hf)
   · simp at hf;subst hf;exact ht
 · have:=hG.nf;rw[h]at this;simpa using this
def l5(p:ax)(x:Int×St):Prop:=1≤x.1∧x.1≤10∧Good p x.2∧(x.1=1→x.2.frames≠[])∧x.2.status=1
theorem sV(hG:Good p s)(h:s.frames=r++[t])(hs:s.status=1){tgt:Int}(h0:0≤tgt):l5 p (jump p tgt s):=by
 have ht:=hG.top h;have Az:=aM.1 ht;unfold jump;rw[iM h,j6 h];split
 · exact⟨by simp,by simp,hG,fun e=>by simp at e,hs⟩
 · rename_i bY;refine⟨by simp,by simp,hG.turn h (aM.2 ⟨Az.1,h0,by simp only;omega,Az.2.2.2.1,Az.2.2.2.2.1,Az.2.2.2.2.2.1,Az.2.2.2.2.2.2⟩),fun _=>by simp,hs⟩
theorem ou(hG:Good p s)(h:s.frames=r++[t])(hs:s.status=1):l5 p (next p s):=by
 have Az:=aM.1 (hG.top h);unfold next
 rw[iM h];exact sV hG h hs Wg
theorem lu(hG:Good p s)(h:s.frames=r++[t])(hs:s.status=1){v:Val}(hv:bD v s.heap.length=true):l5 p (push p v s):=by
 have Az:=aM.1 (hG.top h);unfold push;rw[iM h,j6 h];split
 · exact⟨by simp,by simp,hG,fun e=>by simp at e,hs⟩
 · rename_i bY;refine ou (r:=r) (t:={t with stack:=t.stack++[v]}) (hG.turn h (aM.2 ⟨Az.1,Az.2.1,Az.2.2.1,Az.2.2.2.1,by simp;omega,Az.2.2.2.2.2.1,?_⟩)) rfl hs;intro u hu;rcases List.mem_append.1 hu with hu|hu
   · exact Az.2.2.2.2.2.2 u hu
   · simp at hu;subst hu;exact hv
theorem oP{c:Nat}(h:s.frames=r++[t]){vs:List Val}{s1:St}(hp:gG c s=some (vs,s1)):
    c≤t.stack.length∧vs=t.stack.drop (t.stack.length - c)∧vs.length=c∧s1={s with frames:=r++[{t with stack:=t.stack.take (t.stack.length - c)}]}:=by
 unfold gG at hp;rw[iM h,j6 h]at hp;split at hp
 · cases hp
 · cases hp;refine⟨by omega,rfl,by simp;omega,rfl⟩
theorem Good.popped(hG:Good p s)(h:s.frames=r++[t])(n:Nat):Good p {s with frames:=r++[{t with stack:=t.stack.take n}]}:=by
 have Az:=aM.1 (hG.top h);refine hG.turn h (aM.2 ⟨Az.1,Az.2.1,Az.2.2.1,Az.2.2.2.1,?_,Az.2.2.2.2.2.1,fun u hu=>Az.2.2.2.2.2.2 u (List.mem_of_mem_take hu)⟩);have:(t.stack.take n).length≤t.stack.length:=by simp;omega
 have:=Az.2.2.2.2.1;simp only;omega
theorem oO{c:Nat}(hG:Good p s)(h:s.frames=r++[t]){vs:List Val}{s1:St}(hp:gG c s=some (vs,s1)):
    vs.length=c∧(∀v∈vs,bD v s.heap.length=true)∧Good p s1∧s1.frames=r++[{t with stack:=t.stack.take (t.stack.length - c)}]∧s1.heap=s.heap∧s1.outs=s.outs∧s1.back=s.back∧s1.status=s.status:=by
 obtain⟨h1,h2,h3,rfl⟩:=oP h hp;refine⟨h3,fun v hv=>?_,hG.popped h _,rfl,rfl,rfl,rfl,rfl⟩;subst h2;exact(aM.1 (hG.top h)).2.2.2.2.2.2 v (List.mem_of_mem_drop hv)
theorem MS(hG:Good p s)(h:s.frames=r++[t]){v:Val}{s1:St}(hp:pop s=some (v,s1)):
    bD v s.heap.length=true∧Good p s1∧s1.frames=r++[{t with stack:=t.stack.take (t.stack.length - 1)}]∧s1.heap=s.heap∧s1.outs=s.outs∧s1.back=s.back∧s1.status=s.status:=by
 unfold pop at hp;rw[Option.map_eq_some_iff]at hp;obtain⟨⟨vs,s2⟩,h1,h2⟩:=hp;cases h2;obtain⟨a1,a2,a3⟩:=oO hG h h1;refine⟨?_,a3⟩;match vs,a1 with
 |[x],_=>exact a2 x Wf
theorem l5.bad{n:Int}(hG:Good p s)(hs:s.status=1)(h1:1<n)(h2:n≤10):l5 p (n,s):=⟨by simp only;omega,h2,hG,fun e=>by simp only at e;omega,hs⟩
theorem Cj(v:Val)(q:Ref)(s:St):object p v q s=1∨(1<object p v q s∧object p v q s≤10):=by
 unfold object;split
 · right;decide
 · split
   · right;decide
   · split
     · left;rfl
     · right;decide
theorem oC{v:Val}{q:Ref}(h:object p v q s=1):v.kind=2∧under p (oD s.heap v.n) q=true:=by
 unfold object at h;split at h
 · cases h
 · split at h
   · cases h
   · rename_i h1;split at h
     · rename_i h2;exact⟨by omega,h2⟩
     · cases h
theorem Qm{n:Int}(h0:0≤n)(h1:n<s.heap.length):∃o,s.heap[n.toNat]?=some o∧o∈s.heap∧oD s.heap n=o.of∧jG s.heap n=o.fields:=by
 have bY:n.toNat<s.heap.length:=by omega
 refine⟨s.heap[n.toNat],List.getElem?_eq_getElem bY,List.getElem_mem _,?_,?_⟩
 · unfold oD;rw[List.getElem?_eq_getElem bY];rfl
 · unfold jG;rw[List.getElem?_eq_getElem bY];rfl
theorem q9(hG:Good p s){k:Int}{n m:ByteArray}(hg:(get p k n m).2=1){v:Val}(hv:bD v s.heap.length=true)(ho:object p v (get p k n m).1.of s=1):
    0≤v.n∧v.n<s.heap.length∧0≤(get p k n m).1.at_∧∃o,s.heap[v.n.toNat]?=some o∧o∈s.heap∧jG s.heap v.n=o.fields∧(get p k n m).1.at_.toNat<o.fields.length:=by
 obtain⟨h1,h2⟩:=oC ho;obtain⟨h3,h4⟩:=lv hv h1;obtain⟨o,h5,h6,h7,h8⟩:=Qm (s:=s) h3 h4;rw[h7]at h2;have:=(fV.1 hG.heap).2 o h6;obtain⟨b1,b2⟩:=Q8 hg this.1 h2;exact⟨h3,h4,b1,o,h5,h6,h8,by rw[this.2.1];exact b2⟩
theorem Ur{q:Ref}(n:Nat):∀v∈(fresh p q).fields,bD v n=true:=by
 intro v hv;unfold fresh at hv;simp only[List.mem_map]at hv;obtain⟨f,_,rfl⟩:=hv;split
 · exact il n Wk
 · exact uW n
theorem Good.grow(hG:Good p s){q:Ref}(hq:bu p q=true)(hn:s.heap.length<12):Good p {s with heap:=s.heap++[fresh p q]}:=by
 have hle:s.heap.length≤(s.heap++[fresh p q]).length:=by simp
 obtain⟨_,h2⟩:=fV.1 hG.heap;refine⟨fV.2 ⟨by simp;omega,?_⟩,?_,hG.nf,hG.outs,hG.l9,uV hG.back hle⟩
 · intro o ho;rcases List.mem_append.1 ho with ho|ho
   · obtain⟨a,b,c⟩:=h2 o ho;exact⟨a,b,fun v hv=>uV (c v hv) hle⟩
   · simp at ho;subst ho;exact⟨hq,by simp[fresh],Ur _⟩
 · intro f hf;obtain⟨a1,a2,a3,a4,a5,a6,a7⟩:=aM.1 (hG.frames f hf);exact aM.2 ⟨a1,a2,a3,a4,a5,fun v hv=>uV (a6 v hv) hle,fun v hv=>uV (a7 v hv) hle⟩
theorem Good.set(hG:Good p s){n a:Int}{v:Val}(hv:bD v s.heap.length=true):Good p {s with heap:=iO s.heap n a v}:=by
 have hl:(iO s.heap n a v).length=s.heap.length:=by simp[iO]
 obtain⟨h1,h2⟩:=fV.1 hG.heap;refine⟨fV.2 ⟨by rw[hl];exact h1,?_⟩,?_,hG.nf,hG.outs,hG.l9,?_⟩
 · intro o ho;rw[hl];obtain⟨i,hi⟩:=List.getElem?_of_mem ho;unfold iO at hi;rw[List.getElem?_modify]at hi;cases ho':s.heap[i]? with
   |none=>rw[ho']at hi;simp at hi
   |some o'=>
    rw[ho']at hi;obtain⟨b1,b2,b3⟩:=h2 o' (List.mem_of_getElem? ho');simp at hi;subst hi;split
    · refine⟨b1,by simpa using b2,?_⟩;intro u hu;rcases List.mem_or_eq_of_mem_set hu with hu|rfl
      · exact b3 u hu
      · exact hv
    · exact⟨b1,b2,b3⟩
 · intro f hf;simp only[hl];exact hG.frames f hf
 · simp only[hl];exact hG.back
end
end Go.Proofs.YtkmclfpjpajjeaaGreat.M
namespace Go.Proofs.YtkmclfpjpajjeaaGreat.M
theorem Jw{p:ax}(jM:dF p=true){r:Ref}{c:Class}(h:cls? p r=some c):jF c=true:=by
 unfold cls? at h;rw[Option.bind_eq_some_iff]at h;obtain⟨q,hq,h2⟩:=h;have h3:=qA jM hq;unfold bA at h3;simp only[Bool.and_eq_true]at h3;exact mD h3.1.2 c (List.mem_of_find?_eq_some h2)
theorem O4{c:Class}(h:jF c=true):∀m∈c.methods,jA m=true:=by
 unfold jF at h;simp only[Bool.and_eq_true]at h;exact mD h.2
theorem ji{p:ax}(jM:dF p=true){x:kI}(h:bP p x=true):jA (method p x)=true∧method? p x=some (method p x):=by
 obtain⟨_,i,c,m,h1,h2,h3,h4⟩:=pq h;have e:method p x=m:=by unfold method;rw[h4];rfl
 rw[e];exact⟨O4 (Jw jM h2) m (List.mem_of_getElem? h3),h4⟩
structure EO(m:Method):Prop where
 args:(m.args.length:Int)+1≤m.locals
 Lj:m.args.length≤3
 locals:m.locals≤6
 Wo:1≤m.stack
 stack:m.stack≤5
 adq:1≤m.code.length
 code:m.code.length≤16
 ins:∀i∈m.code,iZ m i=true
 ret:fe m.ret=true
 kinds:∀k∈m.args,fe k=true
 maps:m.maps.length≤5
 rE:∀f∈m.maps,rE m f=true
theorem Di{m:Method}:∀{l:List SMap} {n:Int},dH m n l=true→∀f∈l,rE m f=true
 |[],_,_=>by simp
 |x::r,n,h=>by
  unfold dH at h;simp only[Bool.and_eq_true]at h;intro f hf;rcases List.mem_cons.1 hf with rfl|hf
  · exact h.1.2
  · exact Di h.2 f hf
theorem pG{m:Method}(h:jA m=true):EO m:=by
 unfold jA codeOk nG at h;simp only[Bool.and_eq_true,decide_eq_true_eq,List.all_eq_true]at h;obtain⟨⟨⟨⟨⟨⟨⟨⟨⟨_,h2⟩,h3⟩,h4⟩,h5⟩,h6⟩,h7⟩,h8⟩,⟨⟨h9,Yb⟩,h11⟩⟩,ZN,h13⟩:=h;exact⟨h5,h2,h6,h7,h8,h9,Yb,h11,h3,h4,ZN,Di h13⟩
theorem uh{p:ax}:∀{l k:List Ref},ek p (l++k)=true→ek p k=true∧∀a∈l,∀b∈k,ja p a b=true
 |[],k,h=>⟨h,by simp⟩
 |x::l,k,h=>by
  simp only[List.cons_append,ek,Bool.and_eq_true,List.all_eq_true]at h;obtain⟨h1,h2⟩:=uh h.2;refine⟨h1,fun a ha b hb=>?_⟩;rcases List.mem_cons.1 ha with rfl|ha
  · exact h.1 b (List.mem_append_right _ hb)
  · exact h2 a ha b hb
theorem Q3{p:ax}{r x:Ref}(hc:bu p r=true)(h:x∈chain p r):bu p x=true:=by
 obtain⟨hl,pre,hp⟩:=sG h;obtain⟨t,ht⟩:=ui hl;unfold bu at hc ⊢;simp only[Bool.and_eq_true,Bool.not_eq_true',List.isEmpty_eq_false_iff]at hc ⊢;rw[hp]at hc;exact⟨by rw[ht];simp,(uh hc.2).1⟩
theorem Ie{c:Class}{n:ByteArray}{i:Nat}{m:Method}(h:lM c n=some i)(hm:c.methods[i]?=some m):c.methods.find? (fun x=>x.name=n)=some m:=by
 unfold lM at h;have:∀(l:List Method) (i:Nat) (m:Method),l.findIdx? (fun x=>decide (x.name=n))=some i→l[i]?=some m→l.find? (fun x=>decide (x.name=n))=some m:=by
  intro l;induction l with
  |nil=>intro i m h;simp at h
  |cons x r ih=>
   intro i m h hm;rw[List.findIdx?_cons]at h;rw[List.find?_cons];cases hx:decide (x.name=n)
   · rw[hx]at h;simp only[Bool.false_eq_true,if_false,Option.map_eq_some_iff]at h;obtain⟨j,hj,rfl⟩:=h;exact ih j m hj (by simpa using hm)
   · rw[hx]at h;simp only[if_true,Option.some.injEq]at h;subst h;simpa using hm
 exact this _ _ _ h hm
theorem Cm {p : ax} {r o : Ref} {n : ByteArray} {x y : kI} (hx : pick p r n = some x) (hu : under p o x.of = true) (hy : pick p o n = some y) : (method p y).args = (method p x).args := by
 have hxx:=hx;have hyy:=hy;unfold pick at hx hy;split at hx
 · split at hy
   · rename_i Yt Yr;obtain⟨a1,i,a2,a3⟩:=p9 hx;obtain⟨b1,j,b2,b3⟩:=p9 hy;obtain⟨hl,pre,hp⟩:=sG (p:=p) (r:=o) (x:=x.of) (by unfold under at hu;simpa using hu);obtain⟨t,ht⟩:=ui hl;have aib:=Yr;unfold bu at Yr;simp only[Bool.and_eq_true]at Yr;rw[hp]at Yr;obtain⟨_,_,i',c,m,e1,e2,e3,e4,e5⟩:=uP hxx;obtain⟨_,_,j',d,q,f1,f2,f3,f4,f5⟩:=uP hyy;have em:method p x=m:=by unfold method;rw[e5];rfl
     have eq':method p y=q:=by unfold method;rw[f5];rfl
     rw[em,eq'];have BU:cls p x.of=c:=by unfold cls;rw[e2];rfl
     have Xd:cls p y.of=d:=by unfold cls;rw[f2];rfl
     rw[hp,ht]at hy;by_cases hm:y.of∈pre
     · have En:=(uh Yr.2).2 y.of hm x.of (by rw[ht];simp);unfold ja at En;simp only[Bool.and_eq_true,List.all_eq_true]at En;have hq:=En.2 q (by rw[Xd];exact List.mem_of_getElem? f3);unfold dV at hq;rw[a2]at e1;have ei:=Int.ofNat.inj e1;subst ei;rw[f4,BU,Ie (by rw[←BU];exact a3) e3]at hq;simp only[Bool.and_eq_true,decide_eq_true_eq]at hq;exact hq.1.2
     · have:∀(l:List Ref),jU p n (l++x.of::t)=some y→y.of ∉ l→y=x:=by
        intro l;induction l with
        |nil=>
         intro h _;simp only[List.nil_append,jU,a3]at h;cases h;obtain⟨xo,xa⟩:=x;simp at a2;subst a2;rfl
        |cons z l ih=>
         intro h hn;simp only[List.cons_append,jU]at h;split at h
         · cases h;simp at hn
         · exact ih h (fun hh=>hn (List.mem_cons_of_mem _ hh))
       have:=this pre hy hm;subst this;rw[e5]at f5;cases f5;rfl
   · cases hy
 · cases hx
theorem kW{p:ax}{r:Ref}{n:ByteArray}{x:kI}(h:pick p r n=some x):bP p x=true:=by
 obtain⟨h1,h2,i,c,m,h3,h4,h5,h6,h7⟩:=uP h;unfold bP;have e:cls p x.of=c:=by unfold cls;rw[h4];rfl
 rw[Q3 h1 h2,h3,e];have:=(List.getElem?_eq_some_iff.1 h5).1;simp;omega
section
variable {p:ax} {s:St} {r:List Fr} {t:Fr}
theorem zo(jM:dF p=true)(hG:Good p s)(hs:s.status=1){lk:Bool}{x:kI}{vs:List Val}(hx:bP p x=true)(hv:∀v∈vs,bD v s.heap.length=true)(hl:(vs.length:Int)≤(method p x).locals):
    l5 p (enter p lk x vs s):=by
 unfold enter;split
 · exact l5.bad hG hs Wk Wk
 · rename_i h8;split
   · exact l5.bad hG hs Wk Wk
   · split
     · have hm:=pG (ji jM hx).1;refine⟨by simp,by simp,⟨hG.heap,?_,by simp;omega,hG.outs,hG.l9,hG.back⟩,fun _=>by simp,hs⟩;intro f hf;rcases List.mem_append.1 hf with hf|hf
       · exact hG.frames f hf
       · simp only[List.mem_singleton]at hf;subst hf;refine aM.2 ⟨hx,by simp,by simp only;have:=hm.adq;omega,by simp;omega,by simp;have:=hm.Wo;omega,?_,by simp⟩;intro v hv';rcases List.mem_append.1 hv' with hv'|hv'
         · exact hv v hv'
         · rw[List.mem_replicate]at hv';rw[hv'.2];exact GI _
     · exact l5.bad hG hs Wk Wk
theorem lL{m:Method}{i:Ins}(h:iZ m i=true):eH i=true∧((i.op=2∨i.op=3)→0≤i.a∧i.a<m.locals)∧((i.op=11∨i.op=12∨i.op=13)→0≤i.a∧i.a<m.code.length)∧(i.op=1→iH i.a=true)∧(1≤i.op∧i.op≤15)∧
    ((i.op=6∨i.op=15)→aT i.name=true)∧((i.op=7∨i.op=8∨i.op=9)→aT i.name=true∧aT i.member=true):=by
 unfold iZ at h;simp only[Bool.and_eq_true]at h;have h1:=h.1;refine⟨h1,?_,?_,?_,?_,?_,?_⟩
 · intro ho;have h2:=h.2;rw[if_pos ho]at h2;simp only[decide_eq_true_eq]at h2;unfold eH isNum at h1;rcases ho with ho|ho<;>rw[ho]at h1<;>simp[kU,lZ]at h1<;>omega
 · intro ho;have h2:=h.2;rw[if_neg Wg,if_pos ho]at h2;simp only[decide_eq_true_eq]at h2;unfold eH isNum at h1;rcases ho with ho|ho|ho<;>rw[ho]at h1<;>simp[kU,lZ]at h1<;>omega
 · intro ho;unfold eH isNum at h1;rw[ho]at h1;simp[kU,lZ]at h1;unfold iH;simp;omega
 · unfold eH isNum jO kS mG at h1;simp only[Bool.or_eq_true,beq_iff_eq]at h1;repeat' split at h1
   all_goals first|omega|cases h1
 · intro ho;unfold eH isNum jO at h1;rcases ho with ho|ho<;>rw[ho]at h1<;>simp at h1<;>exact h1.2
 · intro ho;unfold eH isNum jO kS at h1;rcases ho with ho|ho|ho<;>rw[ho]at h1<;>simp at h1<;>exact⟨h1.1.2,h1.2⟩
theorem Oh (jM : dF p = true) (hG : Good p s) (h : s.frames = r ++ [t]) (hs : s.status = 1) {lk : Bool} {i : Ins} (hi : iZ (method p t.of) i = true) : l5 p (aO p lk i s) := by
 have bad:∀n:Int,1<n→n≤10→l5 p (n,s):=fun n h1 h2=>l5.bad hG hs h1 h2;obtain⟨_,i2,i3,i4,i5,_,_⟩:=lL hi;have ht:=aM.1 (hG.top h);have zD:∀{v s1},pop s=some (v,s1)→bD v s.heap.length=true∧Good p s1∧s1.frames=r++[{t with stack:=t.stack.take (t.stack.length - 1)}]∧s1.heap=s.heap∧s1.outs=s.outs∧s1.back=s.back∧s1.status=1:=fun hp=>by
  obtain⟨a1,a2,a3,a4,a5,a6,a7⟩:=MS hG h hp;exact⟨a1,a2,a3,a4,a5,a6,a7.trans hs⟩
 unfold aO;by_cases e1:i.op=1
 · rw[if_pos e1];exact lu hG h hs (il _ (i4 e1))
 rw[if_neg e1];by_cases e2:i.op=2
 · rw[if_pos e2];rw[iM h];split
   · exact bad _ Wk Wk
   · refine lu hG h hs ?_;have bY:i.a.toNat<t.locals.length:=by have:=i2 (.inl e2);omega
     rw[List.getElem?_eq_getElem bY];exact ht.2.2.2.2.2.1 _ (List.getElem_mem _)
 rw[if_neg e2];by_cases e3:i.op=3
 · rw[if_pos e3];split
   · exact bad _ Wk Wk
   · rename_i v s1 hp;obtain⟨a1,a2,a3,a4,a5,a6,a7⟩:=zD hp;have NH:=aM.1 (a2.top a3);rw[j6 a3];refine ou (r:=r) (a2.turn a3 (aM.2 ⟨NH.1,NH.2.1,NH.2.2.1,by simp;exact ht.2.2.2.1,NH.2.2.2.2.1,?_,NH.2.2.2.2.2.2⟩)) rfl a7;intro u hu;rcases List.mem_or_eq_of_mem_set hu with hu|rfl
     · exact NH.2.2.2.2.2.1 u hu
     · rw[a4];exact a1
 rw[if_neg e3];by_cases e4:i.op=4
 · rw [if_pos e4]; split
   · rename_i a b s1 hp;obtain⟨a1,a2,a3,a4,a5,a6,a7,a8⟩:=oO hG h hp;split
     · split
       · rename_i hn;exact lu a3 a4 (a8.trans hs) (il _ hn)
       · exact l5.bad a3 (a8.trans hs) Wk Wk
     · exact l5.bad a3 (a8.trans hs) Wk Wk
   · exact bad _ Wk Wk
 rw[if_neg e4];by_cases e5:i.op=5
 · rw[if_pos e5];exact lu hG h hs (uW _)
 rw[if_neg e5];by_cases e6:i.op=6
 · rw[if_pos e6];split
   · rename_i hc;split
     · exact bad _ Wk Wk
     · rename_i ZN;unfold fT at hc;simp only[Bool.and_eq_true]at hc;refine lu (r:=r) (t:=t) (hG.grow hc.2 Wg) h hs ?_;exact tF _ Wf X2
   · exact bad _ Wk Wk
 rw[if_neg e6];by_cases e7:i.op=7
 · rw [if_pos e7]; split
   · rename_i hg;split
     · exact bad _ Wk Wk
     · rename_i v s1 hp;obtain⟨a1,a2,a3,a4,a5,a6,a7⟩:=zD hp;split
       · rename_i ho;obtain⟨_,_,_,o,b1,b2,b3,b4⟩:=q9 a2 hg (by rw[a4];exact a1) ho;refine lu a2 a3 a7 ?_;rw[b3,List.getElem?_eq_getElem b4];exact((fV.1 a2.heap).2 o b2).2.2 _ (List.getElem_mem _)
       · rename_i ho;rcases Cj (p:=p) v (get p (top s).of.of.keeper i.name i.member).1.of s1 with h1|h1
         · exact absurd h1 ho
         · exact l5.bad a2 a7 h1.1 h1.2
   · exact bad _ Wk Wk
 rw[if_neg e7];by_cases e8:i.op=8
 · rw [if_pos e8]; split
   · split
     · rename_i o v s1 hp;obtain⟨a1,a2,a3,a4,a5,a6,a7,a8⟩:=oO hG h hp;have a8':=a8.trans hs;split
       · split
         · exact ou (r:=r) (a3.set (by rw[a5];exact a2 v Wf)) a4 a8'
         · rename_i ho;rcases Cj (p:=p) o (get p (top s).of.of.keeper i.name i.member).1.of s1 with h1|h1
           · exact absurd h1 ho
           · exact l5.bad a3 a8' h1.1 h1.2
       · exact l5.bad a3 a8' Wk Wk
     · exact bad _ Wk Wk
   · exact bad _ Wk Wk
 rw[if_neg e8];by_cases e9:i.op=9
 · rw [if_pos e9]; split
   · rename_i hc;split
     · rename_i vs s1 hp;obtain⟨a1,a2,a3,a4,a5,a6,a7,a8⟩:=oO hG h hp;have a8':=a8.trans hs;split
       · rename_i ho;split
         · rename_i x hx;obtain⟨o1,o2⟩:=oC ho;obtain⟨q,hq⟩:=l7 hc;have vB:=Cm hq o2 hx;have hm:=pG (ji jM (kW hx)).1;refine zo jM a3 a8' (kW hx) (by rw[a5];exact a2) ?_;have:=hm.args;rw[a1,←vB];simpa using this
         · exact l5.bad a3 a8' Wk Wk
       · rename_i ho;rcases Cj (p:=p) (vs.headD eU) (call p (top s).of.of.keeper i.name i.member).1.of s1 with h1|h1
         · exact absurd h1 ho
         · exact l5.bad a3 a8' h1.1 h1.2
     · exact bad _ Wk Wk
   · exact bad _ Wk Wk
 rw[if_neg e9];by_cases e10:i.op=10
 · rw [if_pos e10]; split
   · exact bad _ Wk Wk
   · rename_i v s1 hp;obtain⟨a1,a2,a3,a4,a5,a6,a7⟩:=zD hp;split
     · split
       · exact l5.bad (s:={s1 with back:=v}) ⟨a2.heap,a2.frames,a2.nf,a2.outs,a2.l9,by rw[a4];exact a1⟩ a7 Wk Wk
       · rename_i hn;have hr:r≠[]:=by
          rintro rfl;rw[a3]at hn;simp at hn
         obtain⟨r',t',rfl⟩:∃r' t',r=r'++[t']:=⟨r.dropLast,r.getLast hr,(List.dropLast_concat_getLast hr).symm⟩;have hd:s1.frames.dropLast=r'++[t']:=by rw[a3];simp
         refine lu (s:={s1 with frames:=s1.frames.dropLast}) (r:=r') (t:=t') ⟨a2.heap,?_,?_,a2.outs,a2.l9,a2.back⟩ hd a7 (by rw[a4];exact a1)
         · intro f hf;exact a2.frames f (List.dropLast_subset _ hf)
         · have:=a2.nf;simp only[List.length_dropLast];omega
     · exact l5.bad a2 a7 Wk Wk
 rw[if_neg e10];by_cases e11:i.op=11
 · rw [if_pos e11]; split
   · exact bad _ Wk Wk
   · rename_i v s1 hp;obtain⟨a1,a2,a3,a4,a5,a6,a7⟩:=zD hp;split
     · split
       · exact sV a2 a3 a7 (i3 (.inl e11)).1
       · exact ou a2 a3 a7
     · exact l5.bad a2 a7 Wk Wk
 rw[if_neg e11];by_cases e12:i.op=12
 · rw [if_pos e12]; split
   · exact bad _ Wk Wk
   · rename_i v s1 hp;obtain⟨a1,a2,a3,a4,a5,a6,a7⟩:=zD hp;split
     · split
       · exact sV a2 a3 a7 (i3 (.inr (.inl e12))).1
       · exact ou a2 a3 a7
     · exact l5.bad a2 a7 Wk Wk
 rw[if_neg e12];by_cases e13:i.op=13
 · rw[if_pos e13];exact sV hG h hs (i3 (.inr (.inr e13))).1
 rw[if_neg e13];by_cases e14:i.op=14
 · rw [if_pos e14]; split
   · exact bad _ Wk Wk
   · rename_i v s1 hp;obtain⟨a1,a2,a3,a4,a5,a6,a7⟩:=zD hp;split
     · rename_i hk;split
       · rename_i ho;refine ou (r:=r) (s:={s1 with outs:=s1.outs++[v.n]}) ⟨a2.heap,a2.frames,a2.nf,by simp;omega,?_,a2.back⟩ a3 a7;intro n hn;rcases List.mem_append.1 hn with hn|hn
         · exact a2.l9 n hn
         · simp at hn;subst hn;have:=tH a1 hk;unfold iH;simp;omega
       · exact ou a2 a3 a7
     · exact l5.bad a2 a7 Wk Wk
 rw[if_neg e14]
 · split
   · exact bad _ Wk Wk
   · rename_i v s1 hp;obtain⟨a1,a2,a3,a4,a5,a6,a7⟩:=zD hp;split
     · split
       · exact lu a2 a3 a7 (by rw[a4];exact a1)
       · split
         · split
           · exact lu a2 a3 a7 (by rw[a4];exact a1)
           · exact l5.bad a2 a7 Wk Wk
         · exact l5.bad a2 a7 Wk Wk
     · exact l5.bad a2 a7 Wk Wk
structure yx(p:ax)(s:St):Prop where
 good:Good p s
 st:1≤s.status∧s.status≤10
 goes:s.status=1↔s.frames≠[]
theorem Gp{p:ax}{s:St}:Cx p s=true↔yx p s:=by
 unfold Cx;simp only[Bool.and_eq_true,decide_eq_true_eq,List.all_eq_true,beq_iff_eq];constructor
 · rintro⟨⟨⟨⟨⟨⟨⟨⟨⟨h1,h2⟩,h3⟩,h4⟩,h5⟩,h6⟩,h7⟩,h8⟩,h9⟩,Yb⟩;refine⟨⟨h9,h8,h5,h4,h7,Yb⟩,⟨h1,h2⟩,?_⟩;rw[Bool.eq_iff_iff]at h6;simp only[decide_eq_true_eq]at h6;rw[←h6,List.length_pos_iff]
 · rintro⟨⟨h9,h8,h5,h4,h7,Yb⟩,⟨h1,h2⟩,h6⟩;refine⟨⟨⟨⟨⟨⟨⟨⟨⟨h1,h2⟩,(fV.1 h9).1⟩,h4⟩,h5⟩,?_⟩,h7⟩,h8⟩,h9⟩,Yb⟩;rw[Bool.eq_iff_iff];simp only[decide_eq_true_eq];rw[h6,List.length_pos_iff]
theorem l5.runs{x:Int×St}(h:l5 p x):yx p (end_ x.1 x.2):=by
 obtain⟨n,s⟩:=x;obtain⟨h1,h2,hG,h3,h4⟩:=h;unfold end_;simp only at*;split
 · rename_i e;exact⟨hG,by omega,by simp[h4,h3 e]⟩
 · rename_i e;exact⟨⟨hG.heap,by simp,by simp,hG.outs,hG.l9,hG.back⟩,⟨h1,h2⟩,by simp[e]⟩
theorem M4(jM:dF p=true)(hR:yx p s)(hs:s.status=1):∃r t i,s.frames=r++[t]∧dX p t s.heap.length=true∧(method p t.of).code[t.pc.toNat]?=some i∧iZ (method p t.of) i=true:=by
 obtain⟨r,t,h⟩:=Oo (hR.goes.1 hs);have ht:=hR.good.top h;obtain⟨h1,h2,h3,_⟩:=aM.1 ht;have bY:t.pc.toNat<(method p t.of).code.length:=by omega
 exact⟨r,t,_,h,ht,List.getElem?_eq_getElem bY,(pG (ji jM h1).1).ins _ (List.getElem_mem _)⟩
theorem Jd(jM:dF p=true)(hR:yx p s)(lk:Bool):yx p (step p lk s):=by
 unfold step;split
 · rename_i hs;obtain⟨r,t,i,h,_,h2,h3⟩:=M4 jM hR hs;refine l5.runs ?_;unfold stepped;rw[iM h,h2];exact Oh jM hR.good h hs h3
 · exact hR
end
end Go.Proofs.YtkmclfpjpajjeaaGreat.M
namespace Go.Proofs.YtkmclfpjpajjeaaGreat
open Go Go.RowKit
attribute [local go_sem] Oper.semAt_some
theorem uq{p:M.ax}(jM:M.dF p=true){r:M.Ref}{c:M.Class}(h:M.cls? p r=some c):c.fields.length≤3:=by
 have:=M.Jw jM h;unfold M.jF at this;simp only[Bool.and_eq_true,decide_eq_true_eq]at this;exact this.1.1.1.2
theorem nC{p:M.ax}(jM:M.dF p=true)(L:List M.Ref):(M.dB p L []).length≤L.length*3:=by
 rw[M.AO];induction L with
 |nil=>simp
 | cons c r ih =>
  have:(M.cls p c).fields.length≤3:=by
   unfold M.cls;cases h:M.cls? p c with
   |none=>simp[M.ack]
   |some d=>exact uq jM h
  simp only[List.map_cons,List.sum_cons,List.length_cons,List.length_nil]at ih ⊢;omega
theorem H9(p:M.ax)(L:List M.Ref)(c:M.Ref):M.dB p (L++[c]) []=M.dx c (M.cls p c).fields (M.dB p L []):=by
 rw[M.vD];rfl
theorem Dp{w:World}{I:Nat→Prop}{v:Value}{xs:List M.Ref}(h:SliceOf 2 zn w I v xs):SliceOf 2 zn w (fun b=>I b∧b<w.heap.size) v xs:=by
 obtain⟨a,cap,e,h1,h2,h3⟩:=h;refine⟨a,cap,e,h1,h2,fun i x hx=>?_⟩;obtain⟨b,off,cs,ea,hI,rfl,hl,hc⟩:=h3 i x hx;exact⟨b,off,_,ea,⟨hI,aF hc.two.1⟩,rfl,hl,hc⟩
def ac9(p:M.ax)(w2:World)(bb S:Nat)(pre:List (Int×M.Ref))(W:World):Prop:=
 ∃v',ay W bb 204 #[v']∧W.ownsRow S 164 5 v' (M.dB p (pre.map Prod.snd) []).length ((M.dB p (pre.map Prod.snd) []).flatMap jH)∧Kp (·=bb) w2 W
theorem uJ(w:World)(l:aH)(p:M.ax)(h:aC w l p)(r:M.Ref):
    Calls Tryz.prog 89 #[.pointer (some ⟨l.L,0,none⟩),.agg #[.int .i64 r.keeper,.string r.name]] w fun e w'=>
     (∃v,e=.returned v∧SliceOf 5 TB w' (fun b=>w.heap.size≤b) v (M.layout p r))∧aC w' l p∧Kp (·=l.D) w w':=by
 have KM:=h.Hl;have CV:=h.lt;have hO:=h.ord;have aU:Ext w ((w.alloc (.cells #[.pointer (some ⟨l.L,0,none⟩)] 56)).alloc (.cells #[.int .i64 r.keeper,.string r.name] 70)):=kx;have H:=Z3 (h.ext aU);have b2:=(ay.new w 56 #[.pointer (some ⟨l.L,0,none⟩)]).ext (Kp.rr.alloc (.cells #[.int .i64 r.keeper,.string r.name] 70));have b3:=ay.new (w.alloc (.cells #[.pointer (some ⟨l.L,0,none⟩)] 56)) 70 #[.int .i64 r.keeper,.string r.name];simp only[World.size_alloc]at b3;have bM:=Z3 aU;clear h aU;refine(callsIn_wide (n:=10)).1 ?_;refine callsIn_of_wp_marks Tryz.func89 rfl trivial ?_ rfl;simp only[Tryz.ntmps89,List.size_toArray,List.length_cons,List.length_nil,Nat.reduceAdd,Nat.reduceSub,Array.replicate_succ,Array.replicate_zero,List.push_toArray,List.append_toArray,List.nil_append,List.cons_append];have q2:=b2.c 0 (.pointer (some ⟨l.L,0,none⟩)) rfl;obtain⟨-,q3,q4, -⟩:=b3.ca;cases pW:M.bu p r
 all_goals
  have HC:=Z3 pW;clear pW;gi_wp2_with fail;refine⟨trivial,?_⟩;refine(callsIn_wide.2 (ik _ _ _ H.o r)).mono ?_;rintro e w1 ⟨rfl,Aq,lI⟩;rw[HC.o];have Db:w.heap.size+1<w1.heap.size:=by have:=lI.size;simp at this;omega
  have vU:w.heap.size<w1.heap.size:=by omega
  have Oe:=b2.kp lI Wg;have PZ:=b3.kp lI Wg;have Ab:Zs (Kp (·=l.D) w w1):=Z3 (bM.o.any.trans lI);have Bw:=Z3 Aq;have p2:=Oe.c 0 (.pointer (some ⟨l.L,0,none⟩)) rfl;obtain⟨-,p3,p4, -⟩:=PZ.ca;clear q2 q3 q4 lI Aq
 · have HV:Zs (M.layout p r=[]):=Z3 (by unfold M.layout;rw[HC.o];rfl);gi_wp2_with fail;refine⟨.slice none 0 0,by simp[results,Tryz.f89,go_sem],⟨_,rfl,by rw[HV.o];exact SliceOf.nil _ _ _ _⟩,Bw.o,Ab.o⟩
 · have HV:Zs (M.layout p r=M.dB p (M.chain p r).reverse []):=Z3 (by unfold M.layout;rw[HC.o];rfl);have b5:=ay.new w1 204 #[.slice none 0 0];gi_wp2_with fail;refine⟨trivial,?_⟩;refine(callsIn_wide.2 (mH _ _ _ (Bw.o.ext kx) r)).mono ?_;rintro e w2 ⟨⟨v,rfl,hs⟩,bZ⟩;obtain⟨a,cap,rfl,hn,dm⟩:=hs.form;gi_wp2_with fail;refine⟨trivial,?_⟩;refine(callsIn_wide.2 (Ag _ _ _ _)).mono ?_;rintro e w3 ⟨rfl,rfl⟩;gi_wp2_with fail;have NI:=bZ.size;simp only[World.size_alloc]at NI;have bb2:=b5.ext bZ;have wE:Zs (aC w2 l p):=Z3 ((Bw.o.ext kx).ext bZ);have yu:Zs (Kp (·=l.D) w w2):=Z3 (Ab.o.trans ((kx:Ext w1 _).any.trans bZ.any));have B2:=Z3 (And.intro ((Oe.ext kx).ext bZ) ((PZ.ext kx).ext bZ));have Z5:w1.heap.size<w2.heap.size:=by omega
   clear b2 b3 Oe PZ b5 p2 p3 p4 bZ;generalize agD:w1.heap.size=bb at*;have HS:=Z3 hs;have Bz:Zs ((M.chain p r).length≤6):=Z3 (M.sF p r);have TM:Zs (∀x∈M.chain p r,∃c,M.cls? p x=some c):=Z3 fun x hx=>M.dM hx;clear hs;generalize M.chain p r=xs at*;refine Gl (gf:=149) (lb:=#[.pointer (some ⟨w2.heap.size,0,none⟩)]) (α:=Int×M.Ref) rfl (enters_of Tryz.func149 Wr rfl) (encs:=IC) (fun x=>rfl)
    (Bb:=fun k=>k=bb∨w2.heap.size+3≤k)
    (yL xs w2.heap.size (.slice a xs.length cap) (fun b=>bb+1≤b∧b<w2.heap.size) _ ?hBd) ?hIt ?hD1 ?hD2 ?hB1 ?hB2
    (ac9 p w2 bb (w2.heap.size+3)) (fun _ _ _=>False) ?hI ?hIx ?h0 ?hIB
    (fun pre x W a₁ W₁=>ac9 p w2 bb (w2.heap.size+3) pre W∧(∃rest,backTo xs xs.length=pre++x::rest)∧
     w2.heap.size+2<W.heap.size∧W₁=W.alloc (.cells #[.int .i64 x.2.keeper,.string x.2.name] 70)∧
     a₁={tmps:=#[.pointer (some ⟨l.L,0,none⟩),.agg #[.int .i64 r.keeper,.string r.name],.pointer (some ⟨w.heap.size,0,none⟩),.pointer (some ⟨w.heap.size+1,0,none⟩),.slice none 0 0,.pointer (some ⟨bb,0,none⟩),undef,.pointer (some ⟨W.heap.size,0,none⟩),
      .pointer (some ⟨l.L,0,none⟩),.agg #[.int .i64 r.keeper,.string r.name],.bool true,.bool false,.pointer (some ⟨l.L,0,none⟩),.agg #[.int .i64 r.keeper,.string r.name],.slice a xs.length cap,.func (.func 149) #[] #[.pointer (some ⟨w2.heap.size,0,none⟩)],
      .int .i64 x.1,.agg #[.int .i64 x.2.keeper,.string x.2.name],undef,undef,undef,undef,undef,undef,undef,undef],defers:=[]}) ?hassign ?hAx ?hbody ?hdone ?hstop
   case hBd=>
    intro k hk;have JK:(k=bb∨w2.heap.size+3≤k)∨k=(w2.alloc (.cells #[.slice a xs.length cap] 67)).heap.size+1:=hk;simp only[World.size_alloc]at JK;omega
   case hIt=>
    intro W hW;refine⟨(ay.new _ _ _).ext hW,?_⟩;refine(Dp HS.o).keep zn.stays (Ext.same (((Kp.refl _ w2).alloc _:Ext w2 _).trans hW)) (fun b hb=>?_);have:=hb.1;simp only[World.size_alloc]at this;exact⟨by omega,hb.2⟩
   case hD1=>exact fun h=>h
   case hD2=>exact fun h=>h
   case hB1=>simp only[World.size_alloc];omega
   case hB2=>simp only[World.size_alloc];omega
   case hI=>
    rintro s A B ⟨v',e1,e2,e3⟩ hk;simp only[World.size_alloc]at hk;exact⟨v',e1.kp hk X2,aA e2 hk (fun g _ hg h=>by simp at h;omega),e3.own hk (fun k hk=>by simp at hk;omega)⟩
   case hIx=>exact fun _ _ _ _ h=>h.elim
   case h0=>exact⟨.slice none 0 0,bb2.ext kx,World.ownsRow_nil _ _ _ _,(kx:Ext w2 _).any⟩
   case hIB=>exact fun _ _ _=>trivial
   case hassign=>
    intro pre x W K Qq hi bY hK;simp only[IC];simp only[World.size_alloc]at bY;gi_wp2
   case hAx=>
    rintro pre x W a₁ W₁ ⟨_,_,_,rfl,_⟩;exact((Kp.refl _ W).alloc _)
   case hbody=>
    rintro pre x W a₁ W₁ W₂ ⟨⟨v',e1,e2,e3⟩,Qq,bY,rfl,rfl⟩ l8 uE;simp only[World.size_alloc]at l8 uE;obtain⟨rest,yR⟩:=Qq;have hxm:x.2∈xs:=by
     have:=congrArg (List.map Prod.snd) yR;rw[kQ _ _ (Nat.le_refl _),List.take_length]at this;have h2:x.2∈xs.reverse:=by rw[this];simp
     simpa using h2
    have aek:(pre.map Prod.snd).length≤6:=by
     have:=congrArg List.length yR;have h2:=congrArg List.length (kQ xs xs.length (Nat.le_refl _));simp at this h2;have:=Bz.o;simp;omega
    obtain⟨c,fU⟩:=TM.o _ hxm;have El:Kp (·=bb) w2 W₂:=(e3.alloc _).own l8 (fun k hk=>by omega);have WW:aC W₂ l p:=wE.o.kp El (fun k hk e=>by omega);obtain⟨cs,cK,nR⟩:=q8 _ l p WW x.2.keeper x.2.name c fU;obtain⟨a1,c1,a2,c2,rfl⟩:=cK.form;obtain⟨vf',vm',Z7,sf, -⟩:=cK;simp only[List.cons.injEq,and_true,true_and]at Z7;obtain⟨rfl,rfl⟩:=Z7;have zA:∀W,(Instr.field 75 (.agg #[.string c.name,.string c.aL,.slice a1 c.fields.length c1,.slice a2 c.methods.length c2]) 2).run Tryz.prog W=.ok (.slice a1 c.fields.length c1) W:=(fun W=>by kernel_rfl);have cb:=(ay.new W 70 #[.int .i64 x.2.keeper,.string x.2.name]).kp l8 Wg;obtain⟨uz,u0,u1, -⟩:=cb.ca;have t2:=(B2.o.1.kp El Wg).c 0 (.pointer (some ⟨l.L,0,none⟩)) rfl;have tz:=aF t2;have g1:=(e1.ext ((Kp.refl _ W).alloc _)).kp l8 Wg;have g2:=aA (aA (D:=fun _=>False) e2 ((Kp.refl _ W).alloc (.cells #[.int .i64 x.2.keeper,.string x.2.name] 70)) (fun _ _ _ h=>h)) l8 (fun g _ hg=>by omega);have⟨HG,XH,SK,HLW,HF3,qh⟩:=qU (And.intro g1 (And.intro g2 El)) sf nR WW (uq WW.ok fU) fU;have hzz:w2.heap.size+3≤W₂.heap.size:=by omega
    have hv7:¬v'.ownBlock=some W.heap.size:=fun e=>by have:=(e2.lt _ e).2;omega
    have hvB:∀q,v'.ownBlock=some q→w2.heap.size+3≤q:=fun q hq=>(e2.lt _ hq).1;obtain⟨T,f,dA,HT⟩:=iN.ex (fun W'=>Kp (fun k=>k=bb∨v'.ownBlock=some k) W₂ W') _ Kp.rr;have r2:=fun s=>((B2.o.1.kp El Wg).kp (HT.aW s) (by intro h;rcases h with h|h;(· omega);(· have:=hvB _ h;omega))).c 0 (.pointer (some ⟨l.L,0,none⟩)) rfl;obtain⟨-,r7,r8, -⟩:=ay.kY fun s=>(cb.kp (HT.aW s) (by intro h;rcases h with h|h;(· omega);(· exact hv7 h)));have⟨aj,HVB⟩:=aJ HT hvB;clear e1 e2 e3 cb g1 g2 El sf nR WW fU l8 uE bb2 t2 u0 u1 HT hvB hv7;gi_wp2_with fail;(refine We aj 6 [([0,1,2],3),([4],5)] [] ?_ (fun _=>trivial) ?_)
    · exact Kp.rr.drew
    (refine Vx [_,_,_] rfl rfl fun K hK=>?_);(repeat (go_big_quiet_step (fail)));(refine qn hK fun K2 ag=>?_);clear hK K;gi_wp2_with fail;refine⟨trivial,?_⟩;refine(CallsIn.inRound _ (callsIn_wide.2 (SK.o _ (Kp.rr.drew)))).mono ?_;rintro e w4 ⟨rfl,dI⟩;have nQ:∀D:Nat→Prop,Kp D W₂ w4:=fun D=>(((Kp.refl _ W₂).drew:Ext W₂ _).trans dI).any;gi_wp2_with fail;(refine kk aj ag (nQ _) ?_);clear ag K2;(refine Vx [_] rfl rfl fun K hK=>?_);(repeat (go_big_quiet_step (fail)));(refine qn hK fun K2 ag=>?_);clear hK K;gi_wp2_with fail;refine⟨trivial,?_⟩;have Yx:Ext W₂ w4:=nQ _;refine(CallsIn.inRound _ (callsIn_wide.2 (Lr w4 bb (w2.heap.size+3) v' _ x.2 (· <l.O) _ c.fields (HG.o.1.ext Yx) (aA (D:=fun _=>False) HG.o.2.1 Yx fun _ _ _ x=>x) (SliceOf.ext XH.o eF.stays Yx) (fun b hb=>by omega) (by have:=Yx.size;omega) ?hl (fun e=>by have:=HVB.o _ e;omega)))).mono ?_
    case hl=>
     have h1:=HF3.o;have h2:=nC HLW.o.ok (pre.map Prod.snd);omega
    rintro e w5 ⟨rfl,v5,Hq,UT,hn5,gU⟩;have yJ:=Z3 (And.intro Hq (And.intro UT (And.intro hn5 gU)));have abJ:Kp (fun k=>k=bb∨v'.ownBlock=some k) W₂ w5:=(nQ _).trans gU;clear Hq UT hn5 gU dI nQ;gi_wp2_with fail;(refine kk aj ag abJ ?_);clear ag K2;(refine Vy ?_);gi_wp2_with fail;have BU:M.cls p x.2=c:=by unfold M.cls;rw[qh.o];rfl
    refine⟨abJ.weak ?_,v5,yJ.o.1,?_,(HG.o.2.2.mix abJ ?_)⟩
    · intro k hk h;rcases h with h|h
      · exact .inl h
      · exact .inr (HVB.o _ h)
    · rw[List.map_append,List.map_cons,List.map_nil,H9,BU,M.oG];exact yJ.o.2.1
    · intro k hk h;rcases h with h|h
      · exact h
      · have:=HVB.o _ h;omega
   case hdone=>
    rintro ys W rfl ⟨v',e1,e2,e3⟩ hK;obtain⟨va,vc,rfl⟩:=bO e2;have k0:=e1.c 0 _ rfl;have HE:=Z3 (And.intro e1 (And.intro e2 e3));clear e1 e2 e3 bb2;simp only[Exit.inBlock,Exit.then];gi_wp2;obtain⟨e1,e2,e3⟩:=HE.o;refine⟨by simp,.inl ⟨_,_,rfl,run_takeDeferred hK,?_⟩⟩;have uC:=Kp.putObj W (w2.alloc (.cells #[.slice a xs.length cap] 67)).heap.size (.deferred none);have uE:(w2.alloc (.cells #[.slice a xs.length cap] 67)).heap.size=w2.heap.size+1:=by simp
    refine⟨.slice va (M.dB p ((backTo xs xs.length).map Prod.snd) []).length vc,by simp[results,Tryz.f89,go_sem],⟨_,rfl,?_⟩,?_,?_⟩
    · have DV:(backTo xs xs.length).map Prod.snd=xs.reverse:=by rw[kQ _ _ (Nat.le_refl _),List.take_length]
      rw[HV.o,←DV];have h1:=nC wE.o.ok ((backTo xs xs.length).map Prod.snd);have h2:((backTo xs xs.length).map Prod.snd).length=xs.length:=by rw[DV,List.length_reverse]
      have h3:=Bz.o;exact SliceOf.gH (base:=w2.heap.size+3) jH (aA e2 uC (fun g _ hg=>by omega)) rfl rfl (fun _ _=>rfl) (fun _ _=>rfl) (fun b h h'=>by show w.heap.size≤b;omega) Wg
    · exact(wE.o.kp e3 (fun k hk e=>by omega)).kp uC (fun k hk e=>by omega)
    · exact((yu.o.own e3 (fun k hk=>by omega))).own uC (fun k hk=>by omega)
   case hstop=>exact fun _ _ _ _ h=>h.elim
end Go.Proofs.YtkmclfpjpajjeaaGreat
namespace Go.Proofs.YtkmclfpjpajjeaaGreat
open Go Go.RowKit
attribute [local go_sem] Oper.semAt_some
def acr(p:M.ax)(of:M.Ref)(xs:List M.Ref)(w2:World)(fb:Nat)(pre:List (Int×M.Ref))(W:World):Prop:=
 ∃n:Nat,n≤pre.length*3∧ay W fb 3 #[.int .i64 n]∧Kp (·=fb) w2 W∧∀rest,xs.reverse=pre.map Prod.snd++rest→M.ig p of xs.reverse 0=M.ig p of rest n
def afk(p:M.ax)(of:M.Ref)(xs:List M.Ref)(w2:World)(fb:Nat)(c:Code)(_:List (Int×M.Ref))(W:World):Prop:=
 c=.exit 0∧∃n:Nat,ay W fb 3 #[.int .i64 n]∧Kp (·=fb) w2 W∧M.ig p of xs.reverse 0=n
theorem Cc(w:World)(l:aH)(p:M.ax)(h:aC w l p)(of low:M.Ref):
    Calls Tryz.prog 128 #[.pointer (some ⟨l.L,0,none⟩),.agg #[.int .i64 of.keeper,.string of.name],.agg #[.int .i64 low.keeper,.string low.name]] w fun e w'=>
     e=.returned (.int .i64 (M.gT p of low))∧Ext w w':=by
 have KM:=h.Hl;have CV:=h.lt;have hO:=h.ord;obtain⟨w1,jX⟩:∃w1,w1=(((w.alloc (.cells #[.pointer (some ⟨l.L,0,none⟩)] 56)).alloc (.cells #[.int .i64 of.keeper,.string of.name] 70)).alloc (.cells #[.int .i64 low.keeper,.string low.name] 70)).alloc (.cells #[.int .i64 0] 3):=⟨_,rfl⟩;have aU:Ext w w1:=by rw[jX];exact kx
 have H:=Z3 (h.ext aU);have b2:ay w1 w.heap.size 56 #[.pointer (some ⟨l.L,0,none⟩)]:=by rw[jX];exact(ay.new w _ _).ext kx
 have b3:ay w1 (w.heap.size+1) 70 #[.int .i64 of.keeper,.string of.name]:=by
  rw[jX];have:=(ay.new (w.alloc (.cells #[.pointer (some ⟨l.L,0,none⟩)] 56)) 70 #[.int .i64 of.keeper,.string of.name]);simp only[World.size_alloc]at this;exact this.ext kx
 have b4:ay w1 (w.heap.size+1+1) 70 #[.int .i64 low.keeper,.string low.name]:=by
  rw[jX];have:=(ay.new ((w.alloc (.cells #[.pointer (some ⟨l.L,0,none⟩)] 56)).alloc (.cells #[.int .i64 of.keeper,.string of.name] 70)) 70 #[.int .i64 low.keeper,.string low.name]);simp only[World.size_alloc]at this;exact this.ext kx
 have b5:ay w1 (w.heap.size+1+1+1) 3 #[.int .i64 0]:=by
  rw[jX];have:=(ay.new (((w.alloc (.cells #[.pointer (some ⟨l.L,0,none⟩)] 56)).alloc (.cells #[.int .i64 of.keeper,.string of.name] 70)).alloc (.cells #[.int .i64 low.keeper,.string low.name] 70)) 3 #[.int .i64 0]);simpa only[World.size_alloc]using this
 have Db:w1.heap.size=w.heap.size+4:=by rw[jX];simp
 have⟨bM,BB⟩:=aJ aU jX;clear h aU;refine(callsIn_wide (n:=10)).1 ?_;refine callsIn_of_wp_marks Tryz.func128 rfl trivial ?_ rfl;simp only[Tryz.ntmps128,List.size_toArray,List.length_cons,List.length_nil,Nat.reduceAdd,Nat.reduceSub,Array.replicate_succ,Array.replicate_zero,List.push_toArray,List.append_toArray,List.nil_append,List.cons_append];clear jX;gi_wp2_with fail;rw[←BB.o];refine⟨trivial,?_⟩;refine(callsIn_wide.2 (mH _ _ _ H.o low)).mono ?_;rintro e w2 ⟨⟨v,rfl,hs⟩,bZ⟩;obtain⟨a,cap,rfl,hn,dm⟩:=hs.form;gi_wp2_with fail;refine⟨trivial,?_⟩;refine(callsIn_wide.2 (Ag _ _ _ _)).mono ?_;rintro e w3 ⟨rfl,rfl⟩;gi_wp2_with fail;have NI:=bZ.size;have bb2:=b5.ext bZ;have wE:Zs (aC w2 l p):=Z3 (H.o.ext bZ);have gL:Zs (Ext w w2):=Z3 (bM.o.trans bZ);have B2:=Z3 (And.intro (b2.ext bZ) (b3.ext bZ));clear b2 b3 b4 b5 bZ;generalize agD:w.heap.size+1+1+1=fb at*;have Z5:fb<w2.heap.size:=by omega
 have HS:=Z3 hs;have Bz:Zs ((M.chain p low).length≤6):=Z3 (M.sF p low);have TM:Zs (∀x∈M.chain p low,∃c,M.cls? p x=some c):=Z3 fun x hx=>M.dM hx;have HV:Zs (M.gT p of low=M.ig p of (M.chain p low).reverse 0):=Z3 rfl;clear hs;generalize M.chain p low=xs at*;refine Gl (gf:=149) (lb:=#[.pointer (some ⟨w2.heap.size,0,none⟩)]) (α:=Int×M.Ref) rfl (enters_of Tryz.func149 Wr rfl) (encs:=IC) (fun x=>rfl)
  (Bb:=fun k=>k=fb)
  (yL xs w2.heap.size (.slice a xs.length cap) (fun b=>fb+1≤b∧b<w2.heap.size) _ ?hBd) ?hIt ?hD1 ?hD2 ?hB1 ?hB2
  (acr p of xs w2 fb) (afk p of xs w2 fb) ?hI ?hIx ?h0 ?hIB
  (fun pre x W a₁ W₁=>acr p of xs w2 fb pre W∧(∃rest,backTo xs xs.length=pre++x::rest)∧
   w2.heap.size+2<W.heap.size∧W₁=W.alloc (.cells #[.int .i64 x.2.keeper,.string x.2.name] 70)∧
   a₁={tmps:=#[.pointer (some ⟨l.L,0,none⟩),.agg #[.int .i64 of.keeper,.string of.name],.agg #[.int .i64 low.keeper,.string low.name],.pointer (some ⟨w.heap.size,0,none⟩),.pointer (some ⟨w.heap.size+1,0,none⟩),.pointer (some ⟨w.heap.size+1+1,0,none⟩),.int .i64 0,.pointer (some ⟨fb,0,none⟩),undef,.pointer (some ⟨W.heap.size,0,none⟩),
    .pointer (some ⟨l.L,0,none⟩),.agg #[.int .i64 low.keeper,.string low.name],.slice a xs.length cap,.func (.func 149) #[] #[.pointer (some ⟨w2.heap.size,0,none⟩)],
    .int .i64 x.1,.agg #[.int .i64 x.2.keeper,.string x.2.name],undef,undef,undef,undef,undef,undef,undef,undef,undef,undef,undef],defers:=[]}) ?hassign ?hAx ?hbody ?hdone ?hstop
 case hBd=>
  intro k hk;have JK:(k=fb)∨k=(w2.alloc (.cells #[.slice a xs.length cap] 67)).heap.size+1:=hk;simp only[World.size_alloc]at JK;omega
 case hIt=>
  intro W hW;refine⟨(ay.new _ _ _).ext hW,?_⟩;refine(Dp HS.o).keep zn.stays (Ext.same (((Kp.refl _ w2).alloc _:Ext w2 _).trans hW)) (fun b hb=>?_);have:=hb.1;exact⟨by omega,hb.2⟩
 case hD1=>exact fun h=>h
 case hD2=>exact fun h=>h
 case hB1=>simp only[World.size_alloc];omega
 case hB2=>simp only[World.size_alloc];omega
 case hI=>
  rintro s A B ⟨n,e0,e1,e2,e3⟩ hk;simp only[World.size_alloc]at hk;exact⟨n,e0,e1.kp hk X2,e2.own hk (fun k hk=>by simp at hk;omega),e3⟩
 case hIx=>
  rintro c s A B ⟨e0,n,e1,e2,e3⟩ hk;simp only[World.size_alloc]at hk;exact⟨e0,n,e1.kp hk X2,e2.own hk (fun k hk=>by simp at hk;omega),e3⟩
 case h0=>exact⟨0,by simp,bb2.ext kx,(kx:Ext w2 _).any,fun rest h=>by simp at h;rw[h]⟩
 case hIB=>exact fun _ _ _=>trivial
 case hassign=>
  intro pre x W K Qq hi bY hK;simp only[IC];simp only[World.size_alloc]at bY;gi_wp2
 case hAx=>
  rintro pre x W a₁ W₁ ⟨_,_,_,rfl,_⟩;exact((Kp.refl _ W).alloc _)
 case hbody=>
  rintro pre x W a₁ W₁ W₂ ⟨⟨n,e0,e1,e2,e3⟩,Qq,bY,rfl,rfl⟩ l8 uE;simp only[World.size_alloc]at l8 uE;obtain⟨rest,yR⟩:=Qq;have DV:xs.reverse=pre.map Prod.snd++x.2::rest.map Prod.snd:=by
   have:=congrArg (List.map Prod.snd) yR;rw[kQ _ _ (Nat.le_refl _),List.take_length]at this;simpa using this
  have hxm:x.2∈xs:=by
   have h2:x.2∈xs.reverse:=by rw[DV];simp
   simpa using h2
  have aek:n≤18:=by
   have h1:=congrArg List.length DV;simp at h1;have:=Bz.o;omega
  have hfg:=e3 _ DV;obtain⟨c,fU⟩:=TM.o _ hxm;have El:Kp (·=fb) w2 W₂:=(e2.alloc _).own l8 (fun k hk=>by omega);have WW:aC W₂ l p:=wE.o.kp El (fun k hk e=>by omega);obtain⟨cs,cK,nR⟩:=q8 _ l p WW x.2.keeper x.2.name c fU;obtain⟨a1,c1,a2,c2,rfl⟩:=cK.form;have zA:∀W,(Instr.field 75 (.agg #[.string c.name,.string c.aL,.slice a1 c.fields.length c1,.slice a2 c.methods.length c2]) 2).run Tryz.prog W=.ok (.slice a1 c.fields.length c1) W:=(fun W=>by kernel_rfl);have cb:=(ay.new W 70 #[.int .i64 x.2.keeper,.string x.2.name]).kp l8 Wg;obtain⟨-,u0,u1, -⟩:=cb.ca;obtain⟨-,t2,t3, -⟩:=(B2.o.2.kp El Wg).ca;have g1:=(e1.ext ((Kp.refl _ W).alloc _)).kp l8 Wg;have⟨HG,SK,HF3⟩:=bg (And.intro g1 El) nR (uq WW.ok fU);have BU:M.cls p x.2=c:=by unfold M.cls;rw[fU];rfl
  have⟨Xx,HFG,jc⟩:=bg BU hfg e3;have afF:=Z3 e0;obtain⟨T,f,dA,HT⟩:=iN.ex (fun W'=>Ext W₂ W') _ Kp.rr;have r2:=fun s=>((B2.o.1.kp El Wg).ext (HT.aW s)).c 0 (.pointer (some ⟨l.L,0,none⟩)) rfl;have r5:=fun s=>(g1.ext (HT.aW s)).c 0 (.int .i64 n) rfl;obtain⟨-,r7,r8, -⟩:=ay.kY fun s=>(cb.ext (HT.aW s));have aj:=Z3 HT;clear e0 e1 e2 e3 cb g1 El nR WW fU l8 uE bb2 HT BU hfg DV yR cK;have DT:((of.keeper=x.2.keeper∧of.name=x.2.name)∧x.2=of)∨(((of.keeper=x.2.keeper∧(x.2.name.toList==of.name.toList)=false)∨(x.2.keeper==of.keeper)=false)∧¬x.2=of):=by
   rcases ym x.2.keeper of.keeper x.2.name of.name with⟨h1,h2⟩|⟨h1,h2,h3⟩|⟨h1,h2⟩
   · exact .inl ⟨⟨h1.symm,h2.symm⟩,M.Ref.gJ.2 ⟨h1,h2⟩⟩
   · exact .inr ⟨.inl ⟨h1.symm,h2⟩,fun e=>h3 (by rw[e])⟩
   · exact .inr ⟨.inr h1,fun e=>h2 (by rw[e])⟩
  rcases DT with⟨⟨h1,h2⟩,h3⟩|⟨h1,h3⟩
  · have H3:=Z3 h3;clear h3;gi_wp2_with fail;refine⟨Kp.rr,rfl,n,HG.o.1,HG.o.2,?_⟩;rw[HFG.o];unfold M.ig;rw[if_pos H3.o]
  · have H3:=Z3 h3;clear h3;have Qp:(n:Int)≤18:=by omega
    have hff:(c.fields.length:Int)≤3:=by have:=HF3.o;omega
    rcases h1 with⟨h1,h2⟩|h1
    all_goals
     gi_wp2_with fail;(refine We aj 7 [([0,1,2],3)] [4,5,6] ?_ (fun _=>trivial) ?_)
     · exact Kp.rr.drew
     (refine Vx [_,_,_] rfl rfl fun K hK=>?_);(repeat (go_big_quiet_step (fail)));(refine qn hK fun K2 ag=>?_);clear hK K;gi_wp2_with fail;refine⟨trivial,?_⟩;refine(CallsIn.inRound _ (callsIn_wide.2 (SK.o _ (Kp.rr.drew)))).mono ?_;rintro e w4 ⟨rfl,dI⟩;have nQ:Ext W₂ w4:=((Kp.refl _ W₂).drew:Ext W₂ _).trans dI;have b4':=HG.o.1.ext nQ;obtain⟨z0,d0, -⟩:=b4'.ca;have f0:=b4'.frozen 0;have kP:=Z3 b4';have zS:=Z3 nQ;clear b4' dI;gi_wp2_with fail;(refine kk aj ag nQ ?_);clear ag K2;clear nQ;(refine aap [_,_,_] rfl fun K hK=>?_);(repeat (go_big_quiet_step (fail)));(refine qn hK ?_);clear hK K;gi_wp2_with fail;have dw:∀D:Nat→Prop,D fb→∀v,Kp D w4 (w4.setCell ⟨fb,0,none⟩ v):=fun D hD v=>(Kp.refl D w4).setCell (p:=⟨fb,0,none⟩) (fun _=>hD) v;have aid:=HF3.o;refine⟨zS.o.any.trans (dw (·=fb) rfl _),n+c.fields.length,by have:=afF.o;simp;omega,?_,(HG.o.2.trans zS.o.any).trans (dw (·=fb) rfl _),fun rest' hr=>?_⟩
     · have:=kP.o.bE 0 (.int .i64 ((n:Int)+c.fields.length));simpa using this
     · rw[jc.o (x.2::rest') (by rw[hr];simp)];rw[show M.ig p of (x.2::rest') n=if x.2=of then n else M.ig p of rest' (n+(M.cls p x.2).fields.length)from rfl,if_neg H3.o,Xx.o]
 case hdone=>
  rintro ys W rfl ⟨n,e0,e1,e2,e3⟩ hK;have k0:=e1.c 0 _ rfl;have HE:=Z3 (And.intro e1 (And.intro e2 e3));clear e1 e2 e3 bb2;simp only[Exit.inBlock,Exit.then];gi_wp2;obtain⟨e1,e2,e3⟩:=HE.o;refine⟨by simp,.inl ⟨_,_,rfl,run_takeDeferred hK,?_⟩⟩;have uC:=Kp.putObj W (w2.alloc (.cells #[.slice a xs.length cap] 67)).heap.size (.deferred none);have uE:(w2.alloc (.cells #[.slice a xs.length cap] 67)).heap.size=w2.heap.size+1:=by simp
  refine⟨.int .i64 n,by simp[results,Tryz.f128,go_sem],?_,?_⟩
  · have DV:(backTo xs xs.length).map Prod.snd=xs.reverse:=by rw[kQ _ _ (Nat.le_refl _),List.take_length]
    rw[HV.o,e3 [] (by rw[DV];simp)];rfl
  · exact((gL.o.own e2 (fun k hk=>by omega))).own uC (fun k hk=>by omega)
 case hstop=>
  rintro c pre W hS ⟨rfl,n,e1,e2,e3⟩ hK;have k0:=e1.c 0 _ rfl;have HE:=Z3 (And.intro e1 (And.intro e2 e3));clear e1 e2 e3 bb2;gi_wp2;obtain⟨e1,e2,e3⟩:=HE.o;refine⟨by simp,.inl ⟨_,_,rfl,run_takeDeferred hK,?_⟩⟩;have uC:=Kp.putObj W (w2.alloc (.cells #[.slice a xs.length cap] 67)).heap.size (.deferred none);have uE:(w2.alloc (.cells #[.slice a xs.length cap] 67)).heap.size=w2.heap.size+1:=by simp
  refine⟨.int .i64 n,by simp[results,Tryz.f128,go_sem],?_,?_⟩
  · rw[HV.o,e3]
  · exact((gL.o.own e2 (fun k hk=>by omega))).own uC (fun k hk=>by omega)
end Go.Proofs.YtkmclfpjpajjeaaGreat
namespace Go.Proofs.YtkmclfpjpajjeaaGreat
open Go Go.RowKit
theorem iT{α:Type}(l:List α)(k:Nat)(h:k<l.length):∃x,l[k]?=some x:=⟨l[k],List.getElem?_eq_getElem h⟩
def PN:Array Value:=#[.int .i64 0,.string ⟨#[]⟩,.int .i64 0,.int .i64 0,.string ⟨#[]⟩]
theorem EB.kp{D:Nat→Prop}{w w':World}{ev:Value}{c:Int}(h:EB w ev c)(hk:Kp D w w')(hD:∀b,ev=.iface 155 (.pointer (some ⟨b,0,none⟩))→¬D b):EB w' ev c:=by
 rcases h with h|⟨h1,b,h2,h3⟩
 · exact .inl h
 · exact .inr ⟨h1,b,h2,h3.kp hk (hD b h2)⟩
theorem ay.inj{w:World}{g:Nat}{t t':TypeId}{cs cs':Array Value}(h:ay w g t cs)(h':ay w g t' cs'):t=t':=by
 unfold ay at h h';rw[h]at h';cases h';rfl
theorem Kp.qX{D:Nat→Prop}{w:World}{b:Nat}(hD:D b)(v0 v1 v2 v3 v4:Value):Kp D w (((((w.setCell ⟨b,0,none⟩ v0).setCell ⟨b,1,none⟩ v1).setCell ⟨b,2,none⟩ v2).setCell ⟨b,3,none⟩ v3).setCell ⟨b,4,none⟩ v4):=
 (((((Kp.refl D w).setCell (p:=⟨b,0,none⟩) (fun _=>hD) v0).setCell (p:=⟨b,1,none⟩) (fun _=>hD) v1).setCell (p:=⟨b,2,none⟩) (fun _=>hD) v2).setCell (p:=⟨b,3,none⟩) (fun _=>hD) v3).setCell (p:=⟨b,4,none⟩) (fun _=>hD) v4
theorem ay.qX{w:World}{b:Nat}{t:TypeId}{u0 u1 u2 u3 u4:Value}(h:ay w b t #[u0,u1,u2,u3,u4])(v0 v1 v2 v3 v4:Value):ay (((((w.setCell ⟨b,0,none⟩ v0).setCell ⟨b,1,none⟩ v1).setCell ⟨b,2,none⟩ v2).setCell ⟨b,3,none⟩ v3).setCell ⟨b,4,none⟩ v4) b t #[v0,v1,v2,v3,v4]:=
 ((((h.bE 0 v0).bE 1 v1).bE 2 v2).bE 3 v3).bE 4 v4
theorem xZ (w : World) (l : aH) (p : M.ax) (h : aC w l p) (k : Int) (n m : ByteArray) :
    Calls Tryz.prog 99 #[.pointer (some ⟨l.L,0,none⟩),.int .i64 k,.string n,.string m] w fun e w'=>
     (∃ev,e=.returned (.tuple #[.agg (jH (M.get p k n m).1).toArray,ev])∧EB w' ev (M.get p k n m).2)∧aC w' l p∧Kp (·=l.D) w w':=by
 have KM:=h.Hl;have CV:=h.lt;have hO:=h.ord;obtain⟨w1,jX⟩:∃w1,w1=w.alloc (.cells PN 164):=⟨_,rfl⟩;have aU:Ext w w1:=by rw[jX];exact kx
 have H:=Z3 (h.ext aU);have b8:ay w1 w.heap.size 164 PN:=by rw[jX];exact ay.new w _ _
 have Db:w1.heap.size=w.heap.size+1:=by rw[jX];simp
 have⟨bM,BB⟩:=aJ aU jX;have HK:Zs (M.get p k n m=if(M.aS p k n m).2=1 then M.kE p k m (M.aS p k n m).1 (M.layout p (M.aS p k n m).1)else(M.vJ,(M.aS p k n m).2)):=Z3 rfl;clear h aU jX;go_enter Tryz.func99,Tryz.ntmps99;go_wp2_with fail;have ab2:=BB.o;unfold PN at ab2;rw[←ab2];clear ab2;refine(vF _ _ _ H.o _ _ _).mono ?_;rintro e w2 ⟨⟨ev,rfl,nN⟩,hL2,ag⟩;generalize M.aS p k n m=F at*;obtain⟨⟨rk,rn⟩,code⟩:=F;simp only at*;have S9:=b8.kp ag Wg;have NI:=ag.size;obtain⟨yz,y0,y1,y2,y3,y4, -⟩:=S9.ca;obtain⟨f0,f1,f2,f3,f4, -⟩:=S9.fz;have wE:=Z3 hL2;have yu:Zs (Kp (·=l.D) w w2):=Z3 (bM.o.any.trans ag);have yt:=Z3 S9;clear hL2 ag b8 S9;rcases nN with⟨rfl,rfl⟩|⟨hc,eb,rfl,heb⟩
 · have HN : Zs (M.get p k n m = M.kE p k m ⟨rk, rn⟩ (M.layout p ⟨rk, rn⟩)) := Z3 (by rw [HK.o, if_pos rfl]); have bZ : Ext w2 (w2.alloc (.cells #[.int .i64 rk, .string rn] 70)) := kx; have b10 := ay.new w2 70 #[.int .i64 rk, .string rn]; go_wp2_with fail; refine (uJ _ _ _ (wE.o.ext bZ) ⟨rk, rn⟩).mono ?_; rintro e w3 ⟨⟨v, rfl, hs⟩, Fu, nL⟩; obtain ⟨a, cap, rfl, hn, dm⟩ := hs.form; have KQ := nL.size; simp only [World.size_alloc] at KQ; have ⟨Xu, Bt, SQ⟩ := bg ((yt.o.ext bZ).kp nL Wg) (b10.kp nL Wg) Fu; have mg : Zs (Kp (· = l.D) w w3) := Z3 ((yu.o.trans bZ.any).trans nL); have HS := Z3 hs; have afZ : Zs (∀ (i : Nat) (x : M.ko), (M.layout p ⟨rk, rn⟩)[i]? = some x → _) := Z3 (fun i x => M.xW (p := p) (r := ⟨rk, rn⟩) (i := i) (f := x)); clear hs Fu nL bZ b10 y0 y1 y2 y3 y4 f0 f1 f2 f3 f4 yz; generalize M.layout p ⟨rk, rn⟩ = fs at *; go_wp2_with fail; go_loopw [31] (fun i wr => ∃ q : Nat, q ≤ fs.length ∧ i = .int .i64 q ∧ Ext w3 wr ∧ Zs (M.kE p k m ⟨rk, rn⟩ fs = M.kE p k m ⟨rk, rn⟩ (fs.drop q))) (fun i _ => fs.length - (intOf i).toNat)
   case atStart=>exact⟨0,Nat.zero_le _,rfl,Kp.rr,Z3 rfl⟩
   case round =>
    obtain⟨q,hq,rfl,hE,HA⟩:=hrel;have UA:=Xu.o.ext hE;obtain⟨yz,y0,y1,y2,y3,y4, -⟩:=UA.ca;obtain⟨f0,f1,f2,f3,f4, -⟩:=UA.fz;have acJ:=Z3 UA;have P8:=Bt.o.ext hE;have⟨ahy,Zu⟩:=aJ P8 (SQ.o.ext hE);have Ec:Zs (Kp (·=l.D) w wr):=Z3 (mg.o.trans hE.any);have SL:=Z3 hE;by_cases bY:q<fs.length
    · obtain⟨x,hx⟩:=iT fs q bY;obtain⟨_,hxc,Qw,j,fd,hj,hqj,YK⟩:=afZ.o q x hx;obtain⟨c,fU⟩:=M.dM hxc;have BU:M.cls p x.of=c:=by unfold M.cls;rw[fU];rfl
      rw[BU]at hj;have hjl:j<c.fields.length:=(List.getElem?_eq_some_iff.1 hj).1;have DT:c.fields.length≤3:=uq Zu.o.ok fU;have HFN:Zs (M.fieldName p ⟨rk,rn⟩ x=fd.name):=Z3 (M.Jz (by rw[BU];exact hj) (by rw[Qw,hqj]));have HGI:Zs (M.kE p k m ⟨rk,rn⟩ fs=if M.fieldName p ⟨rk,rn⟩ x=m then(if M.agree p k x.of.keeper x.kind then(x,1)else(M.vJ,4))else M.kE p k m ⟨rk,rn⟩ (fs.drop (q+1))):=Z3 (by rw[HA.o,jY hx];rfl);obtain⟨b,off,cs,rfl,KN,rfl, -,jy⟩:=HS.o.get hx;have BS:=jy.ext hE;have g0:=BS 0 (.int .i64 x.of.keeper) rfl;have g1:=BS 1 (.string x.of.name) rfl;have g2:=BS 2 (.int .i64 q) (by simp[jH,Qw]);have g3:=BS 3 (.int .i64 x.kind.kind) rfl;have g4:=BS 4 (.string x.kind.name) rfl;rw[Nat.add_zero]at g0;have gz:=aF g0;obtain⟨ez,e0,e1, -⟩:=P8.ca;obtain⟨W4,LM,dI,b13⟩:=nu wr #[.int .i64 x.of.keeper,.string x.of.name,.int .i64 q,.int .i64 x.kind.kind,.string x.kind.name] 164;have⟨EN,HX,qh,HJ,HQJ⟩:=kL LM (And.intro Qw YK) fU hj hqj;clear Qw YK fU hj jy BS hx hxc BU hqj y0 y1 y2 y3 y4 f0 f1 f2 f3 f4 LM UA P8;go_wp2_with fail;rw[←EN.o];refine(Cc _ _ _ (Zu.o.ext dI) ⟨x.of.keeper,x.of.name⟩ ⟨rk,rn⟩).mono ?_;rintro e w5 ⟨rfl,cZ⟩;have hqj:q=M.gT p ⟨x.of.keeper,x.of.name⟩ ⟨rk,rn⟩+j:=HQJ.o;generalize M.gT p ⟨x.of.keeper,x.of.name⟩ ⟨rk,rn⟩=ff at*;obtain⟨cs,cK,nR⟩:=q8 _ l p Zu.o x.of.keeper x.of.name c qh.o;obtain⟨a1,c1,a2,c2,rfl⟩:=cK.form;obtain⟨vf',vm',Z7,sf, -⟩:=cK;simp only[List.cons.injEq,and_true,true_and]at Z7;obtain⟨rfl,rfl⟩:=Z7;have zA:∀W,(Instr.field 75 (.agg #[.string c.name,.string c.aL,.slice a1 c.fields.length c1,.slice a2 c.methods.length c2]) 2).run Tryz.prog W=.ok (.slice a1 c.fields.length c1) W:=(fun W=>by kernel_rfl);obtain⟨bf,of,csf,rfl,hIf,rfl, -,hcf⟩:=sf.get HJ.o;have abB:Ext wr w5:=dI.trans cZ;obtain⟨T,f,dA,HT⟩:=iN.ex (fun W'=>Ext w5 W') _ Kp.rr;obtain⟨-,r0,r1,r2,r3,r4, -⟩:=ay.kY fun s=>(b13.ext (cZ.trans (HT.aW s)));have rf:=fun s=>(hcf.ext (abB.trans (HT.aW s))) 0 (.string fd.name) rfl;simp only[Nat.add_zero]at rf;have hw:IntKind.i64.wrap ((q:Int) - (ff:Int))=(j:Int):=by rw[IntWalk.i64_in _ Wg];omega
      have ny:(q:Int) - (ff:Int)=(j:Int):=by omega
      have Xe:(0:Int)≤(j:Int):=by omega
      have Ti:(j:Int)<c.fields.length:=by omega
      have⟨aj,SK,Xy,Xq,HQ⟩:=kL HT nR abB (b13.ext cZ) hqj;clear HT nR abB b13 cZ dI hcf sf g0 g1 g2 g3 g4 e0 e1 hqj;by_cases yF:fd.name=m
      · have ahb:(fd.name.toList==m.toList)=true:=by rw[yF];simp
        have Xz:Zs (M.get p k n m=if M.agree p k x.of.keeper x.kind then(x,1)else(M.vJ,4)):=Z3 (by rw[HN.o,HGI.o,if_pos (by rw[HFN.o];exact yF)]);clear yF;go_wp2_with fail;(refine Hb aj ?_ ?_);rotate_left;(repeat (go_big_quiet_step ((go_at_call 70;refine(SK.o _ (Xy.o.trans (aj.o.aW _)).any).mono ?_;rintro e w6 ⟨rfl,dC⟩;exact⟨rfl,aj.o.o w6 ((aj.o.aW _).trans dC)⟩))));(refine wpQuiet_nil ?_);(rintro _ ⟨sW,rfl⟩);rotate_left
        · exact Kp.rr.drew
        go_wp2_with fail;have YI:Ext wr (f sW):=Xy.o.trans (aj.o.aW sW);have Ux:=Xq.o.ext (aj.o.aW sW);generalize f sW=w6 at*;clear aj r0 r1 r2 r3 r4 rf;refine(xh _ _ _ (Zu.o.ext YI) k x.of.keeper x.kind).mono ?_;rintro e w7 ⟨rfl,r9⟩;have Vs:Ext wr w7:=YI.trans r9;have Uy:=Ux.ext r9;have Uz:=acJ.o.ext Vs;obtain⟨yz,y0,y1,y2,y3,y4, -⟩:=Uz.ca;obtain⟨f0,f1,f2,f3,f4, -⟩:=Uz.fz;have⟨acI,KZ⟩:=aJ Uz (Zu.o.ext Vs);have mh:Zs (Kp (·=l.D) w w7):=Z3 (Ec.o.trans Vs.any);cases Fw:M.agree p k x.of.keeper x.kind
        · have QP:Zs (M.get p k n m=(M.vJ,4)):=Z3 (by rw[Xz.o,Fw];rfl);clear Uy Ux Uz Vs YI r9 Fw;go_wp2_with fail;have hs:=Kp.qX (D:=(·=w.heap.size)) (w:=w7) rfl (.int .i64 0) (.string ⟨#[]⟩) (.int .i64 0) (.int .i64 0) (.string ⟨#[]⟩);have hb:=acI.o.qX (.int .i64 0) (.string ⟨#[]⟩) (.int .i64 0) (.int .i64 0) (.string ⟨#[]⟩);refine bodyPost_ret (au sD rfl _ _ w.heap.size rfl (jH M.vJ) ((ae.gM hb).ext (Kp.rr.alloc _)) rfl) rfl ?_;rw[QP.o];refine⟨⟨_,rfl,.inr ⟨by simp,w7.heap.size,rfl,?_⟩⟩,(KZ.o.kp hs (fun k hk e=>by omega)).ext (Kp.rr.alloc _),(mh.o.own hs (fun k hk=>by omega)).alloc _⟩;have:=ay.new (((((w7.setCell ⟨w.heap.size,0,none⟩ (.int .i64 0)).setCell ⟨w.heap.size,1,none⟩ (.string ⟨#[]⟩)).setCell ⟨w.heap.size,2,none⟩ (.int .i64 0)).setCell ⟨w.heap.size,3,none⟩ (.int .i64 0)).setCell ⟨w.heap.size,4,none⟩ (.string ⟨#[]⟩)) 157 #[.int .i64 4];simpa using this
        · have QP:Zs (M.get p k n m=(x,1)):=Z3 (by rw[Xz.o,Fw];rfl);obtain⟨-,e0,e1,e2,e3,e4, -⟩:=Uy.ca;clear Uy Ux Uz Vs YI r9 Fw;go_wp2_with fail;have hs:=Kp.qX (D:=(·=w.heap.size)) (w:=w7) rfl (.int .i64 x.of.keeper) (.string x.of.name) (.int .i64 q) (.int .i64 x.kind.kind) (.string x.kind.name);have hb:=acI.o.qX (.int .i64 x.of.keeper) (.string x.of.name) (.int .i64 q) (.int .i64 x.kind.kind) (.string x.kind.name);have hxq:jH x=[.int .i64 x.of.keeper,.string x.of.name,.int .i64 q,.int .i64 x.kind.kind,.string x.kind.name]:=by unfold jH;rw[HX.o.1]
          rw[QP.o];refine bodyPost_ret (au sD rfl _ _ w.heap.size rfl (jH x) (by rw[hxq];exact ae.gM hb) rfl) rfl ?_;exact⟨⟨_,rfl,.inl ⟨rfl,rfl⟩⟩,KZ.o.kp hs (fun k hk e=>by omega),mh.o.own hs (fun k hk=>by omega)⟩
      · have ahb:(fd.name.toList==m.toList)=false:=by rw[iV];exact decide_eq_false yF
        have Xz:Zs (M.kE p k m ⟨rk,rn⟩ fs=M.kE p k m ⟨rk,rn⟩ (fs.drop (q+1))):=Z3 (by rw[HGI.o,if_neg (by rw[HFN.o];exact yF)]);clear yF;go_wp2_with fail;(refine Hb aj ?_ ?_);rotate_left;(repeat (go_big_quiet_step ((go_at_call 70;refine(SK.o _ (Xy.o.trans (aj.o.aW _)).any).mono ?_;rintro e w6 ⟨rfl,dC⟩;exact⟨rfl,aj.o.o w6 ((aj.o.aW _).trans dC)⟩))));(refine wpQuiet_nil ?_);(rintro _ ⟨sW,rfl⟩);rotate_left
        · exact Kp.rr.drew
        go_wp2_with fail;have hwr:=SL.o.trans (Xy.o.trans (aj.o.aW sW));refine⟨⟨q+1,by omega,by go_num,hwr,Xz⟩,by simp[intOf];omega⟩
    · have QP:Zs (M.get p k n m=(M.vJ,3)):=Z3 (by rw[HN.o,HA.o,List.drop_eq_nil_of_le Wg];rfl);clear UA P8;go_wp2_with fail;have hs:=Kp.qX (D:=(·=w.heap.size)) (w:=wr) rfl (.int .i64 0) (.string ⟨#[]⟩) (.int .i64 0) (.int .i64 0) (.string ⟨#[]⟩);have hb:=acJ.o.qX (.int .i64 0) (.string ⟨#[]⟩) (.int .i64 0) (.int .i64 0) (.string ⟨#[]⟩);refine bodyPost_ret (au sD rfl _ _ w.heap.size rfl (jH M.vJ) ((ae.gM hb).ext (Kp.rr.alloc _)) rfl) rfl ?_;rw[QP.o];refine⟨⟨_,rfl,.inr ⟨by simp,wr.heap.size,rfl,?_⟩⟩,(Zu.o.kp hs (fun k hk e=>by omega)).ext (Kp.rr.alloc _),(Ec.o.own hs (fun k hk=>by omega)).alloc _⟩;have:=ay.new (((((wr.setCell ⟨w.heap.size,0,none⟩ (.int .i64 0)).setCell ⟨w.heap.size,1,none⟩ (.string ⟨#[]⟩)).setCell ⟨w.heap.size,2,none⟩ (.int .i64 0)).setCell ⟨w.heap.size,3,none⟩ (.int .i64 0)).setCell ⟨w.heap.size,4,none⟩ (.string ⟨#[]⟩)) 157 #[.int .i64 3];simpa using this
 · have WH:=Z3 heb;have HC:=Z3 hc;clear heb hc;have HN:Zs (M.get p k n m=(M.vJ,code)):=Z3 (by rw[HK.o,if_neg HC.o]);have abR:¬eb=w.heap.size:=fun e=>by subst e;exact absurd (ay.inj WH.o yt.o) Wk
   go_wp2_with fail;have hs:=Kp.qX (D:=(·=w.heap.size)) (w:=w2) rfl (.int .i64 0) (.string ⟨#[]⟩) (.int .i64 0) (.int .i64 0) (.string ⟨#[]⟩);have hb:=yt.o.qX (.int .i64 0) (.string ⟨#[]⟩) (.int .i64 0) (.int .i64 0) (.string ⟨#[]⟩);refine bodyPost_ret (au sD rfl _ _ w.heap.size rfl (jH M.vJ) ((ae.gM hb).ext (Kp.rr.alloc _)) rfl) rfl ?_;rw[HN.o];exact⟨⟨_,rfl,.inr ⟨HC.o,eb,rfl,(WH.o.kp hs abR).ext (Kp.rr.alloc _)⟩⟩,(wE.o.kp hs (fun k hk e=>by omega)).ext (Kp.rr.alloc _),(yu.o.own hs (fun k hk=>by omega)).alloc _⟩
end Go.Proofs.YtkmclfpjpajjeaaGreat
