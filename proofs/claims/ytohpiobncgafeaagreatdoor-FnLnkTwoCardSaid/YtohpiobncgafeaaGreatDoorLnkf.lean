/- Walks. -/
import Derived.Test.YtohpiobncgafeaaGreatDoorLnke
set_option maxRecDepth 100000
set_option maxHeartbeats 4000000
set_option linter.unusedSimpArgs false
set_option linter.unusedVariables false
namespace Go.Proofs.YtohpiobncgafeaaGreatDoor
open Go Go.RowKit
def vG(o:Oper):Bool:=
 match o.op with
 | .move _| .assign _| .load _ _| .fieldAddr _ _ _| .indexAddr _ _ _| .binOp _ _ _ _ _| .unOp _ _ _| .field _ _ _| .build _ _| .extract _ _| .slice _ _ _ _ _| .nilCheck _| .index _ _ _| .pick _ _ _=>true
 | .call c=>(match c.callee with| .builtin .len=>true|_=>false)
 |_=>false
theorem EX{P:Program}{w w':World}{s:Sem Value}{f:FuncId}{args:Array Value}:Sem.run P (do pure (Next.value (←s)):Sem Next) w≠ .ok (.enter f args) w':=by
 simp only[Sem.run_bind];cases Sem.run P s w<;>simp[Result.andThen]
theorem jL{α:Type}{P:Program}{w w':World}{s:Sem α}{k:α→Sem Next}{f:FuncId}{args:Array Value}(h:∀x w1,Sem.run P (k x) w1≠ .ok (.enter f args) w'):Sem.run P (s>>= k) w≠ .ok (.enter f args) w':=by
 rw[Sem.run_bind];cases Sem.run P s w with
 |ok x w1=>exact h x w1
 |halt _ _=>simp[Result.andThen]
theorem Dg{P:Program}{o:Oper}(h:vG o=true)(a:Act)(w w':World)(f:FuncId)(args:Array Value):(execOp a.eval o).run P w≠ .ok (.enter f args) w':=by
 unfold vG at h;unfold execOp;split at h
 any_goals (rename_i he;simp only[he];first|exact EX|(simp;done))
 case h_12=>
  rename_i he;simp only[he];split
  any_goals (first|(simp;done)|(simp[runtimePanic];done))
  split
  any_goals (first|(simp;done)|(simp[runtimePanic];done))
  refine jL fun _ _=>jL fun _ _=>?_;split
  · refine jL fun _ _=>?_;simp
  · simp
 case h_14=>
  rename_i he;simp only[he];refine jL fun _ _=>?_;simp
 case h_15=>
  rename_i c he;simp only[he];split at h
  · rename_i hc;simp only[resolve,hc,Sem.run_bind,Sem.run_pure,Result.andThen_ok,invoke,builtin];cases Sem.run P (Builtin.len_ c.argTypes o.type (Array.map a.eval c.args)) w<;>simp[Result.andThen]
  · cases h
 case h_16=>cases h
section
variable {P:Program} {ops:Array Oper} {md:Region.Mode} {Q:Exit→Act→World→Prop} {C:World→Prop} {n:Nat}
def eB(P:Program)(ops:Array Oper)(C:World→Prop)(o:Oper)(v:Value)(a:Act):Prop:=
 (Region.wanted o (yielded ops a.tmps)=true∧∀w,C w→(execOp a.eval o).run P w=.ok (.value v) w∨((execOp a.eval o).run P w=.ok .skip w∧v=undef))∨
 (Region.wanted o (yielded ops a.tmps)=false∧v=undef)
theorem nP{o:Oper}{a:Act}{K:Act→Prop}(hp:vG o=true)(h:if Region.wanted o (yielded ops a.tmps)then o.quiet P a C K else K (a.put o.dst undef)):∃v,eB P ops C o v a∧K (a.put o.dst v):=by
 cases hw:Region.wanted o (yielded ops a.tmps)
 · rw[hw]at h;exact⟨undef,.inr ⟨hw,rfl⟩,by simpa using h⟩
 · rw[hw]at h;obtain⟨v,h1,h2⟩:o.quiet P a C K:=by simpa using h
   refine⟨v,.inl ⟨hw,fun w hw'=>?_⟩,h2⟩;have h3:=h1 w hw';unfold Oper.quietAt at h3;generalize hr:(execOp a.eval o).run P w=r at h3;unfold Oper.quietUpon at h3;split at h3
   · obtain⟨rfl,rfl⟩:=h3;exact .inl rfl
   · obtain⟨rfl,rfl⟩:=h3;exact .inr ⟨rfl,rfl⟩
   · exact absurd hr (Dg hp a _ _ _ _)
   · exact h3.elim
theorem eB.wpOp{i:Nat}{o:Oper}{v:Value}{a:Act}(hi:ops[i]?=some o)(hy:eB P ops C o v a){K:Act→World→Prop}{w:World}(hC:C w)(h:K (a.put o.dst v) w):wpOp P ops Q i K a w:=by
 unfold Go.wpOp;simp only[hi];rcases hy with⟨hw,hv⟩|⟨hw,rfl⟩
 · simp only[hw,if_true];rcases hv w hC with e|⟨e,rfl⟩
   · simp only[Oper.wp,e,Oper.upon];exact .inl h
   · simp only[Oper.wp,e,Oper.upon];exact .inl h
 · simp only[hw,Bool.false_eq_true,if_false];exact h
theorem eB.of_same{o:Oper}{v:Value}{a a':Act}(hy:eB P ops C o v a)(he:execOp a'.eval o=execOp a.eval o)
    (hw:Region.wanted o (yielded ops a'.tmps)=Region.wanted o (yielded ops a.tmps)):eB P ops C o v a':=by
 unfold eB at*;rw[he,hw];exact hy
theorem KC{j:Nat}{oi oj:Oper}{v:Value}(hj:ops[j]?=some oj)(hap:oi.apart ops oj=true)
    (hsi:∀cs b,oi.op≠ .select cs b) (hsj:∀cs b,oj.op≠ .select cs b)
    (hQ:∀c a w,Q (.panic c) (a.put oi.dst v) w→Q (.panic c) a w) {K:Act→World→Prop} {a:Act} {w:World}
    (hy:eB P ops C oi v a) (h:wpOp P ops Q j K (a.put oi.dst v) w):
    wpOp P ops Q j (fun a' w'=>eB P ops C oi v a'∧K (a'.put oi.dst v) w') a w:=by
 obtain⟨h1,h2,h3⟩:=Oper.apart_spec hap;have keep:∀(a:Act),eB P ops C oi v a→∀u,eB P ops C oi v (a.put oj.dst u):=fun a hy u=>
  hy.of_same (execOp_put oi hsi a oj.dst u h3) (wanted_put oi a oj.dst u h3)
 have keepD:∀d,eB P ops C oi v {a with defers:=d::a.defers}:=fun d=>hy.of_same rfl rfl;unfold wpOp at*;simp only[hj]at*;rw[wanted_put oj a oi.dst v h1]at h;split
 · rename_i hw;simp only[hw,if_true]at h;rcases h with h|⟨RI,ZI⟩
   case inr=>exact .inr ⟨by unfold Oper.asks at*;rw[execOp_put oj hsj a oi.dst v h1]at RI;exact RI,ZI⟩
   refine .inl ?_;unfold Oper.wp at*;rw[execOp_put oj hsj a oi.dst v h1]at h;generalize (execOp a.eval oj).run P w=r at*;cases r with
   | ok n w' =>
    cases n<;>simp only[Oper.upon]at h ⊢
    case value u=>exact⟨keep a hy u,by rw[←Act.put_comm a v u h2];exact h⟩
    case skip=>exact⟨keep a hy _,by rw[←Act.put_comm a v undef h2];exact h⟩
    case defer d=>
     refine⟨keep _ (keepD d) _,?_⟩;rw[←Act.put_comm _ v undef h2,←Act.put_defers];exact h
    case enter f args=>
     refine Calls.mono h fun e w'' he=>?_;cases e with
     |returned u=>exact⟨keep a hy u,by rw[←Act.put_comm a v u h2];exact he⟩
     |panicked c=>exact hQ _ _ _ he
     |outgrown=>exact he
    case row row args=>exact Rows.mono h fun u w'' he=>⟨keep a hy u,by rw[←Act.put_comm a v u h2];exact he⟩
   |halt x w'=>
    cases x<;>simp only[Oper.upon]at h ⊢
    case panic u=>exact hQ _ _ _ h
 · rename_i hw;simp only[hw]at h;exact⟨keep a hy _,by rw[←Act.put_comm a v undef h2];exact h⟩
def mZ(P:Program)(md:Region.Mode)(ops:Array Oper)(n:Nat)(C:World→Prop)(Q:Exit→Act→World→Prop):Nat→Array Bool→Act→World→Prop
 |0,listed,a,w=>Region.ready md ops listed=[]∧Q .normal a w
 |fuel+1,listed,a,w=>
  (Region.ready md ops listed=[]→Q .normal a w)∧
  ∀i∈Region.ready md ops listed,wpOp P ops Q i (fun a' w'=>(i<n→C w')∧mZ P md ops n C Q fuel (listed.setIfInBounds i true) a' w') a w
theorem sF:∀(fuel:Nat) (listed:Array Bool) (a:Act) (w:World),mZ P md ops n C Q fuel listed a w→wpAny P md ops Q fuel listed a w
 |0,_,_,_,h=>h
 |fuel+1,_,_,_,h=>⟨h.1,fun i hi=>wpOp_mono (fun a' w' h'=>sF fuel _ a' w' h'.2) (h.2 i hi)⟩
theorem Dq {i : Nat} {oi : Oper} {v : Value} (hi : ops[i]? = some oi) (M5 : ∀ (j : Nat) (o : Oper) cs b, ops[j]? = some o → o.op ≠ .select cs b)
    (hQ:∀c a w,Q (.panic c) (a.put oi.dst v) w→Q (.panic c) a w) (M6:∀j,n≤j→Region.waitsFor md ops j i=true∨ops[j]?=none):
    ∀(fuel:Nat) (listed:Array Bool) (a:Act) (w:World),
     (∀j oj,ops[j]?=some oj→j≠i→listed.getD j true=false→(∀e∈oj.after,Region.binds md e=true→e.on≠i)→oi.apart ops oj=true)→
     i∈Region.ready md ops listed→eB P ops C oi v a→C w→i<n→
     mZ P md ops n C Q fuel (listed.setIfInBounds i true) (a.put oi.dst v) w→mZ P md ops n C Q (fuel+1) listed a w:=by
 intro fuel;induction fuel with
 |zero=>
  intro listed a w _ hr hy hC JJ H;refine⟨fun h=>(by rw[h]at hr;cases hr),fun j hj=>?_⟩;by_cases yH:j=i
  · subst yH;exact hy.wpOp hi hC ⟨fun _=>hC,H⟩
  · have:=ready_mono hj yH;rw[H.1]at this;cases this
 | succ fuel ih =>
  intro listed a w Et hr hy hC JJ H;refine⟨fun h=>(by rw[h]at hr;cases hr),fun j hj=>?_⟩;by_cases yH:j=i
  · subst yH;exact hy.wpOp hi hC ⟨fun _=>hC,H⟩
  · have h1:=H.2 j (ready_mono hj yH);obtain⟨ML,oj,K3,oq⟩:=mem_ready.1 hj;have MV:∀e∈oj.after,Region.binds md e=true→e.on≠i:=fun e he hb heq=>by
     have h1:=oq e he hb;have h0:=(mem_ready.1 hr).1;rw[heq]at h1;rcases Nat.lt_or_ge i listed.size with h'|h'
     · simp[h']at h0 h1;rw[h0]at h1;cases h1
     · simp[Array.getElem?_eq_none h']at h1
    have Wv:j<n:=by
     rcases Nat.lt_or_ge j n with h|h
     · exact h
     · rcases M6 j h with hw|hw
       · obtain⟨oj',MW,e,he,hb,heq⟩:=Region.waitsFor_spec hw;rw[K3]at MW;cases MW;exact absurd heq (MV e he hb)
       · rw[K3]at hw;cases hw
    have h2:=KC K3 (Et j oj K3 yH ML MV) (fun cs b=>M5 i oi cs b hi) (fun cs b=>M5 j oj cs b K3) hQ hy h1;have GJ:∀k ok,ops[k]?=some ok→k≠i→(listed.setIfInBounds j true).getD k true=false→
        (∀e∈ok.after,Region.binds md e=true→e.on≠i)→oi.apart ops ok=true:=fun k ok hk hki Z7 nT=>by
     refine Et k ok hk hki ?_ nT;by_cases Qn:j=k
     · subst Qn;exact ML
     · rw[getD_set_ne true Qn]at Z7;exact Z7
    refine wpOp_mono (fun a' w' h3=>⟨fun _=>h3.2.1 Wv,ih (listed.setIfInBounds j true) a' w' GJ (ready_mono hr (Ne.symm yH)) h3.1 (h3.2.1 Wv) JJ ?_⟩) h2;rw[Array.setIfInBounds_comm _ _ yH];exact h3.2.2
def K7(md:Region.Mode)(ops:Array Oper)(n:Nat):List Nat→Array Bool→Option (Array Bool)
 |[],listed=>some listed
 |i::q,listed=>
  if decide (i<n)&&(Region.ready md ops listed).contains i&&Region.free md ops listed i&&((ops[i]?).map vG).getD false then K7 md ops n q (listed.setIfInBounds i true)else none
def EP(md:Region.Mode)(ops:Array Oper)(n:Nat):List (List Nat×Nat)→List Nat→Array Bool→Bool
 |[],q,listed=>match K7 md ops n q listed with
  |some L=>Region.seqB md ops (ops.size - n) n L
  |none=>false
 |(q,i)::r,q',listed=>match K7 md ops n q listed with
  |some L=>decide (Region.ready md ops L=[i])&&decide (i<n)&&EP md ops n r q' (L.setIfInBounds i true)
  |none=>false
def costs:List (List Nat×Nat)→List Nat→Nat
 |[],q=>q.length
 |(q,_)::r,q'=>q.length+1+costs r q'
def uy(md:Region.Mode)(ops:Array Oper)(n:Nat):Bool:=(List.range ops.size).all fun j=>decide (j<n)|| (List.range n).all fun i=>Region.waitsFor md ops j i
def yx(ops:Array Oper)(n:Nat)(iY:List (List Nat×Nat))(q:List Nat):Bool:=
 Region.noSelect ops&&uy .any ops n&&decide (costs iY q=n)&&decide (n≤ops.size)&&EP .any ops n iY q (Array.replicate ops.size false)
def kW(P:Program)(l:List Oper)(C:World→Prop)(Q:Exit→Act→World→Prop)(fin:Act→World→Prop):List (List Nat×Nat)→List Nat→Act→World→Prop
 |[],q,a,w=>wpQuiet P l.toArray C (fun a'=>fin a' w) (q.filterMap (l[·]?)) a
 |(q,i)::r,q',a,w=>wpQuiet P l.toArray C (fun a'=>wpList P l.toArray (Exit.then (fun a'' w'=>C w'∧kW P l C Q fin r q' a'' w') Q) (l[i]?).toList a' w) (q.filterMap (l[·]?)) a
theorem BI(h:uy md ops n=true){i:Nat}(hi:i<n)(j:Nat)(hj:n≤j):Region.waitsFor md ops j i=true∨ops[j]?=none:=by
 rcases Nat.lt_or_ge j ops.size with cK|hge
 · unfold uy at h;have h1:=List.all_eq_true.1 h j (List.mem_range.2 cK);simp only[Bool.or_eq_true,decide_eq_true_eq,List.all_eq_true]at h1;rcases h1 with h1|h1
   · omega
   · exact .inl (h1 i (List.mem_range.2 hi))
 · exact .inr (Array.getElem?_eq_none hge)
theorem jv{l:List Oper}(hs:Region.noSelect l.toArray=true)(ht:uy md l.toArray n=true)(hQ:∀c a d v w,Q (.panic c) (a.put d v) w→Q (.panic c) a w){K:Act→Prop}{w:World}(hC:C w)(fuel:Nat)(L:Array Bool)
    (hK:∀a',K a'→mZ P md l.toArray n C Q fuel L a' w):∀(q:List Nat) (listed:Array Bool) (a:Act),K7 md l.toArray n q listed=some L→
    wpQuiet P l.toArray C K (q.filterMap (l[·]?)) a→mZ P md l.toArray n C Q (fuel+q.length) listed a w
 |[],listed,a,ho,h=>by
  simp only[K7,Option.some.injEq]at ho;subst ho;exact hK a h
 | i :: q, listed, a, ho, h => by
  unfold K7 at ho;split at ho
  · rename_i hb;simp only[Bool.and_eq_true,decide_eq_true_eq]at hb;obtain⟨⟨⟨h1,h2⟩,h3⟩,h4⟩:=hb;cases Ay:l[i]? with
    |none=>simp[Ay]at h4
    |some o=>
     have yK:l.toArray[i]?=some o:=by simpa using Ay
     have hp:vG o=true:=by simpa [Ay]using h4
     rw[List.filterMap_cons,Ay]at h;simp only[wpQuiet]at h;obtain⟨v,hy,hk⟩:=nP hp h;have:=jv hs ht hQ hC fuel L hK q _ _ ho hk;exact Dq yK (Region.noSelect_spec hs) (fun c a w=>hQ c a _ _ w) (BI ht h1) _ _ _ _ (Region.free_spec yK h3) (by simpa using h2) hy hC h1 this
  · cases ho
theorem su{l:List Oper}:∀(t:List Oper) (k:Nat) (listed:Array Bool) (a:Act) (w:World),n≤k→(∀j,t[j]?=l[k+j]?)→
    Region.seqB md l.toArray t.length k listed=true→wpList P l.toArray Q t a w→mZ P md l.toArray n C Q t.length listed a w
 |[],_,_,_,_,_,_,hB,h=>⟨by simpa [Region.seqB]using hB,h⟩
 |o::t,k,listed,a,w,hk,hl,hB,h=>by
  have h0:l.toArray[k]?=some o:=by simpa using(hl 0).symm
  simp only[List.length_cons,Region.seqB,Bool.and_eq_true,decide_eq_true_eq]at hB;refine⟨fun h1=>(by rw[hB.1]at h1;cases h1),fun i hi=>?_⟩;rw[hB.1]at hi;have hik:i=k:=by simpa using hi
  subst hik;have hw:wpOp P l.toArray Q i (wpList P l.toArray Q t) a w:=by unfold wpOp;simp only[h0];exact h
  exact wpOp_mono (fun a' w' h'=>⟨fun cK=>absurd cK (Nat.not_lt.2 hk),su t (i+1) _ a' w' (by omega) (fun j=>by have:=hl (j+1);simpa [Nat.add_assoc,Nat.add_comm 1 j]using this) hB.2 h'⟩) hw
theorem I8{o:Oper}{a:Act}{w:World}{next K:Act→World→Prop}(h:o.wp P a w next (Exit.then K Q)):o.wp P a w next Q:=by
 unfold Oper.wp at*;generalize (execOp a.eval o).run P w=r at*;cases r with
 | ok n w' =>
  cases n<;>simp only[Oper.upon]at h ⊢
  case value u=>exact h
  case skip=>exact h
  case defer d=>exact h
  case enter f args=>
   refine Calls.mono h fun e w'' he=>?_;cases e with
   |returned u=>exact he
   |panicked c=>exact he
   |outgrown=>exact he
  case row row args=>exact h
 |halt x w'=>
  cases x<;>simp only[Oper.upon]at h ⊢
  case panic u=>exact h
theorem BD{l:List Oper}(hs:Region.noSelect l.toArray=true)(ht:uy md l.toArray n=true)(hQ:∀c a d v w,Q (.panic c) (a.put d v) w→Q (.panic c) a w)(hn:n≤l.length):∀(iY:List (List Nat×Nat)) (q':List Nat) (listed:Array Bool) (a:Act) (w:World),C w→
    EP md l.toArray n iY q' listed=true→kW P l C Q (fun a' w'=>wpList P l.toArray Q (l.drop n) a' w') iY q' a w→mZ P md l.toArray n C Q ((l.length - n)+costs iY q') listed a w
 |[],q',listed,a,w,hC,hB,h=>by
  unfold EP at hB;split at hB
  · rename_i L hL;refine jv hs ht hQ hC _ L (fun a' hk=>?_) q' listed a hL h;have:=su (md:=md) (C:=C) (l:=l) (l.drop n) n L a' w (Nat.le_refl _) (fun j=>by simp[List.getElem?_drop]) (by simpa using hB) hk;simpa using this
  · cases hB
 | (q, i) :: r, q', listed, a, w, hC, hB, h => by
  unfold EP at hB;split at hB
  · rename_i L hL;simp only[Bool.and_eq_true,decide_eq_true_eq]at hB;obtain⟨⟨hr,JJ⟩,hB⟩:=hB;have e:l.length - n+costs ((q,i)::r) q'=((l.length - n+costs r q')+1)+q.length:=by simp[costs];omega
    rw[e];refine jv hs ht hQ hC _ L (fun a' hk=>?_) q listed a hL h;refine⟨fun h1=>(by rw[hr]at h1;cases h1),fun j hj=>?_⟩;rw[hr]at hj;have yH:j=i:=by simpa using hj
    subst yH;cases Ay:l[j]? with
    |none=>
     exfalso;have:j∈Region.ready md l.toArray L:=by rw[hr];simp
     obtain⟨_,o,ho,_⟩:=mem_ready.1 this;simp[Ay]at ho
    | some o =>
     rw[Ay]at hk;simp only[Option.toList,wpList]at hk;unfold wpOp;have yK:l.toArray[j]?=some o:=by simpa using Ay
     simp only[yK];have step:∀a'' w',C w'∧kW P l C Q (fun a' w'=>wpList P l.toArray Q (l.drop n) a' w') r q' a'' w'→(j<n→C w')∧mZ P md l.toArray n C Q (l.length - n+costs r q') (L.setIfInBounds j true) a'' w':=
      fun a'' w' h3=>⟨fun _=>h3.1,BD hs ht hQ hn r q' _ a'' w' h3.1 hB h3.2⟩
     split
     · rename_i hw;rw[if_pos hw]at hk;rcases hk with hk|hk
       · left;exact Oper.wp_mono (fun a'' w' h'=>step a'' w' h') (I8 hk)
       · right;exact hk
     · rename_i hw;rw[if_neg hw]at hk;exact step _ _ hk
  · cases hB
end
theorem KA{P:Program}{l:List Oper}{C:World→Prop}{Q:Exit→Act→World→Prop}{fin:Act→World→Prop}{q:List Nat}{a:Act}{w:World}{qs:List Oper}(he:q.filterMap (l[·]?)=qs)
    (h:∀K:Act→Prop,(∀a',fin a' w→K a')→wpQuiet P l.toArray C K qs a):kW P l C Q fin [] q a w:=by
 subst he;exact h _ fun _ h=>h
theorem Hw{P:Program}{l:List Oper}{C:World→Prop}{Q:Exit→Act→World→Prop}{fin:Act→World→Prop}{q:List Nat}{i:Nat}{r:List (List Nat×Nat)}{q':List Nat}{a:Act}{w:World}{qs os:List Oper}(he:q.filterMap (l[·]?)=qs)(ho:(l[i]?).toList=os)
    (h:∀K:Act→Prop,(∀a',(∀K2:Act→World→Prop,(∀a'' w',C w'→kW P l C Q fin r q' a'' w'→K2 a'' w')→wpList P l.toArray (Exit.then K2 Q) os a' w)→K a')→wpQuiet P l.toArray C K qs a):kW P l C Q fin ((q,i)::r) q' a w:=by
 subst he ho;refine h _ fun a' h2=>?_;exact h2 _ fun _ _ h3 h4=>⟨h3,h4⟩
theorem oP{P:Program}{id:Nat}{Q:Exit→Act→World→Prop}{a:Act}{w:World}{l:List Oper}{T:Type}(f:T→World)(n:Nat)(iY:List (List Nat×Nat))(q:List Nat)(h0:∃s,w.drew=f s)(hm:P.follows .mixedOrders=true)(hB:yx l.toArray n iY q=true)
    (hQ:∀c a d v w,Q (.panic c) (a.put d v) w→Q (.panic c) a w)
    (h:kW P l (fun w'=>∃s,w'=f s) Q (fun a' w'=>wpList P l.toArray Q (l.drop n) a' w') iY q a w.drew):(Code.region id l.toArray true).wp P Q a w:=by
 unfold yx at hB;simp only[Bool.and_eq_true,decide_eq_true_eq]at hB;obtain⟨⟨⟨⟨h1,h2⟩,h3⟩,h4⟩,h5⟩:=hB;refine wp_region_any hm (sF (C:=fun w'=>∃s,w'=f s) (n:=n) _ _ _ _ ?_);have:=BD (C:=fun w'=>∃s,w'=f s) (md:=.any) h1 h2 hQ (by simpa using h4) iY q _ a w.drew h0 h5 h;have e:l.length - n+costs iY q=l.toArray.size:=by
  have:n≤l.length:=by simpa using h4
  simp;omega
 rw[e]at this;exact this
section
variable {P:Program} {l:List Oper} {C:World→Prop} {Q:Exit→Act→World→Prop} {fin:Act→World→Prop} {q:List Nat} {i j:Nat} {q':List Nat} {r:List (List Nat×Nat)} {a:Act} {w:World} {o o2:Oper}
theorem dn(qs:List Oper)(he:q.filterMap (l[·]?)=qs)(ho:(l[i]?).toList=[o])(h:∀K:Act→Prop,(∀a',(∀K2:Act→World→Prop,(∀a'' w',C w'→kW P l C Q fin r q' a'' w'→K2 a'' w')→wpList P l.toArray (Exit.then K2 Q) [o] a' w)→K a')→wpQuiet P l.toArray C K qs a):kW P l C Q fin ((q,i)::r) q' a w:=Hw he ho h
theorem fG(ho:(l[i]?).toList=[o])(h:∀K2:Act→World→Prop,(∀a'' w',C w'→kW P l C Q fin r q' a'' w'→K2 a'' w')→wpList P l.toArray (Exit.then K2 Q) [o] a w):kW P l C Q fin (([],i)::r) q' a w:=dn [] rfl ho fun _ hK=>qn hK h
theorem qJ(qs:List Oper)(he:q.filterMap (l[·]?)=qs)(h:∀K:Act→Prop,(∀a',fin a' w→K a')→wpQuiet P l.toArray C K qs a):kW P l C Q fin [] q a w:=KA he h
theorem dD(h:fin a w):kW P l C Q fin [] [] a w:=qJ [] rfl fun _ hK=>qn hK h
theorem fq{d:List Oper}{Q':Exit→Act→World→Prop}(qs:List Oper)(he:q.filterMap (l[·]?)=qs)(hd:d=[])(h:∀K:Act→Prop,(∀a',Q' .normal a' w→K a')→wpQuiet P l.toArray C K qs a):kW P l C Q (fun a' w'=>wpList P l.toArray Q' d a' w') [] q a w:=by
 subst hd;exact qJ qs he h
theorem C9{d:List Oper}{Q':Exit→Act→World→Prop}(hd:d=[])(h:Q' .normal a w):kW P l C Q (fun a' w'=>wpList P l.toArray Q' d a' w') [] [] a w:=fq [] rfl hd fun _ hK=>qn hK h
end
theorem dQ{P:Program}{id:Nat}{Q:Exit→Act→World→Prop}{a:Act}{w:World}{l:List Oper}{C:World→Prop}{T:Type}{f:T→World}(H:Zs (gy C T f))(n:Nat)(iY:List (List Nat×Nat))(q:List Nat)(h0:C w.drew)
    (h:kW P l (fun w'=>∃s,w'=f s) Q (fun a' w'=>wpList P l.toArray Q (l.drop n) a' w') iY q a w.drew) (hm:P.follows .mixedOrders=true:=by kernel_rfl) (hB:yx l.toArray n iY q=true:=by kernel_rfl)
    (hQ:∀c a d v w,Q (.panic c) (a.put d v) w→Q (.panic c) a w:=by exact fun _ _ d _ _ h=>by cases d<;>exact h):(Code.region id l.toArray true).wp P Q a w:=oP f n iY q (H.o.o _ h0) hm hB hQ h
end Go.Proofs.YtohpiobncgafeaaGreatDoor
namespace Go.Proofs.YtohpiobncgafeaaGreatDoor
open Go Go.RowKit
def fZ(f:M.jw):List Value:=[.int .i64 f.of.keeper,.string f.of.name,.int .i64 f.at_,.int .i64 f.kind.kind,.string f.kind.name]
def Le:fD M.jw:=fun _ _ x cs=>cs=fZ x
theorem Le.stays:bD Le:=fun _ _ _ _ _ _ _ _ h=>h
theorem NR(x:M.jw):∀u∈fZ x,u.oneCell'=true:=by simp[fZ,Value.oneCell']
theorem Jq:Elem 175 187 5:=iJ (z:=.agg #[.int .i64 0,.string ⟨#[]⟩,.int .i64 0,.int .i64 0,.string ⟨#[]⟩]) (bytes:=56) Tryz.underlying175 (by kernel_rfl) rfl (by decide) (by decide)
theorem yc{c:M.Ref}{fs:List M.Field}{acc:List M.jw}{k:Nat}{x:M.Field}(hx:fs[k]?=some x):
    M.bZ c (fs.take (k+1)) acc=M.bZ c (fs.take k) acc++[⟨c,(M.bZ c (fs.take k) acc).length,x.kind⟩]:=by
 rw[List.take_add_one,hx];have:∀(l:List M.Field) (acc:List M.jw),M.bZ c (l++[x]) acc=M.bZ c l acc++[⟨c,(M.bZ c l acc).length,x.kind⟩]:=by
  intro l;induction l with
  |nil=>intro acc;rfl
  |cons y r ih=>intro acc;simp only[List.cons_append,M.bZ];rw[ih]
 exact this _ _
theorem Kp.mix{D D':Nat→Prop}{w a b:World}(h:Kp D w a)(hk:Kp D' a b)(hD:∀k,k<w.heap.size→D' k→D k):Kp D w b:=
 ⟨hk.os.trans h.os,hk.tape.trans h.tape,hk.output.trans h.output,Nat.le_trans h.size hk.size,
  fun k uU hd=>(hk.block k (Nat.lt_of_lt_of_le uU h.size) (fun x=>hd (hD k uU x))).trans (h.block k uU hd)⟩
theorem af.EU{W:World}{g:Nat}(t:TypeId)(cs:Array Value)(h:W.heap.size=g):af (W.alloc (.cells cs t)).drew g 0 cs.toList:=(af.zk t cs h).ext ((Kp.refl _ _).drew)
theorem D5 (w : World) (bb B : Nat) (vs : Value) (acc : List M.jw) (c : M.Ref) (I : Nat → Prop) (vf : Value) (fs : List M.Field) (hB : az w bb 227 #[vs]) (own : w.ownsRow B 187 5 vs acc.length (acc.flatMap fZ))
    (hf:SliceOf 3 lN w I vf fs) (hI:∀b,I b→b<B∧b≠bb) (hbB:B≤w.heap.size) (hlen:acc.length+fs.length≤1000) (jy:vs.ownBlock≠some bb):
    Calls Tryz.prog 134 #[.pointer (some ⟨bb,0,none⟩),.agg #[.int .i64 c.keeper,.string c.name],vf] w fun e w'=>
     e=.returned (.tuple #[])∧∃vs',az w' bb 227 #[vs']∧w'.ownsRow B 187 5 vs' (acc.length+fs.length) ((M.bZ c fs acc).flatMap fZ)∧vs'.ownBlock≠some bb∧Kp (fun b=>b=bb∨vs.ownBlock=some b) w w':=by
 obtain⟨va,vc,rfl,hn,dx⟩:=hf.form;have hz:=hB.lt;have b4:=az.new w 51 #[.int .i64 c.keeper,.string c.name];have aM:Ext w (w.alloc (.cells #[.int .i64 c.keeper,.string c.name] 51)):=kx;have HF:=Ys hf;have HI:=Ys hI;have Ib:=Ys jy;have R0:Zs (az (w.alloc (.cells #[.int .i64 c.keeper,.string c.name] 51)) bb 227 #[vs]∧(w.alloc (.cells #[.int .i64 c.keeper,.string c.name] 51)).ownsRow B 187 5 vs acc.length ((M.bZ c (fs.take 0) acc).flatMap fZ)∧(∀g,vs.ownBlock=some g→vs.ownBlock=some g∨w.heap.size<g)∧
     Kp (fun b=>b=bb∨vs.ownBlock=some b) w (w.alloc (.cells #[.int .i64 c.keeper,.string c.name] 51))∧az (w.alloc (.cells #[.int .i64 c.keeper,.string c.name] 51)) w.heap.size 51 #[.int .i64 c.keeper,.string c.name]):=
  Ys ⟨hB.ext aM,aA (D:=fun _=>False) own aM fun _ _ _ x=>x,fun g h=>.inl h,aM.any,b4⟩
 have HBV:Zs (∀g,vs.ownBlock=some g→B≤g∧g<w.heap.size):=Ys fun g hg=>own.lt g hg;clear hB own hf hI jy b4 aM;go_enter Tryz.func134,Tryz.ntmps134;go_wp2;go_loopw [10] (fun i wr=>∃(k m:Nat) (v':Value),k≤fs.length∧i=.int .i64 k∧Zs (m=acc.length+k)∧Zs (az wr bb 227 #[v']∧wr.ownsRow B 187 5 v' m ((M.bZ c (fs.take k) acc).flatMap fZ)∧
     (∀g,v'.ownBlock=some g→vs.ownBlock=some g∨w.heap.size<g)∧Kp (fun b=>b=bb∨vs.ownBlock=some b) w wr∧az wr w.heap.size 51 #[.int .i64 c.keeper,.string c.name])) (fun i _=>fs.length - (intOf i).toNat)
 case atStart=>exact⟨0,acc.length,vs,Nat.zero_le _,rfl,Ys rfl,R0⟩
 case round =>
  obtain⟨k,m,v',hk,rfl,HM,HR⟩:=hrel;by_cases cK:k<fs.length
  · obtain⟨x,hx⟩:=get_some cK;obtain⟨b,off,cs,rfl,Dz,rfl, -,hc⟩:=HF.o.get hx;have adF:=(HI.o b Dz).1;have acf:=(HI.o b Dz).2;have Sd:Same (·=b) w wr:=Kp.same HR.o.2.2.2.1 (fun q hq e=>by
     subst hq;rcases e with rfl|e
     · exact acf rfl
     · have:=HBV.o _ e;omega)
    have sH:=hc.keep fun o v hv=>Sd b o v rfl hv;obtain⟨g0,g1,g2⟩:=sH.three;have gz:=aS g0;have qx:w.heap.size≤wr.heap.size:=HR.o.2.2.2.1.size;have HX:=Ys hx;clear hx hc sH Sd;have dI:=HR.o.2.1;obtain⟨a,cp,rfl⟩:=bJ dI;have Ve:(Value.slice a m cp).ownBlock≠some bb:=fun e=>by
     rcases HR.o.2.2.1 _ e with h|h
     · exact Ib.o h
     · omega
    obtain⟨W0,hW0,aM,b7⟩:=nu wr #[.string x.name,.int .i64 x.kind.kind,.string x.kind.name] 72;have b1:=HR.o.1.ext aM;have b4:=HR.o.2.2.2.2.ext aM;have G5:W0.heap.size=wr.heap.size+1:=by rw[hW0];simp
    obtain⟨T,f,dm,HT⟩:=gy.ex (fun W=>Kp (fun b=>(Value.slice a m cp).ownBlock=some b) W0 W) _ (Kp.refl _ _);have QC:¬(Value.slice a m cp).ownBlock=some wr.heap.size:=fun e=>by have:=(dI.lt _ e).2;omega
    have hv4:¬(Value.slice a m cp).ownBlock=some w.heap.size:=fun e=>by
     rcases HR.o.2.2.1 _ e with h|h
     · have:=(HBV.o _ h).2;omega
     · omega
    have r0:=fun s=>(b1.kp (HT.aK s) Ve).c 0 (.slice a m cp) rfl;have r4:=fun s=>(b4.kp (HT.aK s) hv4).c 0 (.int .i64 c.keeper) rfl;have r5:=fun s=>(b4.kp (HT.aK s) hv4).c 1 (.string c.name) rfl;have r7:=fun s=>(b7.kp (HT.aK s) QC).c 1 (.int .i64 x.kind.kind) rfl;have r8:=fun s=>(b7.kp (HT.aK s) QC).c 2 (.string x.kind.name) rfl;have ax:=Ys HT;have BJ:=Ys b1;have bW:=Ys aM;have XD:=Ys Ve;have HO0:=Ys (aA (D:=fun _=>False) dI aM fun _ _ _ x=>x);have dS:=Ys hW0;have HSZ:=Ys G5;have Qr:m+1≤4294967296:=by have:=HM.o;omega
    clear b1 b4 b7 dI Ve QC hv4 HT aM G5;go_wp2;rw[←dS.o];clear hW0 g0 g1 g2;(refine dQ ax 16 [([0,1,2,3,4,5,6,7,8,9,10,11,12,13],14),([],15)] [] ?_ ?_)
    · exact(Kp.refl _ _).drew
    (refine dn [_,_,_,_,_,_,_,_,_,_,_,_,_,_] rfl rfl fun K hK=>?_);(repeat (go_big_quiet_step (fail)));(refine qn hK fun K2 ag=>?_);clear hK K;go_wp2_with fail;(refine kk ax ag kx ?_);clear ag K2;(refine fG rfl fun K2 ag=>?_);refine aV Jq rfl (.tmp 18) (.tmp 28) rfl B (.slice a m cp) m _ rfl (aA (D:=fun _=>False) HO0.o kx fun _ _ _ x=>x) W0.heap.size 1 (fZ ⟨c,m,x.kind⟩) rfl rfl (af.EU _ _ rfl) (NR _) Qr ?_ ?_
    · have:=HSZ.o;simp;omega
    intro g2 c2 w1 FB j3 JH;have Rf:Zs ((Value.slice a m cp).ownBlock=some g2∨w.heap.size<g2):=Ys (by
     rcases JH with h|h
     · exact .inl h
     · right;have:=HSZ.o;simp at h;omega)
    clear JH;change K2 _ _;have xe:Kp (fun b=>(Value.slice a m cp).ownBlock=some b) W0 w1:=(kx:Ext W0 _).any.trans j3;(refine kk ax ag xe ?_);clear ag K2;have hB1:=BJ.o.kp xe XD.o;have d0:=hB1.c 0 (.slice a m cp) rfl;have e0:=hB1.frozen 0;have z1:=hB1.lt;have uF:=Ys hB1;have xU:=Ys FB;have Ri:=Ys xe;clear FB j3 xe hB1 r0 r4 r5 r7 r8;(refine dD ?_);go_wp2;have bU:∀D:Nat→Prop,D bb→∀v,Kp D w1 (w1.setCell ⟨bb,0,none⟩ v):=fun D hD v=>(Kp.refl D w1).setCell (p:=⟨bb,0,none⟩) (fun _=>hD) v;have hgb:g2≠bb:=fun e=>by
     subst e;rcases Rf.o with h|h
     · exact XD.o h
     · omega
    have hwb:¬w.heap.size=bb:=by omega
    have ZG:(M.bZ c (fs.take k) acc).length=m:=by rw[M.kG,HM.o,List.length_take];omega
    refine⟨⟨k+1,m+1,.slice (some ⟨g2,0,none⟩) (m+1) c2,by omega,by go_num,Ys (by have:=HM.o;omega),Ys ⟨?_,?_,?_,?_,?_⟩⟩,by simp[intOf];omega⟩
    · exact uF.o.bA 0 _
    · rw[yc HX.o,List.flatMap_append,ZG];have h2:=aA xU.o (bU (·=bb) rfl (.slice (some ⟨g2,0,none⟩) (m+1) c2)) (fun q hq _ e=>by cases hq;exact hgb e);simpa using h2
    · intro q hq;cases hq;rcases Rf.o with h|h
      · rcases HR.o.2.2.1 _ h with h|h
        · exact .inl h
        · exact .inr h
      · exact .inr h
    · refine((HR.o.2.2.2.1.trans bW.o.any).mix Ri.o (fun q hq e=>?_)).trans (bU _ (.inl rfl) _);rcases HR.o.2.2.1 _ e with h|h
      · exact .inr h
      · omega
    · exact((HR.o.2.2.2.2.ext bW.o).kp Ri.o (fun e=>by
       rcases HR.o.2.2.1 _ e with h|h
       · have:=(HBV.o _ h).2;omega
       · omega)).kp (bU (·=bb) rfl _) hwb
  · have GL:k=fs.length:=by omega
    subst GL;go_wp2;((try simp only[Exit.inBlock,Exit.then]);(first|refine bodyPost_ret (results_none rfl _ _ _) rfl ?_|refine bodyPost_end (results_none rfl _ _ _) rfl ?_));refine⟨rfl,v',HR.o.1,?_,?_,HR.o.2.2.2.1⟩
    · have h2:=HR.o.2.1;rw[HM.o,List.take_length]at h2;exact h2
    · intro e;rcases HR.o.2.2.1 _ e with h|h
      · exact Ib.o h
      · omega
end Go.Proofs.YtohpiobncgafeaaGreatDoor
namespace Go.Proofs.YtohpiobncgafeaaGreatDoor
open Go Go.RowKit
attribute [local go_sem] Oper.semAt_some
theorem sP(w:World)(a:Option Addr)(n c:Nat):
    Calls Tryz.prog 133 #[.slice a n c] w fun e w'=>
     e=.returned (.func (.func 145) #[] #[.pointer (some ⟨w.heap.size,0,none⟩)])∧w.alloc (.cells #[.slice a n c] 147)=w':=by
 go_enter Tryz.func133,Tryz.ntmps133;go_wp2;go_ret;exact⟨rfl,rfl⟩
def backTo{α:Type}(l:List α):Nat→List (Int×α)
 |0=>[]
 |n+1=>(match l[n]? with|some x=>[((n:Int),x)]|none=>[])++backTo l n
theorem qh{α:Type}{l:List α}{n:Nat}{x:α}(h:l[n]?=some x):backTo l (n+1)=((n:Int),x)::backTo l n:=by
 simp[backTo,h]
theorem iC{α:Type}(l:List α):∀n,n≤l.length→(backTo l n).map Prod.snd=(l.take n).reverse
 |0,_=>by simp[backTo]
 |n+1,h=>by
  rw[qh (List.getElem?_eq_getElem (show n<l.length by omega)),List.take_succ_eq_append_getElem (show n<l.length by omega),List.map_cons,iC l n (by omega),List.reverse_append];rfl
def Bc(x:Int×M.Ref):Array Value:=#[.int .i64 x.1,.agg #[.int .i64 x.2.keeper,.string x.2.name]]
theorem rF(refs:List M.Ref)(Vb:Nat)(v:Value)(I Bd:Nat→Prop)(hBd:∀k,Bd k→k≠Vb∧¬I k):
    Iter Tryz.prog 145 #[.pointer (some ⟨Vb,0,none⟩)] Bc (fun _=>False) Bd
     (fun xs=>xs=backTo refs refs.length) (fun pre=>∃rest,backTo refs refs.length=pre++rest) (fun _=>True)
     (fun W=>az W Vb 147 #[v]∧SliceOf 2 uL W I v refs) (fun pre x=>∃rest,backTo refs refs.length=pre++x::rest):=by
 intro lp J Jx W ⟨UT,oD⟩ hJ RG hN hY YL;obtain⟨a,cap,rfl,hn,dx⟩:=oD.form;refine callsIn_of_wp Tryz.func145 rfl trivial ?_ rfl;simp only[Tryz.ntmps145,List.size_toArray,List.length_cons,List.length_nil,Nat.reduceAdd,Nat.reduceSub,Array.replicate_succ,Array.replicate_zero,List.push_toArray,List.append_toArray,List.nil_append,List.cons_append];have c0:=UT.c 0 (.slice a refs.length cap) rfl;have hw:IntKind.i64.wrap ((refs.length:Int) - 1)=(refs.length:Int) - 1:=IntWalk.i64_in _ (by omega);gi_wp2;clear hw;gi_loopg [3] refs.length (fun m i wr=>∃pre:List (Int×M.Ref),((m=0∧i=.int .i64 (-1))∨∃k:Nat,m=k+1∧i=.int .i64 k)∧m≤refs.length∧Zs (backTo refs refs.length=pre++backTo refs m)∧Zs (J pre wr∧az wr Vb 147 #[.slice a refs.length cap]∧SliceOf 2 uL wr I (.slice a refs.length cap) refs))
 case atStart=>
  refine⟨[],?_,Nat.le_refl _,Ys (by simp),Ys ⟨YL,UT,oD⟩⟩;rcases Nat.eq_zero_or_pos refs.length with h0|h0
  · left;exact⟨h0,by rw[h0];rfl⟩
  · right;exact⟨refs.length - 1,by omega,by congr 1;omega⟩
 case round =>
  obtain⟨pre,hm,Qr,HB,HJ⟩:=hrel;rcases hm with⟨rfl,rfl⟩|⟨k,rfl,rfl⟩
  · have HS:Zs (backTo refs refs.length=pre):=Ys (by rw[HB.o];simp[backTo]);gi_wp2;((try simp only[Exit.inBlock,Exit.then]);(first|refine bodyPost_ret (results_none rfl _ _ _) rfl ?_|refine bodyPost_end (results_none rfl _ _ _) rfl ?_));exact⟨⟨_,rfl⟩,.inl ⟨pre,HS.o.symm,HJ.o.1⟩⟩
  · obtain⟨x,hx⟩:=get_some (show k<refs.length by omega);obtain⟨hj,hb,hs⟩:=HJ.o;obtain⟨b,off,cs,rfl,hI,rfl, -,hc⟩:=hs.get hx;obtain⟨g0,g1⟩:=hc.two;have d0:=hb.c 0 (.slice (some ⟨b,off,none⟩) refs.length cap) rfl;have uG:(0:Int)≤(k:Int):=by omega
    have pg:(k:Int)<refs.length:=by omega
    have hd:decide ((0:Int)≤(k:Int))=true:=decide_eq_true uG;have Ov:Zs (backTo refs refs.length=(pre++[((k:Int),x)])++backTo refs k):=Ys (by rw[HB.o,qh hx,List.append_assoc];rfl);obtain⟨fn,tmps,assign,body,hy,hR⟩:=hY pre ((k:Int),x) wr ⟨backTo refs k,by rw[Ov.o,List.append_assoc];rfl⟩ hj;simp only[Bc]at hy hR;have HY:=Ys hY;have HJJ:=Ys (And.intro hJ RG);have HH:=Ys (And.intro hBd (And.intro hb hs));have hw:IntKind.i64.wrap ((k:Int) - 1)=(k:Int) - 1:=IntWalk.i64_in _ (by omega);clear hY hJ RG hN hBd hb hs oD hx hc hj UT;gi_wp2_with fail;refine hR.mono ?_;rintro e W1 ⟨gD,(⟨rfl,OQ⟩|⟨rfl,Zz⟩)⟩
    · have p8:=HH.o.2.1.kp gD (fun hb=>(HH.o.1 _ hb).1 rfl);have xJ:=HH.o.2.2.keep uL.stays (Kp.same gD fun q hq hb=>(HH.o.1 _ hb).2 hq) (fun _ h=>h);have HJ1:=Ys (And.intro OQ (And.intro p8 xJ));clear OQ p8 xJ gD g0 g1 d0 hy hR hd;gi_wp2_with fail;gi_roundg k
      case measure=>omega
      case rel=>
       refine⟨pre++[((k:Int),x)],?_,by omega,Ov,HJ1⟩;cases k with
       |zero=>left;exact⟨rfl,rfl⟩
       |succ k=>right;exact⟨k,rfl,by congr 1;omega⟩
    · gi_wp2_with fail;((try simp only[Exit.inBlock,Exit.then]);(first|refine bodyPost_ret (results_none rfl _ _ _) rfl ?_|refine bodyPost_end (results_none rfl _ _ _) rfl ?_));exact⟨⟨_,rfl⟩,.inr ⟨_,⟨_,Ov.o⟩,Zz⟩⟩
end Go.Proofs.YtohpiobncgafeaaGreatDoor
namespace Go
variable {F:Fence} {n:Nat} {P:Program}
def Hq(P:Program)(l:Nat)(R:Ending→World→Prop):Exit→Act→World→Prop
 | .panic chain,a,w=>a.defers=[]∧R (.panicked chain) w
 |e,a,w=>roundPost P l R e a w
theorem vH{l:Nat}{f:FuncId}{tmps:Array Value}{assign body:Code}{w:World}{R:Ending→World→Prop}(hF:F.fn f)(hf:∃fn,P.funcs[f]?=some fn)
    (h:assign.wpIn (F.inRound l) n P (Exit.then (fun a₁ w₁=>∃w₂,(Instr.beginRound l).run P w₁=.ok () w₂∧body.wpIn (F.inRound l) n P (Hq P l R) a₁ w₂) (fun _ _ _=>False))
     {tmps:=tmps,defers:=[]} w):
    RoundIn F n P l f tmps assign body w R:=by
 refine⟨hF,fun c cs hr=>?_⟩;let b:Frame:={(default:Frame)with fn:=f,kind:=.normal,roundOf:=some l}
 have hb0:Frame.round l f tmps assign body .normal=b.atR {tmps:=tmps,defers:=[]} [.code assign,.beginRound,.code body]:=by
  simp[Frame.round,Frame.atR,b]
 have Qx:(F.inRound l).room ((c::cs).length+1+n):=hr;have RF:(F.inRound l).fn b.fn:=hF;obtain⟨e,a₁,w₁,hq,lW⟩:=h b [.beginRound,.code body] (c::cs) rfl RF Qx;rw[←hb0]at lW;cases e with
 | normal =>
  obtain⟨w₂,IK,hbody⟩:=hq;have s1:StepsIn (Machine.fenced P (F.inRound l)) P (lone (b.atR a₁ [.beginRound,.code body]) (c::cs) w₁) (lone (b.atR a₁ [.code body]) (c::cs) w₂):=
   .one (fenced_calm (fr:=b.atR a₁ [.beginRound,.code body]) RF Qx rfl) (stepR_beginRound rfl IK)
  obtain⟨e₂,a₂,w₃,hq₂,harr₂⟩:=hbody b [] (c::cs) rfl RF Qx;cases e₂ with
  |normal=>
   obtain⟨v,w₄,uS,hR⟩:=hq₂;exact⟨.returned v,w₄,hR,(StepsIn.trans lW s1).trans (StepsIn.trans harr₂ (.one (fenced_calm (fr:=b.atR a₂ []) RF Qx rfl) (stepR_round_end rfl rfl uS)))⟩
  |ret=>
   obtain⟨v,w₄,uS,hR⟩:=hq₂;obtain⟨k₁,hs⟩:=harr₂.2 rfl;exact⟨.returned v,w₄,hR,(StepsIn.trans lW s1).trans (StepsIn.trans hs (.one (fenced_calm (fr:=b.atR a₂ (.code .ret::k₁)) RF Qx rfl) (stepR_round_ret rfl rfl uS)))⟩
  |exit id=>
   obtain⟨v,w₄,uS,hR⟩:=hq₂;obtain⟨k₁,hk,hs⟩:=harr₂.2 rfl rfl;exact⟨.returned v,w₄,hR,(StepsIn.trans lW s1).trans (StepsIn.trans hs (.one (fenced_calm (fr:=b.atR a₂ (.code (.exit id)::k₁)) RF Qx rfl) (stepR_round_exit rfl rfl hk uS)))⟩
  |goto t=>
   obtain⟨v,w₄,uS,hR⟩:=hq₂;obtain⟨k₁,hk,hs⟩:=harr₂.2 rfl rfl;exact⟨.returned v,w₄,hR,(StepsIn.trans lW s1).trans (StepsIn.trans hs (.one (fenced_calm (fr:=b.atR a₂ (.code (.goto t)::k₁)) RF Qx rfl) (stepR_round_goto rfl rfl hk uS)))⟩
  |panic chain=>
   obtain⟨hd,hR⟩:=hq₂;obtain⟨todo,hs⟩:=harr₂;have hl:({b.atR a₂ todo with mode:=.panicking chain}:Frame).leaving P w₃ (.panicked chain):=⟨rfl,hd,hf⟩;exact⟨.panicked chain,w₃,hR,(StepsIn.trans lW s1).trans (StepsIn.trans hs (.one (fenced_leaving (n:=n) RF Qx hl) (step_leave_panicked hl)))⟩
  |outgrown=>exact hq₂.elim
 |exit id=>exact hq.elim
 |goto t=>exact hq.elim
 |ret=>exact hq.elim
 |panic chain=>exact hq.elim
 |outgrown=>exact hq.elim
def Code.qM(f:FuncId)(P:Program)(c:Code)(Q:Exit→Act→World→Prop)(a:Act)(w:World):Prop:=
 ∀(b:Frame) (k:List Item) (cs:List Frame),b.roundOf=none→b.fn=f→∃e a' w',Q e a' w'∧ArrivesIn (Machine.fenced P Fence.wide) P (lone (b.atR a (.code c::k)) cs w) b k cs e a' w'
theorem zN{f:FuncId}{c:Code}{Q:Exit→Act→World→Prop}{a:Act}{w:World}(h:c.wpIn Fence.wide n P Q a w):c.qM f P Q a w:=
 fun b k cs FI _=>h b k cs FI trivial (room_wide _)
theorem Fj{f:FuncId}{x y:Code}{Q:Exit→Act→World→Prop}{a:Act}{w:World}(h:x.qM f P (Exit.then (y.qM f P Q) Q) a w):(Code.seq x y).qM f P Q a w:=by
 intro b k cs FI hb;have one:StepsIn (Machine.fenced P Fence.wide) P (lone (b.atR a (.code (.seq x y)::k)) cs w) (lone (b.atR a (.code x:: .code y::k)) cs w):=.one (fenced_wide _ _) stepR_seq;obtain⟨e,a₁,w₁,hq,lW⟩:=h b (.code y::k) cs FI hb;by_cases hn:e=.normal
 · subst hn;obtain⟨e₂,a₂,w₂,hq₂,harr₂⟩:=hq b k cs FI hb;exact⟨e₂,a₂,w₂,hq₂,.of_steps (one.trans lW) harr₂⟩
 · refine⟨e,a₁,w₁,?_,.of_steps one (.pass (x:=.code y) rfl (fun _ _=>.inl hn) lW)⟩;cases e<;>first|exact absurd rfl hn|exact hq
theorem wM{f:FuncId}{x y:Code}{Q:Exit→Act→World→Prop}{a:Act}{w:World}(h:x.wpIn Fence.wide n P (Exit.then (y.qM f P Q) Q) a w):(Code.seq x y).qM f P Q a w:=Fj (zN h)
theorem AZ{f:FuncId}{x y:Code}{Q:Exit→Act→World→Prop}{a:Act}{w:World}(h:∀K:Act→World→Prop,(∀a w,y.qM f P Q a w→K a w)→x.wpIn Fence.wide n P (Exit.then K Q) a w):(Code.seq x y).qM f P Q a w:=
 wM (h _ fun _ _ h=>h)
theorem Hu{f:FuncId}{id:Nat}{c:Code}{Q:Exit→Act→World→Prop}{a:Act}{w:World}
    (h:c.qM f P (fun e a w=>(∀x,e≠ .exit x)∧(∀x,e≠ .goto x)∧Q e a w) a w):(Code.block id c).qM f P Q a w:=by
 intro b k cs FI hb;have one:StepsIn (Machine.fenced P Fence.wide) P (lone (b.atR a (.code (.block id c)::k)) cs w) (lone (b.atR a (.code c:: .inBlock id::k)) cs w):=.one (fenced_wide _ _) stepR_block;obtain⟨e,a₁,w₁,⟨h1,h2,hq⟩,lW⟩:=h b (.inBlock id::k) cs FI hb;refine⟨e,a₁,w₁,hq,?_⟩;cases e with
 |normal=>exact one.trans (StepsIn.trans lW (.one (fenced_wide _ _) stepR_inBlock))
 |ret=>exact .of_steps one (show ArrivesIn _ P _ b k cs .ret a₁ w₁ from⟨lW.1,lW.2⟩)
 |panic ch=>exact .of_steps one (show ArrivesIn _ P _ b k cs (.panic ch) a₁ w₁ from lW)
 |outgrown=>exact .of_steps one (show ArrivesIn _ P _ b k cs .outgrown a₁ w₁ from lW)
 |exit x=>exact absurd rfl (h1 x)
 |goto x=>exact absurd rfl (h2 x)
def Ko(R:Ending→World→Prop):Exit→Act→World→Prop
 | .panic c,a,w=>a.defers=[]∧R (.panicked c) w
 | .outgrown,_,w=>R .outgrown w
 |_,_,_=>False
theorem oZ{f:FuncId}{fn:Func}{x y:Code}{R:Ending→World→Prop}{a:Act}{w:World}(h:∀K:Act→World→Prop,(∀a w,y.qM f P (bodyPostM Fence.wide n P fn R) a w→K a w)→x.wp P (Exit.then K (Ko R)) a w):
    (Code.seq x y).qM f P (bodyPostM Fence.wide n P fn R) a w:=by
 refine wM (n:=n) (wpIn_mono (wpIn_wide.2 (h _ fun _ _ h=>h)) ?_);intro e a w hq;cases e with
 |normal=>exact hq
 |panic c=>
  obtain⟨hd,hR⟩:=hq;show LeavesInM _ _ _ _ _ _ a.defers _ _
  rw[hd];exact hR
 |outgrown=>exact hq
 |ret=>exact hq.elim
 |exit x=>exact hq.elim
 |goto x=>exact hq.elim
def PU(ds:List Deferred)(R:Ending→World→Prop):Exit→Act→World→Prop
 | .normal,a,w=>a.defers=ds∧R (.returned (.tuple #[])) w
 | .panic c,a,w=>a.defers=ds∧R (.panicked c) w
 |_,_,_=>False
theorem Oi{f:FuncId}{c:Code}{ds:List Deferred}{R:Ending→World→Prop}{Q:Exit→Act→World→Prop}{a:Act}{w:World}(h:c.wp P (PU ds R) a w)
    (hN:∀a w,a.defers=ds→R (.returned (.tuple #[])) w→Q .normal a w) (hP:∀c a w,a.defers=ds→R (.panicked c) w→Q (.panic c) a w):c.qM f P Q a w:=by
 refine zN (n:=10) (wpIn_mono (wpIn_wide.2 h) ?_);intro e a w hq;cases e with
 |normal=>exact hN _ _ hq.1 hq.2
 |panic c=>exact hP _ _ _ hq.1 hq.2
 |outgrown=>exact hq.elim
 |ret=>exact hq.elim
 |exit x=>exact hq.elim
 |goto x=>exact hq.elim
theorem pW{f:FuncId}{fn:Func}{c:Code}{args:Array Value}{w:World}{R:Ending→World→Prop}
    (hf:P.funcs[f]?=some fn) (hb:fn.body=some c)
    (h:c.qM f P (bodyPostM Fence.wide n P fn R) {tmps:=args++Array.replicate (fn.ntmps - args.size) undef,defers:=[]} w):CallsIn Fence.wide n P f args w R:=by
 refine⟨trivial,fun cs hr=>?_⟩;obtain⟨b,hbe⟩:∃b:Frame,b={(default:Frame)with fn:=f,kind:=.normal,roundOf:=none}:=⟨_,rfl⟩;have FE:b.fn=f:=by rw[hbe]
 have FI:b.roundOf=none:=by rw[hbe]
 have hkd:b.kind=.normal:=by rw[hbe]
 have henter:Frame.enter P f args .normal=b.atR {tmps:=args++Array.replicate (fn.ntmps - args.size) undef,defers:=[]} [.code c]:=by
  simp[Frame.enter,Frame.atR,hf,hb,hbe]
 have leave:∀(fr:Frame) (u:FrameMode) (a':Act) (w':World),fr.fn=f→fr.kind=.normal→fr.mode=u→fr.defers=a'.defers→fr.tmps=a'.tmps→LeavesInM Fence.wide n P fn a'.tmps R a'.defers u w'→
     StepsIn (Machine.fenced P Fence.wide) P (lone (Frame.enter P f args .normal) cs w) (lone fr cs w')→
     ∃e w' fr,R e w'∧ComesIn (Machine.fenced P Fence.wide) P (lone (Frame.enter P f args .normal) cs w) (lone fr cs w') e∧fr.fn=f∧fr.leaving P w' e:=by
  intro fr u a' w' h1 h2 h3 h4 h5 hl hs;obtain⟨e',w'',fr',hR,Sc,acm,Wx⟩:=leaves_stepsInM a'.defers u w' fr cs h3 h4 h5 (h1▸hf) h2 trivial hr hl;exact⟨e',w'',fr',hR,ComesIn.of_steps hs Sc,acm.trans h1,Wx⟩
 obtain⟨e,a',w',hq,lW⟩:=h b [] cs FI FE;rw[←henter]at lW;cases e with
 |normal=>exact leave {b.atR a' []with mode:=.returning} .returning a' w' FE hkd rfl rfl rfl hq (StepsIn.trans lW (.one (fenced_wide _ _) (stepR_end FI)))
 |ret=>
  obtain⟨todo,hs⟩:=lW.1 FI;exact leave {b.atR a' todo with mode:=.returning} .returning a' w' FE hkd rfl rfl rfl hq hs
 |panic chain=>
  obtain⟨todo,hs⟩:=lW;exact leave {b.atR a' todo with mode:=.panicking chain} (.panicking chain) a' w' FE hkd rfl rfl rfl hq hs
 |exit id=>exact hq.elim
 |goto l=>exact hq.elim
 |outgrown=>exact⟨.outgrown,w',b,hq,lW.resolve_left (by simp[hkd]),FE,trivial⟩
theorem zO{g:Operand}{ps:Array Tmp}{assign body:Code}{Q:Exit→Act→World→Prop}{a:Act}{w:World}{fn:FuncId}
    (h:∃(l:Nat) (mark:List Deferred) (w₁:World) (d:Deferred) (w₁':World) (f:FuncId) (args:Array Value) (w₂:World),
     (Instr.enterLoop fn a.tmps ps assign body none).run P w=.ok (l,mark) w₁∧(resolve a.eval (rangeCall g l) 0).run P w₁=.ok d w₁'∧(invoke d.target d.args).run P w₁'=.ok (.enter f args) w₂∧
     CallsIn Fence.wide (n - 1) P f args w₂ (rangePost Fence.wide n P l Q {a with defers:=mark++a.defers})):
    (Code.rangeFunc g ps assign body).qM fn P Q a w:=by
 obtain⟨l,mark,w₁,d,w₁',f,args,w₂,he,Ev,hinv,hF,jW⟩:=h;intro b k cs FI hb;subst hb;rw[←FI]at he;have henter:=stepR_rangeFunc (P:=P) (b:=b) (a:=a) (k:=k) (cs:=cs) (w:=w) he Ev hinv;obtain⟨e,w₃,fr,hR,hsteps,FE,hleave⟩:=jW (b.atR {a with defers:=mark++a.defers} (.inRangeFunc l::k)::cs) (room_wide _);cases e with
 |outgrown=>
  obtain⟨a₀,w₀,hq⟩:=hR;exact⟨.outgrown,a₀,w₀,hq,.inr (Outgrown.of_steps (.one henter) hsteps)⟩
 |panicked chain=>
  have MX:=step_leave_panicked (c:=b.atR {a with defers:=mark++a.defers} (.inRangeFunc l::k)) (cs:=cs) hleave;rw[Frame.raise_atR]at MX;exact⟨.panic chain,_,w₃,hR,.inRangeFunc l::k,.head (fenced_wide _ _) henter (StepsIn.trans hsteps (.one (fenced_wide _ _) MX))⟩
 | returned v =>
  obtain⟨jump,w₄,uS,hj⟩:=hR;have MX:=step_leave_returned (c:=b.atR {a with defers:=mark++a.defers} (.inRangeFunc l::k)) (cs:=cs) hleave;rw[finish_atR_inRangeFunc]at MX;have back:StepsIn (Machine.fenced P Fence.wide) P (lone (b.atR a (.code (.rangeFunc g ps assign body)::k)) cs w) (lone (b.atR {a with defers:=mark++a.defers} ((jump.map Item.code).toList++k)) cs w₄):=
   .head (fenced_wide _ _) henter (StepsIn.trans hsteps (.head (fenced_wide _ _) MX (.one (fenced_wide _ _) (stepR_endRangeFunc uS))))
  cases jump with
  |none=>exact⟨.normal,_,w₄,hj,back⟩
  |some c=>
   obtain⟨e',a'',w₅,hq,lW⟩:=hj b k cs FI trivial (room_wide _);exact⟨e',a'',w₅,hq,.of_steps back lW⟩
end Go
namespace Go.Proofs.YtohpiobncgafeaaGreatDoor
open Go Go.RowKit
def Rn{α:Type}(P:Program)(gf:Nat)(lb:Array Value)(encs:α→Array Value)(Ae Bd:Nat→Prop)(S Sp O1:List α→Prop)(Px:World→Prop)(Nx:List α→α→Prop:=fun _ _=>True):Prop:=
 ∀(l:Nat) (J Jx:List α→World→Prop) (Jp:List PanicEntry→List α→World→Prop) (W:World),Px W→(∀s A B,J s A→Kp Ae A B→J s B)→(∀s A B,Jx s A→Kp Ae A B→Jx s B)→(∀c s A B,Jp c s A→Kp Ae A B→Jp c s B)→(∀s A,J s A→O1 s)→
  (∀pre x W1,Nx pre x→J pre W1→YieldAt Fence.wide 8 P l (encs x) W1 fun e W'=>Kp Bd W1 W'∧((e=.returned (.bool true)∧J (pre++[x]) W')∨(e=.returned (.bool false)∧Jx (pre++[x]) W')∨∃c,e=.panicked c∧Jp c (pre++[x]) W'))→
  J [] W→CallsIn Fence.wide 9 P gf (#[.func (.yield l) #[] #[]]++lb) W fun e W'=>((∃v,e=.returned v)∧((∃xs,S xs∧J xs W')∨(∃pre,Sp pre∧Jx pre W')))∨∃c pre,e=.panicked c∧Sp pre∧Jp c pre W'
def Ku{α:Type}(Bb:Nat→Prop)(I:List α→World→Prop)(Ix:Code→List α→World→Prop)(Ip:List PanicEntry→List α→World→Prop)(xs:List α)(W:World):Exit→Act→World→Prop
 | .panic c,a,W'=>a.defers=[]∧Kp Bb W W'∧Ip c xs W'
 |e,a,W'=>roundEnd Bb I Ix xs W e a W'
theorem Kr {α : Type} {P : Program} {g : Operand} {ps : Array Tmp} {assign body : Code} {Q : Exit → Act → World → Prop} {a : Act} {w : World} {gf : Nat} {lb : Array Value}
    (hg:a.eval g=.func (.func gf) #[] lb) (eg:∀args w,(callFunc gf args).run P w=.ok (.enter gf args) w) {encs:α→Array Value} (hps:∀x,(encs x).size=ps.size)
    {S Sp O1:List α→Prop} {Ae Bb:Nat→Prop} {Px:World→Prop} {Nx:List α→α→Prop} (Vm:Rn P gf lb encs Ae (fun k=>Bb k∨k=w.heap.size+1) S Sp O1 Px Nx)
    (hIt:∀W,Ext w W→Px W) (hD1:¬Ae w.heap.size) (hD2:¬Ae (w.heap.size+1)) (hB1:¬Bb w.heap.size) (hB2:¬Bb (w.heap.size+1))
    (I:List α→World→Prop) (Ix:Code→List α→World→Prop) (Ip:List PanicEntry→List α→World→Prop) {fn:FuncId} (FE:∃f,P.funcs[fn]?=some f) (hIp:∀c s A B,Ip c s A→Kp (fun k=>Ae k∨k=w.heap.size+1) A B→Ip c s B)
    (hI:∀s A B,I s A→Kp (fun k=>Ae k∨k=w.heap.size+1) A B→I s B) (hIx:∀c s A B,Ix c s A→Kp (fun k=>Ae k∨k=w.heap.size+1) A B→Ix c s B) (h0:I [] w) (hIB:∀s A,I s A→O1 s)
    (Ax:List α→α→World→Act→World→Prop)
    (hassign:∀(pre:List α) (x:α) (W:World) (K:Act→World→Prop),Nx pre x→I pre W→w.heap.size+1<W.heap.size→(∀a₁ W₁,Ax pre x W a₁ W₁→K a₁ W₁)→
     assign.wpIn (Fence.wide.inRound (w.heap.size+1)) 8 P (Exit.then K (fun _ _ _=>False)) {tmps:=(ps.zip (encs x)).foldl (fun t (p,v)=>t.setIfInBounds p v) a.tmps,defers:=[]} W)
    (hAx:∀pre x W a₁ W₁,Ax pre x W a₁ W₁→Kp Bb W W₁)
    (hbody:∀(pre:List α) (x:α) (W:World) (a₁:Act) (W₁ W₂:World),Ax pre x W a₁ W₁→Kp (·=w.heap.size+1) W₁ W₂→W₂.heap.size=W₁.heap.size→
     body.wpIn (Fence.wide.inRound (w.heap.size+1)) 8 P (Ku Bb I Ix Ip (pre++[x]) W₂) a₁ W₂)
    (hdone:∀(xs:List α) (W:World),S xs→I xs W→W.heap[w.heap.size]?=some (.deferred (some []))→Q .normal {a with defers:={target:=.collected w.heap.size,args:=#[]}::a.defers} W)
    (hstop:∀(c:Code) (pre:List α) (W:World),Sp pre→Ix c pre W→W.heap[w.heap.size]?=some (.deferred (some []))→c.wpIn Fence.wide 10 P Q {a with defers:={target:=.collected w.heap.size,args:=#[]}::a.defers} W)
    (hpanic:∀(c:List PanicEntry) (pre:List α) (W:World),Sp pre→Ip c pre W→W.heap[w.heap.size]?=some (.deferred (some []))→Q (.panic c) {a with defers:={target:=.collected w.heap.size,args:=#[]}::a.defers} W):
    (Code.rangeFunc g ps assign body).qM fn P Q a w:=by
 refine zO (n:=10) ?_;obtain⟨rec,oC⟩:∃rec:LoopState→Option Code→Loop,rec=fun st pe=>{state:=st,pending:=pe,fn,tmps:=a.tmps,params:=ps,assign,body,defers:=w.heap.size}:=⟨_,rfl⟩;obtain⟨W1,Cw⟩:∃W1,(w.alloc (.deferred (some []))).alloc (.loop (rec .ready none))=W1:=⟨_,rfl⟩;have vV:W1.heap[w.heap.size+1]?=some (.loop (rec .ready none)):=by
  rw[←Cw];have:=World.alloc_heap_new (w.alloc (.deferred (some []))) (.loop (rec .ready none));rwa[World.size_alloc]at this
 have j3:W1.heap[w.heap.size]?=some (.deferred (some [])):=by
  rw[←Cw];exact(Below.heap_alloc _ _ _ (by simp)).trans (World.alloc_heap_new w _)
 have aZ:Ext w W1:=by rw[←Cw];exact((Kp.refl _ _).alloc _).alloc _
 have YK:I [] W1:=hI _ _ _ h0 aZ.any;have keep:∀{D:Nat→Prop} {A B:World} {o:Obj} {k:Nat},Kp D A B→¬D k→A.heap[k]?=some o→B.heap[k]?=some o:=fun h hd ho=>
  (h.block _ (Array.getElem?_eq_some_iff.1 ho).1 hd).trans ho
 refine⟨w.heap.size+1,[{target:=.collected w.heap.size,args:=#[]}],W1,{target:=.fn (.func gf) lb,args:=#[.func (.yield (w.heap.size+1)) #[] #[]]},W1,gf,
  #[.func (.yield (w.heap.size+1)) #[] #[]]++lb,W1,?_,?_,?_,?_⟩
 · rw[←Cw,oC];exact run_enterLoop_outer _ _ _ _ _
 · simp only[resolve,hg];simp[go_sem]
 · simp[invoke,go_sem,eg]
 · refine(Vm (w.heap.size+1)
    (fun pre W=>I pre W∧W.heap[w.heap.size+1]?=some (.loop (rec .ready none))∧W.heap[w.heap.size]?=some (.deferred (some [])))
    (fun pre W=>∃c,Ix c pre W∧W.heap[w.heap.size+1]?=some (.loop (rec .done (some c)))∧W.heap[w.heap.size]?=some (.deferred (some [])))
    (fun c pre W=>Ip c pre W∧W.heap[w.heap.size]?=some (.deferred (some [])))
    W1 (hIt _ aZ)
    (fun s A B hs hk=>⟨hI s A B hs.1 (hk.weak fun _ _ h=>.inl h),keep hk hD2 hs.2.1,keep hk hD1 hs.2.2⟩)
    (fun s A B hs hk=>by
     obtain⟨c,hc,hl,hd⟩:=hs;exact⟨c,hIx c s A B hc (hk.weak fun _ _ h=>.inl h),keep hk hD2 hl,keep hk hD1 hd⟩)
    (fun c s A B hs hk=>⟨hIp c s A B hs.1 (hk.weak fun _ _ h=>.inl h),keep hk hD1 hs.2⟩)
    (fun s A hs=>hIB s A hs.1) ?_ ⟨YK,vV,j3⟩).mono ?_
   · rintro pre x W OU ⟨hi,hl,hk⟩;have cK:w.heap.size+1<W.heap.size:=(Array.getElem?_eq_some_iff.1 hl).1;have hy:=run_yield (P:=P) (args:=encs x) hl (by rw[oC];exact hps x);rw[oC]at hy;refine⟨fn,_,assign,body,hy,vH trivial FE (hassign pre x W _ OU hi cK ?_)⟩;intro a₁ W₁ Y3;have gD:=hAx _ _ _ _ _ Y3;have yI:W₁.heap[w.heap.size+1]?=some (.loop (rec .ready none)):=keep gD hB2 hl;have pg:W₁.heap[w.heap.size]?=some (.deferred (some [])):=keep gD hB1 hk;refine⟨_,run_beginRound yI (by rw[oC]),?_⟩;have U8:w.heap.size+1<W₁.heap.size:=(Array.getElem?_eq_some_iff.1 yI).1;have DD:(W₁.putObj (w.heap.size+1) (.loop {rec .ready none with state:=.busy})).heap[w.heap.size+1]?=some (.loop {rec .ready none with state:=.busy}):=World.putObj_heap_same U8;have pq:(W₁.putObj (w.heap.size+1) (.loop {rec .ready none with state:=.busy})).heap[w.heap.size]?=some (.deferred (some [])):=(World.putObj_heap_other (by omega)).trans pg;refine wpIn_mono (hbody pre x W a₁ W₁ _ Y3 (Kp.putObj _ _ _) (by simp)) ?_;have tY:∀(W3:World),Kp Bb (W₁.putObj (w.heap.size+1) (.loop {rec .ready none with state:=.busy})) W3→∀o,Kp (fun k=>Bb k∨k=w.heap.size+1) W (W3.putObj (w.heap.size+1) o):=fun W3 h3 o=>
      (((gD.weak fun _ _ h=>.inl h).trans ((Kp.putObj _ _ _).weak fun _ _ h=>.inr h)).trans (h3.weak fun _ _ h=>.inl h)).trans ((Kp.putObj _ _ _).weak fun _ _ h=>.inr h)
     have fin:∀(jump:Option Code) (W3:World),Kp Bb (W₁.putObj (w.heap.size+1) (.loop {rec .ready none with state:=.busy})) W3→
         (Instr.endRound (w.heap.size+1) jump).run P W3=.ok (.bool jump.isNone) (W3.putObj (w.heap.size+1) (.loop (rec (if jump.isNone then .ready else .done) jump)))∧
         (W3.putObj (w.heap.size+1) (.loop (rec (if jump.isNone then .ready else .done) jump))).heap[w.heap.size+1]?=some (.loop (rec (if jump.isNone then .ready else .done) jump))∧
         (W3.putObj (w.heap.size+1) (.loop (rec (if jump.isNone then .ready else .done) jump))).heap[w.heap.size]?=some (.deferred (some [])):=fun jump W3 ow=>by
      have U5:=keep ow hB2 DD;have:=run_endRound (P:=P) jump U5;rw[oC]at this ⊢;exact⟨this,World.putObj_heap_same (Array.getElem?_eq_some_iff.1 U5).1,(World.putObj_heap_other (by omega)).trans (keep ow hB1 pq)⟩
     have tr:∀(W3:World) (o:Obj),Kp (fun k=>Ae k∨k=w.heap.size+1) W3 (W3.putObj (w.heap.size+1) o):=fun W3 o=>(Kp.putObj _ _ _).weak fun _ _ h=>.inr h;rintro e a3 W3 hp;cases e with
     |normal=>
      obtain⟨ow,Eu⟩:=hp;obtain⟨hr,GM,GK⟩:=fin none W3 ow;exact⟨_,_,hr,tY _ ow _,.inl ⟨rfl,hI _ _ _ Eu (tr _ _),GM,GK⟩⟩
     |ret=>
      obtain⟨ow,Eu⟩:=hp;obtain⟨hr,GM,GK⟩:=fin (some .ret) W3 ow;exact⟨_,_,hr,tY _ ow _,.inr (.inl ⟨rfl,.ret,hIx _ _ _ _ Eu (tr _ _),GM,GK⟩)⟩
     |exit id=>
      obtain⟨ow,Eu⟩:=hp;obtain⟨hr,GM,GK⟩:=fin (some (.exit id)) W3 ow;exact⟨_,_,hr,tY _ ow _,.inr (.inl ⟨rfl,.exit id,hIx _ _ _ _ Eu (tr _ _),GM,GK⟩)⟩
     |goto t=>
      obtain⟨ow,Eu⟩:=hp;obtain⟨hr,GM,GK⟩:=fin (some (.goto t)) W3 ow;exact⟨_,_,hr,tY _ ow _,.inr (.inl ⟨rfl,.goto t,hIx _ _ _ _ Eu (tr _ _),GM,GK⟩)⟩
     |panic ch=>
      obtain⟨hd,ow,Eu⟩:=hp;exact⟨hd,((gD.weak fun _ _ h=>.inl h).trans ((Kp.putObj _ _ _).weak fun _ _ h=>.inr h)).trans (ow.weak fun _ _ h=>.inl h),.inr (.inr ⟨ch,rfl,Eu,keep ow hB1 pq⟩)⟩
     |outgrown=>exact hp.elim
   · rintro e W2 (⟨⟨v,rfl⟩,(⟨xs,hS,hi,hl,hk⟩|⟨pre,YX,c,hi,hl,hk⟩)⟩|⟨c,pre,rfl,YX,hi,hk⟩)
     · exact⟨none,_,by have:=run_endLoop (P:=P) hl (by rw[oC];simp);rw[oC]at this;exact this,
        hdone xs _ hS (hI _ _ _ hi ((Kp.putObj _ _ _).weak fun _ _ h=>.inr h)) ((World.putObj_heap_other (by omega)).trans hk)⟩
     · exact⟨some c,_,by have:=run_endLoop (P:=P) hl (by rw[oC];simp);rw[oC]at this;exact this,
        hstop c pre _ YX (hIx _ _ _ _ hi ((Kp.putObj _ _ _).weak fun _ _ h=>.inr h)) ((World.putObj_heap_other (by omega)).trans hk)⟩
     · exact hpanic c pre _ YX hi hk
end Go.Proofs.YtohpiobncgafeaaGreatDoor
namespace Go.Proofs.YtohpiobncgafeaaGreatDoor
open Go Go.RowKit
def uo(ops:Array Oper):Bool:=ops.all fun o=>match o.op with| .defer _=>false|_=>true
theorem Da{ops:Array Oper}(h:uo ops=true)(j:Nat)(o:Oper)(ho:ops[j]?=some o)(c:Call):o.op≠ .defer c:=by
 intro heq;have:=Array.all_eq_true_iff_forall_mem.1 h o (Array.mem_of_getElem? ho);simp[heq]at this
section
variable {F:Fence} {m:Nat} {P:Program} {ops:Array Oper} {md:Region.Mode} {Q:Exit→Act→World→Prop} {C:World→Prop} {n:Nat}
theorem eB.wpOpIn(hF:∀f,F.fn f){i:Nat}{o:Oper}{v:Value}{a:Act}(Bq:∀c,o.op≠ .defer c)(hi:ops[i]?=some o)(hy:eB P ops C o v a){K:Act→World→Prop}{w:World}(hC:C w)(h:K (a.put o.dst v) w):wpOpIn F m P ops Q i K a w:=by
 unfold Go.wpOpIn;simp only[hi];rcases hy with⟨hw,hv⟩|⟨hw,rfl⟩
 · simp only[hw,if_true];refine⟨fun f _=>hF f,?_⟩;rw[Oper.semAt_eq _ _ _ Bq];rcases hv w hC with e|⟨e,rfl⟩
   · rw[e];exact h
   · rw[e];exact h
 · simp only[hw,Bool.false_eq_true,if_false];exact⟨fun f _=>hF f,h⟩
theorem Fs(hF:∀f,F.fn f){j:Nat}{oi oj:Oper}{v:Value}(Bq:∀c,oj.op≠ .defer c)(hj:ops[j]?=some oj)(hap:oi.apart ops oj=true)
    (hsi:∀cs b,oi.op≠ .select cs b) (hsj:∀cs b,oj.op≠ .select cs b)
    (hQ:∀c a w,Q (.panic c) (a.put oi.dst v) w→Q (.panic c) a w) {K:Act→World→Prop} {a:Act} {w:World}
    (hy:eB P ops C oi v a) (h:wpOpIn F m P ops Q j K (a.put oi.dst v) w):
    wpOpIn F m P ops Q j (fun a' w'=>eB P ops C oi v a'∧K (a'.put oi.dst v) w') a w:=by
 obtain⟨h1,h2,h3⟩:=Oper.apart_spec hap;have keep:∀(a:Act),eB P ops C oi v a→∀u,eB P ops C oi v (a.put oj.dst u):=fun a hy u=>
  hy.of_same (execOp_put oi hsi a oj.dst u h3) (wanted_put oi a oj.dst u h3)
 unfold wpOpIn at*;simp only[hj]at*;rw[wanted_put oj a oi.dst v h1,about_put oj w a oi.dst v h1]at h;split
 · rename_i hw;simp only[hw,if_true]at h;unfold Oper.wpIn at*;refine⟨fun f _=>hF f,?_⟩;have h:=h.2;rw[Oper.semAt_eq _ _ _ Bq,execOp_put oj hsj a oi.dst v h1]at h;rw[Oper.semAt_eq _ _ _ Bq];generalize (execOp a.eval oj).run P w=r at*;cases r with
   | ok x w' =>
    cases x<;>simp only[Oper.uponIn]at h ⊢
    case value u=>exact⟨keep a hy u,by rw[←Act.put_comm a v u h2];exact h⟩
    case skip=>exact⟨keep a hy _,by rw[←Act.put_comm a v undef h2];exact h⟩
    case defer d=>
     refine⟨(hy.of_same rfl rfl:eB P ops C oi v {a with defers:=d::a.defers}).of_same (execOp_put oi hsi _ oj.dst undef h3) (wanted_put oi _ oj.dst undef h3),?_⟩;rw[←Act.put_comm _ v undef h2,←Act.put_defers];exact h
    case enter f args=>
     refine⟨h.1,CallsIn.mono h.2 fun e w'' he=>?_⟩;cases e with
     |returned u=>exact⟨keep a hy u,by rw[←Act.put_comm a v u h2];exact he⟩
     |panicked c=>exact hQ _ _ _ he
     |outgrown=>exact he
    case row row args=>exact⟨h.1,RowsIn.mono h.2 fun u w'' he=>⟨keep a hy u,by rw[←Act.put_comm a v u h2];exact he⟩⟩
    case round l f tmps assign body=>
     refine⟨h.1,RoundIn.mono h.2 fun e w'' he=>?_⟩;cases e with
     |returned u=>exact⟨keep a hy u,by rw[←Act.put_comm a v u h2];exact he⟩
     |panicked c=>exact hQ _ _ _ he
     |outgrown=>exact he
   |halt x w'=>
    cases x<;>simp only[Oper.uponIn]at h ⊢
    case panic u=>exact hQ _ _ _ h
 · rename_i hw;simp only[hw]at h;exact⟨fun f _=>hF f,keep a hy _,by rw[←Act.put_comm a v undef h2];exact h.2⟩
def lH(F:Fence)(m:Nat)(P:Program)(md:Region.Mode)(ops:Array Oper)(n:Nat)(C:World→Prop)(Q:Exit→Act→World→Prop):Nat→Array Bool→Act→World→Prop
 |0,listed,a,w=>Region.ready md ops listed=[]∧Q .normal a w
 |fuel+1,listed,a,w=>
  (Region.ready md ops listed=[]→Q .normal a w)∧
  ∀i∈Region.ready md ops listed,wpOpIn F m P ops Q i (fun a' w'=>(i<n→C w')∧lH F m P md ops n C Q fuel (listed.setIfInBounds i true) a' w') a w
theorem uE:∀(fuel:Nat) (listed:Array Bool) (a:Act) (w:World),lH F m P md ops n C Q fuel listed a w→wpAnyIn F m P md ops Q fuel listed a w
 |0,_,_,_,h=>h
 |fuel+1,_,_,_,h=>⟨h.1,fun i hi=>wpOpIn_mono (fun a' w' h'=>uE fuel _ a' w' h'.2) (h.2 i hi)⟩
theorem AY (hF : ∀ f, F.fn f) (Bq : ∀ (j : Nat) (o : Oper), ops[j]? = some o → ∀ c, o.op ≠ .defer c) {i : Nat} {oi : Oper} {v : Value} (hi : ops[i]? = some oi) (M5 : ∀ (j : Nat) (o : Oper) cs b, ops[j]? = some o → o.op ≠ .select cs b)
    (hQ:∀c a w,Q (.panic c) (a.put oi.dst v) w→Q (.panic c) a w) (M6:∀j,n≤j→Region.waitsFor md ops j i=true∨ops[j]?=none):
    ∀(fuel:Nat) (listed:Array Bool) (a:Act) (w:World),
     (∀j oj,ops[j]?=some oj→j≠i→listed.getD j true=false→(∀e∈oj.after,Region.binds md e=true→e.on≠i)→oi.apart ops oj=true)→
     i∈Region.ready md ops listed→eB P ops C oi v a→C w→i<n→
     lH F m P md ops n C Q fuel (listed.setIfInBounds i true) (a.put oi.dst v) w→lH F m P md ops n C Q (fuel+1) listed a w:=by
 intro fuel;induction fuel with
 |zero=>
  intro listed a w _ hr hy hC JJ H;refine⟨fun h=>(by rw[h]at hr;cases hr),fun j hj=>?_⟩;by_cases yH:j=i
  · subst yH;exact hy.wpOpIn hF (Bq _ _ hi) hi hC ⟨fun _=>hC,H⟩
  · have:=ready_mono hj yH;rw[H.1]at this;cases this
 | succ fuel ih =>
  intro listed a w Et hr hy hC JJ H;refine⟨fun h=>(by rw[h]at hr;cases hr),fun j hj=>?_⟩;by_cases yH:j=i
  · subst yH;exact hy.wpOpIn hF (Bq _ _ hi) hi hC ⟨fun _=>hC,H⟩
  · have h1:=H.2 j (ready_mono hj yH);obtain⟨ML,oj,K3,oq⟩:=mem_ready.1 hj;have MV:∀e∈oj.after,Region.binds md e=true→e.on≠i:=fun e he hb heq=>by
     have h1:=oq e he hb;have h0:=(mem_ready.1 hr).1;rw[heq]at h1;rcases Nat.lt_or_ge i listed.size with h'|h'
     · simp[h']at h0 h1;rw[h0]at h1;cases h1
     · simp[Array.getElem?_eq_none h']at h1
    have Wv:j<n:=by
     rcases Nat.lt_or_ge j n with h|h
     · exact h
     · rcases M6 j h with hw|hw
       · obtain⟨oj',MW,e,he,hb,heq⟩:=Region.waitsFor_spec hw;rw[K3]at MW;cases MW;exact absurd heq (MV e he hb)
       · rw[K3]at hw;cases hw
    have h2:=Fs hF (Bq _ _ K3) K3 (Et j oj K3 yH ML MV) (fun cs b=>M5 i oi cs b hi) (fun cs b=>M5 j oj cs b K3) hQ hy h1;have GJ:∀k ok,ops[k]?=some ok→k≠i→(listed.setIfInBounds j true).getD k true=false→
        (∀e∈ok.after,Region.binds md e=true→e.on≠i)→oi.apart ops ok=true:=fun k ok hk hki Z7 nT=>by
     refine Et k ok hk hki ?_ nT;by_cases Qn:j=k
     · subst Qn;exact ML
     · rw[getD_set_ne true Qn]at Z7;exact Z7
    refine wpOpIn_mono (fun a' w' h3=>⟨fun _=>h3.2.1 Wv,ih (listed.setIfInBounds j true) a' w' GJ (ready_mono hr (Ne.symm yH)) h3.1 (h3.2.1 Wv) JJ ?_⟩) h2;rw[Array.setIfInBounds_comm _ _ yH];exact h3.2.2
def jP(F:Fence)(m:Nat)(P:Program)(l:List Oper)(C:World→Prop)(Q:Exit→Act→World→Prop)(fin:Act→World→Prop):List (List Nat×Nat)→List Nat→Act→World→Prop
 |[],q,a,w=>wpQuiet P l.toArray C (fun a'=>fin a' w) (q.filterMap (l[·]?)) a
 |(q,i)::r,q',a,w=>wpQuiet P l.toArray C (fun a'=>wpListIn F m P l.toArray (Exit.then (fun a'' w'=>C w'∧jP F m P l C Q fin r q' a'' w') Q) (l[i]?).toList a' w) (q.filterMap (l[·]?)) a
theorem oO(hF:∀f,F.fn f){l:List Oper}(Bq:uo l.toArray=true)(hs:Region.noSelect l.toArray=true)(ht:uy md l.toArray n=true)(hQ:∀c a d v w,Q (.panic c) (a.put d v) w→Q (.panic c) a w){K:Act→Prop}{w:World}(hC:C w)(fuel:Nat)(L:Array Bool)
    (hK:∀a',K a'→lH F m P md l.toArray n C Q fuel L a' w):∀(q:List Nat) (listed:Array Bool) (a:Act),K7 md l.toArray n q listed=some L→
    wpQuiet P l.toArray C K (q.filterMap (l[·]?)) a→lH F m P md l.toArray n C Q (fuel+q.length) listed a w
 |[],listed,a,ho,h=>by
  simp only[K7,Option.some.injEq]at ho;subst ho;exact hK a h
 | i :: q, listed, a, ho, h => by
  unfold K7 at ho;split at ho
  · rename_i hb;simp only[Bool.and_eq_true,decide_eq_true_eq]at hb;obtain⟨⟨⟨h1,h2⟩,h3⟩,h4⟩:=hb;cases Ay:l[i]? with
    |none=>simp[Ay]at h4
    |some o=>
     have yK:l.toArray[i]?=some o:=by simpa using Ay
     have hp:vG o=true:=by simpa [Ay]using h4
     rw[List.filterMap_cons,Ay]at h;simp only[wpQuiet]at h;obtain⟨v,hy,hk⟩:=nP hp h;have:=oO hF Bq hs ht hQ hC fuel L hK q _ _ ho hk;exact AY hF (Da Bq) yK (Region.noSelect_spec hs) (fun c a w=>hQ c a _ _ w) (BI ht h1) _ _ _ _ (Region.free_spec yK h3) (by simpa using h2) hy hC h1 this
  · cases ho
theorem wL{l:List Oper}:∀(t:List Oper) (k:Nat) (listed:Array Bool) (a:Act) (w:World),n≤k→(∀j,t[j]?=l[k+j]?)→
    Region.seqB md l.toArray t.length k listed=true→wpListIn F m P l.toArray Q t a w→lH F m P md l.toArray n C Q t.length listed a w
 |[],_,_,_,_,_,_,hB,h=>⟨by simpa [Region.seqB]using hB,h⟩
 |o::t,k,listed,a,w,hk,hl,hB,h=>by
  have h0:l.toArray[k]?=some o:=by simpa using(hl 0).symm
  simp only[List.length_cons,Region.seqB,Bool.and_eq_true,decide_eq_true_eq]at hB;refine⟨fun h1=>(by rw[hB.1]at h1;cases h1),fun i hi=>?_⟩;rw[hB.1]at hi;have hik:i=k:=by simpa using hi
  subst hik;have hw:wpOpIn F m P l.toArray Q i (wpListIn F m P l.toArray Q t) a w:=by unfold wpOpIn;simp only[h0];exact h
  exact wpOpIn_mono (fun a' w' h'=>⟨fun cK=>absurd cK (Nat.not_lt.2 hk),wL t (i+1) _ a' w' (by omega) (fun j=>by have:=hl (j+1);simpa [Nat.add_assoc,Nat.add_comm 1 j]using this) hB.2 h'⟩) hw
theorem Oj{o:Oper}{a:Act}{w:World}{next K:Act→World→Prop}(h:o.wpIn F m P a w next (Exit.then K Q)):o.wpIn F m P a w next Q:=by
 unfold Oper.wpIn at*;refine⟨h.1,?_⟩;replace h:=h.2;generalize (o.semAt F.round a.eval).run P w=r at*;cases r with
 | ok n w' =>
  cases n<;>simp only[Oper.uponIn]at h ⊢
  case value u=>exact h
  case skip=>exact h
  case defer d=>exact h
  case enter f args=>
   refine⟨h.1,CallsIn.mono h.2 fun e w'' he=>?_⟩;cases e with
   |returned u=>exact he
   |panicked c=>exact he
   |outgrown=>exact he
  case row row args=>exact h
  case round l f tmps assign body=>
   refine⟨h.1,RoundIn.mono h.2 fun e w'' he=>?_⟩;cases e with
   |returned u=>exact he
   |panicked c=>exact he
   |outgrown=>exact he
 |halt x w'=>
  cases x<;>simp only[Oper.uponIn]at h ⊢
  case panic u=>exact h
theorem zh(hF:∀f,F.fn f){l:List Oper}(Bq:uo l.toArray=true)(hs:Region.noSelect l.toArray=true)(ht:uy md l.toArray n=true)(hQ:∀c a d v w,Q (.panic c) (a.put d v) w→Q (.panic c) a w)(hn:n≤l.length):∀(iY:List (List Nat×Nat)) (q':List Nat) (listed:Array Bool) (a:Act) (w:World),C w→
    EP md l.toArray n iY q' listed=true→jP F m P l C Q (fun a' w'=>wpListIn F m P l.toArray Q (l.drop n) a' w') iY q' a w→lH F m P md l.toArray n C Q ((l.length - n)+costs iY q') listed a w
 |[],q',listed,a,w,hC,hB,h=>by
  unfold EP at hB;split at hB
  · rename_i L hL;refine oO hF Bq hs ht hQ hC _ L (fun a' hk=>?_) q' listed a hL h;have:=wL (F:=F) (m:=m) (md:=md) (C:=C) (l:=l) (l.drop n) n L a' w (Nat.le_refl _) (fun j=>by simp[List.getElem?_drop]) (by simpa using hB) hk;simpa using this
  · cases hB
 | (q, i) :: r, q', listed, a, w, hC, hB, h => by
  unfold EP at hB;split at hB
  · rename_i L hL;simp only[Bool.and_eq_true,decide_eq_true_eq]at hB;obtain⟨⟨hr,JJ⟩,hB⟩:=hB;have e:l.length - n+costs ((q,i)::r) q'=((l.length - n+costs r q')+1)+q.length:=by simp[costs];omega
    rw[e];refine oO hF Bq hs ht hQ hC _ L (fun a' hk=>?_) q listed a hL h;refine⟨fun h1=>(by rw[hr]at h1;cases h1),fun j hj=>?_⟩;rw[hr]at hj;have yH:j=i:=by simpa using hj
    subst yH;cases Ay:l[j]? with
    |none=>
     exfalso;have:j∈Region.ready md l.toArray L:=by rw[hr];simp
     obtain⟨_,o,ho,_⟩:=mem_ready.1 this;simp[Ay]at ho
    | some o =>
     rw[Ay]at hk;simp only[Option.toList,wpListIn]at hk;unfold wpOpIn;have yK:l.toArray[j]?=some o:=by simpa using Ay
     simp only[yK];have step:∀a'' w',C w'∧jP F m P l C Q (fun a' w'=>wpListIn F m P l.toArray Q (l.drop n) a' w') r q' a'' w'→(j<n→C w')∧lH F m P md l.toArray n C Q (l.length - n+costs r q') (L.setIfInBounds j true) a'' w':=
      fun a'' w' h3=>⟨fun _=>h3.1,zh hF Bq hs ht hQ hn r q' _ a'' w' h3.1 hB h3.2⟩
     split
     · rename_i hw;rw[if_pos hw]at hk;exact Oper.wpIn_mono (fun a'' w' h'=>step a'' w' h') (Oj hk)
     · rename_i hw;rw[if_neg hw]at hk;exact⟨fun f _=>hF f,step _ _ hk.2⟩
  · cases hB
end
theorem Hv{F:Fence}{m:Nat}{P:Program}{l:List Oper}{C:World→Prop}{Q:Exit→Act→World→Prop}{fin:Act→World→Prop}{q:List Nat}{a:Act}{w:World}{qs:List Oper}(he:q.filterMap (l[·]?)=qs)
    (h:∀K:Act→Prop,(∀a',fin a' w→K a')→wpQuiet P l.toArray C K qs a):jP F m P l C Q fin [] q a w:=by
 subst he;exact h _ fun _ h=>h
theorem Fq{F:Fence}{m:Nat}{P:Program}{l:List Oper}{C:World→Prop}{Q:Exit→Act→World→Prop}{fin:Act→World→Prop}{q:List Nat}{i:Nat}{r:List (List Nat×Nat)}{q':List Nat}{a:Act}{w:World}{qs os:List Oper}(he:q.filterMap (l[·]?)=qs)(ho:(l[i]?).toList=os)
    (h:∀K:Act→Prop,(∀a',(∀K2:Act→World→Prop,(∀a'' w',C w'→jP F m P l C Q fin r q' a'' w'→K2 a'' w')→wpListIn F m P l.toArray (Exit.then K2 Q) os a' w)→K a')→wpQuiet P l.toArray C K qs a):jP F m P l C Q fin ((q,i)::r) q' a w:=by
 subst he ho;refine h _ fun a' h2=>?_;exact h2 _ fun _ _ h3 h4=>⟨h3,h4⟩
theorem E9{F:Fence}{m:Nat}{P:Program}{id:Nat}{Q:Exit→Act→World→Prop}{a:Act}{w:World}{l:List Oper}{T:Type}(f:T→World)(n:Nat)(iY:List (List Nat×Nat))(q:List Nat)(h0:∃s,w.drew=f s)(hF:∀f,F.fn f)(Bq:uo l.toArray=true)(hm:P.follows .mixedOrders=true)(hB:yx l.toArray n iY q=true)
    (hQ:∀c a d v w,Q (.panic c) (a.put d v) w→Q (.panic c) a w)
    (h:jP F m P l (fun w'=>∃s,w'=f s) Q (fun a' w'=>wpListIn F m P l.toArray Q (l.drop n) a' w') iY q a w.drew):(Code.region id l.toArray true).wpIn F m P Q a w:=by
 unfold yx at hB;simp only[Bool.and_eq_true,decide_eq_true_eq]at hB;obtain⟨⟨⟨⟨h1,h2⟩,h3⟩,h4⟩,h5⟩:=hB;refine wpIn_region_any hm (uE (C:=fun w'=>∃s,w'=f s) (n:=n) _ _ _ _ ?_);have:=zh hF Bq (C:=fun w'=>∃s,w'=f s) (md:=.any) h1 h2 hQ (by simpa using h4) iY q _ a w.drew h0 h5 h;have e:l.length - n+costs iY q=l.toArray.size:=by
  have:n≤l.length:=by simpa using h4
  simp;omega
 rw[e]at this;exact this
section
variable {F:Fence} {m:Nat} {P:Program} {l:List Oper} {C:World→Prop} {Q:Exit→Act→World→Prop} {fin:Act→World→Prop} {q:List Nat} {i j:Nat} {q':List Nat} {r:List (List Nat×Nat)} {a:Act} {w:World} {o o2:Oper}
theorem Nh(qs:List Oper)(he:q.filterMap (l[·]?)=qs)(ho:(l[i]?).toList=[o])(h:∀K:Act→Prop,(∀a',(∀K2:Act→World→Prop,(∀a'' w',C w'→jP F m P l C Q fin r q' a'' w'→K2 a'' w')→wpListIn F m P l.toArray (Exit.then K2 Q) [o] a' w)→K a')→wpQuiet P l.toArray C K qs a):jP F m P l C Q fin ((q,i)::r) q' a w:=Fq he ho h
theorem aak(ho:(l[i]?).toList=[o])(h:∀K2:Act→World→Prop,(∀a'' w',C w'→jP F m P l C Q fin r q' a'' w'→K2 a'' w')→wpListIn F m P l.toArray (Exit.then K2 Q) [o] a w):jP F m P l C Q fin (([],i)::r) q' a w:=Nh [] rfl ho fun _ hK=>qn hK h
theorem Sy(qs:List Oper)(he:q.filterMap (l[·]?)=qs)(h:∀K:Act→Prop,(∀a',fin a' w→K a')→wpQuiet P l.toArray C K qs a):jP F m P l C Q fin [] q a w:=Hv he h
theorem Ni(h:fin a w):jP F m P l C Q fin [] [] a w:=Sy [] rfl fun _ hK=>qn hK h
end
theorem N8{F:Fence}{m:Nat}{P:Program}{id:Nat}{Q:Exit→Act→World→Prop}{a:Act}{w:World}{l:List Oper}{C:World→Prop}{T:Type}{f:T→World}(H:Zs (gy C T f))(n:Nat)(iY:List (List Nat×Nat))(q:List Nat)(h0:C w.drew)(hF:∀f,F.fn f)
    (h:jP F m P l (fun w'=>∃s,w'=f s) Q (fun a' w'=>wpListIn F m P l.toArray Q (l.drop n) a' w') iY q a w.drew) (Bq:uo l.toArray=true:=by kernel_rfl) (hm:P.follows .mixedOrders=true:=by kernel_rfl) (hB:yx l.toArray n iY q=true:=by kernel_rfl)
    (hQ:∀c a d v w,Q (.panic c) (a.put d v) w→Q (.panic c) a w:=by exact fun _ _ d _ _ h=>by cases d<;>exact h):(Code.region id l.toArray true).wpIn F m P Q a w:=E9 f n iY q (H.o.o _ h0) hF Bq hm hB hQ h
end Go.Proofs.YtohpiobncgafeaaGreatDoor
