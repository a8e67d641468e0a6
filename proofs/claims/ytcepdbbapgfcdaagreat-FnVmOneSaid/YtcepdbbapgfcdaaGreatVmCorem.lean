/- Walks. -/
import Derived.Test.YtcepdbbapgfcdaaGreatVmCorel
set_option maxRecDepth 100000
set_option maxHeartbeats 4000000
set_option linter.unusedSimpArgs false
set_option linter.unusedVariables false
namespace Go.Proofs.YtcepdbbapgfcdaaGreat
open Go Go.RowKit
attribute [local go_sem] Oper.semAt_some
theorem zK(w:World)(a:Option Addr)(n c:Nat):
    Calls Tryz.prog 106 #[.slice a n c] w fun e w'=>
     e=.returned (.func (.func 127) #[] #[.pointer (some ⟨w.heap.size,0,none⟩)])∧w.alloc (.cells #[.slice a n c] 151)=w':=by
 go_enter Tryz.func106,Tryz.ntmps106;go_wp2;go_ret;exact⟨rfl,rfl⟩
def backTo{α:Type}(l:List α):Nat→List (Int×α)
 |0=>[]
 |n+1=>(match l[n]? with|some x=>[((n:Int),x)]|none=>[])++backTo l n
theorem wh{α:Type}{l:List α}{n:Nat}{x:α}(h:l[n]?=some x):backTo l (n+1)=((n:Int),x)::backTo l n:=by
 simp[backTo,h]
theorem kC{α:Type}(l:List α):∀n,n≤l.length→(backTo l n).map Prod.snd=(l.take n).reverse
 |0,_=>by simp[backTo]
 |n+1,h=>by
  rw[wh (List.getElem?_eq_getElem (show n<l.length by omega)),List.take_succ_eq_append_getElem (show n<l.length by omega),List.map_cons,kC l n (by omega),List.reverse_append];rfl
def Hr(x:Int×M.Ref):Array Value:=#[.int .i64 x.1,.agg #[.int .i64 x.2.keeper,.string x.2.name]]
theorem x8(refs:List M.Ref)(Vb:Nat)(v:Value)(I Bd:Nat→Prop)(hBd:∀k,Bd k→k≠Vb∧¬I k):
    Iter Tryz.prog 127 #[.pointer (some ⟨Vb,0,none⟩)] Hr (fun _=>False) Bd
     (fun xs=>xs=backTo refs refs.length) (fun pre=>∃rest,backTo refs refs.length=pre++rest) (fun _=>True)
     (fun W=>aC W Vb 151 #[v]∧SliceOf 2 A7 W I v refs) (fun pre x=>∃rest,backTo refs refs.length=pre++x::rest):=by
 intro lp J Jx W ⟨hbV,uQ⟩ hJ X4 hN hY hJ0;obtain⟨a,cap,rfl,hn,dn⟩:=uQ.form;refine callsIn_of_wp Tryz.func127 rfl trivial ?_ rfl;simp only[Tryz.ntmps127,List.size_toArray,List.length_cons,List.length_nil,Nat.reduceAdd,Nat.reduceSub,Array.replicate_succ,Array.replicate_zero,List.push_toArray,List.append_toArray,List.nil_append,List.cons_append];have c0:=hbV.c 0 (.slice a refs.length cap) rfl;have hw:IntKind.i64.wrap ((refs.length:Int) - 1)=(refs.length:Int) - 1:=IntWalk.i64_in _ (by omega);gi_wp2;clear hw;gi_loopg [3] refs.length (fun m i wr=>∃pre:List (Int×M.Ref),((m=0∧i=.int .i64 (-1))∨∃k:Nat,m=k+1∧i=.int .i64 k)∧m≤refs.length∧Zs (backTo refs refs.length=pre++backTo refs m)∧Zs (J pre wr∧aC wr Vb 151 #[.slice a refs.length cap]∧SliceOf 2 A7 wr I (.slice a refs.length cap) refs))
 case atStart=>
  refine⟨[],?_,Nat.le_refl _,Ys (by simp),Ys ⟨hJ0,hbV,uQ⟩⟩;rcases Nat.eq_zero_or_pos refs.length with h0|h0
  · left;exact⟨h0,by rw[h0];rfl⟩
  · right;exact⟨refs.length - 1,by omega,by congr 1;omega⟩
 case round =>
  obtain⟨pre,hm,hmn,HB,HJ⟩:=hrel;rcases hm with⟨rfl,rfl⟩|⟨k,rfl,rfl⟩
  · have HS:Zs (backTo refs refs.length=pre):=Ys (by rw[HB.o];simp[backTo]);gi_wp2;((try simp only[Exit.inBlock,Exit.then]);(first|refine bodyPost_ret (results_none rfl _ _ _) rfl ?_|refine bodyPost_end (results_none rfl _ _ _) rfl ?_));exact⟨⟨_,rfl⟩,.inl ⟨pre,HS.o.symm,HJ.o.1⟩⟩
  · obtain⟨x,hx⟩:=get_some (show k<refs.length by omega);obtain⟨hj,hb,hs⟩:=HJ.o;obtain⟨b,off,cs,rfl,hI,rfl, -,hc⟩:=hs.get hx;obtain⟨g0,g1⟩:=hc.two;have d0:=hb.c 0 (.slice (some ⟨b,off,none⟩) refs.length cap) rfl;have uP:(0:Int)≤(k:Int):=by omega
    have tY:(k:Int)<refs.length:=by omega
    have hd:decide ((0:Int)≤(k:Int))=true:=decide_eq_true uP;have kZ:Zs (backTo refs refs.length=(pre++[((k:Int),x)])++backTo refs k):=Ys (by rw[HB.o,wh hx,List.append_assoc];rfl);obtain⟨fn,tmps,assign,body,hy,hR⟩:=hY pre ((k:Int),x) wr ⟨backTo refs k,by rw[kZ.o,List.append_assoc];rfl⟩ hj;simp only[Hr]at hy hR;have HY:=Ys hY;have HJJ:=Ys (And.intro hJ X4);have HH:=Ys (And.intro hBd (And.intro hb hs));have hw:IntKind.i64.wrap ((k:Int) - 1)=(k:Int) - 1:=IntWalk.i64_in _ (by omega);clear hY hJ X4 hN hBd hb hs uQ hx hc hj hbV;gi_wp2_with fail;refine hR.mono ?_;rintro e W1 ⟨jD,(⟨rfl,PY⟩|⟨rfl,hjx⟩)⟩
    · have uN:=HH.o.2.1.kp jD (fun hb=>(HH.o.1 _ hb).1 rfl);have yu:=HH.o.2.2.keep A7.stays (Kp.same jD fun q hq hb=>(HH.o.1 _ hb).2 hq) (fun _ h=>h);have HJ1:=Ys (And.intro PY (And.intro uN yu));clear PY uN yu jD g0 g1 d0 hy hR hd;gi_wp2_with fail;gi_roundg k
      case measure=>omega
      case rel=>
       refine⟨pre++[((k:Int),x)],?_,by omega,kZ,HJ1⟩;cases k with
       |zero=>left;exact⟨rfl,rfl⟩
       |succ k=>right;exact⟨k,rfl,by congr 1;omega⟩
    · gi_wp2_with fail;((try simp only[Exit.inBlock,Exit.then]);(first|refine bodyPost_ret (results_none rfl _ _ _) rfl ?_|refine bodyPost_end (results_none rfl _ _ _) rfl ?_));exact⟨⟨_,rfl⟩,.inr ⟨_,⟨_,kZ.o⟩,hjx⟩⟩
end Go.Proofs.YtcepdbbapgfcdaaGreat
namespace Go.Proofs.YtcepdbbapgfcdaaGreat
open Go Go.RowKit
def Ap(ops:Array Oper):Bool:=ops.all fun o=>match o.op with| .defer _=>false|_=>true
theorem JE{ops:Array Oper}(h:Ap ops=true)(j:Nat)(o:Oper)(ho:ops[j]?=some o)(c:Call):o.op≠ .defer c:=by
 intro heq;have:=Array.all_eq_true_iff_forall_mem.1 h o (Array.mem_of_getElem? ho);simp[heq]at this
section
variable {F:Fence} {m:Nat} {P:Program} {ops:Array Oper} {md:Region.Mode} {Q:Exit→Act→World→Prop} {C:World→Prop} {n:Nat}
theorem gQ.wpOpIn(hF:∀f,F.fn f){i:Nat}{o:Oper}{v:Value}{a:Act}(EL:∀c,o.op≠ .defer c)(hi:ops[i]?=some o)(hy:gQ P ops C o v a){K:Act→World→Prop}{w:World}(hC:C w)(h:K (a.put o.dst v) w):wpOpIn F m P ops Q i K a w:=by
 unfold Go.wpOpIn;simp only[hi];rcases hy with⟨hw,hv⟩|⟨hw,rfl⟩
 · simp only[hw,if_true];refine⟨fun f _=>hF f,?_⟩;rw[Oper.semAt_eq _ _ _ EL];rcases hv w hC with e|⟨e,rfl⟩
   · rw[e];exact h
   · rw[e];exact h
 · simp only[hw,Bool.false_eq_true,if_false];exact⟨fun f _=>hF f,h⟩
theorem Md(hF:∀f,F.fn f){j:Nat}{oi oj:Oper}{v:Value}(EL:∀c,oj.op≠ .defer c)(hj:ops[j]?=some oj)(hap:oi.apart ops oj=true)
    (hsi:∀cs b,oi.op≠ .select cs b) (hsj:∀cs b,oj.op≠ .select cs b)
    (hQ:∀c a w,Q (.panic c) (a.put oi.dst v) w→Q (.panic c) a w) {K:Act→World→Prop} {a:Act} {w:World}
    (hy:gQ P ops C oi v a) (h:wpOpIn F m P ops Q j K (a.put oi.dst v) w):
    wpOpIn F m P ops Q j (fun a' w'=>gQ P ops C oi v a'∧K (a'.put oi.dst v) w') a w:=by
 obtain⟨h1,h2,h3⟩:=Oper.apart_spec hap;have keep:∀(a:Act),gQ P ops C oi v a→∀u,gQ P ops C oi v (a.put oj.dst u):=fun a hy u=>
  hy.of_same (execOp_put oi hsi a oj.dst u h3) (wanted_put oi a oj.dst u h3)
 unfold wpOpIn at*;simp only[hj]at*;rw[wanted_put oj a oi.dst v h1,about_put oj w a oi.dst v h1]at h;split
 · rename_i hw;simp only[hw,if_true]at h;unfold Oper.wpIn at*;refine⟨fun f _=>hF f,?_⟩;have h:=h.2;rw[Oper.semAt_eq _ _ _ EL,execOp_put oj hsj a oi.dst v h1]at h;rw[Oper.semAt_eq _ _ _ EL];generalize (execOp a.eval oj).run P w=r at*;cases r with
   | ok x w' =>
    cases x<;>simp only[Oper.uponIn]at h ⊢
    case value u=>exact⟨keep a hy u,by rw[←Act.put_comm a v u h2];exact h⟩
    case skip=>exact⟨keep a hy _,by rw[←Act.put_comm a v undef h2];exact h⟩
    case defer d=>
     refine⟨(hy.of_same rfl rfl:gQ P ops C oi v {a with defers:=d::a.defers}).of_same (execOp_put oi hsi _ oj.dst undef h3) (wanted_put oi _ oj.dst undef h3),?_⟩;rw[←Act.put_comm _ v undef h2,←Act.put_defers];exact h
    case enter f args=>
     refine⟨h.1,CallsIn.mono h.2 fun e w'' he=>?_⟩;cases e with
     |returned u=>exact⟨keep a hy u,by rw[←Act.put_comm a v u h2];exact he⟩
     |panicked c=>exact hQ _ _ _ he
     |outgrown=>exact he
    case row row args=>exact⟨h.1,RowsIn.mono h.2 fun u w'' he=>⟨keep a hy u,by rw[←Act.put_comm a v u h2];exact he⟩⟩
    case round l f tmps assign body=>
     refine⟨h.1,RoundIn.mono h.2 fun e w'' he=>?_⟩;cases e with
     |returned u=>exact⟨keep a hy u,by rw[←Act.put_comm a v u h2];exact he⟩
     |panicked c=>exact hQ _ _ _ he
     |outgrown=>exact he
   |halt x w'=>
    cases x<;>simp only[Oper.uponIn]at h ⊢
    case panic u=>exact hQ _ _ _ h
 · rename_i hw;simp only[hw]at h;exact⟨fun f _=>hF f,keep a hy _,by rw[←Act.put_comm a v undef h2];exact h.2⟩
def pM(F:Fence)(m:Nat)(P:Program)(md:Region.Mode)(ops:Array Oper)(n:Nat)(C:World→Prop)(Q:Exit→Act→World→Prop):Nat→Array Bool→Act→World→Prop
 |0,listed,a,w=>Region.ready md ops listed=[]∧Q .normal a w
 |fuel+1,listed,a,w=>
  (Region.ready md ops listed=[]→Q .normal a w)∧
  ∀i∈Region.ready md ops listed,wpOpIn F m P ops Q i (fun a' w'=>(i<n→C w')∧pM F m P md ops n C Q fuel (listed.setIfInBounds i true) a' w') a w
theorem AL:∀(fuel:Nat) (listed:Array Bool) (a:Act) (w:World),pM F m P md ops n C Q fuel listed a w→wpAnyIn F m P md ops Q fuel listed a w
 |0,_,_,_,h=>h
 |fuel+1,_,_,_,h=>⟨h.1,fun i hi=>wpOpIn_mono (fun a' w' h'=>AL fuel _ a' w' h'.2) (h.2 i hi)⟩
theorem Hj (hF : ∀ f, F.fn f) (EL : ∀ (j : Nat) (o : Oper), ops[j]? = some o → ∀ c, o.op ≠ .defer c) {i : Nat} {oi : Oper} {v : Value} (hi : ops[i]? = some oi) (TI : ∀ (j : Nat) (o : Oper) cs b, ops[j]? = some o → o.op ≠ .select cs b)
    (hQ:∀c a w,Q (.panic c) (a.put oi.dst v) w→Q (.panic c) a w) (TK:∀j,n≤j→Region.waitsFor md ops j i=true∨ops[j]?=none):
    ∀(fuel:Nat) (listed:Array Bool) (a:Act) (w:World),
     (∀j oj,ops[j]?=some oj→j≠i→listed.getD j true=false→(∀e∈oj.after,Region.binds md e=true→e.on≠i)→oi.apart ops oj=true)→
     i∈Region.ready md ops listed→gQ P ops C oi v a→C w→i<n→
     pM F m P md ops n C Q fuel (listed.setIfInBounds i true) (a.put oi.dst v) w→pM F m P md ops n C Q (fuel+1) listed a w:=by
 intro fuel;induction fuel with
 |zero=>
  intro listed a w _ hr hy hC Nl H;refine⟨fun h=>(by rw[h]at hr;cases hr),fun j hj=>?_⟩;by_cases EK:j=i
  · subst EK;exact hy.wpOpIn hF (EL _ _ hi) hi hC ⟨fun _=>hC,H⟩
  · have:=ready_mono hj EK;rw[H.1]at this;cases this
 | succ fuel ih =>
  intro listed a w KU hr hy hC Nl H;refine⟨fun h=>(by rw[h]at hr;cases hr),fun j hj=>?_⟩;by_cases EK:j=i
  · subst EK;exact hy.wpOpIn hF (EL _ _ hi) hi hC ⟨fun _=>hC,H⟩
  · have h1:=H.2 j (ready_mono hj EK);obtain⟨Tp,oj,Rs,sj⟩:=mem_ready.1 hj;have Ty:∀e∈oj.after,Region.binds md e=true→e.on≠i:=fun e he hb heq=>by
     have h1:=sj e he hb;have h0:=(mem_ready.1 hr).1;rw[heq]at h1;rcases Nat.lt_or_ge i listed.size with h'|h'
     · simp[h']at h0 h1;rw[h0]at h1;cases h1
     · simp[Array.getElem?_eq_none h']at h1
    have hjn:j<n:=by
     rcases Nat.lt_or_ge j n with h|h
     · exact h
     · rcases TK j h with hw|hw
       · obtain⟨oj',Tz,e,he,hb,heq⟩:=Region.waitsFor_spec hw;rw[Rs]at Tz;cases Tz;exact absurd heq (Ty e he hb)
       · rw[Rs]at hw;cases hw
    have h2:=Md hF (EL _ _ Rs) Rs (KU j oj Rs EK Tp Ty) (fun cs b=>TI i oi cs b hi) (fun cs b=>TI j oj cs b Rs) hQ hy h1;have Nk:∀k ok,ops[k]?=some ok→k≠i→(listed.setIfInBounds j true).getD k true=false→
        (∀e∈ok.after,Region.binds md e=true→e.on≠i)→oi.apart ops ok=true:=fun k ok hk hki Gs sZ=>by
     refine KU k ok hk hki ?_ sZ;by_cases Wv:j=k
     · subst Wv;exact Tp
     · rw[getD_set_ne true Wv]at Gs;exact Gs
    refine wpOpIn_mono (fun a' w' h3=>⟨fun _=>h3.2.1 hjn,ih (listed.setIfInBounds j true) a' w' Nk (ready_mono hr (Ne.symm EK)) h3.1 (h3.2.1 hjn) Nl ?_⟩) h2;rw[Array.setIfInBounds_comm _ _ EK];exact h3.2.2
def mP(F:Fence)(m:Nat)(P:Program)(l:List Oper)(C:World→Prop)(Q:Exit→Act→World→Prop)(fin:Act→World→Prop):List (List Nat×Nat)→List Nat→Act→World→Prop
 |[],q,a,w=>wpQuiet P l.toArray C (fun a'=>fin a' w) (q.filterMap (l[·]?)) a
 |(q,i)::r,q',a,w=>wpQuiet P l.toArray C (fun a'=>wpListIn F m P l.toArray (Exit.then (fun a'' w'=>C w'∧mP F m P l C Q fin r q' a'' w') Q) (l[i]?).toList a' w) (q.filterMap (l[·]?)) a
theorem uA(hF:∀f,F.fn f){l:List Oper}(EL:Ap l.toArray=true)(hs:Region.noSelect l.toArray=true)(ht:Az md l.toArray n=true)(hQ:∀c a d v w,Q (.panic c) (a.put d v) w→Q (.panic c) a w){K:Act→Prop}{w:World}(hC:C w)(fuel:Nat)(L:Array Bool)
    (hK:∀a',K a'→pM F m P md l.toArray n C Q fuel L a' w):∀(q:List Nat) (listed:Array Bool) (a:Act),Rv md l.toArray n q listed=some L→
    wpQuiet P l.toArray C K (q.filterMap (l[·]?)) a→pM F m P md l.toArray n C Q (fuel+q.length) listed a w
 |[],listed,a,ho,h=>by
  simp only[Rv,Option.some.injEq]at ho;subst ho;exact hK a h
 | i :: q, listed, a, ho, h => by
  unfold Rv at ho;split at ho
  · rename_i hb;simp only[Bool.and_eq_true,decide_eq_true_eq]at hb;obtain⟨⟨⟨h1,h2⟩,h3⟩,h4⟩:=hb;cases GY:l[i]? with
    |none=>simp[GY]at h4
    |some o=>
     have EN:l.toArray[i]?=some o:=by simpa using GY
     have hp:BN o=true:=by simpa [GY]using h4
     rw[List.filterMap_cons,GY]at h;simp only[wpQuiet]at h;obtain⟨v,hy,hk⟩:=sU hp h;have:=uA hF EL hs ht hQ hC fuel L hK q _ _ ho hk;exact Hj hF (JE EL) EN (Region.noSelect_spec hs) (fun c a w=>hQ c a _ _ w) (Ir ht h1) _ _ _ _ (Region.free_spec EN h3) (by simpa using h2) hy hC h1 this
  · cases ho
theorem CU{l:List Oper}:∀(t:List Oper) (k:Nat) (listed:Array Bool) (a:Act) (w:World),n≤k→(∀j,t[j]?=l[k+j]?)→
    Region.seqB md l.toArray t.length k listed=true→wpListIn F m P l.toArray Q t a w→pM F m P md l.toArray n C Q t.length listed a w
 |[],_,_,_,_,_,_,hB,h=>⟨by simpa [Region.seqB]using hB,h⟩
 |o::t,k,listed,a,w,hk,hl,hB,h=>by
  have h0:l.toArray[k]?=some o:=by simpa using(hl 0).symm
  simp only[List.length_cons,Region.seqB,Bool.and_eq_true,decide_eq_true_eq]at hB;refine⟨fun h1=>(by rw[hB.1]at h1;cases h1),fun i hi=>?_⟩;rw[hB.1]at hi;have hik:i=k:=by simpa using hi
  subst hik;have hw:wpOpIn F m P l.toArray Q i (wpListIn F m P l.toArray Q t) a w:=by unfold wpOpIn;simp only[h0];exact h
  exact wpOpIn_mono (fun a' w' h'=>⟨fun bZ=>absurd bZ (Nat.not_lt.2 hk),CU t (i+1) _ a' w' (by omega) (fun j=>by have:=hl (j+1);simpa [Nat.add_assoc,Nat.add_comm 1 j]using this) hB.2 h'⟩) hw
theorem UW{o:Oper}{a:Act}{w:World}{next K:Act→World→Prop}(h:o.wpIn F m P a w next (Exit.then K Q)):o.wpIn F m P a w next Q:=by
 unfold Oper.wpIn at*;refine⟨h.1,?_⟩;replace h:=h.2;generalize (o.semAt F.round a.eval).run P w=r at*;cases r with
 | ok n w' =>
  cases n<;>simp only[Oper.uponIn]at h ⊢
  case value u=>exact h
  case skip=>exact h
  case defer d=>exact h
  case enter f args=>
   refine⟨h.1,CallsIn.mono h.2 fun e w'' he=>?_⟩;cases e with
   |returned u=>exact he
   |panicked c=>exact he
   |outgrown=>exact he
  case row row args=>exact h
  case round l f tmps assign body=>
   refine⟨h.1,RoundIn.mono h.2 fun e w'' he=>?_⟩;cases e with
   |returned u=>exact he
   |panicked c=>exact he
   |outgrown=>exact he
 |halt x w'=>
  cases x<;>simp only[Oper.uponIn]at h ⊢
  case panic u=>exact h
theorem Fx(hF:∀f,F.fn f){l:List Oper}(EL:Ap l.toArray=true)(hs:Region.noSelect l.toArray=true)(ht:Az md l.toArray n=true)(hQ:∀c a d v w,Q (.panic c) (a.put d v) w→Q (.panic c) a w)(hn:n≤l.length):∀(kY:List (List Nat×Nat)) (q':List Nat) (listed:Array Bool) (a:Act) (w:World),C w→
    Lr md l.toArray n kY q' listed=true→mP F m P l C Q (fun a' w'=>wpListIn F m P l.toArray Q (l.drop n) a' w') kY q' a w→pM F m P md l.toArray n C Q ((l.length - n)+costs kY q') listed a w
 |[],q',listed,a,w,hC,hB,h=>by
  unfold Lr at hB;split at hB
  · rename_i L hL;refine uA hF EL hs ht hQ hC _ L (fun a' hk=>?_) q' listed a hL h;have:=CU (F:=F) (m:=m) (md:=md) (C:=C) (l:=l) (l.drop n) n L a' w (Nat.le_refl _) (fun j=>by simp[List.getElem?_drop]) (by simpa using hB) hk;simpa using this
  · cases hB
 | (q, i) :: r, q', listed, a, w, hC, hB, h => by
  unfold Lr at hB;split at hB
  · rename_i L hL;simp only[Bool.and_eq_true,decide_eq_true_eq]at hB;obtain⟨⟨hr,Nl⟩,hB⟩:=hB;have e:l.length - n+costs ((q,i)::r) q'=((l.length - n+costs r q')+1)+q.length:=by simp[costs];omega
    rw[e];refine uA hF EL hs ht hQ hC _ L (fun a' hk=>?_) q listed a hL h;refine⟨fun h1=>(by rw[hr]at h1;cases h1),fun j hj=>?_⟩;rw[hr]at hj;have EK:j=i:=by simpa using hj
    subst EK;cases GY:l[j]? with
    |none=>
     exfalso;have:j∈Region.ready md l.toArray L:=by rw[hr];simp
     obtain⟨_,o,ho,_⟩:=mem_ready.1 this;simp[GY]at ho
    | some o =>
     rw[GY]at hk;simp only[Option.toList,wpListIn]at hk;unfold wpOpIn;have EN:l.toArray[j]?=some o:=by simpa using GY
     simp only[EN];have step:∀a'' w',C w'∧mP F m P l C Q (fun a' w'=>wpListIn F m P l.toArray Q (l.drop n) a' w') r q' a'' w'→(j<n→C w')∧pM F m P md l.toArray n C Q (l.length - n+costs r q') (L.setIfInBounds j true) a'' w':=
      fun a'' w' h3=>⟨fun _=>h3.1,Fx hF EL hs ht hQ hn r q' _ a'' w' h3.1 hB h3.2⟩
     split
     · rename_i hw;rw[if_pos hw]at hk;exact Oper.wpIn_mono (fun a'' w' h'=>step a'' w' h') (UW hk)
     · rename_i hw;rw[if_neg hw]at hk;exact⟨fun f _=>hF f,step _ _ hk.2⟩
  · cases hB
end
theorem Oe{F:Fence}{m:Nat}{P:Program}{l:List Oper}{C:World→Prop}{Q:Exit→Act→World→Prop}{fin:Act→World→Prop}{q:List Nat}{a:Act}{w:World}{qs:List Oper}(he:q.filterMap (l[·]?)=qs)
    (h:∀K:Act→Prop,(∀a',fin a' w→K a')→wpQuiet P l.toArray C K qs a):mP F m P l C Q fin [] q a w:=by
 subst he;exact h _ fun _ h=>h
theorem Mc{F:Fence}{m:Nat}{P:Program}{l:List Oper}{C:World→Prop}{Q:Exit→Act→World→Prop}{fin:Act→World→Prop}{q:List Nat}{i:Nat}{r:List (List Nat×Nat)}{q':List Nat}{a:Act}{w:World}{qs os:List Oper}(he:q.filterMap (l[·]?)=qs)(ho:(l[i]?).toList=os)
    (h:∀K:Act→Prop,(∀a',(∀K2:Act→World→Prop,(∀a'' w',C w'→mP F m P l C Q fin r q' a'' w'→K2 a'' w')→wpListIn F m P l.toArray (Exit.then K2 Q) os a' w)→K a')→wpQuiet P l.toArray C K qs a):mP F m P l C Q fin ((q,i)::r) q' a w:=by
 subst he ho;refine h _ fun a' h2=>?_;exact h2 _ fun _ _ h3 h4=>⟨h3,h4⟩
theorem LK{F:Fence}{m:Nat}{P:Program}{id:Nat}{Q:Exit→Act→World→Prop}{a:Act}{w:World}{l:List Oper}{T:Type}(f:T→World)(n:Nat)(kY:List (List Nat×Nat))(q:List Nat)(h0:∃s,w.drew=f s)(hF:∀f,F.fn f)(EL:Ap l.toArray=true)(hm:P.follows .mixedOrders=true)(hB:EA l.toArray n kY q=true)
    (hQ:∀c a d v w,Q (.panic c) (a.put d v) w→Q (.panic c) a w)
    (h:mP F m P l (fun w'=>∃s,w'=f s) Q (fun a' w'=>wpListIn F m P l.toArray Q (l.drop n) a' w') kY q a w.drew):(Code.region id l.toArray true).wpIn F m P Q a w:=by
 unfold EA at hB;simp only[Bool.and_eq_true,decide_eq_true_eq]at hB;obtain⟨⟨⟨⟨h1,h2⟩,h3⟩,h4⟩,h5⟩:=hB;refine wpIn_region_any hm (AL (C:=fun w'=>∃s,w'=f s) (n:=n) _ _ _ _ ?_);have:=Fx hF EL (C:=fun w'=>∃s,w'=f s) (md:=.any) h1 h2 hQ (by simpa using h4) kY q _ a w.drew h0 h5 h;have e:l.length - n+costs kY q=l.toArray.size:=by
  have:n≤l.length:=by simpa using h4
  simp;omega
 rw[e]at this;exact this
section
variable {F:Fence} {m:Nat} {P:Program} {l:List Oper} {C:World→Prop} {Q:Exit→Act→World→Prop} {fin:Act→World→Prop} {q:List Nat} {i j:Nat} {q':List Nat} {r:List (List Nat×Nat)} {a:Act} {w:World} {o o2:Oper}
theorem TU(qs:List Oper)(he:q.filterMap (l[·]?)=qs)(ho:(l[i]?).toList=[o])(h:∀K:Act→Prop,(∀a',(∀K2:Act→World→Prop,(∀a'' w',C w'→mP F m P l C Q fin r q' a'' w'→K2 a'' w')→wpListIn F m P l.toArray (Exit.then K2 Q) [o] a' w)→K a')→wpQuiet P l.toArray C K qs a):mP F m P l C Q fin ((q,i)::r) q' a w:=Mc he ho h
theorem YD(qs:List Oper)(he:q.filterMap (l[·]?)=qs)(h:∀K:Act→Prop,(∀a',fin a' w→K a')→wpQuiet P l.toArray C K qs a):mP F m P l C Q fin [] q a w:=Oe he h
theorem TV(h:fin a w):mP F m P l C Q fin [] [] a w:=YD [] rfl fun _ hK=>qn hK h
end
theorem UF{F:Fence}{m:Nat}{P:Program}{id:Nat}{Q:Exit→Act→World→Prop}{a:Act}{w:World}{l:List Oper}{C:World→Prop}{T:Type}{f:T→World}(H:Zs (iq C T f))(n:Nat)(kY:List (List Nat×Nat))(q:List Nat)(h0:C w.drew)(hF:∀f,F.fn f)
    (h:mP F m P l (fun w'=>∃s,w'=f s) Q (fun a' w'=>wpListIn F m P l.toArray Q (l.drop n) a' w') kY q a w.drew) (EL:Ap l.toArray=true:=by kernel_rfl) (hm:P.follows .mixedOrders=true:=by kernel_rfl) (hB:EA l.toArray n kY q=true:=by kernel_rfl)
    (hQ:∀c a d v w,Q (.panic c) (a.put d v) w→Q (.panic c) a w:=by exact fun _ _ d _ _ h=>by cases d<;>exact h):(Code.region id l.toArray true).wpIn F m P Q a w:=LK f n kY q (H.o.o _ h0) hF EL hm hB hQ h
end Go.Proofs.YtcepdbbapgfcdaaGreat
namespace Go.Proofs.YtcepdbbapgfcdaaGreat.M
theorem FD{p:au}{n:ByteArray}:∀{f:Nat} {asked:List Int} {k:Int},asked.getLastD 0=k→(jP p n f asked k).2=1→
    zI p ((jP p n f asked k).1.getLastD 0) n=none
 |0,_,_,_,h=>by simp[jP]at h
 |f+1,asked,k,hl,h=>by
  unfold jP at h ⊢;split at h
  · rename_i h1;split at h
    · rename_i h2;simp only[h2,if_true];rw[hl];exact h1
    · simp at h
  · rename_i next h1
    split at h
    · simp at h
    · rename_i h2;simp only[h2,if_false,Bool.false_eq_true];exact FD (by simp) h
theorem JJ{p:au}{k:Int}{n:ByteArray}(h:(resolve p k n).2=1):(resolve p k n).1.name=n∧(path p k n).2=1∧(resolve p k n).1.keeper=(path p k n).1.getLastD 0:=by
 unfold resolve at h ⊢;split at h
 · rename_i hp;rw[if_pos hp];exact⟨rfl,hp,rfl⟩
 · rename_i hp;exact absurd h hp
theorem JK{p:au}{k:Int}{n:ByteArray}(h:(resolve p k n).2=1):resolve p (resolve p k n).1.keeper (resolve p k n).1.name=((resolve p k n).1,1):=by
 obtain⟨h1,h2,h3⟩:=JJ h;obtain⟨c,hc⟩:=gU h;have hb:=IU hc;have ha:zI p (resolve p k n).1.keeper (resolve p k n).1.name=none:=by
  rw[h1,h3];unfold path at h2 ⊢;split at h2
  · rename_i hk;rw[if_pos hk];exact FD rfl h2
  · simp at h2
 have hp:path p (resolve p k n).1.keeper (resolve p k n).1.name=([(resolve p k n).1.keeper],1):=by
  unfold path;rw[if_pos (OO.2 hb)];unfold jP;rw[ha];simp only;rw[if_pos (by unfold owned;show(cls? p (resolve p k n).1).isSome=true;rw[hc];rfl)]
 generalize (resolve p k n).1=x at hp;unfold resolve;rw[hp];rfl
theorem Le{p:au}{x:Ref}(h:resolve p x.keeper x.name=(x,1))(hc:∃g l,dh p g x=some l∧l.length≤6):iO p x=true∧∃g l,dh p g x=some l∧chain p x=l:=by
 obtain⟨g,l,h1,h2⟩:=hc;have h6:qc p x=some l:=tN _ _ _ h1 6 h2;have hl:iO p x=true:=by
  unfold iO find;rw[h];simp[h6]
 exact⟨hl,g,l,h1,by unfold chain;rw[if_pos hl,h6];rfl⟩
theorem nM{p:au}{r:Ref}(h:iO p r=true):resolve p r.keeper r.name=(r,1)∧∃l,qc p r=some l∧chain p r=l:=by
 have h0:=h;unfold iO find at h;by_cases hc:(resolve p r.keeper r.name).2=1
 · rw[if_pos hc]at h;split at h
   · rename_i h2;simp at h;have e:resolve p r.keeper r.name=(r,1):=Prod.ext h hc;rw[e]at h2;obtain⟨l,hl⟩:=Option.isSome_iff_exists.1 h2;exact⟨e,l,hl,by unfold chain;rw[if_pos h0,hl];rfl⟩
   · simp at h
 · rw[if_neg hc]at h;simp at h;exact absurd h.1 hc
theorem Bc{p:au}:∀(f:Nat) (r:Ref) (l:List Ref),dh p f r=some l→resolve p r.keeper r.name=(r,1)→∀x∈l,resolve p x.keeper x.name=(x,1):=by
 intro f;induction f with
 |zero=>intro r l h;simp[dh]at h
 |succ f ih=>
  intro r l h hr x hx;unfold dh at h;split at h
  · cases h;simp at hx;subst hx;exact hr
  · split at h
    · rename_i h2;cases hc:dh p f (resolve p r.keeper (aQ p r)).1 with
      |none=>rw[hc]at h;simp at h
      |some rs=>
       rw[hc]at h;simp at h;subst h;rcases List.mem_cons.1 hx with rfl|hx
       · exact hr
       · exact ih _ _ hc (JK h2) x hx
    · cases h
theorem rX{p:au}{r x:Ref}(h:x∈chain p r):iO p x=true∧∃pre,chain p r=pre++chain p x:=by
 have hl:iO p r=true:=by
  unfold chain at h;split at h
  · rename_i h1;exact h1
  · simp at h
 obtain⟨e,l,h1,h2⟩:=nM hl;rw[h2]at h ⊢;obtain⟨i,hi⟩:=List.getElem?_of_mem h;obtain⟨g,hg⟩:=qd _ _ _ h1 i x hi;have h6:=Cn _ _ _ h1;obtain⟨a,g',l',b1,b2⟩:=Le (Bc _ _ _ h1 e x h) ⟨g,_,hg,by simp;omega⟩;refine⟨a,l.take i,?_⟩;rw[b2,Co b1 hg,List.take_append_drop]
theorem tK{p:au}{r:Ref}(h:iO p r=true):∃t,chain p r=r::t:=by
 obtain⟨e,l,h1,h2⟩:=nM h;rw[h2];exact tL _ _ _ h1
theorem jc{p:au}{r x:Ref}(h:x∈chain p r):∃c,cls? p x=some c:=by
 obtain⟨e,_⟩:=nM (rX h).1;have:=gU (p:=p) (k:=x.keeper) (n:=x.name) (by rw[e]);rwa[e]at this
def zQ(p:au)(r:Ref):Nat:=(eF p (chain p r).reverse []).length
theorem Ak(p:au):∀(L:List Ref) (acc:List l8),(eF p L acc).length=acc.length+(L.map fun c=>(cls p c).fields.length).sum:=by
 intro L;induction L with
 |nil=>intro acc;simp[eF]
 |cons c r ih=>intro acc;unfold eF;rw[ih,nU];simp;omega
theorem I1(p:au)(c:Ref):∀(L K:List Ref) (n:Nat),c ∉ L→jJ p c (L++c::K) n=n+(L.map fun c=>(cls p c).fields.length).sum:=by
 intro L;induction L with
 |nil=>intro K n _;simp[jJ]
 |cons d r ih=>
  intro K n h;simp only[List.mem_cons,not_or]at h;simp only[List.cons_append,jJ];rw[if_neg (fun e=>h.1 e.symm),ih _ _ h.2];simp;omega
theorem Jt{p:au}{r:Ref}{i:Nat}{f:l8}(h:(layout p r)[i]?=some f):i<zQ p f.of:=by
 obtain⟨_,hm,_,j,fd,h1,h2,_⟩:=Bz h;obtain⟨hl,pre,hp⟩:=rX hm;obtain⟨t,ht⟩:=tK hl;have hn:=Cm p f.of;rw[ht,List.nodup_cons]at hn;have e:jk p f.of r=((t.reverse).map fun c=>(cls p c).fields.length).sum:=by
  unfold jk;rw[hp,ht,List.reverse_append,List.reverse_cons,List.append_assoc,List.singleton_append,I1 _ _ _ _ _ (by simpa using hn.1),Nat.zero_add]
 have hj:=(List.getElem?_eq_some_iff.1 h1).1;unfold zQ;rw[Ak,ht,List.reverse_cons,List.map_append,List.sum_append];simp;rw[e]at h2;simp at h2;omega
theorem LZ{p:au}{low top:Ref}(hc:cZ p low=true)(h:under p low top=true):zQ p top≤(layout p low).length:=by
 unfold under at h;obtain⟨_,pre,hp⟩:=rX (by simpa using h);unfold layout zQ;rw[if_pos hc,hp,List.reverse_append,uS];obtain⟨t,e⟩:=Js p pre.reverse (eF p (chain p top).reverse []);rw[e];simp
theorem zL{p:au}{r:Ref}(h:cZ p r=true):iO p r=true∧r∈chain p r:=by
 have hl:iO p r=true:=by
  unfold cZ at h;cases hl:iO p r
  · unfold chain at h;rw[hl]at h;simp at h
  · rfl
 obtain⟨t,e⟩:=tK hl;exact⟨hl,by rw[e];simp⟩
theorem Cs{p:au}{k:Int}{m:ByteArray}{r:Ref}:∀{l:List l8},(qV p k m r l).2=1→(qV p k m r l).1∈l
 |[],h=>by simp[qV]at h
 |f::l,h=>by
  unfold qV at h ⊢;split at h
  · rename_i h1;rw[if_pos h1];split at h
    · rename_i h2;rw[if_pos h2];simp
    · simp at h
  · rename_i h1;rw[if_neg h1];exact List.mem_cons_of_mem _ (Cs h)
theorem PI{p:au}{k:Int}{n m:ByteArray}(h:(get p k n m).2=1):∃(r:Ref) (i:Nat),(layout p r)[i]?=some (get p k n m).1:=by
 unfold get at h ⊢;split at h
 · rename_i h1;rw[if_pos h1];obtain⟨i,hi⟩:=List.getElem?_of_mem (Cs h);exact⟨_,i,hi⟩
 · rename_i h1;exact absurd h h1
theorem PH{p:au}{k:Int}{n m:ByteArray}(h:(get p k n m).2=1){o:Ref}(hc:cZ p o=true)(hu:under p o (get p k n m).1.of=true):
    0≤(get p k n m).1.at_∧(get p k n m).1.at_.toNat<(layout p o).length:=by
 obtain⟨r,i,hi⟩:=PI h;have h1:=(Bz hi).2.2.1;have h2:=Jt hi;have h3:=LZ hc hu;omega
theorem pI{p:au}{n:ByteArray}:∀{l:List Ref} {x:kT},nR p n l=some x→x.of∈l∧∃i:Nat,x.at_=i∧mK (cls p x.of) n=some i
 |[],x,h=>by simp[nR]at h
 |c::r,x,h=>by
  unfold nR at h;split at h
  · rename_i i hi;cases h;exact⟨by simp,i,rfl,hi⟩
  · obtain⟨h1,h2⟩:=pI h;exact⟨List.mem_cons_of_mem _ h1,h2⟩
theorem yY{p:au}{r:Ref}{n:ByteArray}{x:kT}(h:pick p r n=some x):cZ p r=true∧x.of∈chain p r∧∃i c m,x.at_=(i:Nat)∧cls? p x.of=some c∧c.methods[i]?=some m∧m.name=n∧method? p x=some m:=by
 unfold pick at h;split at h
 · rename_i hc;obtain⟨h1,i,h2,h3⟩:=pI h;obtain⟨c,fV⟩:=jc h1;have e:cls p x.of=c:=by unfold cls;rw[fV];rfl
   rw[e]at h3;unfold mK at h3;rw[List.findIdx?_eq_some_iff_getElem]at h3;obtain⟨bZ,h4,_⟩:=h3;exact⟨hc,h1,i,c,c.methods[i],h2,fV,List.getElem?_eq_getElem bZ,by simpa using h4,by
    unfold method?;rw[h2,if_pos (Int.natCast_nonneg i),e];exact List.getElem?_eq_getElem bZ⟩
 · cases h
theorem jI{p:au}{k:Int}{n m:ByteArray}(h:(call p k n m).2=1):∃r,pick p r m=some (call p k n m).1:=by
 unfold call at h ⊢;split at h
 · rename_i h1;rw[if_pos h1];cases hp:pick p (bN p k n m).1 m with
   |none=>rw[hp]at h;simp at h
   |some x=>
    rw[hp]at h;refine⟨_,hp.trans ?_⟩;simp only at h ⊢;split at h
    · rename_i h2;rw[if_pos h2]
    · simp at h
 · rename_i h1;exact absurd h h1
theorem oM{p:au}{x:kT}(h:cK p x=true):cZ p x.of=true∧∃i c m,x.at_=(i:Nat)∧cls? p x.of=some c∧c.methods[i]?=some m∧method? p x=some m:=by
 unfold cK at h;simp only[Bool.and_eq_true,decide_eq_true_eq]at h;obtain⟨⟨h1,h2⟩,h3⟩:=h;obtain⟨c,fV⟩:=jc (zL h1).2;have e:cls p x.of=c:=by unfold cls;rw[fV];rfl
 rw[e]at h3;have bZ:x.at_.toNat<c.methods.length:=by omega
 exact⟨h1,x.at_.toNat,c,c.methods[x.at_.toNat],by omega,fV,List.getElem?_eq_getElem bZ,by
  unfold method?;rw[if_pos h2,e];exact List.getElem?_eq_getElem bZ⟩
end Go.Proofs.YtcepdbbapgfcdaaGreat.M
namespace Go.Proofs.YtcepdbbapgfcdaaGreat.M
structure Good(p:au)(s:St):Prop where
 heap:ib p s.heap=true
 frames:∀f∈s.frames,dL p f s.heap.length=true
 nf:s.frames.length≤8
 outs:s.outs.length≤40
 nP:∀n∈s.outs,fT n=true
 back:bE s.back s.heap.length=true
theorem aP{p:au}{f:Fr}{n:Nat}:dL p f n=true↔cK p f.of=true∧0≤f.pc∧f.pc<(method p f.of).code.length∧(f.locals.length:Int)=(method p f.of).locals∧
    (f.stack.length:Int)≤(method p f.of).stack∧(∀v∈f.locals,bE v n=true)∧(∀v∈f.stack,bE v n=true):=by
 unfold dL;simp only[Bool.and_eq_true,decide_eq_true_eq,List.all_eq_true,and_assoc]
theorem fA{p:au}{h:List iC}:ib p h=true↔h.length≤12∧∀o∈h,cZ p o.of=true∧o.fields.length=(layout p o.of).length∧∀v∈o.fields,bE v h.length=true:=by
 unfold ib;simp only[Bool.and_eq_true,decide_eq_true_eq,List.all_eq_true,and_assoc]
theorem uH{v:Val}{n m:Nat}(h:bE v n=true)(yS:n≤m):bE v m=true:=by
 unfold bE at*;split at h
 · rename_i h1;rw[if_pos h1];exact h
 · rename_i h1;rw[if_neg h1];split at h
   · rename_i h2;rw[if_pos h2];exact h
   · rename_i h2;rw[if_neg h2];split at h
     · rename_i h3;rw[if_pos h3];simp only[Bool.and_eq_true,decide_eq_true_eq]at*;omega
     · cases h
theorem nS{v:Val}{n:Nat}(h:bE v n=true)(hk:v.kind=2):0≤v.n∧v.n<n:=by
 unfold bE at h;rw[hk]at h;simpa using h
theorem xL{v:Val}{n:Nat}(h:bE v n=true)(hk:v.kind=1): -9999≤v.n∧v.n≤9999:=by
 unfold bE fT at h;rw[hk]at h;simpa using h
theorem zg(n:Nat):bE lv n=true:=by simp[bE,lv]
theorem N9(n:Nat):bE ek n=true:=by simp[bE,ek]
theorem gV{k:Int}(n:Nat)(h:fT k=true):bE (gJ k) n=true:=by
 unfold bE gJ;simpa using h
theorem qG{k:Int}(n:Nat)(h1:0≤k)(h2:k<n):bE ⟨2,k⟩ n=true:=by
 unfold bE;simp;omega
theorem qF{s:St}{r:List Fr}{t:Fr}(h:s.frames=r++[t]):top s=t:=by unfold top;rw[h];simp
theorem dY{s:St}{r:List Fr}{t:Fr}(h:s.frames=r++[t])(f:Fr→Fr):yB s f={s with frames:=r++[f t]}:=by unfold yB;rw[h];simp
theorem M8{s:St}(h:s.frames≠[]):∃r t,s.frames=r++[t]:=⟨s.frames.dropLast,s.frames.getLast h,(List.dropLast_concat_getLast h).symm⟩
section
variable {p:au} {s:St} {r:List Fr} {t:Fr}
theorem Good.top(hG:Good p s)(h:s.frames=r++[t]):dL p t s.heap.length=true:=hG.frames t (by rw[h];simp)
theorem Good.turn(hG:Good p s)(h:s.frames=r++[t]){t':Fr}(ht:dL p t' s.heap.length=true):Good p {s with frames:=r++[t']}:=by
 refine⟨hG.heap,?_,?_,hG.outs,hG.nP,hG.back⟩
 · intro f hf;rcases List.mem_append.1 hf with hf|hf
   · exact hG.frames f (by rw[h];exact List.mem_append_left _ hf)
   · simp at hf;subst hf;exact ht
 · have:=hG.nf;rw[h]at this;simpa using this
def jR(p:au)(x:Int×St):Prop:=1≤x.1∧x.1≤10∧Good p x.2∧(x.1=1→x.2.frames≠[])∧x.2.status=1
theorem sK(hG:Good p s)(h:s.frames=r++[t])(hs:s.status=1){tgt:Int}(h0:0≤tgt):jR p (jump p tgt s):=by
 have ht:=hG.top h;have Gr:=aP.1 ht;unfold jump;rw[qF h,dY h];split
 · exact⟨by simp,by simp,hG,fun e=>by simp at e,hs⟩
 · rename_i bZ;refine⟨by simp,by simp,hG.turn h (aP.2 ⟨Gr.1,h0,by simp only;omega,Gr.2.2.2.1,Gr.2.2.2.2.1,Gr.2.2.2.2.2.1,Gr.2.2.2.2.2.2⟩),fun _=>by simp,hs⟩
theorem nO(hG:Good p s)(h:s.frames=r++[t])(hs:s.status=1):jR p (next p s):=by
 have Gr:=aP.1 (hG.top h);unfold next
 rw[qF h];exact sK hG h hs (by omega)
theorem kK(hG:Good p s)(h:s.frames=r++[t])(hs:s.status=1){v:Val}(hv:bE v s.heap.length=true):jR p (push p v s):=by
 have Gr:=aP.1 (hG.top h);unfold push;rw[qF h,dY h];split
 · exact⟨by simp,by simp,hG,fun e=>by simp at e,hs⟩
 · rename_i bZ;refine nO (r:=r) (t:={t with stack:=t.stack++[v]}) (hG.turn h (aP.2 ⟨Gr.1,Gr.2.1,Gr.2.2.1,Gr.2.2.2.1,by simp;omega,Gr.2.2.2.2.2.1,?_⟩)) rfl hs;intro u hu;rcases List.mem_append.1 hu with hu|hu
   · exact Gr.2.2.2.2.2.2 u hu
   · simp at hu;subst hu;exact hv
theorem dN{c:Nat}(h:s.frames=r++[t]){vs:List Val}{s1:St}(hp:dE c s=some (vs,s1)):
    c≤t.stack.length∧vs=t.stack.drop (t.stack.length - c)∧vs.length=c∧s1={s with frames:=r++[{t with stack:=t.stack.take (t.stack.length - c)}]}:=by
 unfold dE at hp;rw[qF h,dY h]at hp;split at hp
 · cases hp
 · cases hp;refine⟨by omega,rfl,by simp;omega,rfl⟩
theorem Good.popped(hG:Good p s)(h:s.frames=r++[t])(n:Nat):Good p {s with frames:=r++[{t with stack:=t.stack.take n}]}:=by
 have Gr:=aP.1 (hG.top h);refine hG.turn h (aP.2 ⟨Gr.1,Gr.2.1,Gr.2.2.1,Gr.2.2.2.1,?_,Gr.2.2.2.2.2.1,fun u hu=>Gr.2.2.2.2.2.2 u (List.mem_of_mem_take hu)⟩);have:(t.stack.take n).length≤t.stack.length:=by simp;omega
 have:=Gr.2.2.2.2.1;simp only;omega
theorem rq{c:Nat}(hG:Good p s)(h:s.frames=r++[t]){vs:List Val}{s1:St}(hp:dE c s=some (vs,s1)):
    vs.length=c∧(∀v∈vs,bE v s.heap.length=true)∧Good p s1∧s1.frames=r++[{t with stack:=t.stack.take (t.stack.length - c)}]∧s1.heap=s.heap∧s1.outs=s.outs∧s1.back=s.back∧s1.status=s.status:=by
 obtain⟨h1,h2,h3,rfl⟩:=dN h hp;refine⟨h3,fun v hv=>?_,hG.popped h _,rfl,rfl,rfl,rfl,rfl⟩;subst h2;exact(aP.1 (hG.top h)).2.2.2.2.2.2 v (List.mem_of_mem_drop hv)
theorem UA(hG:Good p s)(h:s.frames=r++[t]){v:Val}{s1:St}(hp:pop s=some (v,s1)):
    bE v s.heap.length=true∧Good p s1∧s1.frames=r++[{t with stack:=t.stack.take (t.stack.length - 1)}]∧s1.heap=s.heap∧s1.outs=s.outs∧s1.back=s.back∧s1.status=s.status:=by
 unfold pop at hp;rw[Option.map_eq_some_iff]at hp;obtain⟨⟨vs,s2⟩,h1,h2⟩:=hp;cases h2;obtain⟨a1,a2,a3⟩:=rq hG h h1;refine⟨?_,a3⟩;match vs,a1 with
 |[x],_=>exact a2 x (by simp)
theorem jR.bad{n:Int}(hG:Good p s)(hs:s.status=1)(h1:1<n)(h2:n≤10):jR p (n,s):=⟨by simp only;omega,h2,hG,fun e=>by simp only at e;omega,hs⟩
theorem BI(v:Val)(q:Ref)(s:St):object p v q s=1∨(1<object p v q s∧object p v q s≤10):=by
 unfold object;split
 · right;decide
 · split
   · right;decide
   · split
     · left;rfl
     · right;decide
theorem qE{v:Val}{q:Ref}(h:object p v q s=1):v.kind=2∧under p (rM s.heap v.n) q=true:=by
 unfold object at h;split at h
 · cases h
 · split at h
   · cases h
   · rename_i h1;split at h
     · rename_i h2;exact⟨by omega,h2⟩
     · cases h
theorem Wt{n:Int}(h0:0≤n)(h1:n<s.heap.length):∃o,s.heap[n.toNat]?=some o∧o∈s.heap∧rM s.heap n=o.of∧kU s.heap n=o.fields:=by
 have bZ:n.toNat<s.heap.length:=by omega
 refine⟨s.heap[n.toNat],List.getElem?_eq_getElem bZ,List.getElem_mem _,?_,?_⟩
 · unfold rM;rw[List.getElem?_eq_getElem bZ];rfl
 · unfold kU;rw[List.getElem?_eq_getElem bZ];rfl
theorem wC(hG:Good p s){k:Int}{n m:ByteArray}(hg:(get p k n m).2=1){v:Val}(hv:bE v s.heap.length=true)(ho:object p v (get p k n m).1.of s=1):
    0≤v.n∧v.n<s.heap.length∧0≤(get p k n m).1.at_∧∃o,s.heap[v.n.toNat]?=some o∧o∈s.heap∧kU s.heap v.n=o.fields∧(get p k n m).1.at_.toNat<o.fields.length:=by
 obtain⟨h1,h2⟩:=qE ho;obtain⟨h3,h4⟩:=nS hv h1;obtain⟨o,h5,h6,h7,h8⟩:=Wt (s:=s) h3 h4;rw[h7]at h2;have:=(fA.1 hG.heap).2 o h6;obtain⟨b1,b2⟩:=PH hg this.1 h2;exact⟨h3,h4,b1,o,h5,h6,h8,by rw[this.2.1];exact b2⟩
theorem SG{q:Ref}(n:Nat):∀v∈(fresh p q).fields,bE v n=true:=by
 intro v hv;unfold fresh at hv;simp only[List.mem_map]at hv;obtain⟨f,_,rfl⟩:=hv;split
 · exact gV n (by decide)
 · exact zg n
theorem Good.grow(hG:Good p s){q:Ref}(hq:cZ p q=true)(hn:s.heap.length<12):Good p {s with heap:=s.heap++[fresh p q]}:=by
 have hle:s.heap.length≤(s.heap++[fresh p q]).length:=by simp
 obtain⟨_,h2⟩:=fA.1 hG.heap;refine⟨fA.2 ⟨by simp;omega,?_⟩,?_,hG.nf,hG.outs,hG.nP,uH hG.back hle⟩
 · intro o ho;rcases List.mem_append.1 ho with ho|ho
   · obtain⟨a,b,c⟩:=h2 o ho;exact⟨a,b,fun v hv=>uH (c v hv) hle⟩
   · simp at ho;subst ho;exact⟨hq,by simp[fresh],SG _⟩
 · intro f hf;obtain⟨a1,a2,a3,a4,a5,a6,a7⟩:=aP.1 (hG.frames f hf);exact aP.2 ⟨a1,a2,a3,a4,a5,fun v hv=>uH (a6 v hv) hle,fun v hv=>uH (a7 v hv) hle⟩
theorem Good.set(hG:Good p s){n a:Int}{v:Val}(hv:bE v s.heap.length=true):Good p {s with heap:=dF s.heap n a v}:=by
 have hl:(dF s.heap n a v).length=s.heap.length:=by simp[dF]
 obtain⟨h1,h2⟩:=fA.1 hG.heap;refine⟨fA.2 ⟨by rw[hl];exact h1,?_⟩,?_,hG.nf,hG.outs,hG.nP,?_⟩
 · intro o ho;rw[hl];obtain⟨i,hi⟩:=List.getElem?_of_mem ho;unfold dF at hi;rw[List.getElem?_modify]at hi;cases ho':s.heap[i]? with
   |none=>rw[ho']at hi;simp at hi
   |some o'=>
    rw[ho']at hi;obtain⟨b1,b2,b3⟩:=h2 o' (List.mem_of_getElem? ho');simp at hi;subst hi;split
    · refine⟨b1,by simpa using b2,?_⟩;intro u hu;rcases List.mem_or_eq_of_mem_set hu with hu|rfl
      · exact b3 u hu
      · exact hv
    · exact⟨b1,b2,b3⟩
 · intro f hf;simp only[hl];exact hG.frames f hf
 · simp only[hl];exact hG.back
end
end Go.Proofs.YtcepdbbapgfcdaaGreat.M
namespace Go.Proofs.YtcepdbbapgfcdaaGreat.M
theorem IV{p:au}(gp:bU p=true){r:Ref}{c:Class}(h:cls? p r=some c):oW c=true:=by
 unfold cls? at h;rw[Option.bind_eq_some_iff]at h;obtain⟨q,hq,h2⟩:=h;have h3:=Ic gp hq;unfold eP at h3;simp only[Bool.and_eq_true]at h3;exact qU h3.1.2 c (List.mem_of_find?_eq_some h2)
theorem NK{c:Class}(h:oW c=true):∀m∈c.methods,uZ m=true:=by
 unfold oW at h;simp only[Bool.and_eq_true]at h;exact qU h.2
theorem gI{p:au}(gp:bU p=true){x:kT}(h:cK p x=true):uZ (method p x)=true∧method? p x=some (method p x):=by
 obtain⟨_,i,c,m,h1,h2,h3,h4⟩:=oM h;have e:method p x=m:=by unfold method;rw[h4];rfl
 rw[e];exact⟨NK (IV gp h2) m (List.mem_of_getElem? h3),h4⟩
structure Eg(m:Method):Prop where
 args:(m.args.length:Int)+1≤m.locals
 Ky:m.args.length≤3
 locals:m.locals≤6
 UM:1≤m.stack
 stack:m.stack≤5
 abw:1≤m.code.length
 code:m.code.length≤16
 ins:∀i∈m.code,jC m i=true
 ret:jq m.ret=true
 kinds:∀k∈m.args,jq k=true
 maps:m.maps.length≤5
 uX:∀f∈m.maps,uX m f=true
theorem CL{m:Method}:∀{l:List SMap} {n:Int},mJ m n l=true→∀f∈l,uX m f=true
 |[],_,_=>by simp
 |x::r,n,h=>by
  unfold mJ at h;simp only[Bool.and_eq_true]at h;intro f hf;rcases List.mem_cons.1 hf with rfl|hf
  · exact h.1.2
  · exact CL h.2 f hf
theorem lL{m:Method}(h:uZ m=true):Eg m:=by
 unfold uZ codeOk wT at h;simp only[Bool.and_eq_true,decide_eq_true_eq,List.all_eq_true]at h;obtain⟨⟨⟨⟨⟨⟨⟨⟨⟨_,h2⟩,h3⟩,h4⟩,h5⟩,h6⟩,h7⟩,h8⟩,⟨⟨h9,KM⟩,h11⟩⟩,Z4,h13⟩:=h;exact⟨h5,h2,h6,h7,h8,h9,KM,h11,h3,h4,Z4,CL h13⟩
theorem tJ{p:au}:∀{l k:List Ref},iw p (l++k)=true→iw p k=true∧∀a∈l,∀b∈k,kW p a b=true
 |[],k,h=>⟨h,by simp⟩
 |x::l,k,h=>by
  simp only[List.cons_append,iw,Bool.and_eq_true,List.all_eq_true]at h;obtain⟨h1,h2⟩:=tJ h.2;refine⟨h1,fun a ha b hb=>?_⟩;rcases List.mem_cons.1 ha with rfl|ha
  · exact h.1 b (List.mem_append_right _ hb)
  · exact h2 a ha b hb
theorem Py{p:au}{r x:Ref}(hc:cZ p r=true)(h:x∈chain p r):cZ p x=true:=by
 obtain⟨hl,pre,hp⟩:=rX h;obtain⟨t,ht⟩:=tK hl;unfold cZ at hc ⊢;simp only[Bool.and_eq_true,Bool.not_eq_true',List.isEmpty_eq_false_iff]at hc ⊢;rw[hp]at hc;exact⟨by rw[ht];simp,(tJ hc.2).1⟩
theorem Hb{c:Class}{n:ByteArray}{i:Nat}{m:Method}(h:mK c n=some i)(hm:c.methods[i]?=some m):c.methods.find? (fun x=>x.name=n)=some m:=by
 unfold mK at h;have:∀(l:List Method) (i:Nat) (m:Method),l.findIdx? (fun x=>decide (x.name=n))=some i→l[i]?=some m→l.find? (fun x=>decide (x.name=n))=some m:=by
  intro l;induction l with
  |nil=>intro i m h;simp at h
  |cons x r ih=>
   intro i m h hm;rw[List.findIdx?_cons]at h;rw[List.find?_cons];cases hx:decide (x.name=n)
   · rw[hx]at h;simp only[Bool.false_eq_true,if_false,Option.map_eq_some_iff]at h;obtain⟨j,hj,rfl⟩:=h;exact ih j m hj (by simpa using hm)
   · rw[hx]at h;simp only[if_true,Option.some.injEq]at h;subst h;simpa using hm
 exact this _ _ _ h hm
theorem BK {p : au} {r o : Ref} {n : ByteArray} {x y : kT} (hx : pick p r n = some x) (hu : under p o x.of = true) (hy : pick p o n = some y) : (method p y).args = (method p x).args := by
 have hxx:=hx;have hyy:=hy;unfold pick at hx hy;split at hx
 · split at hy
   · rename_i Ws Wq;obtain⟨a1,i,a2,a3⟩:=pI hx;obtain⟨b1,j,b2,b3⟩:=pI hy;obtain⟨hl,pre,hp⟩:=rX (p:=p) (r:=o) (x:=x.of) (by unfold under at hu;simpa using hu);obtain⟨t,ht⟩:=tK hl;have afJ:=Wq;unfold cZ at Wq;simp only[Bool.and_eq_true]at Wq;rw[hp]at Wq;obtain⟨_,_,i',c,m,e1,e2,e3,e4,e5⟩:=yY hxx;obtain⟨_,_,j',d,q,f1,f2,f3,f4,f5⟩:=yY hyy;have em:method p x=m:=by unfold method;rw[e5];rfl
     have eq':method p y=q:=by unfold method;rw[f5];rfl
     rw[em,eq'];have uO:cls p x.of=c:=by unfold cls;rw[e2];rfl
     have Vk:cls p y.of=d:=by unfold cls;rw[f2];rfl
     rw[hp,ht]at hy;by_cases hm:y.of∈pre
     · have WK:=(tJ Wq.2).2 y.of hm x.of (by rw[ht];simp);unfold kW at WK;simp only[Bool.and_eq_true,List.all_eq_true]at WK;have hq:=WK.2 q (by rw[Vk];exact List.mem_of_getElem? f3);unfold gH at hq;rw[a2]at e1;have ei:=Int.ofNat.inj e1;subst ei;rw[f4,uO,Hb (by rw[←uO];exact a3) e3]at hq;simp only[Bool.and_eq_true,decide_eq_true_eq]at hq;exact hq.1.2
     · have:∀(l:List Ref),nR p n (l++x.of::t)=some y→y.of ∉ l→y=x:=by
        intro l;induction l with
        |nil=>
         intro h _;simp only[List.nil_append,nR,a3]at h;cases h;obtain⟨xo,xa⟩:=x;simp at a2;subst a2;rfl
        |cons z l ih=>
         intro h hn;simp only[List.cons_append,nR]at h;split at h
         · cases h;simp at hn
         · exact ih h (fun hh=>hn (List.mem_cons_of_mem _ hh))
       have:=this pre hy hm;subst this;rw[e5]at f5;cases f5;rfl
   · cases hy
 · cases hx
theorem jW{p:au}{r:Ref}{n:ByteArray}{x:kT}(h:pick p r n=some x):cK p x=true:=by
 obtain⟨h1,h2,i,c,m,h3,h4,h5,h6,h7⟩:=yY h;unfold cK;have e:cls p x.of=c:=by unfold cls;rw[h4];rfl
 rw[Py h1 h2,h3,e];have:=(List.getElem?_eq_some_iff.1 h5).1;simp;omega
section
variable {p:au} {s:St} {r:List Fr} {t:Fr}
theorem nE(gp:bU p=true)(hG:Good p s)(hs:s.status=1){lk:Bool}{x:kT}{vs:List Val}(hx:cK p x=true)(hv:∀v∈vs,bE v s.heap.length=true)(hl:(vs.length:Int)≤(method p x).locals):
    jR p (enter p lk x vs s):=by
 unfold enter;split
 · exact jR.bad hG hs (by decide) (by decide)
 · rename_i h8;split
   · exact jR.bad hG hs (by decide) (by decide)
   · split
     · have hm:=lL (gI gp hx).1;refine⟨by simp,by simp,⟨hG.heap,?_,by simp;omega,hG.outs,hG.nP,hG.back⟩,fun _=>by simp,hs⟩;intro f hf;rcases List.mem_append.1 hf with hf|hf
       · exact hG.frames f hf
       · simp only[List.mem_singleton]at hf;subst hf;refine aP.2 ⟨hx,by simp,by simp only;have:=hm.abw;omega,by simp;omega,by simp;have:=hm.UM;omega,?_,by simp⟩;intro v hv';rcases List.mem_append.1 hv' with hv'|hv'
         · exact hv v hv'
         · rw[List.mem_replicate]at hv';rw[hv'.2];exact N9 _
     · exact jR.bad hG hs (by decide) (by decide)
theorem ku{m:Method}{i:Ins}(h:jC m i=true):jV i=true∧((i.op=2∨i.op=3)→0≤i.a∧i.a<m.locals)∧((i.op=11∨i.op=12∨i.op=13)→0≤i.a∧i.a<m.code.length)∧(i.op=1→fT i.a=true)∧(1≤i.op∧i.op≤15)∧
    ((i.op=6∨i.op=15)→aY i.name=true)∧((i.op=7∨i.op=8∨i.op=9)→aY i.name=true∧aY i.member=true):=by
 unfold jC at h;simp only[Bool.and_eq_true]at h;have h1:=h.1;refine⟨h1,?_,?_,?_,?_,?_,?_⟩
 · intro ho;have h2:=h.2;rw[if_pos ho]at h2;simp only[decide_eq_true_eq]at h2;unfold jV isNum at h1;rcases ho with ho|ho<;>rw[ho]at h1<;>simp[mO,nZ]at h1<;>omega
 · intro ho;have h2:=h.2;rw[if_neg (by omega),if_pos ho]at h2;simp only[decide_eq_true_eq]at h2;unfold jV isNum at h1;rcases ho with ho|ho|ho<;>rw[ho]at h1<;>simp[mO,nZ]at h1<;>omega
 · intro ho;unfold jV isNum at h1;rw[ho]at h1;simp[mO,nZ]at h1;unfold fT;simp;omega
 · unfold jV isNum lW oD qX at h1;simp only[Bool.or_eq_true,beq_iff_eq]at h1;repeat' split at h1
   all_goals first|omega|cases h1
 · intro ho;unfold jV isNum lW at h1;rcases ho with ho|ho<;>rw[ho]at h1<;>simp at h1<;>exact h1.2
 · intro ho;unfold jV isNum lW oD at h1;rcases ho with ho|ho|ho<;>rw[ho]at h1<;>simp at h1<;>exact⟨h1.1.2,h1.2⟩
theorem qg (gp : bU p = true) (hG : Good p s) (h : s.frames = r ++ [t]) (hs : s.status = 1) {lk : Bool} {i : Ins} (hi : jC (method p t.of) i = true) : jR p (aM p lk i s) := by
 have bad:∀n:Int,1<n→n≤10→jR p (n,s):=fun n h1 h2=>jR.bad hG hs h1 h2;obtain⟨_,i2,i3,i4,i5,_,_⟩:=ku hi;have ht:=aP.1 (hG.top h);have Nt:∀{v s1},pop s=some (v,s1)→bE v s.heap.length=true∧Good p s1∧s1.frames=r++[{t with stack:=t.stack.take (t.stack.length - 1)}]∧s1.heap=s.heap∧s1.outs=s.outs∧s1.back=s.back∧s1.status=1:=fun hp=>by
  obtain⟨a1,a2,a3,a4,a5,a6,a7⟩:=UA hG h hp;exact⟨a1,a2,a3,a4,a5,a6,a7.trans hs⟩
 unfold aM;by_cases e1:i.op=1
 · rw[if_pos e1];exact kK hG h hs (gV _ (i4 e1))
 rw[if_neg e1];by_cases e2:i.op=2
 · rw[if_pos e2];rw[qF h];split
   · exact bad _ (by decide) (by decide)
   · refine kK hG h hs ?_;have bZ:i.a.toNat<t.locals.length:=by have:=i2 (.inl e2);omega
     rw[List.getElem?_eq_getElem bZ];exact ht.2.2.2.2.2.1 _ (List.getElem_mem _)
 rw[if_neg e2];by_cases e3:i.op=3
 · rw[if_pos e3];split
   · exact bad _ (by decide) (by decide)
   · rename_i v s1 hp;obtain⟨a1,a2,a3,a4,a5,a6,a7⟩:=Nt hp;have WR:=aP.1 (a2.top a3);rw[dY a3];refine nO (r:=r) (a2.turn a3 (aP.2 ⟨WR.1,WR.2.1,WR.2.2.1,by simp;exact ht.2.2.2.1,WR.2.2.2.2.1,?_,WR.2.2.2.2.2.2⟩)) rfl a7;intro u hu;rcases List.mem_or_eq_of_mem_set hu with hu|rfl
     · exact WR.2.2.2.2.2.1 u hu
     · rw[a4];exact a1
 rw[if_neg e3];by_cases e4:i.op=4
 · rw [if_pos e4]; split
   · rename_i a b s1 hp;obtain⟨a1,a2,a3,a4,a5,a6,a7,a8⟩:=rq hG h hp;split
     · split
       · rename_i hn;exact kK a3 a4 (a8.trans hs) (gV _ hn)
       · exact jR.bad a3 (a8.trans hs) (by decide) (by decide)
     · exact jR.bad a3 (a8.trans hs) (by decide) (by decide)
   · exact bad _ (by decide) (by decide)
 rw[if_neg e4];by_cases e5:i.op=5
 · rw[if_pos e5];exact kK hG h hs (zg _)
 rw[if_neg e5];by_cases e6:i.op=6
 · rw[if_pos e6];split
   · rename_i hc;split
     · exact bad _ (by decide) (by decide)
     · rename_i Z4;unfold jA at hc;simp only[Bool.and_eq_true]at hc;refine kK (r:=r) (t:=t) (hG.grow hc.2 (by omega)) h hs ?_;exact qG _ (by simp) (by simp;omega)
   · exact bad _ (by decide) (by decide)
 rw[if_neg e6];by_cases e7:i.op=7
 · rw [if_pos e7]; split
   · rename_i hg;split
     · exact bad _ (by decide) (by decide)
     · rename_i v s1 hp;obtain⟨a1,a2,a3,a4,a5,a6,a7⟩:=Nt hp;split
       · rename_i ho;obtain⟨_,_,_,o,b1,b2,b3,b4⟩:=wC a2 hg (by rw[a4];exact a1) ho;refine kK a2 a3 a7 ?_;rw[b3,List.getElem?_eq_getElem b4];exact((fA.1 a2.heap).2 o b2).2.2 _ (List.getElem_mem _)
       · rename_i ho;rcases BI (p:=p) v (get p (top s).of.of.keeper i.name i.member).1.of s1 with h1|h1
         · exact absurd h1 ho
         · exact jR.bad a2 a7 h1.1 h1.2
   · exact bad _ (by decide) (by decide)
 rw[if_neg e7];by_cases e8:i.op=8
 · rw [if_pos e8]; split
   · split
     · rename_i o v s1 hp;obtain⟨a1,a2,a3,a4,a5,a6,a7,a8⟩:=rq hG h hp;have ZE:=a8.trans hs;split
       · split
         · exact nO (r:=r) (a3.set (by rw[a5];exact a2 v (by simp))) a4 ZE
         · rename_i ho;rcases BI (p:=p) o (get p (top s).of.of.keeper i.name i.member).1.of s1 with h1|h1
           · exact absurd h1 ho
           · exact jR.bad a3 ZE h1.1 h1.2
       · exact jR.bad a3 ZE (by decide) (by decide)
     · exact bad _ (by decide) (by decide)
   · exact bad _ (by decide) (by decide)
 rw[if_neg e8];by_cases e9:i.op=9
 · rw [if_pos e9]; split
   · rename_i hc;split
     · rename_i vs s1 hp;obtain⟨a1,a2,a3,a4,a5,a6,a7,a8⟩:=rq hG h hp;have ZE:=a8.trans hs;split
       · rename_i ho;split
         · rename_i x hx;obtain⟨o1,o2⟩:=qE ho;obtain⟨q,hq⟩:=jI hc;have yh:=BK hq o2 hx;have hm:=lL (gI gp (jW hx)).1;refine nE gp a3 ZE (jW hx) (by rw[a5];exact a2) ?_;have:=hm.args;rw[a1,←yh];simpa using this
         · exact jR.bad a3 ZE (by decide) (by decide)
       · rename_i ho;rcases BI (p:=p) (vs.headD ek) (call p (top s).of.of.keeper i.name i.member).1.of s1 with h1|h1
         · exact absurd h1 ho
         · exact jR.bad a3 ZE h1.1 h1.2
     · exact bad _ (by decide) (by decide)
   · exact bad _ (by decide) (by decide)
 rw[if_neg e9];by_cases e10:i.op=10
 · rw [if_pos e10]; split
   · exact bad _ (by decide) (by decide)
   · rename_i v s1 hp;obtain⟨a1,a2,a3,a4,a5,a6,a7⟩:=Nt hp;split
     · split
       · exact jR.bad (s:={s1 with back:=v}) ⟨a2.heap,a2.frames,a2.nf,a2.outs,a2.nP,by rw[a4];exact a1⟩ a7 (by decide) (by decide)
       · rename_i hn;have hr:r≠[]:=by
          rintro rfl;rw[a3]at hn;simp at hn
         obtain⟨r',t',rfl⟩:∃r' t',r=r'++[t']:=⟨r.dropLast,r.getLast hr,(List.dropLast_concat_getLast hr).symm⟩;have hd:s1.frames.dropLast=r'++[t']:=by rw[a3];simp
         refine kK (s:={s1 with frames:=s1.frames.dropLast}) (r:=r') (t:=t') ⟨a2.heap,?_,?_,a2.outs,a2.nP,a2.back⟩ hd a7 (by rw[a4];exact a1)
         · intro f hf;exact a2.frames f (List.dropLast_subset _ hf)
         · have:=a2.nf;simp only[List.length_dropLast];omega
     · exact jR.bad a2 a7 (by decide) (by decide)
 rw[if_neg e10];by_cases e11:i.op=11
 · rw [if_pos e11]; split
   · exact bad _ (by decide) (by decide)
   · rename_i v s1 hp;obtain⟨a1,a2,a3,a4,a5,a6,a7⟩:=Nt hp;split
     · split
       · exact sK a2 a3 a7 (i3 (.inl e11)).1
       · exact nO a2 a3 a7
     · exact jR.bad a2 a7 (by decide) (by decide)
 rw[if_neg e11];by_cases e12:i.op=12
 · rw [if_pos e12]; split
   · exact bad _ (by decide) (by decide)
   · rename_i v s1 hp;obtain⟨a1,a2,a3,a4,a5,a6,a7⟩:=Nt hp;split
     · split
       · exact sK a2 a3 a7 (i3 (.inr (.inl e12))).1
       · exact nO a2 a3 a7
     · exact jR.bad a2 a7 (by decide) (by decide)
 rw[if_neg e12];by_cases e13:i.op=13
 · rw[if_pos e13];exact sK hG h hs (i3 (.inr (.inr e13))).1
 rw[if_neg e13];by_cases e14:i.op=14
 · rw [if_pos e14]; split
   · exact bad _ (by decide) (by decide)
   · rename_i v s1 hp;obtain⟨a1,a2,a3,a4,a5,a6,a7⟩:=Nt hp;split
     · rename_i hk;split
       · rename_i ho;refine nO (r:=r) (s:={s1 with outs:=s1.outs++[v.n]}) ⟨a2.heap,a2.frames,a2.nf,by simp;omega,?_,a2.back⟩ a3 a7;intro n hn;rcases List.mem_append.1 hn with hn|hn
         · exact a2.nP n hn
         · simp at hn;subst hn;have:=xL a1 hk;unfold fT;simp;omega
       · exact nO a2 a3 a7
     · exact jR.bad a2 a7 (by decide) (by decide)
 rw[if_neg e14]
 · split
   · exact bad _ (by decide) (by decide)
   · rename_i v s1 hp;obtain⟨a1,a2,a3,a4,a5,a6,a7⟩:=Nt hp;split
     · split
       · exact kK a2 a3 a7 (by rw[a4];exact a1)
       · split
         · split
           · exact kK a2 a3 a7 (by rw[a4];exact a1)
           · exact jR.bad a2 a7 (by decide) (by decide)
         · exact jR.bad a2 a7 (by decide) (by decide)
     · exact jR.bad a2 a7 (by decide) (by decide)
structure eH(p:au)(s:St):Prop where
 good:Good p s
 st:1≤s.status∧s.status≤10
 goes:s.status=1↔s.frames≠[]
theorem sP{p:au}{s:St}:FZ p s=true↔eH p s:=by
 unfold FZ;simp only[Bool.and_eq_true,decide_eq_true_eq,List.all_eq_true,beq_iff_eq];constructor
 · rintro⟨⟨⟨⟨⟨⟨⟨⟨⟨h1,h2⟩,h3⟩,h4⟩,h5⟩,h6⟩,h7⟩,h8⟩,h9⟩,KM⟩;refine⟨⟨h9,h8,h5,h4,h7,KM⟩,⟨h1,h2⟩,?_⟩;rw[Bool.eq_iff_iff]at h6;simp only[decide_eq_true_eq]at h6;rw[←h6,List.length_pos_iff]
 · rintro⟨⟨h9,h8,h5,h4,h7,KM⟩,⟨h1,h2⟩,h6⟩;refine⟨⟨⟨⟨⟨⟨⟨⟨⟨h1,h2⟩,(fA.1 h9).1⟩,h4⟩,h5⟩,?_⟩,h7⟩,h8⟩,h9⟩,KM⟩;rw[Bool.eq_iff_iff];simp only[decide_eq_true_eq];rw[h6,List.length_pos_iff]
theorem jR.runs{x:Int×St}(h:jR p x):eH p (end_ x.1 x.2):=by
 obtain⟨n,s⟩:=x;obtain⟨h1,h2,hG,h3,h4⟩:=h;unfold end_;simp only at*;split
 · rename_i e;exact⟨hG,by omega,by simp[h4,h3 e]⟩
 · rename_i e;exact⟨⟨hG.heap,by simp,by simp,hG.outs,hG.nP,hG.back⟩,⟨h1,h2⟩,by simp[e]⟩
theorem xe(gp:bU p=true)(hR:eH p s)(hs:s.status=1):∃r t i,s.frames=r++[t]∧dL p t s.heap.length=true∧(method p t.of).code[t.pc.toNat]?=some i∧jC (method p t.of) i=true:=by
 obtain⟨r,t,h⟩:=M8 (hR.goes.1 hs);have ht:=hR.good.top h;obtain⟨h1,h2,h3,_⟩:=aP.1 ht;have bZ:t.pc.toNat<(method p t.of).code.length:=by omega
 exact⟨r,t,_,h,ht,List.getElem?_eq_getElem bZ,(lL (gI gp h1).1).ins _ (List.getElem_mem _)⟩
theorem sQ(gp:bU p=true)(hR:eH p s)(lk:Bool):eH p (step p lk s):=by
 unfold step;split
 · rename_i hs;obtain⟨r,t,i,h,_,h2,h3⟩:=xe gp hR hs;refine jR.runs ?_;unfold stepped;rw[qF h,h2];exact qg gp hR.good h hs h3
 · exact hR
end
end Go.Proofs.YtcepdbbapgfcdaaGreat.M
namespace Go.Proofs.YtcepdbbapgfcdaaGreat
open Go Go.RowKit
attribute [local go_sem] Oper.semAt_some
theorem tO{p:M.au}(gp:M.bU p=true){r:M.Ref}{c:M.Class}(h:M.cls? p r=some c):c.fields.length≤3:=by
 have:=M.IV gp h;unfold M.oW at this;simp only[Bool.and_eq_true,decide_eq_true_eq]at this;exact this.1.1.1.2
theorem mH{p:M.au}(gp:M.bU p=true)(L:List M.Ref):(M.eF p L []).length≤L.length*3:=by
 rw[M.Ak];induction L with
 |nil=>simp
 | cons c r ih =>
  have:(M.cls p c).fields.length≤3:=by
   unfold M.cls;cases h:M.cls? p c with
   |none=>simp[M.acW]
   |some d=>exact tO gp h
  simp only[List.map_cons,List.sum_cons,List.length_cons,List.length_nil]at ih ⊢;omega
theorem G8(p:M.au)(L:List M.Ref)(c:M.Ref):M.eF p (L++[c]) []=M.dO c (M.cls p c).fields (M.eF p L []):=by
 rw[M.uS];rfl
theorem CR{w:World}{I:Nat→Prop}{v:Value}{xs:List M.Ref}(h:SliceOf 2 A7 w I v xs):SliceOf 2 A7 w (fun b=>I b∧b<w.heap.size) v xs:=by
 obtain⟨a,cap,e,h1,h2,h3⟩:=h;refine⟨a,cap,e,h1,h2,fun i x hx=>?_⟩;obtain⟨b,off,cs,ea,hI,rfl,hl,hc⟩:=h3 i x hx;exact⟨b,off,_,ea,⟨hI,aG hc.two.1⟩,rfl,hl,hc⟩
def abq(p:M.au)(w2:World)(bb S:Nat)(pre:List (Int×M.Ref))(W:World):Prop:=
 ∃v',aC W bb 182 #[v']∧W.ownsRow S 166 5 v' (M.eF p (pre.map Prod.snd) []).length ((M.eF p (pre.map Prod.snd) []).flatMap jB)∧Kp (·=bb) w2 W
theorem uq(w:World)(l:aI)(p:M.au)(h:aF w l p)(r:M.Ref):
    Calls Tryz.prog 73 #[.pointer (some ⟨l.L,0,none⟩),.agg #[.int .i64 r.keeper,.string r.name]] w fun e w'=>
     (∃v,e=.returned v∧SliceOf 5 RL w' (fun b=>w.heap.size≤b) v (M.layout p r))∧aF w' l p∧Kp (·=l.D) w w':=by
 have Mi:=h.IW;have Cu:=h.lt;have hO:=h.ord;have aU:Ext w ((w.alloc (.cells #[.pointer (some ⟨l.L,0,none⟩)] 74)).alloc (.cells #[.int .i64 r.keeper,.string r.name] 40)):=kx;have H:=Ys (h.ext aU);have b2:=(aC.new w 74 #[.pointer (some ⟨l.L,0,none⟩)]).ext ((Kp.refl _ _).alloc (.cells #[.int .i64 r.keeper,.string r.name] 40));have b3:=aC.new (w.alloc (.cells #[.pointer (some ⟨l.L,0,none⟩)] 74)) 40 #[.int .i64 r.keeper,.string r.name];simp only[World.size_alloc]at b3;have bJ:=Ys aU;clear h aU;refine(callsIn_wide (n:=10)).1 ?_;refine callsIn_of_wp_marks Tryz.func73 rfl trivial ?_ rfl;simp only[Tryz.ntmps73,List.size_toArray,List.length_cons,List.length_nil,Nat.reduceAdd,Nat.reduceSub,Array.replicate_succ,Array.replicate_zero,List.push_toArray,List.append_toArray,List.nil_append,List.cons_append];have q2:=b2.c 0 (.pointer (some ⟨l.L,0,none⟩)) rfl;have q3:=b3.c 0 (.int .i64 r.keeper) rfl;have q4:=b3.c 1 (.string r.name) rfl;cases pG:M.cZ p r
 all_goals
  have HC:=Ys pG;clear pG;gi_wp2_with fail;refine⟨trivial,?_⟩;refine(callsIn_wide.2 (iG _ _ _ H.o r)).mono ?_;rintro e w1 ⟨rfl,Ct,lU⟩;rw[HC.o];have Gt:w.heap.size+1<w1.heap.size:=by have:=lU.size;simp at this;omega
  have uR:w.heap.size<w1.heap.size:=by omega
  have J5:=b2.kp lU (by omega);have IM:=b3.kp lU (by omega);have Ce:Zs (Kp (·=l.D) w w1):=Ys (bJ.o.any.trans lU);have J2:=Ys Ct;have p2:=J5.c 0 (.pointer (some ⟨l.L,0,none⟩)) rfl;have p3:=IM.c 0 (.int .i64 r.keeper) rfl;have p4:=IM.c 1 (.string r.name) rfl;clear q2 q3 q4 lU Ct
 · have HV:Zs (M.layout p r=[]):=Ys (by unfold M.layout;rw[HC.o];rfl);gi_wp2_with fail;refine⟨.slice none 0 0,by simp[results,Tryz.f73,go_sem],⟨_,rfl,by rw[HV.o];exact SliceOf.nil _ _ _ _⟩,J2.o,Ce.o⟩
 · have HV:Zs (M.layout p r=M.eF p (M.chain p r).reverse []):=Ys (by unfold M.layout;rw[HC.o];rfl);have b5:=aC.new w1 182 #[.slice none 0 0];gi_wp2_with fail;refine⟨trivial,?_⟩;refine(callsIn_wide.2 (oF _ _ _ (J2.o.ext kx) r)).mono ?_;rintro e w2 ⟨⟨v,rfl,hs⟩,bP⟩;obtain⟨a,cap,rfl,hn,dn⟩:=hs.form;gi_wp2_with fail;refine⟨trivial,?_⟩;refine(callsIn_wide.2 (zK _ _ _ _)).mono ?_;rintro e w3 ⟨rfl,rfl⟩;gi_wp2_with fail;have EX:=bP.size;simp only[World.size_alloc]at EX;have bb2:=b5.ext bP;have zA:Zs (aF w2 l p):=Ys ((J2.o.ext kx).ext bP);have zy:Zs (Kp (·=l.D) w w2):=Ys (Ce.o.trans ((kx:Ext w1 _).any.trans bP.any));have B2:=Ys (And.intro ((J5.ext kx).ext bP) ((IM.ext kx).ext bP));have Yd:w1.heap.size<w2.heap.size:=by omega
   clear b2 b3 J5 IM b5 p2 p3 p4 bP;generalize aee:w1.heap.size=bb at*;have HS:=Ys hs;have AX:Zs ((M.chain p r).length≤6):=Ys (M.rW p r);have R4:Zs (∀x∈M.chain p r,∃c,M.cls? p x=some c):=Ys fun x hx=>M.jc hx;clear hs;generalize M.chain p r=xs at*;refine FI (gf:=127) (lb:=#[.pointer (some ⟨w2.heap.size,0,none⟩)]) (α:=Int×M.Ref) rfl (enters_of Tryz.func127 (by kernel_rfl) rfl) (encs:=Hr) (fun x=>rfl)
    (Bb:=fun k=>k=bb∨w2.heap.size+3≤k)
    (x8 xs w2.heap.size (.slice a xs.length cap) (fun b=>bb+1≤b∧b<w2.heap.size) _ ?hBd) ?hIt ?hD1 ?hD2 ?hB1 ?hB2
    (abq p w2 bb (w2.heap.size+3)) (fun _ _ _=>False) ?hI ?hIx ?h0 ?hIB
    (fun pre x W a₁ W₁=>abq p w2 bb (w2.heap.size+3) pre W∧(∃rest,backTo xs xs.length=pre++x::rest)∧
     w2.heap.size+2<W.heap.size∧W₁=W.alloc (.cells #[.int .i64 x.2.keeper,.string x.2.name] 40)∧
     a₁={tmps:=#[.pointer (some ⟨l.L,0,none⟩),.agg #[.int .i64 r.keeper,.string r.name],.pointer (some ⟨w.heap.size,0,none⟩),.pointer (some ⟨w.heap.size+1,0,none⟩),.slice none 0 0,.pointer (some ⟨bb,0,none⟩),undef,.pointer (some ⟨W.heap.size,0,none⟩),
      .pointer (some ⟨l.L,0,none⟩),.agg #[.int .i64 r.keeper,.string r.name],.bool true,.bool false,.pointer (some ⟨l.L,0,none⟩),.agg #[.int .i64 r.keeper,.string r.name],.slice a xs.length cap,.func (.func 127) #[] #[.pointer (some ⟨w2.heap.size,0,none⟩)],
      .int .i64 x.1,.agg #[.int .i64 x.2.keeper,.string x.2.name],undef,undef,undef,undef,undef,undef,undef,undef],defers:=[]}) ?hassign ?hAx ?hbody ?hdone ?hstop
   case hBd=>
    intro k hk;have Jh:(k=bb∨w2.heap.size+3≤k)∨k=(w2.alloc (.cells #[.slice a xs.length cap] 151)).heap.size+1:=hk;simp only[World.size_alloc]at Jh;omega
   case hIt=>
    intro W hW;refine⟨(aC.new _ _ _).ext hW,?_⟩;refine(CR HS.o).keep A7.stays (Ext.same (((Kp.refl _ w2).alloc _:Ext w2 _).trans hW)) (fun b hb=>?_);have:=hb.1;simp only[World.size_alloc]at this;exact⟨by omega,hb.2⟩
   case hD1=>exact fun h=>h
   case hD2=>exact fun h=>h
   case hB1=>simp only[World.size_alloc];omega
   case hB2=>simp only[World.size_alloc];omega
   case hI=>
    rintro s A B ⟨v',e1,e2,e3⟩ hk;simp only[World.size_alloc]at hk;exact⟨v',e1.kp hk (by simp;omega),aD e2 hk (fun g _ hg h=>by simp at h;omega),e3.own hk (fun k hk=>by simp at hk;omega)⟩
   case hIx=>exact fun _ _ _ _ h=>h.elim
   case h0=>exact⟨.slice none 0 0,bb2.ext kx,World.ownsRow_nil _ _ _ _,(kx:Ext w2 _).any⟩
   case hIB=>exact fun _ _ _=>trivial
   case hassign=>
    intro pre x W K OX hi bZ hK;simp only[Hr];simp only[World.size_alloc]at bZ;gi_wp2
   case hAx=>
    rintro pre x W a₁ W₁ ⟨_,_,_,rfl,_⟩;exact((Kp.refl _ W).alloc _)
   case hbody=>
    rintro pre x W a₁ W₁ W₂ ⟨⟨v',e1,e2,e3⟩,OX,bZ,rfl,rfl⟩ lK uh;simp only[World.size_alloc]at lK uh;obtain⟨rest,yt⟩:=OX;have hxm:x.2∈xs:=by
     have:=congrArg (List.map Prod.snd) yt;rw[kC _ _ (Nat.le_refl _),List.take_length]at this;have h2:x.2∈xs.reverse:=by rw[this];simp
     simpa using h2
    have ack:(pre.map Prod.snd).length≤6:=by
     have:=congrArg List.length yt;have h2:=congrArg List.length (kC xs xs.length (Nat.le_refl _));simp at this h2;have:=AX.o;simp;omega
    obtain⟨c,fV⟩:=R4.o _ hxm;have Df:Kp (·=bb) w2 W₂:=(e3.alloc _).own lK (fun k hk=>by omega);have Vf:aF W₂ l p:=zA.o.kp Df (fun k hk e=>by omega);obtain⟨cs,bO,ng⟩:=qR _ l p Vf x.2.keeper x.2.name c fV;obtain⟨a1,c1,a2,c2,rfl⟩:=bO.form;obtain⟨vf',vm',Yg,sf, -⟩:=bO;simp only[List.cons.injEq,and_true,true_and]at Yg;obtain⟨rfl,rfl⟩:=Yg;have ym:∀W,(Instr.field 58 (.agg #[.string c.name,.string c.aQ,.slice a1 c.fields.length c1,.slice a2 c.methods.length c2]) 2).run Tryz.prog W=.ok (.slice a1 c.fields.length c1) W:=(fun W=>by kernel_rfl);have cb:=(aC.new W 40 #[.int .i64 x.2.keeper,.string x.2.name]).kp lK (by omega);have u0:=cb.c 0 (.int .i64 x.2.keeper) rfl;have u1:=cb.c 1 (.string x.2.name) rfl;have uz:=cb.lt;have t2:=(B2.o.1.kp Df (by omega)).c 0 (.pointer (some ⟨l.L,0,none⟩)) rfl;have tz:=aG t2;have g1:=(e1.ext ((Kp.refl _ W).alloc _)).kp lK (by omega);have g2:=aD (aD (D:=fun _=>False) e2 ((Kp.refl _ W).alloc (.cells #[.int .i64 x.2.keeper,.string x.2.name] 40)) (fun _ _ _ h=>h)) lK (fun g _ hg=>by omega);have HG:=Ys (And.intro g1 (And.intro g2 Df));have VI:=Ys sf;have Q4:=Ys ng;have HLW:=Ys Vf;have HF3:=Ys (tO Vf.ok fV);have pQ:=Ys fV;have hzz:w2.heap.size+3≤W₂.heap.size:=by omega
    have WS:¬v'.ownBlock=some W.heap.size:=fun e=>by have:=(e2.lt _ e).2;omega
    have hvB:∀q,v'.ownBlock=some q→w2.heap.size+3≤q:=fun q hq=>(e2.lt _ hq).1;obtain⟨T,f,dB,HT⟩:=iq.ex (fun W'=>Kp (fun k=>k=bb∨v'.ownBlock=some k) W₂ W') _ (Kp.refl _ _);have r2:=fun s=>((B2.o.1.kp Df (by omega)).kp (HT.aJ s) (by intro h;rcases h with h|h;(· omega);(· have:=hvB _ h;omega))).c 0 (.pointer (some ⟨l.L,0,none⟩)) rfl;have r7:=fun s=>(cb.kp (HT.aJ s) (by intro h;rcases h with h|h;(· omega);(· exact WS h))).c 0 (.int .i64 x.2.keeper) rfl;have r8:=fun s=>(cb.kp (HT.aJ s) (by intro h;rcases h with h|h;(· omega);(· exact WS h))).c 1 (.string x.2.name) rfl;have aj:=Ys HT;have HVB:=Ys hvB;clear e1 e2 e3 cb g1 g2 Df sf ng Vf fV lK uh bb2 t2 u0 u1 HT hvB WS;gi_wp2_with fail;(refine UF aj 6 [([0,1,2],3),([4],5)] [] ?_ (fun _=>trivial) ?_)
    · exact(Kp.refl _ _).drew
    (refine TU [_,_,_] rfl rfl fun K hK=>?_);(repeat (go_big_quiet_step (fail)));(refine qn hK fun K2 af=>?_);clear hK K;gi_wp2_with fail;refine⟨trivial,?_⟩;refine(CallsIn.inRound _ (callsIn_wide.2 (Q4.o _ ((Kp.refl _ _).drew)))).mono ?_;rintro e w4 ⟨rfl,dA⟩;have mZ:∀D:Nat→Prop,Kp D W₂ w4:=fun D=>(((Kp.refl _ W₂).drew:Ext W₂ _).trans dA).any;gi_wp2_with fail;(refine kk aj af (mZ _) ?_);clear af K2;(refine TU [_] rfl rfl fun K hK=>?_);(repeat (go_big_quiet_step (fail)));(refine qn hK fun K2 af=>?_);clear hK K;gi_wp2_with fail;refine⟨trivial,?_⟩;have Wz:Ext W₂ w4:=mZ _;refine(CallsIn.inRound _ (callsIn_wide.2 (KE w4 bb (w2.heap.size+3) v' _ x.2 (· <l.O) _ c.fields (HG.o.1.ext Wz) (aD (D:=fun _=>False) HG.o.2.1 Wz fun _ _ _ x=>x) (SliceOf.ext VI.o eO.stays Wz) (fun b hb=>by omega) (by have:=Wz.size;omega) ?hl (fun e=>by have:=HVB.o _ e;omega)))).mono ?_
    case hl=>
     have h1:=HF3.o;have h2:=mH HLW.o.ok (pre.map Prod.snd);omega
    rintro e w5 ⟨rfl,v5,ED,Te,hn5,gD⟩;have zl:=Ys (And.intro ED (And.intro Te (And.intro hn5 gD)));have aad:Kp (fun k=>k=bb∨v'.ownBlock=some k) W₂ w5:=(mZ _).trans gD;clear ED Te hn5 gD dA mZ;gi_wp2_with fail;(refine kk aj af aad ?_);clear af K2;(refine TV ?_);gi_wp2_with fail;have uO:M.cls p x.2=c:=by unfold M.cls;rw[pQ.o];rfl
    refine⟨aad.weak ?_,v5,zl.o.1,?_,(HG.o.2.2.mix aad ?_)⟩
    · intro k hk h;rcases h with h|h
      · exact .inl h
      · exact .inr (HVB.o _ h)
    · rw[List.map_append,List.map_cons,List.map_nil,G8,uO,M.nU];exact zl.o.2.1
    · intro k hk h;rcases h with h|h
      · exact h
      · have:=HVB.o _ h;omega
   case hdone=>
    rintro ys W rfl ⟨v',e1,e2,e3⟩ hK;obtain⟨va,vc,rfl⟩:=bV e2;have k0:=e1.c 0 _ rfl;have HE:=Ys (And.intro e1 (And.intro e2 e3));clear e1 e2 e3 bb2;simp only[Exit.inBlock,Exit.then];gi_wp2;obtain⟨e1,e2,e3⟩:=HE.o;refine⟨by simp,.inl ⟨_,_,rfl,run_takeDeferred hK,?_⟩⟩;have tZ:=Kp.putObj W (w2.alloc (.cells #[.slice a xs.length cap] 151)).heap.size (.deferred none);have uh:(w2.alloc (.cells #[.slice a xs.length cap] 151)).heap.size=w2.heap.size+1:=by simp
    refine⟨.slice va (M.eF p ((backTo xs xs.length).map Prod.snd) []).length vc,by simp[results,Tryz.f73,go_sem],⟨_,rfl,?_⟩,?_,?_⟩
    · have Dh:(backTo xs xs.length).map Prod.snd=xs.reverse:=by rw[kC _ _ (Nat.le_refl _),List.take_length]
      rw[HV.o,←Dh];have h1:=mH zA.o.ok ((backTo xs xs.length).map Prod.snd);have h2:((backTo xs xs.length).map Prod.snd).length=xs.length:=by rw[Dh,List.length_reverse]
      have h3:=AX.o;exact SliceOf.iy (base:=w2.heap.size+3) jB (aD e2 tZ (fun g _ hg=>by omega)) rfl rfl (fun _ _=>rfl) (fun _ _=>rfl) (fun b h h'=>by show w.heap.size≤b;omega) (by omega)
    · exact(zA.o.kp e3 (fun k hk e=>by omega)).kp tZ (fun k hk e=>by omega)
    · exact((zy.o.own e3 (fun k hk=>by omega))).own tZ (fun k hk=>by omega)
   case hstop=>exact fun _ _ _ _ h=>h.elim
end Go.Proofs.YtcepdbbapgfcdaaGreat
