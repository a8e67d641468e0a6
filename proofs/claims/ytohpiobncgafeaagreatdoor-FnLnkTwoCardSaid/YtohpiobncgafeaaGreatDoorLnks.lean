/- FnLnkTwo: for every input the program returns true, and the input reads as it did; the tied card. The listed variable of Go's library holds what its initialiser lays. No other condition. -/
import Derived.Test.YtohpiobncgafeaaGreatDoorCards
import Derived.Test.YtohpiobncgafeaaGreatDoorTie
import Derived.Test.YtohpiobncgafeaaGreatDoorLnkr
import Derived.ChangeSame
import Derived.ChangeVars
import Derived.JoinedOf
import Derived.LaidLaws
import Derived.LaidHandle
import Derived.Stop.Joined
import Derived.Handed
import Derived.SevenTiedAt
set_option maxRecDepth 100000
set_option maxHeartbeats 4000000
set_option linter.unusedSimpArgs false
set_option linter.unusedVariables false
namespace Go.Proofs.YtohpiobncgafeaaGreatDoor
open Go Go.ChangeShapes Go.WideShapes Go.ChangeAt Go.RowKit
theorem Tryz.et:Tryz.prog.globalNamed "errors.errorType" =some 0:=by kernel_rfl
theorem Tryz.rt:(Tryz.prog.cutTypes.find? (·.1== "internal/reflectlite.rtype")).map (·.2)=some 199:=by kernel_rfl
theorem Tryz.VA:((List.range Tryz.prog.types.size).filter fun t=>Tryz.prog.rowNamed t [101,114,114,111,114])=[76]:=by kernel_rfl
theorem Gs{W:World}(h:laidMetH Tryz.prog Rows.fnLnkTwoRow.laid W):Af W:=by
 have h':laidMet Tryz.prog [] W∧handlesMet Tryz.prog Rows.fnLnkTwoRow.laid W:=h;obtain⟨name,u,ty,e1,e2,e3,e4,e5⟩:=h'.2 _ (List.mem_singleton.2 rfl);have en:name=[101,114,114,111,114]:=(Option.some.inj e1).symm;subst en;obtain rfl:=Option.some.inj (Tryz.rt.symm.trans e2);have hm:ty∈(List.range Tryz.prog.types.size).filter fun t=>Tryz.prog.rowNamed t [101,114,114,111,114]:=List.mem_filter.2 ⟨List.mem_range.2 e3,e4⟩;rw[Tryz.VA]at hm;obtain rfl:=List.mem_singleton.1 hm;have hh:typeHandle Tryz.prog 76=.pointer (some ⟨1,76,none⟩):=by kernel_rfl
 rw[hh]at e5;simpa [Af]using World.var?_cell Tryz.et e5 0
theorem wV(os:Os)(started:os.Started)(H:Type)(enc:TypeId×Value→H):
    ReturnsInHanded {} Tryz.checked os 3 .any (fun w args=>(Rows.fnLnkTwoSpec.pre enc Tryz.prog Tryz.f3 [] false w args∧laidMetH Tryz.prog Rows.fnLnkTwoRow.laid w)∧sizedMet enc Tryz.prog Tryz.f3 (OpenSpec.ofChange Rows.fnLnkTwoSpec) false w args)
     (Rows.fnLnkTwoSpec.post enc Tryz.prog Tryz.f3 false true false false):=by
 refine returnsInHanded_of_change_and (C:=Tryz.checked) (X:=fun w _=>laidMetH Tryz.prog Rows.fnLnkTwoRow.laid w) (fun _ _ _ hh h=>h.of_heap hh) Tryz.own started (by kernel_rfl) Tryz.func3
  (ChangeSpec.witness_at (enc:=enc) (C:=Tryz.checked) (os:=os) (X:=fun w _=>laidMetH Tryz.prog Rows.fnLnkTwoRow.laid w) false
   ({World.holding Tryz.prog os ⟨#[],#[],[]⟩with heap:=(World.holding Tryz.prog os ⟨#[],#[],[]⟩).heap.modify 0 fun
    | .cells _ t frozen=>.cells #[.iface 199 (.agg #[.pointer (some ⟨1,76,none⟩)])] t frozen
    |o=>o}:World) #[.slice none 0 0] 8 rfl (by kernel_rfl) (by kernel_rfl) (by kernel_rfl) (by kernel_rfl) (by kernel_rfl) (laidMetH_of_parts (laidMet_nil _ _) (by kernel_rfl))) ?_
 intro W base args ds gs before Z9 hW _ _ hL _;have Z8:∀(j:Nat) t v,Tryz.f3.params[j]?=some t→args[j]?=some v→Value.okWide Tryz.prog W .any base t v:=Z9;have hW':=hW;obtain⟨p,q,hA0,hV,rfl,hfz,Bq⟩:=hW;have hA:DataW.TrodAll enc Tryz.prog W 0 (fun _=>true) true Tryz.f3.params.toList args.toList ds p:=hA0;rw[Tryz.params3]at hA Z8;obtain⟨v0,d0,rfl,rfl,h0⟩:=trodAll_one hA;obtain⟨rfl,rfl⟩:=trodVars_none hV;simp only[List.append_nil]at hW';obtain⟨zs,hb⟩:=bytes_at (okWide_slice Tryz.underlying22 (Z8 0 22 v0 rfl rfl)) h0;refine(QI W v0 zs hb (Gs hL)).mono fun e W' ⟨he,hE⟩=>?_;subst he;exact⟨_,rfl,Np (fn:=Tryz.f3) Tryz.params3 rfl rfl rfl hW' h0 hE⟩
theorem Cn:Rows.FnLnkTwoSaid:=
 OpenClaim.holds_of_wide 3 Tryz.f3 rfl rfl rfl rfl rfl rfl rfl ⟨rfl,rfl,rfl,rfl,rfl⟩ rfl rfl rfl rfl rfl (by kernel_rfl) Tryz.func3 (by kernel_rfl)
  (of_decide_eq_true (by kernel_rfl)) (by unfold Func.isWrapper;rw[if_neg (by decide+kernel)];exact⟨rfl,rfl⟩)
  (fun os started H enc _=>wV os started H enc)
theorem fnLnkTwo_holds:Rows.FnLnkTwoCardSaid:=
 Claim7.holds_tied_plain_at .later [] [.handle] true (true, "4c97b8bc33860802d26e721479b15c8ac6de1576eb0c1897acad989047e56365") true
  Cn (fun _ h=>by cases h) (by kernel_rfl) (fun _ h=>by cases h) fnLnkTwo_row_tie rfl ⟨rfl,rfl⟩ (by kernel_rfl) rfl
  (fun f fn hf FE=>by
   obtain rfl:f=3:=Option.some.inj ((show Tryz.prog.funcNamed "loop.example/lodgekeeper/laws.FnLnkTwo" =some 3 by kernel_rfl).symm.trans hf)|>.symm;obtain rfl:fn=Tryz.f3:=(Option.some.inj (Tryz.func3.symm.trans FE)).symm;exact⟨by kernel_rfl,fun j t ht=>by
    rw[Tryz.params3]at ht;have hm:t∈[22]:=by simpa using Array.mem_of_getElem? ht
    have oq:([22].all fun u=> !Tryz.prog.wantsStandIn u)=true:=by kernel_rfl
    exact(show Tryz.prog.wantsStandIn t=false by simpa using List.all_eq_true.1 oq t hm)⟩)
  (by kernel_rfl)
#print axioms fnLnkTwo_holds
end Go.Proofs.YtohpiobncgafeaaGreatDoor
