/-
  No cell of these rows narrows 'for every input' (looked for: loops, veiled, ifaces, maps, wideKeys, modest, calm, conditions, laid).
  DERIVED. THE GIVEN ROWS OF THIS SEAT. 6 by the template 'for every input the law returns true; each argument reads behind the call as it read before'; 0 by the template 'total and deterministic' (their statements: YtcepdbbapgfcdaaGreatTotals.lean).
  GIVEN WITH THE SEED: the statements are not yours to turn. If you find one false, say at which input.
  Laid BY PROGRAM, IN A SANDBOX (cutbox-rows.mjs): the forced cells as the released guide's own fill.sh prints them over the translation ae1c30d7640f0334… (all of the seat's roots in one cut). By AI agents, Wed Nov 11 2026. No macro, syntax, notation, axiom, sorry.
-/
import Derived.Test.YtcepdbbapgfcdaaGreatChecked
import GoSem.Claim
import GoSem.ClaimJoined
import GoSem.ClaimMapViews
import Derived.JoinedTies
import Derived.KernelRfl
namespace Go.Proofs.YtcepdbbapgfcdaaGreat
/- THE CELL 'sum', in the pinned program and in every row, IS THE sha256 OF THE DUMP (.gsa) THAT YtcepdbbapgfcdaaGreatProg.lean LOADS. Nothing in Lean hashes anything: it is a label: what it is worth is what the hold of that sum in a sandbox is worth. -/
noncomputable def Tryz.pinned : Pinned := { name := "ytcepdbbapgfcdaagreat", sum := "ae1c30d7640f03340583e0b6a02936dfcbf58c065e523e8236e19d6fedcd4ecf", checked := Tryz.checked }
namespace Rows
def none {H : Type} : Left H := { results := [], args := [] }

/-- 'laws.FnVmBounds': WHATEVER THE INPUT: true; the input reads as it did. -/
def fnVmBoundsSpec : ChangeSpec := { name := "fnVmBounds", fn := fun _ => fun
  | [d] => { results := [.lit (.bool true)], args := [d] }
  | _ => none }
def fnVmBoundsRow : OpenClaim := { program := "ytcepdbbapgfcdaagreat", sum := "ae1c30d7640f03340583e0b6a02936dfcbf58c065e523e8236e19d6fedcd4ecf", func := "loop.example/lodgekeeper/laws.FnVmBounds", spec := "fnVmBounds", unfollowed := true, recurses := true, plainKeys := false, apart := false }
def FnVmBoundsSaid : Prop := fnVmBoundsRow.holds Tryz.pinned (OpenSpec.ofChange fnVmBoundsSpec)

/-- ITS FALSE NEIGHBOUR: 'it returns false'. Refute it at one input. -/
def fnVmBoundsWrong : ChangeSpec := { name := "fnVmBounds", fn := fun _ => fun
  | [d] => { results := [.lit (.bool false)], args := [d] }
  | _ => none }
def FnVmBoundsWrongFalsely : Prop := fnVmBoundsRow.holds Tryz.pinned (OpenSpec.ofChange fnVmBoundsWrong)

/-- 'laws.FnVmEnds': WHATEVER THE INPUT: true; the input reads as it did. -/
def fnVmEndsSpec : ChangeSpec := { name := "fnVmEnds", fn := fun _ => fun
  | [d] => { results := [.lit (.bool true)], args := [d] }
  | _ => none }
def fnVmEndsRow : OpenClaim := { program := "ytcepdbbapgfcdaagreat", sum := "ae1c30d7640f03340583e0b6a02936dfcbf58c065e523e8236e19d6fedcd4ecf", func := "loop.example/lodgekeeper/laws.FnVmEnds", spec := "fnVmEnds", unfollowed := true, recurses := true, plainKeys := false, apart := false }
def FnVmEndsSaid : Prop := fnVmEndsRow.holds Tryz.pinned (OpenSpec.ofChange fnVmEndsSpec)

/-- ITS FALSE NEIGHBOUR: 'it returns false'. Refute it at one input. -/
def fnVmEndsWrong : ChangeSpec := { name := "fnVmEnds", fn := fun _ => fun
  | [d] => { results := [.lit (.bool false)], args := [d] }
  | _ => none }
def FnVmEndsWrongFalsely : Prop := fnVmEndsRow.holds Tryz.pinned (OpenSpec.ofChange fnVmEndsWrong)

/-- 'laws.FnVmGrows': WHATEVER THE INPUT: true; the input reads as it did. -/
def fnVmGrowsSpec : ChangeSpec := { name := "fnVmGrows", fn := fun _ => fun
  | [d] => { results := [.lit (.bool true)], args := [d] }
  | _ => none }
def fnVmGrowsRow : OpenClaim := { program := "ytcepdbbapgfcdaagreat", sum := "ae1c30d7640f03340583e0b6a02936dfcbf58c065e523e8236e19d6fedcd4ecf", func := "loop.example/lodgekeeper/laws.FnVmGrows", spec := "fnVmGrows", unfollowed := true, recurses := true, plainKeys := false, apart := false }
def FnVmGrowsSaid : Prop := fnVmGrowsRow.holds Tryz.pinned (OpenSpec.ofChange fnVmGrowsSpec)

/-- ITS FALSE NEIGHBOUR: 'it returns false'. Refute it at one input. -/
def fnVmGrowsWrong : ChangeSpec := { name := "fnVmGrows", fn := fun _ => fun
  | [d] => { results := [.lit (.bool false)], args := [d] }
  | _ => none }
def FnVmGrowsWrongFalsely : Prop := fnVmGrowsRow.holds Tryz.pinned (OpenSpec.ofChange fnVmGrowsWrong)

/-- 'laws.FnVmOne': WHATEVER THE INPUT: true; the input reads as it did. -/
def fnVmOneSpec : ChangeSpec := { name := "fnVmOne", fn := fun _ => fun
  | [d] => { results := [.lit (.bool true)], args := [d] }
  | _ => none }
def fnVmOneRow : OpenClaim := { program := "ytcepdbbapgfcdaagreat", sum := "ae1c30d7640f03340583e0b6a02936dfcbf58c065e523e8236e19d6fedcd4ecf", func := "loop.example/lodgekeeper/laws.FnVmOne", spec := "fnVmOne", unfollowed := true, recurses := true, plainKeys := false, apart := false }
def FnVmOneSaid : Prop := fnVmOneRow.holds Tryz.pinned (OpenSpec.ofChange fnVmOneSpec)

/-- ITS FALSE NEIGHBOUR: 'it returns false'. Refute it at one input. -/
def fnVmOneWrong : ChangeSpec := { name := "fnVmOne", fn := fun _ => fun
  | [d] => { results := [.lit (.bool false)], args := [d] }
  | _ => none }
def FnVmOneWrongFalsely : Prop := fnVmOneRow.holds Tryz.pinned (OpenSpec.ofChange fnVmOneWrong)

/-- 'laws.FnVmBack': WHATEVER THE INPUT: true; the input reads as it did. -/
def fnVmBackSpec : ChangeSpec := { name := "fnVmBack", fn := fun _ => fun
  | [d] => { results := [.lit (.bool true)], args := [d] }
  | _ => none }
def fnVmBackRow : OpenClaim := { program := "ytcepdbbapgfcdaagreat", sum := "ae1c30d7640f03340583e0b6a02936dfcbf58c065e523e8236e19d6fedcd4ecf", func := "loop.example/lodgekeeper/laws.FnVmBack", spec := "fnVmBack", unfollowed := true, recurses := true, plainKeys := false, apart := false }
def FnVmBackSaid : Prop := fnVmBackRow.holds Tryz.pinned (OpenSpec.ofChange fnVmBackSpec)

/-- ITS FALSE NEIGHBOUR: 'it returns false'. Refute it at one input. -/
def fnVmBackWrong : ChangeSpec := { name := "fnVmBack", fn := fun _ => fun
  | [d] => { results := [.lit (.bool false)], args := [d] }
  | _ => none }
def FnVmBackWrongFalsely : Prop := fnVmBackRow.holds Tryz.pinned (OpenSpec.ofChange fnVmBackWrong)

/-- 'laws.FnVmLook': WHATEVER THE INPUT: true; the input reads as it did. -/
def fnVmLookSpec : ChangeSpec := { name := "fnVmLook", fn := fun _ => fun
  | [d] => { results := [.lit (.bool true)], args := [d] }
  | _ => none }
def fnVmLookRow : OpenClaim := { program := "ytcepdbbapgfcdaagreat", sum := "ae1c30d7640f03340583e0b6a02936dfcbf58c065e523e8236e19d6fedcd4ecf", func := "loop.example/lodgekeeper/laws.FnVmLook", spec := "fnVmLook", unfollowed := true, recurses := true, plainKeys := false, apart := false }
def FnVmLookSaid : Prop := fnVmLookRow.holds Tryz.pinned (OpenSpec.ofChange fnVmLookSpec)

/-- ITS FALSE NEIGHBOUR: 'it returns false'. Refute it at one input. -/
def fnVmLookWrong : ChangeSpec := { name := "fnVmLook", fn := fun _ => fun
  | [d] => { results := [.lit (.bool false)], args := [d] }
  | _ => none }
def FnVmLookWrongFalsely : Prop := fnVmLookRow.holds Tryz.pinned (OpenSpec.ofChange fnVmLookWrong)

/- THE SECOND FORM. 'bulk': how many values and letters a reading holds, each counted each time it is reached (what is shared counts as often as it is met; a slice's spare places count too). A statement '..UptoSaid' is the law's where the arguments, and the package variables that the reading takes, are together of bulk at most 1048576: NARROWER than '..Said'. Prove '..Said' where nothing that the law and all that it calls make is longer than what came in: it says more and counts as full. Else prove '..UptoSaid'. A law counts once. -/
mutual
def uptoBulk {H : Type} : DataW H → Nat
  | .lit (.string bytes) => bytes.length + 1
  | .lit _ => 1
  | .nil => 1
  | .ptr d => uptoBulk d + 1
  | .slice elems spare => uptoBulkAll elems + uptoBulkAll spare + 1
  | .agg parts => uptoBulkAll parts + 1
  | .iface _ d => uptoBulk d + 1
  | .map entries => uptoBulkEntries entries + 1
  | .held _ => 1
def uptoBulkAll {H : Type} : List (DataW H) → Nat
  | [] => 0
  | d :: r => uptoBulk d + uptoBulkAll r
def uptoBulkEntries {H : Type} : List (Lit × DataW H) → Nat
  | [] => 0
  | x :: r => uptoBulkEntry x + uptoBulkEntries r
def uptoBulkEntry {H : Type} : Lit × DataW H → Nat
  | (.string bytes, d) => bytes.length + uptoBulk d + 1
  | (_, d) => uptoBulk d + 1
 end
def uptoSmall : (H : Type) → List (DataW H) → Bool := fun _ ds => decide (uptoBulkAll ds ≤ 1048576)
def OpenSpec.upto (s : _root_.Go.ChangeSpec) : _root_.Go.OpenSpec := { _root_.Go.OpenSpec.ofChange s with cond := some uptoSmall }

/-- 'laws.FnVmBounds', WHERE WHAT IT READS IS OF BULK AT MOST 1048576: true; the input reads as it did. -/
def fnVmBoundsUptoRow : OpenClaim := { program := "ytcepdbbapgfcdaagreat", sum := "ae1c30d7640f03340583e0b6a02936dfcbf58c065e523e8236e19d6fedcd4ecf", func := "loop.example/lodgekeeper/laws.FnVmBounds", spec := "fnVmBounds", unfollowed := true, recurses := true, plainKeys := false, apart := false, narrowed := true }
def FnVmBoundsUptoSaid : Prop := fnVmBoundsUptoRow.holds Tryz.pinned (OpenSpec.upto fnVmBoundsSpec)

/-- 'laws.FnVmEnds', WHERE WHAT IT READS IS OF BULK AT MOST 1048576: true; the input reads as it did. -/
def fnVmEndsUptoRow : OpenClaim := { program := "ytcepdbbapgfcdaagreat", sum := "ae1c30d7640f03340583e0b6a02936dfcbf58c065e523e8236e19d6fedcd4ecf", func := "loop.example/lodgekeeper/laws.FnVmEnds", spec := "fnVmEnds", unfollowed := true, recurses := true, plainKeys := false, apart := false, narrowed := true }
def FnVmEndsUptoSaid : Prop := fnVmEndsUptoRow.holds Tryz.pinned (OpenSpec.upto fnVmEndsSpec)

/-- 'laws.FnVmGrows', WHERE WHAT IT READS IS OF BULK AT MOST 1048576: true; the input reads as it did. -/
def fnVmGrowsUptoRow : OpenClaim := { program := "ytcepdbbapgfcdaagreat", sum := "ae1c30d7640f03340583e0b6a02936dfcbf58c065e523e8236e19d6fedcd4ecf", func := "loop.example/lodgekeeper/laws.FnVmGrows", spec := "fnVmGrows", unfollowed := true, recurses := true, plainKeys := false, apart := false, narrowed := true }
def FnVmGrowsUptoSaid : Prop := fnVmGrowsUptoRow.holds Tryz.pinned (OpenSpec.upto fnVmGrowsSpec)

/-- 'laws.FnVmOne', WHERE WHAT IT READS IS OF BULK AT MOST 1048576: true; the input reads as it did. -/
def fnVmOneUptoRow : OpenClaim := { program := "ytcepdbbapgfcdaagreat", sum := "ae1c30d7640f03340583e0b6a02936dfcbf58c065e523e8236e19d6fedcd4ecf", func := "loop.example/lodgekeeper/laws.FnVmOne", spec := "fnVmOne", unfollowed := true, recurses := true, plainKeys := false, apart := false, narrowed := true }
def FnVmOneUptoSaid : Prop := fnVmOneUptoRow.holds Tryz.pinned (OpenSpec.upto fnVmOneSpec)

/-- 'laws.FnVmBack', WHERE WHAT IT READS IS OF BULK AT MOST 1048576: true; the input reads as it did. -/
def fnVmBackUptoRow : OpenClaim := { program := "ytcepdbbapgfcdaagreat", sum := "ae1c30d7640f03340583e0b6a02936dfcbf58c065e523e8236e19d6fedcd4ecf", func := "loop.example/lodgekeeper/laws.FnVmBack", spec := "fnVmBack", unfollowed := true, recurses := true, plainKeys := false, apart := false, narrowed := true }
def FnVmBackUptoSaid : Prop := fnVmBackUptoRow.holds Tryz.pinned (OpenSpec.upto fnVmBackSpec)

/-- 'laws.FnVmLook', WHERE WHAT IT READS IS OF BULK AT MOST 1048576: true; the input reads as it did. -/
def fnVmLookUptoRow : OpenClaim := { program := "ytcepdbbapgfcdaagreat", sum := "ae1c30d7640f03340583e0b6a02936dfcbf58c065e523e8236e19d6fedcd4ecf", func := "loop.example/lodgekeeper/laws.FnVmLook", spec := "fnVmLook", unfollowed := true, recurses := true, plainKeys := false, apart := false, narrowed := true }
def FnVmLookUptoSaid : Prop := fnVmLookUptoRow.holds Tryz.pinned (OpenSpec.upto fnVmLookSpec)

end Rows
end Go.Proofs.YtcepdbbapgfcdaaGreat
