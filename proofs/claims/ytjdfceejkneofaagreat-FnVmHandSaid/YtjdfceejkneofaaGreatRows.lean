/-
  No cell of these rows narrows 'for every input' (looked for: loops, veiled, ifaces, maps, wideKeys, modest, calm, conditions, laid).
  DERIVED. THE GIVEN ROWS OF THIS SEAT. 8 by the template 'for every input the law returns true; each argument reads behind the call as it read before'; 0 by the template 'total and deterministic' (their statements: YtjdfceejkneofaaGreatTotals.lean).
  GIVEN WITH THE SEED: the statements are not yours to turn. If you find one false, say at which input.
  Laid BY PROGRAM, IN A SANDBOX (cutbox-rows.mjs): the forced cells as the released guide's own fill.sh prints them over the translation b2a82e6196d59019… (all of the seat's roots in one cut). By AI agents, Wed Nov 11 2026. No macro, syntax, notation, axiom, sorry.
-/
import Derived.Test.YtjdfceejkneofaaGreatChecked
import GoSem.Claim
import GoSem.ClaimJoined
import GoSem.ClaimMapViews
import Derived.JoinedTies
import Derived.KernelRfl
namespace Go.Proofs.YtjdfceejkneofaaGreat
/- THE CELL 'sum', in the pinned program and in every row, IS THE sha256 OF THE DUMP (.gsa) THAT YtjdfceejkneofaaGreatProg.lean LOADS. Nothing in Lean hashes anything: it is a label: what it is worth is what the hold of that sum in a sandbox is worth. -/
noncomputable def Tryz.pinned : Pinned := { name := "ytjdfceejkneofaagreat", sum := "b2a82e6196d590198e9d212b14def731d0042efcb3f115254460ce2443a9a723", checked := Tryz.checked }
namespace Rows
def none {H : Type} : Left H := { results := [], args := [] }

/-- 'laws.FnVmDeep': WHATEVER THE INPUT: true; the input reads as it did. -/
def fnVmDeepSpec : ChangeSpec := { name := "fnVmDeep", fn := fun _ => fun
  | [d] => { results := [.lit (.bool true)], args := [d] }
  | _ => none }
def fnVmDeepRow : OpenClaim := { program := "ytjdfceejkneofaagreat", sum := "b2a82e6196d590198e9d212b14def731d0042efcb3f115254460ce2443a9a723", func := "loop.example/lodgekeeper/laws.FnVmDeep", spec := "fnVmDeep", unfollowed := true, recurses := true, plainKeys := false, apart := false }
def FnVmDeepSaid : Prop := fnVmDeepRow.holds Tryz.pinned (OpenSpec.ofChange fnVmDeepSpec)

/-- ITS FALSE NEIGHBOUR: 'it returns false'. Refute it at one input. -/
def fnVmDeepWrong : ChangeSpec := { name := "fnVmDeep", fn := fun _ => fun
  | [d] => { results := [.lit (.bool false)], args := [d] }
  | _ => none }
def FnVmDeepWrongFalsely : Prop := fnVmDeepRow.holds Tryz.pinned (OpenSpec.ofChange fnVmDeepWrong)

/-- 'laws.FnVmCast': WHATEVER THE INPUT: true; the input reads as it did. -/
def fnVmCastSpec : ChangeSpec := { name := "fnVmCast", fn := fun _ => fun
  | [d] => { results := [.lit (.bool true)], args := [d] }
  | _ => none }
def fnVmCastRow : OpenClaim := { program := "ytjdfceejkneofaagreat", sum := "b2a82e6196d590198e9d212b14def731d0042efcb3f115254460ce2443a9a723", func := "loop.example/lodgekeeper/laws.FnVmCast", spec := "fnVmCast", unfollowed := true, recurses := true, plainKeys := false, apart := false }
def FnVmCastSaid : Prop := fnVmCastRow.holds Tryz.pinned (OpenSpec.ofChange fnVmCastSpec)

/-- ITS FALSE NEIGHBOUR: 'it returns false'. Refute it at one input. -/
def fnVmCastWrong : ChangeSpec := { name := "fnVmCast", fn := fun _ => fun
  | [d] => { results := [.lit (.bool false)], args := [d] }
  | _ => none }
def FnVmCastWrongFalsely : Prop := fnVmCastRow.holds Tryz.pinned (OpenSpec.ofChange fnVmCastWrong)

/-- 'laws.FnVmOut': WHATEVER THE INPUT: true; the input reads as it did. -/
def fnVmOutSpec : ChangeSpec := { name := "fnVmOut", fn := fun _ => fun
  | [d] => { results := [.lit (.bool true)], args := [d] }
  | _ => none }
def fnVmOutRow : OpenClaim := { program := "ytjdfceejkneofaagreat", sum := "b2a82e6196d590198e9d212b14def731d0042efcb3f115254460ce2443a9a723", func := "loop.example/lodgekeeper/laws.FnVmOut", spec := "fnVmOut", unfollowed := true, recurses := true, plainKeys := false, apart := false }
def FnVmOutSaid : Prop := fnVmOutRow.holds Tryz.pinned (OpenSpec.ofChange fnVmOutSpec)

/-- ITS FALSE NEIGHBOUR: 'it returns false'. Refute it at one input. -/
def fnVmOutWrong : ChangeSpec := { name := "fnVmOut", fn := fun _ => fun
  | [d] => { results := [.lit (.bool false)], args := [d] }
  | _ => none }
def FnVmOutWrongFalsely : Prop := fnVmOutRow.holds Tryz.pinned (OpenSpec.ofChange fnVmOutWrong)

/-- 'laws.FnVmTwo': WHATEVER THE INPUT: true; the input reads as it did. -/
def fnVmTwoSpec : ChangeSpec := { name := "fnVmTwo", fn := fun _ => fun
  | [d] => { results := [.lit (.bool true)], args := [d] }
  | _ => none }
def fnVmTwoRow : OpenClaim := { program := "ytjdfceejkneofaagreat", sum := "b2a82e6196d590198e9d212b14def731d0042efcb3f115254460ce2443a9a723", func := "loop.example/lodgekeeper/laws.FnVmTwo", spec := "fnVmTwo", unfollowed := true, recurses := true, plainKeys := false, apart := false }
def FnVmTwoSaid : Prop := fnVmTwoRow.holds Tryz.pinned (OpenSpec.ofChange fnVmTwoSpec)

/-- ITS FALSE NEIGHBOUR: 'it returns false'. Refute it at one input. -/
def fnVmTwoWrong : ChangeSpec := { name := "fnVmTwo", fn := fun _ => fun
  | [d] => { results := [.lit (.bool false)], args := [d] }
  | _ => none }
def FnVmTwoWrongFalsely : Prop := fnVmTwoRow.holds Tryz.pinned (OpenSpec.ofChange fnVmTwoWrong)

/-- 'laws.FnVmSum': WHATEVER THE INPUT: true; the input reads as it did. -/
def fnVmSumSpec : ChangeSpec := { name := "fnVmSum", fn := fun _ => fun
  | [d] => { results := [.lit (.bool true)], args := [d] }
  | _ => none }
def fnVmSumRow : OpenClaim := { program := "ytjdfceejkneofaagreat", sum := "b2a82e6196d590198e9d212b14def731d0042efcb3f115254460ce2443a9a723", func := "loop.example/lodgekeeper/laws.FnVmSum", spec := "fnVmSum", unfollowed := true, recurses := true, plainKeys := false, apart := false }
def FnVmSumSaid : Prop := fnVmSumRow.holds Tryz.pinned (OpenSpec.ofChange fnVmSumSpec)

/-- ITS FALSE NEIGHBOUR: 'it returns false'. Refute it at one input. -/
def fnVmSumWrong : ChangeSpec := { name := "fnVmSum", fn := fun _ => fun
  | [d] => { results := [.lit (.bool false)], args := [d] }
  | _ => none }
def FnVmSumWrongFalsely : Prop := fnVmSumRow.holds Tryz.pinned (OpenSpec.ofChange fnVmSumWrong)

/-- 'laws.FnVmHand': WHATEVER THE INPUT: true; the input reads as it did. -/
def fnVmHandSpec : ChangeSpec := { name := "fnVmHand", fn := fun _ => fun
  | [d] => { results := [.lit (.bool true)], args := [d] }
  | _ => none }
def fnVmHandRow : OpenClaim := { program := "ytjdfceejkneofaagreat", sum := "b2a82e6196d590198e9d212b14def731d0042efcb3f115254460ce2443a9a723", func := "loop.example/lodgekeeper/laws.FnVmHand", spec := "fnVmHand", unfollowed := true, recurses := true, plainKeys := false, apart := false }
def FnVmHandSaid : Prop := fnVmHandRow.holds Tryz.pinned (OpenSpec.ofChange fnVmHandSpec)

/-- ITS FALSE NEIGHBOUR: 'it returns false'. Refute it at one input. -/
def fnVmHandWrong : ChangeSpec := { name := "fnVmHand", fn := fun _ => fun
  | [d] => { results := [.lit (.bool false)], args := [d] }
  | _ => none }
def FnVmHandWrongFalsely : Prop := fnVmHandRow.holds Tryz.pinned (OpenSpec.ofChange fnVmHandWrong)

/-- 'laws.FnVmField': WHATEVER THE INPUT: true; the input reads as it did. -/
def fnVmFieldSpec : ChangeSpec := { name := "fnVmField", fn := fun _ => fun
  | [d] => { results := [.lit (.bool true)], args := [d] }
  | _ => none }
def fnVmFieldRow : OpenClaim := { program := "ytjdfceejkneofaagreat", sum := "b2a82e6196d590198e9d212b14def731d0042efcb3f115254460ce2443a9a723", func := "loop.example/lodgekeeper/laws.FnVmField", spec := "fnVmField", unfollowed := true, recurses := true, plainKeys := false, apart := false }
def FnVmFieldSaid : Prop := fnVmFieldRow.holds Tryz.pinned (OpenSpec.ofChange fnVmFieldSpec)

/-- ITS FALSE NEIGHBOUR: 'it returns false'. Refute it at one input. -/
def fnVmFieldWrong : ChangeSpec := { name := "fnVmField", fn := fun _ => fun
  | [d] => { results := [.lit (.bool false)], args := [d] }
  | _ => none }
def FnVmFieldWrongFalsely : Prop := fnVmFieldRow.holds Tryz.pinned (OpenSpec.ofChange fnVmFieldWrong)

/-- 'laws.FnVmOver': WHATEVER THE INPUT: true; the input reads as it did. -/
def fnVmOverSpec : ChangeSpec := { name := "fnVmOver", fn := fun _ => fun
  | [d] => { results := [.lit (.bool true)], args := [d] }
  | _ => none }
def fnVmOverRow : OpenClaim := { program := "ytjdfceejkneofaagreat", sum := "b2a82e6196d590198e9d212b14def731d0042efcb3f115254460ce2443a9a723", func := "loop.example/lodgekeeper/laws.FnVmOver", spec := "fnVmOver", unfollowed := true, recurses := true, plainKeys := false, apart := false }
def FnVmOverSaid : Prop := fnVmOverRow.holds Tryz.pinned (OpenSpec.ofChange fnVmOverSpec)

/-- ITS FALSE NEIGHBOUR: 'it returns false'. Refute it at one input. -/
def fnVmOverWrong : ChangeSpec := { name := "fnVmOver", fn := fun _ => fun
  | [d] => { results := [.lit (.bool false)], args := [d] }
  | _ => none }
def FnVmOverWrongFalsely : Prop := fnVmOverRow.holds Tryz.pinned (OpenSpec.ofChange fnVmOverWrong)

/- THE SECOND FORM. 'bulk': how many values and letters a reading holds, each counted each time it is reached (what is shared counts as often as it is met; a slice's spare places count too). A statement '..UptoSaid' is the law's where the arguments, and the package variables that the reading takes, are together of bulk at most 1048576: NARROWER than '..Said'. Prove '..Said' where nothing that the law and all that it calls make is longer than what came in: it says more and counts as full. Else prove '..UptoSaid'. A law counts once. -/
mutual
def uptoBulk {H : Type} : DataW H → Nat
  | .lit (.string bytes) => bytes.length + 1
  | .lit _ => 1
  | .nil => 1
  | .ptr d => uptoBulk d + 1
  | .slice elems spare => uptoBulkAll elems + uptoBulkAll spare + 1
  | .agg parts => uptoBulkAll parts + 1
  | .iface _ d => uptoBulk d + 1
  | .map entries => uptoBulkEntries entries + 1
  | .held _ => 1
def uptoBulkAll {H : Type} : List (DataW H) → Nat
  | [] => 0
  | d :: r => uptoBulk d + uptoBulkAll r
def uptoBulkEntries {H : Type} : List (Lit × DataW H) → Nat
  | [] => 0
  | x :: r => uptoBulkEntry x + uptoBulkEntries r
def uptoBulkEntry {H : Type} : Lit × DataW H → Nat
  | (.string bytes, d) => bytes.length + uptoBulk d + 1
  | (_, d) => uptoBulk d + 1
 end
def uptoSmall : (H : Type) → List (DataW H) → Bool := fun _ ds => decide (uptoBulkAll ds ≤ 1048576)
def OpenSpec.upto (s : _root_.Go.ChangeSpec) : _root_.Go.OpenSpec := { _root_.Go.OpenSpec.ofChange s with cond := some uptoSmall }

/-- 'laws.FnVmDeep', WHERE WHAT IT READS IS OF BULK AT MOST 1048576: true; the input reads as it did. -/
def fnVmDeepUptoRow : OpenClaim := { program := "ytjdfceejkneofaagreat", sum := "b2a82e6196d590198e9d212b14def731d0042efcb3f115254460ce2443a9a723", func := "loop.example/lodgekeeper/laws.FnVmDeep", spec := "fnVmDeep", unfollowed := true, recurses := true, plainKeys := false, apart := false, narrowed := true }
def FnVmDeepUptoSaid : Prop := fnVmDeepUptoRow.holds Tryz.pinned (OpenSpec.upto fnVmDeepSpec)

/-- 'laws.FnVmCast', WHERE WHAT IT READS IS OF BULK AT MOST 1048576: true; the input reads as it did. -/
def fnVmCastUptoRow : OpenClaim := { program := "ytjdfceejkneofaagreat", sum := "b2a82e6196d590198e9d212b14def731d0042efcb3f115254460ce2443a9a723", func := "loop.example/lodgekeeper/laws.FnVmCast", spec := "fnVmCast", unfollowed := true, recurses := true, plainKeys := false, apart := false, narrowed := true }
def FnVmCastUptoSaid : Prop := fnVmCastUptoRow.holds Tryz.pinned (OpenSpec.upto fnVmCastSpec)

/-- 'laws.FnVmOut', WHERE WHAT IT READS IS OF BULK AT MOST 1048576: true; the input reads as it did. -/
def fnVmOutUptoRow : OpenClaim := { program := "ytjdfceejkneofaagreat", sum := "b2a82e6196d590198e9d212b14def731d0042efcb3f115254460ce2443a9a723", func := "loop.example/lodgekeeper/laws.FnVmOut", spec := "fnVmOut", unfollowed := true, recurses := true, plainKeys := false, apart := false, narrowed := true }
def FnVmOutUptoSaid : Prop := fnVmOutUptoRow.holds Tryz.pinned (OpenSpec.upto fnVmOutSpec)

/-- 'laws.FnVmTwo', WHERE WHAT IT READS IS OF BULK AT MOST 1048576: true; the input reads as it did. -/
def fnVmTwoUptoRow : OpenClaim := { program := "ytjdfceejkneofaagreat", sum := "b2a82e6196d590198e9d212b14def731d0042efcb3f115254460ce2443a9a723", func := "loop.example/lodgekeeper/laws.FnVmTwo", spec := "fnVmTwo", unfollowed := true, recurses := true, plainKeys := false, apart := false, narrowed := true }
def FnVmTwoUptoSaid : Prop := fnVmTwoUptoRow.holds Tryz.pinned (OpenSpec.upto fnVmTwoSpec)

/-- 'laws.FnVmSum', WHERE WHAT IT READS IS OF BULK AT MOST 1048576: true; the input reads as it did. -/
def fnVmSumUptoRow : OpenClaim := { program := "ytjdfceejkneofaagreat", sum := "b2a82e6196d590198e9d212b14def731d0042efcb3f115254460ce2443a9a723", func := "loop.example/lodgekeeper/laws.FnVmSum", spec := "fnVmSum", unfollowed := true, recurses := true, plainKeys := false, apart := false, narrowed := true }
def FnVmSumUptoSaid : Prop := fnVmSumUptoRow.holds Tryz.pinned (OpenSpec.upto fnVmSumSpec)

/-- 'laws.FnVmHand', WHERE WHAT IT READS IS OF BULK AT MOST 1048576: true; the input reads as it did. -/
def fnVmHandUptoRow : OpenClaim := { program := "ytjdfceejkneofaagreat", sum := "b2a82e6196d590198e9d212b14def731d0042efcb3f115254460ce2443a9a723", func := "loop.example/lodgekeeper/laws.FnVmHand", spec := "fnVmHand", unfollowed := true, recurses := true, plainKeys := false, apart := false, narrowed := true }
def FnVmHandUptoSaid : Prop := fnVmHandUptoRow.holds Tryz.pinned (OpenSpec.upto fnVmHandSpec)

/-- 'laws.FnVmField', WHERE WHAT IT READS IS OF BULK AT MOST 1048576: true; the input reads as it did. -/
def fnVmFieldUptoRow : OpenClaim := { program := "ytjdfceejkneofaagreat", sum := "b2a82e6196d590198e9d212b14def731d0042efcb3f115254460ce2443a9a723", func := "loop.example/lodgekeeper/laws.FnVmField", spec := "fnVmField", unfollowed := true, recurses := true, plainKeys := false, apart := false, narrowed := true }
def FnVmFieldUptoSaid : Prop := fnVmFieldUptoRow.holds Tryz.pinned (OpenSpec.upto fnVmFieldSpec)

/-- 'laws.FnVmOver', WHERE WHAT IT READS IS OF BULK AT MOST 1048576: true; the input reads as it did. -/
def fnVmOverUptoRow : OpenClaim := { program := "ytjdfceejkneofaagreat", sum := "b2a82e6196d590198e9d212b14def731d0042efcb3f115254460ce2443a9a723", func := "loop.example/lodgekeeper/laws.FnVmOver", spec := "fnVmOver", unfollowed := true, recurses := true, plainKeys := false, apart := false, narrowed := true }
def FnVmOverUptoSaid : Prop := fnVmOverUptoRow.holds Tryz.pinned (OpenSpec.upto fnVmOverSpec)

end Rows
end Go.Proofs.YtjdfceejkneofaaGreat
