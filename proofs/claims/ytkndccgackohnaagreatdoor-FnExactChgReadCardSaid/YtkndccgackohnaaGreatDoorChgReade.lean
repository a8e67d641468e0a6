/- FnExactChgRead: for every input the program returns true, and the input reads as it did; the tied card. The listed variables of Go's library hold what their initialisers lay. No other condition. -/
import Derived.Test.YtkndccgackohnaaGreatDoorCards
import Derived.Test.YtkndccgackohnaaGreatDoorTie
import Derived.Test.YtkndccgackohnaaGreatDoorChgReadd
import Derived.ProofKit
import Derived.HandedShaped
import Derived.Lay
import Derived.LaidOnce
import Derived.SevenTiedAt
import Derived.Stop.LaidErr
import Derived.Lib.LaidTab
import Derived.Shelf.Vars
set_option maxRecDepth 100000
set_option maxHeartbeats 4000000
set_option linter.unusedSimpArgs false
set_option linter.unusedVariables false
namespace Go.Proofs.YtkndccgackohnaaGreatDoor
open Go Go.ChangeShapes Go.WideShapes Go.ChangeAt Go.RowKit
open Go.ChangeMaps (open_string shut_string)
theorem returnsIn_and_shaped {H : Type} {enc : TypeId × Value → H} {a : Assume} {C : Checked} {os : Os} {f : FuncId} {fn : Func} {s : ChangeSpec} {conds : List PathCond} {apart fresh handsOn again : Bool} {X : World → Array Value → Prop}
    (hX : ∀ (w w' : World) (args : Array Value), w.heap = w'.heap → X w args → X w' args)
    (own : ownKnob C.prog.godebug = none) (started : os.Started) (noInit : C.prog.inits.idxOf? f = none) (hfn : C.prog.funcs[f]? = some fn)
    (witness : ∃ (w : World) (tape : Tape) (i : Input), w.os = os ∧ (w.forCall tape i).Shaped C.prog ∧ i.vars = [] ∧ Input.okWide C.prog (w.forCall tape i) .any w.heap.size f i ∧
     ((s.pre enc C.prog fn conds apart (w.forCall tape i).memory i.args ∧ X (w.forCall tape i).memory i.args) ∧ sizedMet enc C.prog fn (OpenSpec.ofChange s) apart (w.forCall tape i).memory i.args) ∧ a.holds C.prog (lone (Frame.enter C.prog f i.args .normal) [] (w.forCall tape i)))
    (contract : ∀ (W : World) (base : Nat) (args : Array Value) (ds gs : List (DataW H)) (before : List MemPlace),
     (∀ (j : Nat) t v, fn.params[j]? = some t → args[j]? = some v → Value.okWide C.prog W .any base t v) →
     DataW.Whole enc C.prog fn.params.toList s.vars apart W args.toList ds gs before → X W args → W.ShapedOpen C.prog →
     Calls C.prog f args W fun e W' => ∃ v, e = .returned v ∧ s.post enc C.prog fn apart fresh handsOn again W args v W') :
    ReturnsInHanded a C os f .any (fun w args => (s.pre enc C.prog fn conds apart w args ∧ X w args) ∧ sizedMet enc C.prog fn (OpenSpec.ofChange s) apart w args) (s.post enc C.prog fn apart fresh handsOn again) := by
 refine returnsInHanded_of_calls own started noInit witness ?_
 intro w tape i _ hsh _ hok hpre _
 obtain ⟨_, _, _, fn', hfn', _, _, _, _, hval⟩ := hok
 have e : fn' = fn := Option.some.inj (hfn'.symm.trans hfn)
 subst e
 obtain ⟨⟨⟨ds, gs, before, hw, _⟩, hx⟩, _⟩ := hpre
 have hw' := DataW.Whole.of_heap (w' := w.forCall tape i) (by rfl) hw
 refine (contract (w.forCall tape i) w.heap.size i.args ds gs before hval hw' (hX _ _ _ (by rfl) hx) hsh).mono fun e W' ⟨v, he, hp⟩ => ?_
 subst he
 exact ChangeSpec.post_blind hp
theorem Tryz.own : ownKnob Tryz.prog.godebug = none := by kernel_rfl
theorem star_err : "*errors.errorString" = "*" ++ "errors.errorString" := by decide +kernel
theorem row_err (u : TypeId) (h : Tryz.prog.typeName? 3 u = some "*errors.errorString") : u = 204 :=
 typeName_ptr_named (nm := "errors.errorString") (by rw [← star_err]; kernel_rfl) (by kernel_rfl) (by decide) u (by rw [← star_err]; exact h)
theorem tab_pow : (Rows.laid_internal_strconv_uint64pow10 : DataW Unit) = Lib.tabData .u64 Lib.pow10Tab := by kernel_rfl
theorem vars_at {W : World} (hL : laidMet Tryz.prog Rows.fnExactChgReadRow.laid W) (hsh : W.ShapedOpen Tryz.prog) : VarsAt W := by
 have h3 := laidMet.tail (laidMet.tail hL)
 have h6 := laidMet.tail (laidMet.tail (laidMet.tail h3))
 rw [tab_pow] at h3
 have hT := Lib.tabIs_of_head tab_glob (by kernel_rfl) Tryz.underlying172 Tryz.underlying141 (by kernel_rfl) (by kernel_rfl) h3
 obtain ⟨a, s, hv, -, -, -⟩ := laid_sentinel h6 (g := 4) (by kernel_rfl) (by kernel_rfl) Tryz.underlying105 row_err Tryz.underlying204 Tryz.underlying206 rfl rfl Tryz.underlying9 (by kernel_rfl) (by kernel_rfl)
 have hc : W.cell? ⟨4, 0, none⟩ = some (.iface 204 (.pointer (some a))) := by
  have h0 := World.var?_cell (g := 4) (by kernel_rfl) hv 0
  simpa using h0
 exact ⟨hT, ⟨_, hc, .inr ⟨_, _, rfl⟩⟩, cell_of_shapedOpen_int hsh (g := 0) (t := 3) (zero := #[.int .i64 0]) (of_decide_eq_true (by kernel_rfl)) (by kernel_rfl) rfl (by kernel_rfl) (by kernel_rfl) Tryz.underlying3, by have := cell_lt hc; omega⟩
theorem laid_plain {w : World} : laidMetH Tryz.prog Rows.fnExactChgReadRow.laid w = laidMet Tryz.prog Rows.fnExactChgReadRow.laid w := MakeChecks.laidMetH_plain _ _ _ (by kernel_rfl)
theorem fnExactChgRead_lifted (os : Os) (started : os.Started) (H : Type) (enc : TypeId × Value → H) :
    ReturnsInHanded {} Tryz.checked os 3 .any (fun w args => (Rows.fnExactChgReadSpec.pre enc Tryz.prog Tryz.f3 [] false w args ∧ laidMetH Tryz.prog Rows.fnExactChgReadRow.laid w) ∧ sizedMet enc Tryz.prog Tryz.f3 (OpenSpec.ofChange Rows.fnExactChgReadSpec) false w args)
     (Rows.fnExactChgReadSpec.post enc Tryz.prog Tryz.f3 false true false false) := by
 refine returnsIn_and_shaped (C := Tryz.checked) (X := fun w _ => laidMetH Tryz.prog Rows.fnExactChgReadRow.laid w) (fun _ _ _ hh h => h.of_heap hh) Tryz.own started (by kernel_rfl) Tryz.func3
  (ChangeSpec.witness_shaped (enc := enc) (C := Tryz.checked) (os := os) (X := fun w _ => laidMetH Tryz.prog Rows.fnExactChgReadRow.laid w) false (World.laidAll Tryz.prog os Rows.fnExactChgReadRow.laid) #[.string ⟨#[]⟩] 8 (World.laidAll_os _ _ _)
   (World.shaped_of_ZipB (by kernel_rfl) (by kernel_rfl)) (by kernel_rfl) (by kernel_rfl) (by kernel_rfl)
   (by rw [laid_plain]; exact laidMet_laidAll _ (by kernel_rfl) (by kernel_rfl))) ?_
 intro W base args ds gs before hval0 hW hL hsh
 have hval : ∀ (j : Nat) t v, Tryz.f3.params[j]? = some t → args[j]? = some v → Value.okWide Tryz.prog W .any base t v := hval0
 have hW' := hW
 obtain ⟨p, q, hA0, hV, rfl, _, _⟩ := hW
 have hA : DataW.TrodAll enc Tryz.prog W 0 (fun _ => true) true Tryz.f3.params.toList args.toList ds p := hA0
 rw [Tryz.params3] at hA hval
 obtain ⟨v0, d0, rfl, rfl, h0⟩ := trodAll_one hA
 obtain ⟨rfl, rfl⟩ := trodVars_none hV
 obtain ⟨s, rfl, rfl, rfl, ws⟩ := open_string Tryz.underlying9 (hval 0 9 v0 rfl rfl) h0
 simp only [List.append_nil] at hW'
 rw [laid_plain] at hL
 refine (law_chg_read s W (vars_at hL hsh)).mono fun e W' ⟨he, hE⟩ => ?_
 subst he
 exact ⟨_, rfl, _, _, _, [], [], [], hW', trodAll_mk1 (shut_bool Tryz.underlying4 _), trodAll_mk1 (shut_string Tryz.underlying9 ws), rfl, (Ext.to_below hE).frame _, fun h => by cases h⟩
theorem fnExactChgRead_row : Rows.FnExactChgReadSaid :=
 OpenClaim.holds_of_wide 3 Tryz.f3 rfl rfl rfl rfl rfl rfl rfl ⟨rfl, rfl, rfl, rfl, rfl⟩ rfl rfl rfl rfl rfl (by kernel_rfl) Tryz.func3 (by kernel_rfl)
  (of_decide_eq_true (by kernel_rfl)) (by unfold Func.isWrapper; rw [if_neg (by decide +kernel)]; exact ⟨rfl, rfl⟩)
  (fun os started H enc _ => fnExactChgRead_lifted os started H enc)
theorem fnExactChgRead_holds : Rows.FnExactChgReadCardSaid :=
 Claim7.holds_tied_plain_at .later [] [.data, .data, .data, .data, .sentinel, .sentinel, .pinned] true (true, "acd9e34f737fe207812fef665bc3e61e8d2290356e029217a2873f965666fdc9") true
  fnExactChgRead_row (fun _ h => by cases h) (by kernel_rfl) (fun _ h => by cases h) fnExactChgRead_row_tie rfl ⟨rfl, rfl⟩ (by kernel_rfl) rfl
  (fun f fn hf hfn => by
   obtain rfl : f = 3 := Option.some.inj ((show Tryz.prog.funcNamed "loop.example/lodgekeeper/laws.FnExactChgRead" = some 3 by kernel_rfl).symm.trans hf) |>.symm
   obtain rfl : fn = Tryz.f3 := (Option.some.inj (Tryz.func3.symm.trans hfn)).symm
   exact ⟨by kernel_rfl, fun j t ht => by
    rw [Tryz.params3] at ht
    have hm : t ∈ [9] := by simpa using Array.mem_of_getElem? ht
    have hall : ([9].all fun u => !Tryz.prog.wantsStandIn u) = true := by kernel_rfl
    exact (show Tryz.prog.wantsStandIn t = false by simpa using List.all_eq_true.1 hall t hm)⟩)
  (by kernel_rfl)
#print axioms fnExactChgRead_holds
end Go.Proofs.YtkndccgackohnaaGreatDoor
