/- FnVmField: for every input the program returns true, and the input reads as it did. No condition. -/
import Derived.Test.YtjdfceejkneofaaGreatJax
import Derived.Test.YtjdfceejkneofaaGreatJaw
set_option maxRecDepth 100000
set_option maxHeartbeats 4000000
set_option linter.unusedSimpArgs false
set_option linter.unusedVariables false
namespace Go.Proofs.YtjdfceejkneofaaGreat.M
def fieldC : List Ins := [⟨6, 0, topN, none_⟩, ⟨3, 2, none_, none_⟩, ⟨2, 2, none_, none_⟩, ⟨9, 0, topN, getN⟩, ⟨14, 0, none_, none_⟩, ⟨2, 2, none_, none_⟩, ⟨2, 1, none_, none_⟩, ⟨9, 0, topN, putN⟩, ⟨14, 0, none_, none_⟩, ⟨2, 2, none_, none_⟩, ⟨9, 0, topN, getN⟩, ⟨10, 0, none_, none_⟩]
def fieldP : Plan := mainPlan [topCls topN 0] fieldC []
theorem field_ok : lodOk fieldP = true := by decide +kernel
theorem field_right : planRight fieldP = true := by decide +kernel
def fieldS (b : Int) : St := ⟨1, [⟨⟨⟨0, mainN⟩, 0⟩, 10, [⟨2, 0⟩, ⟨1, b⟩, ⟨2, 1⟩], []⟩, ⟨⟨⟨0, topN⟩, 0⟩, 3, [⟨2, 1⟩], [⟨1, b⟩, ⟨1, 0⟩]⟩], [⟨⟨0, mainN⟩, []⟩, ⟨⟨0, topN⟩, [⟨1, b⟩]⟩], [0, 0], zval⟩
theorem field_run {b : Int} (h : numOk b = true) : loDo fieldP b = ⟨2, [], [⟨⟨0, mainN⟩, []⟩, ⟨⟨0, topN⟩, [⟨1, b⟩]⟩], [0, 0], ⟨1, b⟩⟩ := by
 rw [loDo_eq field_ok h]
 have e1 : steps fieldP true 24 (start fieldP true 0 mainN runN [b]) = fieldS b := by kernel_rfl
 rw [show (400 : Nat) = 24 + 376 from rfl, steps_add, e1, show (376 : Nat) = 375 + 1 from rfl]
 have e2 : stepped fieldP true (fieldS b) = if numOk (b + 0) = true then push fieldP (numVal (b + 0)) { fieldS b with frames := [⟨⟨⟨0, mainN⟩, 0⟩, 10, [⟨2, 0⟩, ⟨1, b⟩, ⟨2, 1⟩], []⟩, ⟨⟨⟨0, topN⟩, 0⟩, 3, [⟨2, 1⟩], []⟩] } else (9, { fieldS b with frames := [⟨⟨⟨0, mainN⟩, 0⟩, 10, [⟨2, 0⟩, ⟨1, b⟩, ⟨2, 1⟩], []⟩, ⟨⟨⟨0, topN⟩, 0⟩, 3, [⟨2, 1⟩], []⟩] }) := by kernel_rfl
 have e3 := step_add e2 (by rw [Int.add_zero]; exact h) rfl
 rw [Int.add_zero] at e3
 rw [steps_one rfl e3]
 show _ = _
 kernel_rfl
end Go.Proofs.YtjdfceejkneofaaGreat.M
namespace Go.Proofs.YtjdfceejkneofaaGreat
open Go Go.RowKit
open Go.Lib (hid)
theorem law_field : LawOk 9 := by
 intro W v zs hb
 by_cases hl : zs.length ≤ 1048576
 rotate_left
 · obtain ⟨va, vc, rfl⟩ := hb.form
   have hl' : decide ((1048576 : Int) < zs.length) = true := decide_eq_true (by omega)
   have hl2 : (1048576 : Int) < zs.length := by omega
   clear hb hl
   go_enter Tryz.func9, Tryz.ntmps9
   go_wp2_with fail
   go_ret
   exact ⟨rfl, Kp.refl _ _⟩
 have hu := M.loNum_in zs 2 (by omega)
 have HNu := hid (lo_num W v zs hb hl 2 (by omega))
 obtain ⟨va, vc, rfl⟩ := hb.form
 have hl2 : ((1048576 : Int) < zs.length) = False := eq_false (by omega)
 obtain ⟨u, hue⟩ : ∃ x, M.loNum zs 2 = x := ⟨_, rfl⟩
 rw [hue] at hu HNu
 have HU : Hid (M.numOk u = true) := hid (by unfold M.numOk; simp [hu])
 clear hue hu
 clear hb hl
 go_enter Tryz.func9, Tryz.ntmps9
 go_wp2_with fail
 refine HNu.out.mono ?_
 rintro e w1 ⟨rfl, rfl⟩
 go_wp2_with fail
 refine (lo_top W ⟨#[116, 111, 112]⟩ 0).mono ?_
 rintro e w1 ⟨⟨vf, vm, rfl, hcl⟩, hE1⟩
 obtain ⟨fa, fc, ma, mc, he⟩ := hcl.form
 have hv : vf = .slice fa 1 fc ∧ vm = .slice ma 2 mc := by simpa [M.topCls] using he
 obtain ⟨rfl, rfl⟩ := hv
 obtain ⟨w3, hw3⟩ : ∃ w3, w3 = (w1.alloc (.cells #[.string ⟨#[116, 111, 112]⟩, .string ⟨#[]⟩, .slice fa 1 fc, .slice ma 2 mc] 50)).alloc (.cells #[.int .i64 6, .int .i64 0, .string ⟨#[116, 111, 112]⟩, .string ⟨#[]⟩, .int .i64 3, .int .i64 2, .string ⟨#[]⟩, .string ⟨#[]⟩, .int .i64 2, .int .i64 2, .string ⟨#[]⟩, .string ⟨#[]⟩, .int .i64 9, .int .i64 0, .string ⟨#[116, 111, 112]⟩, .string ⟨#[103, 101, 116]⟩, .int .i64 14, .int .i64 0, .string ⟨#[]⟩, .string ⟨#[]⟩, .int .i64 2, .int .i64 2, .string ⟨#[]⟩, .string ⟨#[]⟩, .int .i64 2, .int .i64 1, .string ⟨#[]⟩, .string ⟨#[]⟩, .int .i64 9, .int .i64 0, .string ⟨#[116, 111, 112]⟩, .string ⟨#[112, 117, 116]⟩, .int .i64 14, .int .i64 0, .string ⟨#[]⟩, .string ⟨#[]⟩, .int .i64 2, .int .i64 2, .string ⟨#[]⟩, .string ⟨#[]⟩, .int .i64 9, .int .i64 0, .string ⟨#[116, 111, 112]⟩, .string ⟨#[103, 101, 116]⟩, .int .i64 10, .int .i64 0, .string ⟨#[]⟩, .string ⟨#[]⟩] 28) := ⟨_, rfl⟩
 have hE3 : Ext w1 w3 := by rw [hw3]; exact (by repeat (first | with_reducible exact Kp.refl _ _ | with_reducible assumption | with_reducible refine Kp.alloc ?_ _ | with_reducible refine Kp.drew ?_ | with_reducible refine Kp.drewN ?_ _ | with_reducible refine Kp.setCell ?_ (fun h => absurd h (by simp <;> omega)) _ | with_reducible refine Kp.trans ?_ (by with_reducible assumption) | exact Kp.refl _ _ | assumption | refine Kp.alloc ?_ _ | refine Kp.drew ?_ | refine Kp.drewN ?_ _ | (refine Kp.setCell ?_ (fun h => absurd h (by simp; done)) _) | (refine Kp.setCell ?_ (fun h => absurd h (by simp; omega)) _) | refine Kp.trans ?_ (by assumption)))
 have hz3 : w3.heap.size = w1.heap.size + 2 := by rw [hw3]; simp
 have hm : SliceOf 4 ClassL w3 (· < w3.heap.size) (.slice (some ⟨w1.heap.size, 0, none⟩) 1 1) [M.topCls M.topN 0] := by
  have hb : Blk w3 w1.heap.size 50 #[.string ⟨#[116, 111, 112]⟩, .string ⟨#[]⟩, .slice fa 1 fc, .slice ma 2 mc] := by rw [hw3]; exact (Blk.new _ _ _).ext ((Kp.refl _ _).alloc _)
  have hc3 := (ClassL.inside _ _ _ _ (ClassL.stays _ _ _ _ _ _ (Ext.same hE3) (fun _ h => h) hcl))
  exact SliceOf.row (R := ClassL) (xs := [M.topCls M.topN 0]) [[.string ⟨#[116, 111, 112]⟩, .string ⟨#[]⟩, .slice fa 1 fc, .slice ma 2 mc]] (CellsAt.ofB hb) rfl (by simp) ⟨ClassL.stays _ _ _ _ _ _ (fun _ _ _ _ h => h) (fun _ h => h.2) hc3, trivial⟩ (by omega) (by simp) (by simp)
 have hc : SliceOf 4 InsL w3 (· < w3.heap.size) (.slice (some ⟨w1.heap.size + 1, 0, none⟩) 12 12) M.fieldC := by
  have hb : Blk w3 (w1.heap.size + 1) 28 #[.int .i64 6, .int .i64 0, .string ⟨#[116, 111, 112]⟩, .string ⟨#[]⟩, .int .i64 3, .int .i64 2, .string ⟨#[]⟩, .string ⟨#[]⟩, .int .i64 2, .int .i64 2, .string ⟨#[]⟩, .string ⟨#[]⟩, .int .i64 9, .int .i64 0, .string ⟨#[116, 111, 112]⟩, .string ⟨#[103, 101, 116]⟩, .int .i64 14, .int .i64 0, .string ⟨#[]⟩, .string ⟨#[]⟩, .int .i64 2, .int .i64 2, .string ⟨#[]⟩, .string ⟨#[]⟩, .int .i64 2, .int .i64 1, .string ⟨#[]⟩, .string ⟨#[]⟩, .int .i64 9, .int .i64 0, .string ⟨#[116, 111, 112]⟩, .string ⟨#[112, 117, 116]⟩, .int .i64 14, .int .i64 0, .string ⟨#[]⟩, .string ⟨#[]⟩, .int .i64 2, .int .i64 2, .string ⟨#[]⟩, .string ⟨#[]⟩, .int .i64 9, .int .i64 0, .string ⟨#[116, 111, 112]⟩, .string ⟨#[103, 101, 116]⟩, .int .i64 10, .int .i64 0, .string ⟨#[]⟩, .string ⟨#[]⟩] := by rw [hw3]; exact Blk.newAt _ _ (by simp)
  exact SliceOf.row (R := InsL) (xs := M.fieldC) [[.int .i64 6, .int .i64 0, .string ⟨#[116, 111, 112]⟩, .string ⟨#[]⟩], [.int .i64 3, .int .i64 2, .string ⟨#[]⟩, .string ⟨#[]⟩], [.int .i64 2, .int .i64 2, .string ⟨#[]⟩, .string ⟨#[]⟩], [.int .i64 9, .int .i64 0, .string ⟨#[116, 111, 112]⟩, .string ⟨#[103, 101, 116]⟩], [.int .i64 14, .int .i64 0, .string ⟨#[]⟩, .string ⟨#[]⟩], [.int .i64 2, .int .i64 2, .string ⟨#[]⟩, .string ⟨#[]⟩], [.int .i64 2, .int .i64 1, .string ⟨#[]⟩, .string ⟨#[]⟩], [.int .i64 9, .int .i64 0, .string ⟨#[116, 111, 112]⟩, .string ⟨#[112, 117, 116]⟩], [.int .i64 14, .int .i64 0, .string ⟨#[]⟩, .string ⟨#[]⟩], [.int .i64 2, .int .i64 2, .string ⟨#[]⟩, .string ⟨#[]⟩], [.int .i64 9, .int .i64 0, .string ⟨#[116, 111, 112]⟩, .string ⟨#[103, 101, 116]⟩], [.int .i64 10, .int .i64 0, .string ⟨#[]⟩, .string ⟨#[]⟩]] (CellsAt.ofB hb) rfl (by simp) ⟨rfl, rfl, rfl, rfl, rfl, rfl, rfl, rfl, rfl, rfl, rfl, rfl, trivial⟩ (by omega) (by simp [M.fieldC]) (by simp [M.fieldC])
 have hmain : Calls Tryz.prog 13 #[.slice (some ⟨w1.heap.size, 0, none⟩) 1 1, .slice (some ⟨w1.heap.size + 1, 0, none⟩) 12 12, .slice none 0 0] w3 _ := lo_main w3 (· < w3.heap.size) (fun _ h => h) ⟨w1.heap.size, 0, none⟩ 1 [M.topCls M.topN 0] (some ⟨w1.heap.size + 1, 0, none⟩) 12 none 0 M.fieldC [] hm (by simp) (by simp) hc (SliceOf.nil _ _ _ _)
 have HMN := hid hmain
 have HE3 := hid (hE1.trans hE3)
 have HW3 := hid hw3
 clear hE1 hE3 hm hc hmain hw3 hz3 hcl he
 go_wp2_with fail
 rw [← HW3.out]
 refine HMN.out.mono ?_
 rintro e w4 ⟨⟨vp, rfl, hp⟩, hE4⟩
 obtain ⟨pa, pc, rfl, -, -⟩ := hp.form
 obtain ⟨w5, hw5⟩ : ∃ w5, w5 = w4.alloc (.cells #[.slice pa (M.mainPlan [M.topCls M.topN 0] M.fieldC []).length pc] 40) := ⟨_, rfl⟩
 have hE5 : Ext w4 w5 := by rw [hw5]; exact (by repeat (first | with_reducible exact Kp.refl _ _ | with_reducible assumption | with_reducible refine Kp.alloc ?_ _ | with_reducible refine Kp.drew ?_ | with_reducible refine Kp.drewN ?_ _ | with_reducible refine Kp.setCell ?_ (fun h => absurd h (by simp <;> omega)) _ | with_reducible refine Kp.trans ?_ (by with_reducible assumption) | exact Kp.refl _ _ | assumption | refine Kp.alloc ?_ _ | refine Kp.drew ?_ | refine Kp.drewN ?_ _ | (refine Kp.setCell ?_ (fun h => absurd h (by simp; done)) _) | (refine Kp.setCell ?_ (fun h => absurd h (by simp; omega)) _) | refine Kp.trans ?_ (by assumption)))
 have bp : Blk w5 w4.heap.size 40 #[.slice pa (M.mainPlan [M.topCls M.topN 0] M.fieldC []).length pc] := by rw [hw5]; exact Blk.new _ _ _
 have hdo := lo_do w5 _ _ _ (PlanL.in' (hp.ext KeeperL.stays hE5)) (fun _ h => h) u
 have hr : M.loDo (M.mainPlan [M.topCls M.topN 0] M.fieldC []) u = _ := M.field_run HU.out
 rw [hr] at hdo
 clear hr
 have HP := hid (hp.ext KeeperL.stays hE5)
 have HBP := hid bp
 have HDO := hid hdo
 have HE5 := hid (HE3.out.trans (hE4.trans hE5))
 have HW5 := hid hw5
 clear hp bp hE4 hE5 hdo hw5
 go_wp2_with fail
 rw [← HW5.out]
 refine HDO.out.mono ?_
 rintro e w6 ⟨⟨cs, rfl, hS⟩, hE6⟩
 obtain ⟨a1, c1, a2, c2, a3, c3, rfl, -, -, ho⟩ := hS.form
 simp only [List.length_cons, List.length_nil, Nat.zero_add] at ho ⊢
 obtain ⟨w8, hw8⟩ : ∃ w8, w8 = (w6.alloc (.cells #[.int .i64 2, .slice a1 0 c1, .slice a2 2 c2, .slice a3 2 c3, .int .i64 1, .int .i64 u] 36)).alloc (.cells #[.int .i64 0, .int .i64 0] 3) := ⟨_, rfl⟩
 have hE8 : Ext w6 w8 := by rw [hw8]; exact (by repeat (first | with_reducible exact Kp.refl _ _ | with_reducible assumption | with_reducible refine Kp.alloc ?_ _ | with_reducible refine Kp.drew ?_ | with_reducible refine Kp.drewN ?_ _ | with_reducible refine Kp.setCell ?_ (fun h => absurd h (by simp <;> omega)) _ | with_reducible refine Kp.trans ?_ (by with_reducible assumption) | exact Kp.refl _ _ | assumption | refine Kp.alloc ?_ _ | refine Kp.drew ?_ | refine Kp.drewN ?_ _ | (refine Kp.setCell ?_ (fun h => absurd h (by simp; done)) _) | (refine Kp.setCell ?_ (fun h => absurd h (by simp; omega)) _) | refine Kp.trans ?_ (by assumption)))
 have b6 : Blk w8 w6.heap.size 36 #[.int .i64 2, .slice a1 0 c1, .slice a2 2 c2, .slice a3 2 c3, .int .i64 1, .int .i64 u] := by rw [hw8]; exact (Blk.new _ _ _).ext ((Kp.refl _ _).alloc _)
 have hab : SliceOf 1 IntL w8 (fun _ => True) (.slice (some ⟨w6.heap.size + 1, 0, none⟩) 2 2) [0, 0] := by
  rw [hw8]
  exact SliceOf.row (R := IntL) (xs := [0, 0]) [[.int .i64 0], [.int .i64 0]] (CellsAt.newA _ _ (by simp)) rfl (by simp) ⟨rfl, rfl, trivial⟩ trivial (by simp) (by simp)
 have hin : Calls Tryz.prog 14 #[.slice a3 2 c3, .slice (some ⟨w6.heap.size + 1, 0, none⟩) 2 2] w8 _ := lo_ints w8 _ _ _ _ [0, 0] [0, 0] (ho.ext IntL.stays hE8) hab
 rw [decide_eq_true rfl] at hin
 have HIN := hid hin
 have HB6 := hid b6
 have HW8 := hid hw8
 have HE8 := hid (hE6.trans hE8)
 clear hin hab b6 hw8 hE8 hE6 ho hS
 go_wp2_with fail
 rw [← HW8.out]
 refine HIN.out.mono ?_
 rintro e w9 ⟨rfl, hE9⟩
 have b69 := HB6.out.ext hE9
 have y0 := b69.c 0 (.int .i64 2) rfl
 have y1 := b69.c 1 (.slice a1 0 c1) rfl
 have y2 := b69.c 2 (.slice a2 2 c2) rfl
 have y3 := b69.c 3 (.slice a3 2 c3) rfl
 have y4 := b69.c 4 (.int .i64 1) rfl
 have y5 := b69.c 5 (.int .i64 u) rfl
 have yz := b69.lt
 have HE9 := hid (HE8.out.trans hE9)
 clear b69 hE9
 go_wp2_with fail
 refine (lo_gives w9 2 a1 0 c1 a2 2 c2 a3 2 c3 1 u u).mono ?_
 rintro e w10 ⟨rfl, hE10⟩
 have h510 := HE9.out.trans hE10
 have x0 := (HBP.out.ext h510).c 0 _ rfl
 have xz := (HBP.out.ext h510).lt
 have hri := plan_right w10 _ _ _ (PlanL.in' (HP.out.ext KeeperL.stays h510)) (fun _ h => h)
 have hr : M.planRight (M.mainPlan [M.topCls M.topN 0] M.fieldC []) = _ := M.field_right
 rw [hr] at hri
 have HRI := hid hri
 have HE10 := hid (HE5.out.trans h510)
 clear hE10 h510 y0 y1 y2 y3 y4 y5 yz hri hr
 rw [decide_eq_true rfl, decide_eq_true rfl]
 go_wp2_with fail
 refine HRI.out.mono ?_
 rintro e w11 ⟨rfl, hE11⟩
 have HE11 := hid (HE10.out.trans hE11)
 clear hE11 x0 xz
 go_wp2_with fail
 go_ret
 exact ⟨rfl, HE11.out⟩
end Go.Proofs.YtjdfceejkneofaaGreat
namespace Go.Proofs.YtjdfceejkneofaaGreat
open Go Go.ChangeShapes Go.WideShapes Go.ChangeAt Go.RowKit
theorem fnVmField_lifted (os : Os) (started : os.Started) (H : Type) (enc : TypeId × Value → H) :
    ReturnsInHanded {} Tryz.checked os 9 .any (Rows.fnVmFieldSpec.pre6 enc Tryz.prog Tryz.f9 Rows.fnVmFieldRow.domain false) (Rows.fnVmFieldSpec.post enc Tryz.prog Tryz.f9 false true false false) := by
 refine returnsInHanded_of_change (C := Tryz.checked) Tryz.own started (by kernel_rfl) Tryz.func9
  (ChangeSpec.witness6 (enc := enc) (C := Tryz.checked) false ⟨#[], #[.slice none 0 0], []⟩ 8 (by kernel_rfl) (by kernel_rfl) (by kernel_rfl) (by kernel_rfl)) ?_
 intro W base args ds gs before hval0 hW hcnd _
 have hval : ∀ (j : Nat) t v, Tryz.f9.params[j]? = some t → args[j]? = some v → Value.okWide Tryz.prog W .any base t v := hval0
 have hW' := hW
 obtain ⟨p, q, hA0, hV, rfl, hfz, hnd⟩ := hW
 have hA : DataW.TrodAll enc Tryz.prog W 0 (fun _ => true) true Tryz.f9.params.toList args.toList ds p := hA0
 rw [Tryz.params9] at hA hval
 obtain ⟨v0, d0, rfl, rfl, h0⟩ := trodAll_one hA
 obtain ⟨rfl, rfl⟩ := trodVars_none hV
 simp only [List.append_nil] at hW'
 obtain ⟨zs, hb⟩ := bytes_at (okWide_slice Tryz.underlying22 (hval 0 22 v0 rfl rfl)) h0
 refine (law_field W v0 zs hb).mono fun e W' ⟨he, hE⟩ => ?_
 subst he
 exact ⟨_, rfl, law_post (fn := Tryz.f9) Tryz.params9 rfl rfl rfl hW' h0 hE⟩
theorem fnVmField_holds : Rows.FnVmFieldSaid :=
 OpenClaim.holds_of_wide 9 Tryz.f9 rfl rfl rfl rfl rfl rfl rfl ⟨rfl, rfl, rfl, rfl, rfl⟩ rfl rfl rfl rfl rfl (by kernel_rfl) Tryz.func9 (by kernel_rfl)
  (of_decide_eq_true (by kernel_rfl)) (by unfold Func.isWrapper; rw [if_neg (by decide +kernel)]; exact ⟨rfl, rfl⟩)
  (fun os started H enc _ => fnVmField_lifted os started H enc)
#print axioms fnVmField_holds
end Go.Proofs.YtjdfceejkneofaaGreat
