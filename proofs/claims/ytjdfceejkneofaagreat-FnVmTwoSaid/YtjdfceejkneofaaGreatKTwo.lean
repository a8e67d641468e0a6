/- FnVmTwo: for every input the program returns true, and the input reads as it did. No condition. -/
import Derived.Test.YtjdfceejkneofaaGreatJax
import Derived.Test.YtjdfceejkneofaaGreatJaw
set_option maxRecDepth 100000
set_option maxHeartbeats 4000000
set_option linter.unusedSimpArgs false
set_option linter.unusedVariables false
namespace Go.Proofs.YtjdfceejkneofaaGreat
open Go Go.RowKit
open Go.Lib (hid)
theorem law_two : LawOk 6 := by
 intro W v zs hb
 by_cases hl : zs.length ≤ 1048576
 rotate_left
 · obtain ⟨va, vc, rfl⟩ := hb.form
   have hl' : decide ((1048576 : Int) < zs.length) = true := decide_eq_true (by omega)
   have hl2 : (1048576 : Int) < zs.length := by omega
   clear hb hl
   go_enter Tryz.func6, Tryz.ntmps6
   go_wp2_with fail
   go_ret
   exact ⟨rfl, Kp.refl _ _⟩
 have ha := M.loNum_in zs 1 (by omega)
 have HNa := hid (lo_num W v zs hb hl 1 (by omega))
 obtain ⟨va, vc, rfl⟩ := hb.form
 have hl2 : ((1048576 : Int) < zs.length) = False := eq_false (by omega)
 obtain ⟨a, hae⟩ : ∃ x, M.loNum zs 1 = x := ⟨_, rfl⟩
 rw [hae] at ha HNa
 have HA : Hid (M.numOk a = true) := hid (by unfold M.numOk; simp [ha])
 clear hae ha
 clear hb hl
 go_enter Tryz.func6, Tryz.ntmps6
 go_wp2_with fail
 refine HNa.out.mono ?_
 rintro e w1 ⟨rfl, rfl⟩
 go_wp2_with fail
 refine (lo_top W ⟨#[116, 111, 112]⟩ 0).mono ?_
 rintro e w1 ⟨⟨vf, vm, rfl, hcl⟩, hE1⟩
 obtain ⟨fa, fc, ma, mc, he⟩ := hcl.form
 have hv : vf = .slice fa 1 fc ∧ vm = .slice ma 2 mc := by simpa [M.topCls] using he
 obtain ⟨rfl, rfl⟩ := hv
 obtain ⟨w3, hw3⟩ : ∃ w3, w3 = (w1.alloc (.cells #[.string ⟨#[116, 111, 112]⟩, .string ⟨#[]⟩, .slice fa 1 fc, .slice ma 2 mc] 50)).alloc (.cells #[.int .i64 6, .int .i64 0, .string ⟨#[116, 111, 112]⟩, .string ⟨#[]⟩, .int .i64 3, .int .i64 2, .string ⟨#[]⟩, .string ⟨#[]⟩, .int .i64 2, .int .i64 2, .string ⟨#[]⟩, .string ⟨#[]⟩, .int .i64 2, .int .i64 1, .string ⟨#[]⟩, .string ⟨#[]⟩, .int .i64 8, .int .i64 0, .string ⟨#[116, 111, 112]⟩, .string ⟨#[118]⟩, .int .i64 6, .int .i64 0, .string ⟨#[116, 111, 112]⟩, .string ⟨#[]⟩, .int .i64 7, .int .i64 0, .string ⟨#[116, 111, 112]⟩, .string ⟨#[118]⟩, .int .i64 14, .int .i64 0, .string ⟨#[]⟩, .string ⟨#[]⟩, .int .i64 2, .int .i64 2, .string ⟨#[]⟩, .string ⟨#[]⟩, .int .i64 7, .int .i64 0, .string ⟨#[116, 111, 112]⟩, .string ⟨#[118]⟩, .int .i64 10, .int .i64 0, .string ⟨#[]⟩, .string ⟨#[]⟩] 28) := ⟨_, rfl⟩
 have hE3 : Ext w1 w3 := by rw [hw3]; exact (KX.k (by repeat (first | assumption | constructor)))
 have hz3 : w3.heap.size = w1.heap.size + 2 := by rw [hw3]; simp
 have hm : SliceOf 4 ClassL w3 (· < w3.heap.size) (.slice (some ⟨w1.heap.size, 0, none⟩) 1 1) [M.topCls M.topN 0] := by
  have hb : Blk w3 w1.heap.size 50 #[.string ⟨#[116, 111, 112]⟩, .string ⟨#[]⟩, .slice fa 1 fc, .slice ma 2 mc] := by rw [hw3]; exact (Blk.new _ _ _).ext ((Kp.refl _ _).alloc _)
  have hc3 := (ClassL.inside _ _ _ _ (ClassL.stays _ _ _ _ _ _ (Ext.same hE3) (fun _ h => h) hcl))
  exact SliceOf.row (R := ClassL) (xs := [M.topCls M.topN 0]) [[.string ⟨#[116, 111, 112]⟩, .string ⟨#[]⟩, .slice fa 1 fc, .slice ma 2 mc]] (CellsAt.ofB hb) rfl (by simp) ⟨ClassL.stays _ _ _ _ _ _ (fun _ _ _ _ h => h) (fun _ h => h.2) hc3, trivial⟩ (by omega) (by simp) (by simp)
 have hc : SliceOf 4 InsL w3 (· < w3.heap.size) (.slice (some ⟨w1.heap.size + 1, 0, none⟩) 11 11) M.twoC := by
  have hb : Blk w3 (w1.heap.size + 1) 28 #[.int .i64 6, .int .i64 0, .string ⟨#[116, 111, 112]⟩, .string ⟨#[]⟩, .int .i64 3, .int .i64 2, .string ⟨#[]⟩, .string ⟨#[]⟩, .int .i64 2, .int .i64 2, .string ⟨#[]⟩, .string ⟨#[]⟩, .int .i64 2, .int .i64 1, .string ⟨#[]⟩, .string ⟨#[]⟩, .int .i64 8, .int .i64 0, .string ⟨#[116, 111, 112]⟩, .string ⟨#[118]⟩, .int .i64 6, .int .i64 0, .string ⟨#[116, 111, 112]⟩, .string ⟨#[]⟩, .int .i64 7, .int .i64 0, .string ⟨#[116, 111, 112]⟩, .string ⟨#[118]⟩, .int .i64 14, .int .i64 0, .string ⟨#[]⟩, .string ⟨#[]⟩, .int .i64 2, .int .i64 2, .string ⟨#[]⟩, .string ⟨#[]⟩, .int .i64 7, .int .i64 0, .string ⟨#[116, 111, 112]⟩, .string ⟨#[118]⟩, .int .i64 10, .int .i64 0, .string ⟨#[]⟩, .string ⟨#[]⟩] := by rw [hw3]; exact Blk.newAt _ _ (by simp)
  exact SliceOf.row (R := InsL) (xs := M.twoC) [[.int .i64 6, .int .i64 0, .string ⟨#[116, 111, 112]⟩, .string ⟨#[]⟩], [.int .i64 3, .int .i64 2, .string ⟨#[]⟩, .string ⟨#[]⟩], [.int .i64 2, .int .i64 2, .string ⟨#[]⟩, .string ⟨#[]⟩], [.int .i64 2, .int .i64 1, .string ⟨#[]⟩, .string ⟨#[]⟩], [.int .i64 8, .int .i64 0, .string ⟨#[116, 111, 112]⟩, .string ⟨#[118]⟩], [.int .i64 6, .int .i64 0, .string ⟨#[116, 111, 112]⟩, .string ⟨#[]⟩], [.int .i64 7, .int .i64 0, .string ⟨#[116, 111, 112]⟩, .string ⟨#[118]⟩], [.int .i64 14, .int .i64 0, .string ⟨#[]⟩, .string ⟨#[]⟩], [.int .i64 2, .int .i64 2, .string ⟨#[]⟩, .string ⟨#[]⟩], [.int .i64 7, .int .i64 0, .string ⟨#[116, 111, 112]⟩, .string ⟨#[118]⟩], [.int .i64 10, .int .i64 0, .string ⟨#[]⟩, .string ⟨#[]⟩]] (CellsAt.ofB hb) rfl (by simp) ⟨rfl, rfl, rfl, rfl, rfl, rfl, rfl, rfl, rfl, rfl, rfl, trivial⟩ (by omega) (by simp [M.twoC]) (by simp [M.twoC])
 have hmain : Calls Tryz.prog 13 #[.slice (some ⟨w1.heap.size, 0, none⟩) 1 1, .slice (some ⟨w1.heap.size + 1, 0, none⟩) 11 11, .slice none 0 0] w3 _ := lo_main w3 (· < w3.heap.size) (fun _ h => h) ⟨w1.heap.size, 0, none⟩ 1 [M.topCls M.topN 0] (some ⟨w1.heap.size + 1, 0, none⟩) 11 none 0 M.twoC [] hm (by simp) (by simp) hc (SliceOf.nil _ _ _ _)
 have HMN := hid hmain
 have HE3 := hid (hE1.trans hE3)
 have HW3 := hid hw3
 clear hE1 hE3 hm hc hmain hw3 hz3 hcl he
 go_wp2_with fail
 rw [← HW3.out]
 refine HMN.out.mono ?_
 rintro e w4 ⟨⟨vp, rfl, hp⟩, hE4⟩
 obtain ⟨pa, pc, rfl, -, -⟩ := hp.form
 obtain ⟨w5, hw5⟩ : ∃ w5, w5 = w4.alloc (.cells #[.slice pa (M.mainPlan [M.topCls M.topN 0] M.twoC []).length pc] 40) := ⟨_, rfl⟩
 have hE5 : Ext w4 w5 := by rw [hw5]; exact (KX.k (by repeat (first | assumption | constructor)))
 have hdo := lo_do w5 _ _ _ (PlanL.in' (hp.ext KeeperL.stays hE5)) (fun _ h => h) a
 have hr : M.loDo (M.mainPlan [M.topCls M.topN 0] M.twoC []) a = _ := M.two_run HA.out
 rw [hr] at hdo
 clear hr
 have HDO := hid hdo
 have HE5 := hid (HE3.out.trans (hE4.trans hE5))
 have HW5 := hid hw5
 clear hp hE4 hE5 hdo hw5
 go_wp2_with fail
 rw [← HW5.out]
 refine HDO.out.mono ?_
 rintro e w6 ⟨⟨cs, rfl, hS⟩, hE6⟩
 obtain ⟨a1, c1, a2, c2, a3, c3, rfl, -, -, ho⟩ := hS.form
 simp only [List.length_cons, List.length_nil, Nat.zero_add] at ho ⊢
 obtain ⟨w8, hw8⟩ : ∃ w8, w8 = (w6.alloc (.cells #[.int .i64 2, .slice a1 0 c1, .slice a2 3 c2, .slice a3 1 c3, .int .i64 1, .int .i64 a] 36)).alloc (.cells #[.int .i64 0] 3) := ⟨_, rfl⟩
 have hE8 : Ext w6 w8 := by rw [hw8]; exact (KX.k (by repeat (first | assumption | constructor)))
 have b6 : Blk w8 w6.heap.size 36 #[.int .i64 2, .slice a1 0 c1, .slice a2 3 c2, .slice a3 1 c3, .int .i64 1, .int .i64 a] := by rw [hw8]; exact (Blk.new _ _ _).ext ((Kp.refl _ _).alloc _)
 have hab : SliceOf 1 IntL w8 (fun _ => True) (.slice (some ⟨w6.heap.size + 1, 0, none⟩) 1 1) [0] := by
  rw [hw8]
  exact SliceOf.row (R := IntL) (xs := [0]) [[.int .i64 0]] (CellsAt.newA _ _ (by simp)) rfl (by simp) ⟨rfl, trivial⟩ trivial (by simp) (by simp)
 have hin : Calls Tryz.prog 14 #[.slice a3 1 c3, .slice (some ⟨w6.heap.size + 1, 0, none⟩) 1 1] w8 _ := lo_ints w8 _ _ _ _ [0] [0] (ho.ext IntL.stays hE8) hab
 rw [decide_eq_true rfl] at hin
 have HIN := hid hin
 have HB6 := hid b6
 have HW8 := hid hw8
 have HE8 := hid (HE5.out.trans (hE6.trans hE8))
 clear hin hab b6 hw8 hE8 hE6 ho hS
 go_wp2_with fail
 rw [← HW8.out]
 refine HIN.out.mono ?_
 rintro e w9 ⟨rfl, hE9⟩
 have b69 := HB6.out.ext hE9
 have y0 := b69.c 0 (.int .i64 2) rfl
 have y1 := b69.c 1 (.slice a1 0 c1) rfl
 have y2 := b69.c 2 (.slice a2 3 c2) rfl
 have y3 := b69.c 3 (.slice a3 1 c3) rfl
 have y4 := b69.c 4 (.int .i64 1) rfl
 have y5 := b69.c 5 (.int .i64 a) rfl
 have yz := b69.lt
 have HB69 := hid b69
 have HE9 := hid (HE8.out.trans hE9)
 clear b69 hE9
 go_wp2_with fail
 refine (lo_gives w9 2 a1 0 c1 a2 3 c2 a3 1 c3 1 a a).mono ?_
 rintro e w10 ⟨rfl, hE10⟩
 have b60 := HB69.out.ext hE10
 have x2 := b60.c 2 (.slice a2 3 c2) rfl
 have xz := b60.lt
 have HE10 := hid (HE9.out.trans hE10)
 clear hE10 b60 y0 y1 y2 y3 y4 y5 yz
 rw [decide_eq_true rfl, decide_eq_true rfl]
 go_wp2_with fail
 go_ret
 exact ⟨rfl, HE10.out⟩
end Go.Proofs.YtjdfceejkneofaaGreat
namespace Go.Proofs.YtjdfceejkneofaaGreat
open Go Go.ChangeShapes Go.WideShapes Go.ChangeAt Go.RowKit
theorem fnVmTwo_lifted (os : Os) (started : os.Started) (H : Type) (enc : TypeId × Value → H) :
    ReturnsInHanded {} Tryz.checked os 6 .any (Rows.fnVmTwoSpec.pre6 enc Tryz.prog Tryz.f6 Rows.fnVmTwoRow.domain false) (Rows.fnVmTwoSpec.post enc Tryz.prog Tryz.f6 false true false false) := by
 refine returnsInHanded_of_change (C := Tryz.checked) Tryz.own started (by kernel_rfl) Tryz.func6
  (ChangeSpec.witness6 (enc := enc) (C := Tryz.checked) false ⟨#[], #[.slice none 0 0], []⟩ 8 (by kernel_rfl) (by kernel_rfl) (by kernel_rfl) (by kernel_rfl)) ?_
 intro W base args ds gs before hval0 hW hcnd _
 have hval : ∀ (j : Nat) t v, Tryz.f6.params[j]? = some t → args[j]? = some v → Value.okWide Tryz.prog W .any base t v := hval0
 have hW' := hW
 obtain ⟨p, q, hA0, hV, rfl, hfz, hnd⟩ := hW
 have hA : DataW.TrodAll enc Tryz.prog W 0 (fun _ => true) true Tryz.f6.params.toList args.toList ds p := hA0
 rw [Tryz.params6] at hA hval
 obtain ⟨v0, d0, rfl, rfl, h0⟩ := trodAll_one hA
 obtain ⟨rfl, rfl⟩ := trodVars_none hV
 simp only [List.append_nil] at hW'
 obtain ⟨zs, hb⟩ := bytes_at (okWide_slice Tryz.underlying22 (hval 0 22 v0 rfl rfl)) h0
 refine (law_two W v0 zs hb).mono fun e W' ⟨he, hE⟩ => ?_
 subst he
 exact ⟨_, rfl, law_post (fn := Tryz.f6) Tryz.params6 rfl rfl rfl hW' h0 hE⟩
theorem fnVmTwo_holds : Rows.FnVmTwoSaid :=
 OpenClaim.holds_of_wide 6 Tryz.f6 rfl rfl rfl rfl rfl rfl rfl ⟨rfl, rfl, rfl, rfl, rfl⟩ rfl rfl rfl rfl rfl (by kernel_rfl) Tryz.func6 (by kernel_rfl)
  (of_decide_eq_true (by kernel_rfl)) (by unfold Func.isWrapper; rw [if_neg (by decide +kernel)]; exact ⟨rfl, rfl⟩)
  (fun os started H enc _ => fnVmTwo_lifted os started H enc)
#print axioms fnVmTwo_holds
end Go.Proofs.YtjdfceejkneofaaGreat
