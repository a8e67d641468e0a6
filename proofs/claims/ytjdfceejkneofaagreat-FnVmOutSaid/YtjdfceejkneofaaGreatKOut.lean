/- FnVmOut: for every input the program returns true, and the input reads as it did. No condition. -/
import Derived.Test.YtjdfceejkneofaaGreatJaw
set_option maxRecDepth 100000
set_option maxHeartbeats 4000000
set_option linter.unusedSimpArgs false
set_option linter.unusedVariables false
namespace Go.Proofs.YtjdfceejkneofaaGreat
open Go Go.RowKit
open Go.Lib (hid)
theorem law_out : LawOk 5 := by
 intro W v zs hb
 by_cases hl : zs.length ≤ 1048576
 rotate_left
 · obtain ⟨va, vc, rfl⟩ := hb.form
   have hl' : decide ((1048576 : Int) < zs.length) = true := decide_eq_true (by omega)
   have hl2 : (1048576 : Int) < zs.length := by omega
   clear hb hl
   go_enter Tryz.func5, Tryz.ntmps5
   go_wp2_with fail
   go_ret
   exact ⟨rfl, Kp.refl _ _⟩
 have ha := M.loNum_in zs 1 (by omega)
 have hb2 := M.loNum_in zs 2 (by omega)
 have HN1 := hid (lo_num W v zs hb hl 1 (by omega))
 have HN2 := hid (lo_num W v zs hb hl 2 (by omega))
 obtain ⟨va, vc, rfl⟩ := hb.form
 have hl2 : ((1048576 : Int) < zs.length) = False := eq_false (by omega)
 obtain ⟨a, hae⟩ : ∃ a, M.loNum zs 1 = a := ⟨_, rfl⟩
 obtain ⟨b, hbe⟩ : ∃ b, M.loNum zs 2 = b := ⟨_, rfl⟩
 rw [hae] at ha HN1
 rw [hbe] at hb2 HN2
 have HA : Hid (M.numOk a = true) := hid (by unfold M.numOk; simp [ha])
 have HB : Hid (M.numOk b = true) := hid (by unfold M.numOk; simp [hb2])
 clear hae hbe hb hl ha hb2
 go_enter Tryz.func5, Tryz.ntmps5
 go_wp2_with fail
 refine HN1.out.mono ?_
 rintro e w1 ⟨rfl, rfl⟩
 go_wp2_with fail
 refine HN2.out.mono ?_
 rintro e w1 ⟨rfl, rfl⟩
 obtain ⟨w1, hw1⟩ : ∃ w1, w1 = W.alloc (.cells #[.int .i64 1, .int .i64 a, .string ⟨#[]⟩, .string ⟨#[]⟩, .int .i64 14, .int .i64 0, .string ⟨#[]⟩, .string ⟨#[]⟩, .int .i64 2, .int .i64 1, .string ⟨#[]⟩, .string ⟨#[]⟩, .int .i64 14, .int .i64 0, .string ⟨#[]⟩, .string ⟨#[]⟩, .int .i64 1, .int .i64 0, .string ⟨#[]⟩, .string ⟨#[]⟩, .int .i64 10, .int .i64 0, .string ⟨#[]⟩, .string ⟨#[]⟩] 28) := ⟨_, rfl⟩
 have hE1 : Ext W w1 := by rw [hw1]; exact (KX.k (by repeat (first | assumption | constructor)))
 have hc : SliceOf 4 InsL w1 (· < w1.heap.size) (.slice (some ⟨W.heap.size, 0, none⟩) 6 6) (M.outC a) := by
  rw [hw1]
  exact SliceOf.row (R := InsL) (xs := M.outC a) [[.int .i64 1, .int .i64 a, .string ⟨#[]⟩, .string ⟨#[]⟩], [.int .i64 14, .int .i64 0, .string ⟨#[]⟩, .string ⟨#[]⟩], [.int .i64 2, .int .i64 1, .string ⟨#[]⟩, .string ⟨#[]⟩], [.int .i64 14, .int .i64 0, .string ⟨#[]⟩, .string ⟨#[]⟩], [.int .i64 1, .int .i64 0, .string ⟨#[]⟩, .string ⟨#[]⟩], [.int .i64 10, .int .i64 0, .string ⟨#[]⟩, .string ⟨#[]⟩]] (CellsAt.newA _ _ rfl) rfl (by simp) ⟨rfl, rfl, rfl, rfl, rfl, rfl, trivial⟩ (by simp) (Nat.le_refl _) (by simp [M.outC])
 have hmain : Calls Tryz.prog 13 #[.slice none 0 0, .slice (some ⟨W.heap.size, 0, none⟩) 6 6, .slice none 0 0] w1 _ := lo_main_nil w1 (· < w1.heap.size) (fun _ h => h) (some ⟨W.heap.size, 0, none⟩) 6 none 0 (M.outC a) [] hc (SliceOf.nil _ _ _ _)
 have HMN := hid hmain
 have HE1 := hid hE1
 have HW1 := hid hw1
 clear hE1 hc hmain hw1
 go_wp2_with fail
 rw [← HW1.out]
 refine HMN.out.mono ?_
 rintro e w2 ⟨⟨vp, rfl, hp⟩, hE2⟩
 obtain ⟨pa, pc, rfl, -, -⟩ := hp.form
 have hdo := lo_do w2 _ _ _ (PlanL.in' hp) (fun _ h => h) b
 rw [M.out_run HA.out HB.out] at hdo
 have HDO := hid hdo
 have HE2 := hid (HE1.out.trans hE2)
 clear hp hE2 hdo
 go_wp2_with fail
 refine HDO.out.mono ?_
 rintro e w3 ⟨⟨cs, rfl, hS⟩, hE3⟩
 obtain ⟨a1, c1, a2, c2, a3, c3, rfl, -, -, ho⟩ := hS.form
 have hE4 : Ext w3 ((w3.alloc (.cells #[.int .i64 2, .slice a1 0 c1, .slice a2 1 c2, .slice a3 2 c3, .int .i64 1, .int .i64 0] 36)).alloc (.cells #[.int .i64 a, .int .i64 b] 3)) := (KX.k (by repeat (first | assumption | constructor)))
 obtain ⟨w4, hw4⟩ : ∃ w4, w4 = (w3.alloc (.cells #[.int .i64 2, .slice a1 0 c1, .slice a2 1 c2, .slice a3 2 c3, .int .i64 1, .int .i64 0] 36)).alloc (.cells #[.int .i64 a, .int .i64 b] 3) := ⟨_, rfl⟩
 have b5 : Blk w4 w3.heap.size 36 #[.int .i64 2, .slice a1 0 c1, .slice a2 1 c2, .slice a3 2 c3, .int .i64 1, .int .i64 0] := by rw [hw4]; exact (Blk.new _ _ _).ext (KX.k (by repeat (first | assumption | constructor)))
 have hab : SliceOf 1 IntL w4 (fun _ => True) (.slice (some ⟨w3.heap.size + 1, 0, none⟩) 2 2) [a, b] := by
  rw [hw4]
  exact SliceOf.row (R := IntL) (xs := [a, b]) [[.int .i64 a], [.int .i64 b]] (CellsAt.newA _ _ (by simp)) rfl (by simp) ⟨rfl, rfl, trivial⟩ trivial (by simp) (by simp)
 rw [← hw4] at hE4
 have hin : Calls Tryz.prog 14 #[.slice a3 2 c3, .slice (some ⟨w3.heap.size + 1, 0, none⟩) 2 2] w4 _ := lo_ints w4 _ _ _ _ [a, b] [a, b] (ho.ext IntL.stays hE4) hab
 rw [decide_eq_true rfl] at hin
 have HIN := hid hin
 have HB5 := hid b5
 have HW4 := hid hw4
 have HE4 := hid (HE2.out.trans (hE3.trans hE4))
 clear hin hab b5 hw4 hE4 hE3 ho hS
 go_wp2_with fail
 rw [← HW4.out]
 refine HIN.out.mono ?_
 rintro e w5 ⟨rfl, hE5⟩
 have b5 := HB5.out.ext hE5
 have y0 := b5.c 0 (.int .i64 2) rfl
 have y1 := b5.c 1 (.slice a1 0 c1) rfl
 have y2 := b5.c 2 (.slice a2 1 c2) rfl
 have y3 := b5.c 3 (.slice a3 2 c3) rfl
 have y4 := b5.c 4 (.int .i64 1) rfl
 have y5 := b5.c 5 (.int .i64 0) rfl
 have yz := b5.lt
 have HE5 := hid (HE4.out.trans hE5)
 clear b5 hE5
 go_wp2_with fail
 refine (lo_gives w5 2 a1 0 c1 a2 1 c2 a3 2 c3 1 0 0).mono ?_
 rintro e w6 ⟨rfl, hE6⟩
 have HE6 := hid (HE5.out.trans hE6)
 clear hE6
 rw [decide_eq_true rfl, decide_eq_true rfl]
 go_wp2_with fail
 go_ret
 exact ⟨rfl, HE6.out⟩
end Go.Proofs.YtjdfceejkneofaaGreat
namespace Go.Proofs.YtjdfceejkneofaaGreat
open Go Go.ChangeShapes Go.WideShapes Go.ChangeAt Go.RowKit
theorem fnVmOut_lifted (os : Os) (started : os.Started) (H : Type) (enc : TypeId × Value → H) :
    ReturnsInHanded {} Tryz.checked os 5 .any (Rows.fnVmOutSpec.pre6 enc Tryz.prog Tryz.f5 Rows.fnVmOutRow.domain false) (Rows.fnVmOutSpec.post enc Tryz.prog Tryz.f5 false true false false) := by
 refine returnsInHanded_of_change (C := Tryz.checked) Tryz.own started (by kernel_rfl) Tryz.func5
  (ChangeSpec.witness6 (enc := enc) (C := Tryz.checked) false ⟨#[], #[.slice none 0 0], []⟩ 8 (by kernel_rfl) (by kernel_rfl) (by kernel_rfl) (by kernel_rfl)) ?_
 intro W base args ds gs before hval0 hW hcnd _
 have hval : ∀ (j : Nat) t v, Tryz.f5.params[j]? = some t → args[j]? = some v → Value.okWide Tryz.prog W .any base t v := hval0
 have hW' := hW
 obtain ⟨p, q, hA0, hV, rfl, hfz, hnd⟩ := hW
 have hA : DataW.TrodAll enc Tryz.prog W 0 (fun _ => true) true Tryz.f5.params.toList args.toList ds p := hA0
 rw [Tryz.params5] at hA hval
 obtain ⟨v0, d0, rfl, rfl, h0⟩ := trodAll_one hA
 obtain ⟨rfl, rfl⟩ := trodVars_none hV
 simp only [List.append_nil] at hW'
 obtain ⟨zs, hb⟩ := bytes_at (okWide_slice Tryz.underlying22 (hval 0 22 v0 rfl rfl)) h0
 refine (law_out W v0 zs hb).mono fun e W' ⟨he, hE⟩ => ?_
 subst he
 exact ⟨_, rfl, law_post (fn := Tryz.f5) Tryz.params5 rfl rfl rfl hW' h0 hE⟩
theorem fnVmOut_holds : Rows.FnVmOutSaid :=
 OpenClaim.holds_of_wide 5 Tryz.f5 rfl rfl rfl rfl rfl rfl rfl ⟨rfl, rfl, rfl, rfl, rfl⟩ rfl rfl rfl rfl rfl (by kernel_rfl) Tryz.func5 (by kernel_rfl)
  (of_decide_eq_true (by kernel_rfl)) (by unfold Func.isWrapper; rw [if_neg (by decide +kernel)]; exact ⟨rfl, rfl⟩)
  (fun os started H enc _ => fnVmOut_lifted os started H enc)
#print axioms fnVmOut_holds
end Go.Proofs.YtjdfceejkneofaaGreat
