/- FnVmDeep: for every input the program returns true, and the input reads as it did. No condition. -/
import Derived.Test.YtjdfceejkneofaaGreatJaw
set_option maxRecDepth 100000
set_option maxHeartbeats 4000000
set_option linter.unusedSimpArgs false
set_option linter.unusedVariables false
namespace Go.Proofs.YtjdfceejkneofaaGreat
open Go Go.RowKit
open Go.Lib (hid)
theorem law_deep : LawOk 3 := by
 intro W v zs hb
 by_cases hl : zs.length ≤ 1048576
 rotate_left
 · obtain ⟨va, vc, rfl⟩ := hb.form
   have hl' : decide ((1048576 : Int) < zs.length) = true := decide_eq_true (by omega)
   have hl2 : (1048576 : Int) < zs.length := by omega
   clear hb hl
   go_enter Tryz.func3, Tryz.ntmps3
   go_wp2_with fail
   go_ret
   exact ⟨rfl, Kp.refl _ _⟩
 have ha := M.loNum_in zs 1 (by omega)
 have HN1 := hid (lo_num W v zs hb hl 1 (by omega))
 obtain ⟨va, vc, rfl⟩ := hb.form
 have hl2 : ((1048576 : Int) < zs.length) = False := eq_false (by omega)
 obtain ⟨a, hae⟩ : ∃ a, M.loNum zs 1 = a := ⟨_, rfl⟩
 rw [hae] at ha HN1
 have HA : Hid (M.numOk a = true) := hid (by unfold M.numOk; simp [ha])
 clear hae hb hl ha
 go_enter Tryz.func3, Tryz.ntmps3
 go_wp2_with fail
 refine HN1.out.mono ?_
 rintro e w1 ⟨rfl, rfl⟩
 obtain ⟨w1, hw1⟩ : ∃ w1, w1 = ((W.alloc (.cells #[.int .i64 2, .string ⟨#[109, 97, 105, 110]⟩, .int .i64 1, .string ⟨#[]⟩, .int .i64 0, .string ⟨#[]⟩] 25)).alloc (.cells #[.int .i64 2, .int .i64 0, .string ⟨#[]⟩, .string ⟨#[]⟩, .int .i64 2, .int .i64 1, .string ⟨#[]⟩, .string ⟨#[]⟩, .int .i64 9, .int .i64 0, .string ⟨#[109, 97, 105, 110]⟩, .string ⟨#[114, 117, 110]⟩, .int .i64 10, .int .i64 0, .string ⟨#[]⟩, .string ⟨#[]⟩] 28)).alloc (.cells #[.int .i64 1, .int .i64 a, .string ⟨#[]⟩, .string ⟨#[]⟩, .int .i64 14, .int .i64 0, .string ⟨#[]⟩, .string ⟨#[]⟩, .int .i64 5, .int .i64 0, .string ⟨#[]⟩, .string ⟨#[]⟩, .int .i64 12, .int .i64 4, .string ⟨#[]⟩, .string ⟨#[]⟩, .int .i64 6, .int .i64 0, .string ⟨#[109, 97, 105, 110]⟩, .string ⟨#[]⟩, .int .i64 12, .int .i64 4, .string ⟨#[]⟩, .string ⟨#[]⟩, .int .i64 13, .int .i64 4, .string ⟨#[]⟩, .string ⟨#[]⟩] 28) := ⟨_, rfl⟩
 have hE1 : Ext W w1 := by rw [hw1]; exact (KX.k (by repeat (first | assumption | constructor)))
 have hz1 : w1.heap.size = W.heap.size + 3 := by rw [hw1]; simp
 have ht : SliceOf 2 TagL w1 (· < w1.heap.size) (.slice (some ⟨W.heap.size, 0, none⟩) 3 3) [⟨2, M.mainN⟩, ⟨1, M.none_⟩, ⟨0, M.none_⟩] := by
  have hb : Blk w1 W.heap.size 25 #[.int .i64 2, .string ⟨#[109, 97, 105, 110]⟩, .int .i64 1, .string ⟨#[]⟩, .int .i64 0, .string ⟨#[]⟩] := by rw [hw1]; exact (Blk.new _ _ _).ext (((Kp.refl _ _).alloc _).alloc _)
  exact SliceOf.row (R := TagL) (xs := [⟨2, M.mainN⟩, ⟨1, M.none_⟩, ⟨0, M.none_⟩]) [[.int .i64 2, .string ⟨#[109, 97, 105, 110]⟩], [.int .i64 1, .string ⟨#[]⟩], [.int .i64 0, .string ⟨#[]⟩]] (CellsAt.ofB hb) rfl (by simp) ⟨rfl, rfl, rfl, trivial⟩ (by omega) (by simp) (by simp)
 have hc1 : SliceOf 4 InsL w1 (· < w1.heap.size) (.slice (some ⟨W.heap.size + 1, 0, none⟩) 4 4) M.again := by
  have hb : Blk w1 (W.heap.size + 1) 28 #[.int .i64 2, .int .i64 0, .string ⟨#[]⟩, .string ⟨#[]⟩, .int .i64 2, .int .i64 1, .string ⟨#[]⟩, .string ⟨#[]⟩, .int .i64 9, .int .i64 0, .string ⟨#[109, 97, 105, 110]⟩, .string ⟨#[114, 117, 110]⟩, .int .i64 10, .int .i64 0, .string ⟨#[]⟩, .string ⟨#[]⟩] := by rw [hw1]; exact Blk.ext (w := (W.alloc (.cells #[.int .i64 2, .string ⟨#[109, 97, 105, 110]⟩, .int .i64 1, .string ⟨#[]⟩, .int .i64 0, .string ⟨#[]⟩] 25)).alloc (.cells #[.int .i64 2, .int .i64 0, .string ⟨#[]⟩, .string ⟨#[]⟩, .int .i64 2, .int .i64 1, .string ⟨#[]⟩, .string ⟨#[]⟩, .int .i64 9, .int .i64 0, .string ⟨#[109, 97, 105, 110]⟩, .string ⟨#[114, 117, 110]⟩, .int .i64 10, .int .i64 0, .string ⟨#[]⟩, .string ⟨#[]⟩] 28)) (Blk.newAt _ _ (by simp)) ((Kp.refl _ _).alloc _)
  exact SliceOf.row (R := InsL) (xs := M.again) [[.int .i64 2, .int .i64 0, .string ⟨#[]⟩, .string ⟨#[]⟩], [.int .i64 2, .int .i64 1, .string ⟨#[]⟩, .string ⟨#[]⟩], [.int .i64 9, .int .i64 0, .string ⟨#[109, 97, 105, 110]⟩, .string ⟨#[114, 117, 110]⟩], [.int .i64 10, .int .i64 0, .string ⟨#[]⟩, .string ⟨#[]⟩]] (CellsAt.ofB hb) rfl (by simp) ⟨rfl, rfl, rfl, rfl, trivial⟩ (by omega) (by simp [M.again]) (by simp [M.again])
 have hc2 : SliceOf 4 InsL w1 (· < w1.heap.size) (.slice (some ⟨W.heap.size + 1 + 1, 0, none⟩) 7 7) (M.roundC a) := by
  have hb : Blk w1 (W.heap.size + 1 + 1) 28 #[.int .i64 1, .int .i64 a, .string ⟨#[]⟩, .string ⟨#[]⟩, .int .i64 14, .int .i64 0, .string ⟨#[]⟩, .string ⟨#[]⟩, .int .i64 5, .int .i64 0, .string ⟨#[]⟩, .string ⟨#[]⟩, .int .i64 12, .int .i64 4, .string ⟨#[]⟩, .string ⟨#[]⟩, .int .i64 6, .int .i64 0, .string ⟨#[109, 97, 105, 110]⟩, .string ⟨#[]⟩, .int .i64 12, .int .i64 4, .string ⟨#[]⟩, .string ⟨#[]⟩, .int .i64 13, .int .i64 4, .string ⟨#[]⟩, .string ⟨#[]⟩] := by rw [hw1]; exact Blk.newAt _ _ (by simp)
  exact SliceOf.row (R := InsL) (xs := M.roundC a) [[.int .i64 1, .int .i64 a, .string ⟨#[]⟩, .string ⟨#[]⟩], [.int .i64 14, .int .i64 0, .string ⟨#[]⟩, .string ⟨#[]⟩], [.int .i64 5, .int .i64 0, .string ⟨#[]⟩, .string ⟨#[]⟩], [.int .i64 12, .int .i64 4, .string ⟨#[]⟩, .string ⟨#[]⟩], [.int .i64 6, .int .i64 0, .string ⟨#[109, 97, 105, 110]⟩, .string ⟨#[]⟩], [.int .i64 12, .int .i64 4, .string ⟨#[]⟩, .string ⟨#[]⟩], [.int .i64 13, .int .i64 4, .string ⟨#[]⟩, .string ⟨#[]⟩]] (CellsAt.ofB hb) rfl (by simp) ⟨rfl, rfl, rfl, rfl, rfl, rfl, rfl, trivial⟩ (by omega) (by simp [M.roundC]) (by simp [M.roundC])
 have hmain : Calls Tryz.prog 13 #[.slice none 0 0, .slice (some ⟨W.heap.size + 1, 0, none⟩) 4 4, .slice none 0 0] w1 _ := lo_main_nil w1 (· < w1.heap.size) (fun _ h => h) (some ⟨W.heap.size + 1, 0, none⟩) 4 none 0 M.again [] hc1 (SliceOf.nil _ _ _ _)
 have HMN := hid hmain
 have HT := hid ht
 have HC2 := hid hc2
 have HE1 := hid hE1
 have HW1 := hid hw1
 have HZ1 := hid hz1
 clear hE1 hc1 hc2 ht hmain hw1 hz1
 go_wp2_with fail
 rw [← HW1.out]
 refine HMN.out.mono ?_
 rintro e w2 ⟨⟨vp, rfl, hp⟩, hE2⟩
 obtain ⟨pa, pc, rfl, -, -⟩ := hp.form
 have hdo := lo_do w2 _ _ _ (PlanL.in' hp) (fun _ h => h) a
 rw [M.deep_again HA.out] at hdo
 have HDO := hid hdo
 have HE2 := hid hE2
 clear hp hE2 hdo
 go_wp2_with fail
 refine HDO.out.mono ?_
 rintro e w3 ⟨⟨cs, rfl, hS⟩, hE3⟩
 obtain ⟨a1, c1, a2, c2, a3, c3, rfl, -, -, -⟩ := hS.form
 simp only [List.length_cons, List.length_nil, Nat.zero_add, M.zval]
 obtain ⟨w5, hw5⟩ : ∃ w5, w5 = (w3.alloc (.cells #[.int .i64 7, .slice a1 0 c1, .slice a2 1 c2, .slice a3 0 c3, .int .i64 0, .int .i64 0] 36)).alloc (.cells #[.int .i64 4, .slice (some ⟨W.heap.size, 0, none⟩) 3 3, .slice none 0 0] 43) := ⟨_, rfl⟩
 have hE5 : Ext w3 w5 := by rw [hw5]; exact (KX.k (by repeat (first | assumption | constructor)))
 have b7 : Blk w5 w3.heap.size 36 #[.int .i64 7, .slice a1 0 c1, .slice a2 1 c2, .slice a3 0 c3, .int .i64 0, .int .i64 0] := by rw [hw5]; exact (Blk.new _ _ _).ext ((Kp.refl _ _).alloc _)
 have bM : Blk w5 (w3.heap.size + 1) 43 #[.int .i64 4, .slice (some ⟨W.heap.size, 0, none⟩) 3 3, .slice none 0 0] := by rw [hw5]; exact Blk.newAt _ _ (by simp)
 have hz5 : w5.heap.size = w3.heap.size + 2 := by rw [hw5]; simp
 have h15 : Ext w1 w5 := HE2.out.trans (hE3.trans hE5)
 have s15 := h15.size
 have ht5 : SliceOf 2 TagL w5 (· < w5.heap.size) (.slice (some ⟨W.heap.size, 0, none⟩) 3 3) [⟨2, M.mainN⟩, ⟨1, M.none_⟩, ⟨0, M.none_⟩] := HT.out.keep TagL.stays (Ext.same h15) (fun b hb => by omega)
 have hc5 : SliceOf 4 InsL w5 (· < w5.heap.size) (.slice (some ⟨W.heap.size + 1 + 1, 0, none⟩) 7 7) (M.roundC a) := HC2.out.keep InsL.stays (Ext.same h15) (fun b hb => by omega)
 have hx5 : SliceOf 3 SMapL w5 (· < w5.heap.size) (.slice (some ⟨w3.heap.size + 1, 0, none⟩) 1 1) M.roundM :=
  SliceOf.row (R := SMapL) (xs := M.roundM) [[.int .i64 4, .slice (some ⟨W.heap.size, 0, none⟩) 3 3, .slice none 0 0]] (CellsAt.ofB bM) rfl (by simp) ⟨⟨_, _, rfl, ht5, SliceOf.nil _ _ _ _⟩, trivial⟩ (by omega) (by simp [M.roundM]) (by simp [M.roundM])
 have hmain : Calls Tryz.prog 13 #[.slice none 0 0, .slice (some ⟨W.heap.size + 1 + 1, 0, none⟩) 7 7, .slice (some ⟨w3.heap.size + 1, 0, none⟩) 1 1] w5 _ := lo_main_nil w5 (· < w5.heap.size) (fun _ h => h) (some ⟨W.heap.size + 1 + 1, 0, none⟩) 7 (some ⟨w3.heap.size + 1, 0, none⟩) 1 (M.roundC a) M.roundM hc5 hx5
 have HMN := hid hmain
 have HB7 := hid b7
 have HW5 := hid hw5
 have HE5 := hid (HE1.out.trans h15)
 clear hmain b7 hw5 hE5 bM hz5 h15 s15 ht5 hc5 hx5 hE3 hS HC2 HT
 go_wp2_with fail
 rw [← HW5.out]
 refine HMN.out.mono ?_
 rintro e w6 ⟨⟨vp, rfl, hp⟩, hE6⟩
 obtain ⟨pb, pd, rfl, -, -⟩ := hp.form
 have hdo := lo_do w6 _ _ _ (PlanL.in' hp) (fun _ h => h) a
 rw [M.deep_round HA.out] at hdo
 have HDO := hid hdo
 have HE6 := hid hE6
 clear hp hE6 hdo
 go_wp2_with fail
 refine HDO.out.mono ?_
 rintro e w7 ⟨⟨cs, rfl, hS⟩, hE7⟩
 obtain ⟨b1, d1, b2, d2, b3, d3, rfl, -, -, ho⟩ := hS.form
 simp only [List.length_cons, List.length_nil, List.length_replicate, Nat.zero_add, M.zval] at ho ⊢
 have b77 := (HB7.out.ext HE6.out).ext hE7
 have y0 := b77.c 0 (.int .i64 7) rfl
 have yz := b77.lt
 obtain ⟨w9, hw9⟩ : ∃ w9, w9 = (w7.alloc (.cells #[.int .i64 8, .slice b1 0 d1, .slice b2 12 d2, .slice b3 1 d3, .int .i64 0, .int .i64 0] 36)).alloc (.cells #[.int .i64 a] 3) := ⟨_, rfl⟩
 have hE9 : Ext w7 w9 := by rw [hw9]; exact (KX.k (by repeat (first | assumption | constructor)))
 have hab : SliceOf 1 IntL w9 (fun _ => True) (.slice (some ⟨w7.heap.size + 1, 0, none⟩) 1 1) [a] := by
  rw [hw9]
  exact SliceOf.row (R := IntL) (xs := [a]) [[.int .i64 a]] (CellsAt.newA _ _ (by simp)) rfl (by simp) ⟨rfl, trivial⟩ trivial (by simp) (by simp)
 have hin : Calls Tryz.prog 14 #[.slice b3 1 d3, .slice (some ⟨w7.heap.size + 1, 0, none⟩) 1 1] w9 _ := lo_ints w9 _ _ _ _ [a] [a] (ho.ext IntL.stays hE9) hab
 rw [decide_eq_true rfl] at hin
 have HIN := hid hin
 have HW9 := hid hw9
 have HE9 := hid (HE5.out.trans (HE6.out.trans (hE7.trans hE9)))
 clear hin hab hw9 hE9 hE7 ho hS b77
 go_wp2_with fail
 rw [← HW9.out]
 refine HIN.out.mono ?_
 rintro e w10 ⟨rfl, hE10⟩
 have HE10 := hid (HE9.out.trans hE10)
 clear hE10
 go_wp2_with fail
 go_ret
 exact ⟨rfl, HE10.out⟩
end Go.Proofs.YtjdfceejkneofaaGreat
namespace Go.Proofs.YtjdfceejkneofaaGreat
open Go Go.ChangeShapes Go.WideShapes Go.ChangeAt Go.RowKit
theorem fnVmDeep_lifted (os : Os) (started : os.Started) (H : Type) (enc : TypeId × Value → H) :
    ReturnsInHanded {} Tryz.checked os 3 .any (Rows.fnVmDeepSpec.pre6 enc Tryz.prog Tryz.f3 Rows.fnVmDeepRow.domain false) (Rows.fnVmDeepSpec.post enc Tryz.prog Tryz.f3 false true false false) := by
 refine returnsInHanded_of_change (C := Tryz.checked) Tryz.own started (by kernel_rfl) Tryz.func3
  (ChangeSpec.witness6 (enc := enc) (C := Tryz.checked) false ⟨#[], #[.slice none 0 0], []⟩ 8 (by kernel_rfl) (by kernel_rfl) (by kernel_rfl) (by kernel_rfl)) ?_
 intro W base args ds gs before hval0 hW hcnd _
 have hval : ∀ (j : Nat) t v, Tryz.f3.params[j]? = some t → args[j]? = some v → Value.okWide Tryz.prog W .any base t v := hval0
 have hW' := hW
 obtain ⟨p, q, hA0, hV, rfl, hfz, hnd⟩ := hW
 have hA : DataW.TrodAll enc Tryz.prog W 0 (fun _ => true) true Tryz.f3.params.toList args.toList ds p := hA0
 rw [Tryz.params3] at hA hval
 obtain ⟨v0, d0, rfl, rfl, h0⟩ := trodAll_one hA
 obtain ⟨rfl, rfl⟩ := trodVars_none hV
 simp only [List.append_nil] at hW'
 obtain ⟨zs, hb⟩ := bytes_at (okWide_slice Tryz.underlying22 (hval 0 22 v0 rfl rfl)) h0
 refine (law_deep W v0 zs hb).mono fun e W' ⟨he, hE⟩ => ?_
 subst he
 exact ⟨_, rfl, law_post (fn := Tryz.f3) Tryz.params3 rfl rfl rfl hW' h0 hE⟩
theorem fnVmDeep_holds : Rows.FnVmDeepSaid :=
 OpenClaim.holds_of_wide 3 Tryz.f3 rfl rfl rfl rfl rfl rfl rfl ⟨rfl, rfl, rfl, rfl, rfl⟩ rfl rfl rfl rfl rfl (by kernel_rfl) Tryz.func3 (by kernel_rfl)
  (of_decide_eq_true (by kernel_rfl)) (by unfold Func.isWrapper; rw [if_neg (by decide +kernel)]; exact ⟨rfl, rfl⟩)
  (fun os started H enc _ => fnVmDeep_lifted os started H enc)
#print axioms fnVmDeep_holds
end Go.Proofs.YtjdfceejkneofaaGreat
