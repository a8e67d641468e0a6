/- FnVmCast: for every input the program returns true, and the input reads as it did. No condition. -/
import Derived.Test.YtjdfceejkneofaaGreatJax
import Derived.Test.YtjdfceejkneofaaGreatJaw
set_option maxRecDepth 100000
set_option maxHeartbeats 4000000
set_option linter.unusedSimpArgs false
set_option linter.unusedVariables false
namespace Go.Proofs.YtjdfceejkneofaaGreat
open Go Go.RowKit
open Go.Lib (hid)
theorem law_cast : LawOk 4 := by
 intro W v zs hb
 by_cases hl : zs.length ≤ 1048576
 rotate_left
 · obtain ⟨va, vc, rfl⟩ := hb.form
   have hl' : decide ((1048576 : Int) < zs.length) = true := decide_eq_true (by omega)
   have hl2 : (1048576 : Int) < zs.length := by omega
   clear hb hl
   go_enter Tryz.func4, Tryz.ntmps4
   go_wp2_with fail
   go_ret
   exact ⟨rfl, Kp.refl _ _⟩
 have hx := M.loNum_in zs 1 (by omega)
 have HNx := hid (lo_num W v zs hb hl 1 (by omega))
 obtain ⟨va, vc, rfl⟩ := hb.form
 have hl2 : ((1048576 : Int) < zs.length) = False := eq_false (by omega)
 obtain ⟨x, hxe⟩ : ∃ x, M.loNum zs 1 = x := ⟨_, rfl⟩
 rw [hxe] at hx HNx
 obtain ⟨a, hae⟩ : ∃ a, Int.tmod x 1000 = a := ⟨_, rfl⟩
 have ha : a.natAbs = x.natAbs % 1000 := by rw [← hae]; exact Int.natAbs_tmod _ _
 have HAE := hid hae
 have HA : Hid (M.numOk a = true) := hid (by unfold M.numOk; simp; omega)
 clear hae ha hx hxe
 clear hb hl
 go_enter Tryz.func4, Tryz.ntmps4
 go_wp2_with fail
 refine HNx.out.mono ?_
 rintro e w1 ⟨rfl, rfl⟩
 go_wp2_with fail
 rw [HAE.out]
 refine (lo_top W ⟨#[116, 111, 112]⟩ a).mono ?_
 rintro e w1 ⟨⟨vf, vm, rfl, hcl⟩, hE1⟩
 obtain ⟨fa, fc, ma, mc, he⟩ := hcl.form
 have hv : vf = .slice fa 1 fc ∧ vm = .slice ma 2 mc := by simpa [M.topCls] using he
 obtain ⟨rfl, rfl⟩ := hv
 have HCL := hid hcl
 have HE1 := hid hE1
 clear hcl hE1 he
 go_wp2_with fail
 refine (lo_sub w1 ⟨#[99, 101, 108, 108]⟩ a).mono ?_
 rintro e w2 ⟨⟨vg, vn, rfl, hsl⟩, hE2⟩
 obtain ⟨ga, gc, mb, md, he⟩ := hsl.form
 have hv : vg = .slice ga 0 gc ∧ vn = .slice mb 1 md := by simpa [M.subCls, M.topN] using he
 obtain ⟨rfl, rfl⟩ := hv
 obtain ⟨w6, hw6⟩ : ∃ w6, w6 = (((w2.alloc (.cells #[.string ⟨#[116, 111, 112]⟩, .string ⟨#[]⟩, .slice fa 1 fc, .slice ma 2 mc, .string ⟨#[99, 101, 108, 108]⟩, .string ⟨#[116, 111, 112]⟩, .slice ga 0 gc, .slice mb 1 md] 50)).alloc (.cells #[.int .i64 6, .int .i64 0, .string ⟨#[99, 101, 108, 108]⟩, .string ⟨#[]⟩, .int .i64 15, .int .i64 0, .string ⟨#[116, 111, 112]⟩, .string ⟨#[]⟩, .int .i64 15, .int .i64 0, .string ⟨#[99, 101, 108, 108]⟩, .string ⟨#[]⟩, .int .i64 9, .int .i64 0, .string ⟨#[99, 101, 108, 108]⟩, .string ⟨#[103, 101, 116]⟩, .int .i64 10, .int .i64 0, .string ⟨#[]⟩, .string ⟨#[]⟩] 28)).alloc (.cells #[.int .i64 6, .int .i64 0, .string ⟨#[116, 111, 112]⟩, .string ⟨#[]⟩, .int .i64 15, .int .i64 0, .string ⟨#[99, 101, 108, 108]⟩, .string ⟨#[]⟩, .int .i64 9, .int .i64 0, .string ⟨#[99, 101, 108, 108]⟩, .string ⟨#[103, 101, 116]⟩, .int .i64 10, .int .i64 0, .string ⟨#[]⟩, .string ⟨#[]⟩] 28)).alloc (.cells #[.int .i64 5, .int .i64 0, .string ⟨#[]⟩, .string ⟨#[]⟩, .int .i64 15, .int .i64 0, .string ⟨#[99, 101, 108, 108]⟩, .string ⟨#[]⟩, .int .i64 9, .int .i64 0, .string ⟨#[99, 101, 108, 108]⟩, .string ⟨#[103, 101, 116]⟩, .int .i64 10, .int .i64 0, .string ⟨#[]⟩, .string ⟨#[]⟩] 28) := ⟨_, rfl⟩
 have hE6 : Ext w2 w6 := by rw [hw6]; exact (by repeat (first | with_reducible exact Kp.refl _ _ | with_reducible assumption | with_reducible refine Kp.alloc ?_ _ | with_reducible refine Kp.drew ?_ | with_reducible refine Kp.drewN ?_ _ | with_reducible refine Kp.setCell ?_ (fun h => absurd h (by simp <;> omega)) _ | with_reducible refine Kp.trans ?_ (by with_reducible assumption) | exact Kp.refl _ _ | assumption | refine Kp.alloc ?_ _ | refine Kp.drew ?_ | refine Kp.drewN ?_ _ | (refine Kp.setCell ?_ (fun h => absurd h (by simp; done)) _) | (refine Kp.setCell ?_ (fun h => absurd h (by simp; omega)) _) | refine Kp.trans ?_ (by assumption)))
 have hz6 : w6.heap.size = w2.heap.size + 4 := by rw [hw6]; simp
 have h1s := hE2.size
 have hm : SliceOf 4 ClassL w6 (· < w6.heap.size) (.slice (some ⟨w2.heap.size, 0, none⟩) 2 2) [M.topCls M.topN a, M.subCls M.cellN a] := by
  have hb : Blk w6 w2.heap.size 50 #[.string ⟨#[116, 111, 112]⟩, .string ⟨#[]⟩, .slice fa 1 fc, .slice ma 2 mc, .string ⟨#[99, 101, 108, 108]⟩, .string ⟨#[116, 111, 112]⟩, .slice ga 0 gc, .slice mb 1 md] := by rw [hw6]; exact (Blk.new _ _ _).ext ((((Kp.refl _ _).alloc _).alloc _).alloc _)
  have hc3 := ClassL.stays _ _ _ _ _ _ (Ext.same (hE2.trans hE6)) (fun _ h => h) (ClassL.inside _ _ _ _ HCL.out)
  have hc4 := ClassL.stays _ _ _ _ _ _ (Ext.same hE6) (fun _ h => h) (ClassL.inside _ _ _ _ hsl)
  exact SliceOf.row (R := ClassL) (xs := [M.topCls M.topN a, M.subCls M.cellN a]) [[.string ⟨#[116, 111, 112]⟩, .string ⟨#[]⟩, .slice fa 1 fc, .slice ma 2 mc], [.string ⟨#[99, 101, 108, 108]⟩, .string ⟨#[116, 111, 112]⟩, .slice ga 0 gc, .slice mb 1 md]] (CellsAt.ofB hb) rfl (by simp) ⟨ClassL.stays _ _ _ _ _ _ (fun _ _ _ _ h => h) (fun _ h => by have := h.2; omega) hc3, ClassL.stays _ _ _ _ _ _ (fun _ _ _ _ h => h) (fun _ h => by have := h.2; omega) hc4, trivial⟩ (by omega) (by simp) (by simp)
 have hc1 : SliceOf 4 InsL w6 (· < w6.heap.size) (.slice (some ⟨w2.heap.size + 1, 0, none⟩) 5 5) M.castUp := by
  have hb : Blk w6 (w2.heap.size + 1) 28 #[.int .i64 6, .int .i64 0, .string ⟨#[99, 101, 108, 108]⟩, .string ⟨#[]⟩, .int .i64 15, .int .i64 0, .string ⟨#[116, 111, 112]⟩, .string ⟨#[]⟩, .int .i64 15, .int .i64 0, .string ⟨#[99, 101, 108, 108]⟩, .string ⟨#[]⟩, .int .i64 9, .int .i64 0, .string ⟨#[99, 101, 108, 108]⟩, .string ⟨#[103, 101, 116]⟩, .int .i64 10, .int .i64 0, .string ⟨#[]⟩, .string ⟨#[]⟩] := by rw [hw6]; exact Blk.ext (w := (w2.alloc (.cells #[.string ⟨#[116, 111, 112]⟩, .string ⟨#[]⟩, .slice fa 1 fc, .slice ma 2 mc, .string ⟨#[99, 101, 108, 108]⟩, .string ⟨#[116, 111, 112]⟩, .slice ga 0 gc, .slice mb 1 md] 50)).alloc (.cells #[.int .i64 6, .int .i64 0, .string ⟨#[99, 101, 108, 108]⟩, .string ⟨#[]⟩, .int .i64 15, .int .i64 0, .string ⟨#[116, 111, 112]⟩, .string ⟨#[]⟩, .int .i64 15, .int .i64 0, .string ⟨#[99, 101, 108, 108]⟩, .string ⟨#[]⟩, .int .i64 9, .int .i64 0, .string ⟨#[99, 101, 108, 108]⟩, .string ⟨#[103, 101, 116]⟩, .int .i64 10, .int .i64 0, .string ⟨#[]⟩, .string ⟨#[]⟩] 28)) (Blk.newAt _ _ (by simp)) (((Kp.refl _ _).alloc _).alloc _)
  exact SliceOf.row (R := InsL) (xs := M.castUp) [[.int .i64 6, .int .i64 0, .string ⟨#[99, 101, 108, 108]⟩, .string ⟨#[]⟩], [.int .i64 15, .int .i64 0, .string ⟨#[116, 111, 112]⟩, .string ⟨#[]⟩], [.int .i64 15, .int .i64 0, .string ⟨#[99, 101, 108, 108]⟩, .string ⟨#[]⟩], [.int .i64 9, .int .i64 0, .string ⟨#[99, 101, 108, 108]⟩, .string ⟨#[103, 101, 116]⟩], [.int .i64 10, .int .i64 0, .string ⟨#[]⟩, .string ⟨#[]⟩]] (CellsAt.ofB hb) rfl (by simp) ⟨rfl, rfl, rfl, rfl, rfl, trivial⟩ (by omega) (by simp [M.castUp]) (by simp [M.castUp])
 have hc2 : SliceOf 4 InsL w6 (· < w6.heap.size) (.slice (some ⟨w2.heap.size + 2, 0, none⟩) 4 4) M.castDown := by
  have hb : Blk w6 (w2.heap.size + 2) 28 #[.int .i64 6, .int .i64 0, .string ⟨#[116, 111, 112]⟩, .string ⟨#[]⟩, .int .i64 15, .int .i64 0, .string ⟨#[99, 101, 108, 108]⟩, .string ⟨#[]⟩, .int .i64 9, .int .i64 0, .string ⟨#[99, 101, 108, 108]⟩, .string ⟨#[103, 101, 116]⟩, .int .i64 10, .int .i64 0, .string ⟨#[]⟩, .string ⟨#[]⟩] := by rw [hw6]; exact Blk.ext (w := ((w2.alloc (.cells #[.string ⟨#[116, 111, 112]⟩, .string ⟨#[]⟩, .slice fa 1 fc, .slice ma 2 mc, .string ⟨#[99, 101, 108, 108]⟩, .string ⟨#[116, 111, 112]⟩, .slice ga 0 gc, .slice mb 1 md] 50)).alloc (.cells #[.int .i64 6, .int .i64 0, .string ⟨#[99, 101, 108, 108]⟩, .string ⟨#[]⟩, .int .i64 15, .int .i64 0, .string ⟨#[116, 111, 112]⟩, .string ⟨#[]⟩, .int .i64 15, .int .i64 0, .string ⟨#[99, 101, 108, 108]⟩, .string ⟨#[]⟩, .int .i64 9, .int .i64 0, .string ⟨#[99, 101, 108, 108]⟩, .string ⟨#[103, 101, 116]⟩, .int .i64 10, .int .i64 0, .string ⟨#[]⟩, .string ⟨#[]⟩] 28)).alloc (.cells #[.int .i64 6, .int .i64 0, .string ⟨#[116, 111, 112]⟩, .string ⟨#[]⟩, .int .i64 15, .int .i64 0, .string ⟨#[99, 101, 108, 108]⟩, .string ⟨#[]⟩, .int .i64 9, .int .i64 0, .string ⟨#[99, 101, 108, 108]⟩, .string ⟨#[103, 101, 116]⟩, .int .i64 10, .int .i64 0, .string ⟨#[]⟩, .string ⟨#[]⟩] 28)) (Blk.newAt _ _ (by simp)) ((Kp.refl _ _).alloc _)
  exact SliceOf.row (R := InsL) (xs := M.castDown) [[.int .i64 6, .int .i64 0, .string ⟨#[116, 111, 112]⟩, .string ⟨#[]⟩], [.int .i64 15, .int .i64 0, .string ⟨#[99, 101, 108, 108]⟩, .string ⟨#[]⟩], [.int .i64 9, .int .i64 0, .string ⟨#[99, 101, 108, 108]⟩, .string ⟨#[103, 101, 116]⟩], [.int .i64 10, .int .i64 0, .string ⟨#[]⟩, .string ⟨#[]⟩]] (CellsAt.ofB hb) rfl (by simp) ⟨rfl, rfl, rfl, rfl, trivial⟩ (by omega) (by simp [M.castDown]) (by simp [M.castDown])
 have hc3 : SliceOf 4 InsL w6 (· < w6.heap.size) (.slice (some ⟨w2.heap.size + 3, 0, none⟩) 4 4) M.castNone := by
  have hb : Blk w6 (w2.heap.size + 3) 28 #[.int .i64 5, .int .i64 0, .string ⟨#[]⟩, .string ⟨#[]⟩, .int .i64 15, .int .i64 0, .string ⟨#[99, 101, 108, 108]⟩, .string ⟨#[]⟩, .int .i64 9, .int .i64 0, .string ⟨#[99, 101, 108, 108]⟩, .string ⟨#[103, 101, 116]⟩, .int .i64 10, .int .i64 0, .string ⟨#[]⟩, .string ⟨#[]⟩] := by rw [hw6]; exact Blk.newAt _ _ (by simp)
  exact SliceOf.row (R := InsL) (xs := M.castNone) [[.int .i64 5, .int .i64 0, .string ⟨#[]⟩, .string ⟨#[]⟩], [.int .i64 15, .int .i64 0, .string ⟨#[99, 101, 108, 108]⟩, .string ⟨#[]⟩], [.int .i64 9, .int .i64 0, .string ⟨#[99, 101, 108, 108]⟩, .string ⟨#[103, 101, 116]⟩], [.int .i64 10, .int .i64 0, .string ⟨#[]⟩, .string ⟨#[]⟩]] (CellsAt.ofB hb) rfl (by simp) ⟨rfl, rfl, rfl, rfl, trivial⟩ (by omega) (by simp [M.castNone]) (by simp [M.castNone])
 have HM := hid hm
 have HC2 := hid hc2
 have HC3 := hid hc3
 have hmain : Calls Tryz.prog 13 #[.slice (some ⟨w2.heap.size, 0, none⟩) 2 2, .slice (some ⟨w2.heap.size + 1, 0, none⟩) 5 5, .slice none 0 0] w6 _ := lo_main w6 (· < w6.heap.size) (fun _ h => h) ⟨w2.heap.size, 0, none⟩ 2 [M.topCls M.topN a, M.subCls M.cellN a] (some ⟨w2.heap.size + 1, 0, none⟩) 5 none 0 M.castUp [] hm (by simp) (by simp) hc1 (SliceOf.nil _ _ _ _)
 have HMN := hid hmain
 have HE6 := hid (HE1.out.trans (hE2.trans hE6))
 have HW6 := hid hw6
 clear hE2 hE6 hz6 hm hc1 hc2 hc3 hmain hw6 hsl he h1s
 go_wp2_with fail
 rw [← HW6.out]
 refine HMN.out.mono ?_
 rintro e w7 ⟨⟨vp, rfl, hp⟩, hE7⟩
 obtain ⟨p_w7, q_w7, rfl, -, -⟩ := hp.form
 have hdo := lo_do w7 _ _ _ (PlanL.in' hp) (fun _ h => h) 0
 have hr : M.loDo (M.mainPlan [M.topCls M.topN a, M.subCls M.cellN a] M.castUp []) 0 = _ := M.cast_up HA.out
 rw [hr] at hdo
 have HDO := hid hdo
 have HE7 := hid hE7
 clear hp hE7 hdo hr
 go_wp2_with fail
 refine HDO.out.mono ?_
 rintro e w8 ⟨⟨cs, rfl, hS⟩, hE8⟩
 obtain ⟨a1, c1, a2, c2, a3, c3, rfl, -, -, -⟩ := hS.form
 have H68 := hid (HE7.out.trans hE8)
 simp only [List.length_cons, List.length_nil, Nat.zero_add]
 clear hE8 hS
 go_wp2_with fail
 refine (lo_gives w8 2 a1 0 c1 a2 2 c2 a3 0 c3 1 a a).mono ?_
 rintro e w9 ⟨rfl, hE9⟩
 have h69 := H68.out.trans hE9
 have hm := HM.out.keep ClassL.stays (Ext.same h69) (fun b hb => Nat.lt_of_lt_of_le hb h69.size)
 have hc2 := HC2.out.keep InsL.stays (Ext.same h69) (fun b hb => Nat.lt_of_lt_of_le hb h69.size)
 have hmain : Calls Tryz.prog 13 #[.slice (some ⟨w2.heap.size, 0, none⟩) 2 2, .slice (some ⟨w2.heap.size + 2, 0, none⟩) 4 4, .slice none 0 0] w9 _ := lo_main w9 (· < w9.heap.size) (fun _ h => h) ⟨w2.heap.size, 0, none⟩ 2 [M.topCls M.topN a, M.subCls M.cellN a] (some ⟨w2.heap.size + 2, 0, none⟩) 4 none 0 M.castDown [] hm (by simp) (by simp) hc2 (SliceOf.nil _ _ _ _)
 have HMN := hid hmain
 have H69 := hid h69
 clear hE9 hm hc2 hmain h69
 rw [decide_eq_true rfl, decide_eq_true rfl]
 go_wp2_with fail
 refine HMN.out.mono ?_
 rintro e w10 ⟨⟨vp, rfl, hp⟩, hE10⟩
 obtain ⟨p_w10, q_w10, rfl, -, -⟩ := hp.form
 have hdo := lo_do w10 _ _ _ (PlanL.in' hp) (fun _ h => h) 0
 have hr : M.loDo (M.mainPlan [M.topCls M.topN a, M.subCls M.cellN a] M.castDown []) 0 = _ := M.cast_down HA.out
 rw [hr] at hdo
 have HDO := hid hdo
 have HE10 := hid hE10
 clear hp hE10 hdo hr
 go_wp2_with fail
 refine HDO.out.mono ?_
 rintro e w11 ⟨⟨cs, rfl, hS⟩, hE11⟩
 obtain ⟨b1, d1, b2, d2, b3, d3, rfl, -, -, -⟩ := hS.form
 simp only [List.length_cons, List.length_nil, Nat.zero_add, M.zval]
 have hfl : ∀ W, (Instr.field 36 (.agg #[.int .i64 6, .slice b1 0 d1, .slice b2 2 d2, .slice b3 0 d3, .int .i64 0, .int .i64 0]) 0).run Tryz.prog W = .ok (.int .i64 6) W := (fun W => by kernel_rfl)
 have h611 := H69.out.trans (HE10.out.trans hE11)
 have hm := HM.out.keep ClassL.stays (Ext.same h611) (fun b hb => Nat.lt_of_lt_of_le hb h611.size)
 have hc3 := HC3.out.keep InsL.stays (Ext.same h611) (fun b hb => Nat.lt_of_lt_of_le hb h611.size)
 have hmain : Calls Tryz.prog 13 #[.slice (some ⟨w2.heap.size, 0, none⟩) 2 2, .slice (some ⟨w2.heap.size + 3, 0, none⟩) 4 4, .slice none 0 0] w11 _ := lo_main w11 (· < w11.heap.size) (fun _ h => h) ⟨w2.heap.size, 0, none⟩ 2 [M.topCls M.topN a, M.subCls M.cellN a] (some ⟨w2.heap.size + 3, 0, none⟩) 4 none 0 M.castNone [] hm (by simp) (by simp) hc3 (SliceOf.nil _ _ _ _)
 have HMN := hid hmain
 have H611 := hid h611
 clear hE11 hS hm hc3 hmain h611
 go_wp2_with fail
 refine HMN.out.mono ?_
 rintro e w12 ⟨⟨vp, rfl, hp⟩, hE12⟩
 obtain ⟨p_w12, q_w12, rfl, -, -⟩ := hp.form
 have hdo := lo_do w12 _ _ _ (PlanL.in' hp) (fun _ h => h) 0
 have hr : M.loDo (M.mainPlan [M.topCls M.topN a, M.subCls M.cellN a] M.castNone []) 0 = _ := M.cast_none HA.out
 rw [hr] at hdo
 have HDO := hid hdo
 have HE12 := hid hE12
 clear hp hE12 hdo hr
 go_wp2_with fail
 refine HDO.out.mono ?_
 rintro e w13 ⟨⟨cs, rfl, hS⟩, hE13⟩
 obtain ⟨e1, f1, e2, f2, e3, f3, rfl, -, -, -⟩ := hS.form
 simp only [List.length_cons, List.length_nil, Nat.zero_add, M.zval]
 have hfm : ∀ W, (Instr.field 36 (.agg #[.int .i64 3, .slice e1 0 f1, .slice e2 1 f2, .slice e3 0 f3, .int .i64 0, .int .i64 0]) 0).run Tryz.prog W = .ok (.int .i64 3) W := (fun W => by kernel_rfl)
 have H := hid (HE6.out.trans (H611.out.trans (HE12.out.trans hE13)))
 clear hS hE13
 go_wp2_with fail
 go_ret
 exact ⟨rfl, H.out⟩
end Go.Proofs.YtjdfceejkneofaaGreat
namespace Go.Proofs.YtjdfceejkneofaaGreat
open Go Go.ChangeShapes Go.WideShapes Go.ChangeAt Go.RowKit
theorem fnVmCast_lifted (os : Os) (started : os.Started) (H : Type) (enc : TypeId × Value → H) :
    ReturnsInHanded {} Tryz.checked os 4 .any (Rows.fnVmCastSpec.pre6 enc Tryz.prog Tryz.f4 Rows.fnVmCastRow.domain false) (Rows.fnVmCastSpec.post enc Tryz.prog Tryz.f4 false true false false) := by
 refine returnsInHanded_of_change (C := Tryz.checked) Tryz.own started (by kernel_rfl) Tryz.func4
  (ChangeSpec.witness6 (enc := enc) (C := Tryz.checked) false ⟨#[], #[.slice none 0 0], []⟩ 8 (by kernel_rfl) (by kernel_rfl) (by kernel_rfl) (by kernel_rfl)) ?_
 intro W base args ds gs before hval0 hW hcnd _
 have hval : ∀ (j : Nat) t v, Tryz.f4.params[j]? = some t → args[j]? = some v → Value.okWide Tryz.prog W .any base t v := hval0
 have hW' := hW
 obtain ⟨p, q, hA0, hV, rfl, hfz, hnd⟩ := hW
 have hA : DataW.TrodAll enc Tryz.prog W 0 (fun _ => true) true Tryz.f4.params.toList args.toList ds p := hA0
 rw [Tryz.params4] at hA hval
 obtain ⟨v0, d0, rfl, rfl, h0⟩ := trodAll_one hA
 obtain ⟨rfl, rfl⟩ := trodVars_none hV
 simp only [List.append_nil] at hW'
 obtain ⟨zs, hb⟩ := bytes_at (okWide_slice Tryz.underlying22 (hval 0 22 v0 rfl rfl)) h0
 refine (law_cast W v0 zs hb).mono fun e W' ⟨he, hE⟩ => ?_
 subst he
 exact ⟨_, rfl, law_post (fn := Tryz.f4) Tryz.params4 rfl rfl rfl hW' h0 hE⟩
theorem fnVmCast_holds : Rows.FnVmCastSaid :=
 OpenClaim.holds_of_wide 4 Tryz.f4 rfl rfl rfl rfl rfl rfl rfl ⟨rfl, rfl, rfl, rfl, rfl⟩ rfl rfl rfl rfl rfl (by kernel_rfl) Tryz.func4 (by kernel_rfl)
  (of_decide_eq_true (by kernel_rfl)) (by unfold Func.isWrapper; rw [if_neg (by decide +kernel)]; exact ⟨rfl, rfl⟩)
  (fun os started H enc _ => fnVmCast_lifted os started H enc)
#print axioms fnVmCast_holds
end Go.Proofs.YtjdfceejkneofaaGreat
