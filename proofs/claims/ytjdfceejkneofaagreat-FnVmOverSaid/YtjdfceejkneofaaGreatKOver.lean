/- FnVmOver: for every input the program returns true, and the input reads as it did. No condition. -/
import Derived.Test.YtjdfceejkneofaaGreatJax
import Derived.Test.YtjdfceejkneofaaGreatJaw
set_option maxRecDepth 100000
set_option maxHeartbeats 4000000
set_option linter.unusedSimpArgs false
set_option linter.unusedVariables false
namespace Go.Proofs.YtjdfceejkneofaaGreat.M
def overC : List Ins := [⟨6, 0, cellN, none_⟩, ⟨9, 0, topN, getN⟩, ⟨14, 0, none_, none_⟩, ⟨6, 0, topN, none_⟩, ⟨9, 0, topN, getN⟩, ⟨10, 0, none_, none_⟩]
def overP (a b : Int) : Plan := mainPlan [topCls topN a, subCls cellN b] overC []
theorem over_ok {a b : Int} (h : numOk a = true) (h2 : numOk b = true) : lodOk (overP a b) = true := by
 simp only [overP, lodOk, mainPlan, mainCls, topCls, subCls, getM, getC, List.cons_append, List.nil_append, List.all_cons, List.all_nil, keeperOk, freshAll, clsOk, mthOk, codeOk, insIn_num h, insIn_num h2, Bool.and_true, Bool.true_and]
 kernel_rfl
theorem over_right {a b : Int} (h : numOk a = true) (h2 : numOk b = true) : planRight (overP a b) = true := by
 unfold planRight
 rw [over_ok h h2]
 kernel_rfl
def overM (k : Int) : Fr := ⟨⟨⟨0, mainN⟩, 0⟩, k, [⟨2, 0⟩, ⟨1, 0⟩, ⟨0, 0⟩], []⟩
def over1 (b : Int) : St := ⟨1, [overM 1, ⟨⟨⟨0, cellN⟩, 0⟩, 3, [⟨2, 1⟩], [⟨1, 0⟩, ⟨1, b⟩]⟩], [⟨⟨0, mainN⟩, []⟩, ⟨⟨0, cellN⟩, [⟨1, 0⟩]⟩], [], zval⟩
def over2 (a b : Int) : St := ⟨1, [overM 4, ⟨⟨⟨0, topN⟩, 0⟩, 3, [⟨2, 2⟩], [⟨1, 0⟩, ⟨1, a⟩]⟩], [⟨⟨0, mainN⟩, []⟩, ⟨⟨0, cellN⟩, [⟨1, 0⟩]⟩, ⟨⟨0, topN⟩, [⟨1, 0⟩]⟩], [b], zval⟩
theorem over_run {a b : Int} (h : numOk a = true) (h2 : numOk b = true) : loDo (overP a b) 0 = ⟨2, [], [⟨⟨0, mainN⟩, []⟩, ⟨⟨0, cellN⟩, [⟨1, 0⟩]⟩, ⟨⟨0, topN⟩, [⟨1, 0⟩]⟩], [b], ⟨1, a⟩⟩ := by
 rw [loDo_eq (over_ok h h2) numOk_0]
 have e1 : steps (overP a b) true 5 (start (overP a b) true 0 mainN runN [0]) = over1 b := by kernel_rfl
 rw [show (400 : Nat) = 5 + 395 from rfl, steps_add, e1, show (395 : Nat) = 394 + 1 from rfl]
 have e2 : stepped (overP a b) true (over1 b) = if numOk (0 + b) = true then push (overP a b) (numVal (0 + b)) { over1 b with frames := [overM 1, ⟨⟨⟨0, cellN⟩, 0⟩, 3, [⟨2, 1⟩], []⟩] } else (9, { over1 b with frames := [overM 1, ⟨⟨⟨0, cellN⟩, 0⟩, 3, [⟨2, 1⟩], []⟩] }) := by kernel_rfl
 have e3 := step_add e2 (by rw [Int.zero_add]; exact h2) rfl
 rw [Int.zero_add] at e3
 rw [steps_one rfl e3, show (394 : Nat) = 7 + 387 from rfl, steps_add]
 have e4 : steps (overP a b) true 7 (end_ (push (overP a b) (numVal b) { over1 b with frames := [overM 1, ⟨⟨⟨0, cellN⟩, 0⟩, 3, [⟨2, 1⟩], []⟩] }).1 (push (overP a b) (numVal b) { over1 b with frames := [overM 1, ⟨⟨⟨0, cellN⟩, 0⟩, 3, [⟨2, 1⟩], []⟩] }).2) = over2 a b := by kernel_rfl
 rw [e4, show (387 : Nat) = 386 + 1 from rfl]
 have e5 : stepped (overP a b) true (over2 a b) = if numOk (0 + a) = true then push (overP a b) (numVal (0 + a)) { over2 a b with frames := [overM 4, ⟨⟨⟨0, topN⟩, 0⟩, 3, [⟨2, 2⟩], []⟩] } else (9, { over2 a b with frames := [overM 4, ⟨⟨⟨0, topN⟩, 0⟩, 3, [⟨2, 2⟩], []⟩] }) := by kernel_rfl
 have e6 := step_add e5 (by rw [Int.zero_add]; exact h) rfl
 rw [Int.zero_add] at e6
 rw [steps_one rfl e6]
 show _ = _
 kernel_rfl
end Go.Proofs.YtjdfceejkneofaaGreat.M
namespace Go.Proofs.YtjdfceejkneofaaGreat
open Go Go.RowKit
open Go.Lib (hid)
theorem law_over : LawOk 10 := by
 intro W v zs hb
 by_cases hl : zs.length ≤ 1048576
 rotate_left
 · obtain ⟨va, vc, rfl⟩ := hb.form
   have hl' : decide ((1048576 : Int) < zs.length) = true := decide_eq_true (by omega)
   have hl2 : (1048576 : Int) < zs.length := by omega
   clear hb hl
   go_enter Tryz.func10, Tryz.ntmps10
   go_wp2_with fail
   go_ret
   exact ⟨rfl, Kp.refl _ _⟩
 have hx := M.loNum_in zs 1 (by omega)
 have HNx := hid (lo_num W v zs hb hl 1 (by omega))
 have hy := M.loNum_in zs 2 (by omega)
 have HNy := hid (lo_num W v zs hb hl 2 (by omega))
 obtain ⟨va, vc, rfl⟩ := hb.form
 have hl2 : ((1048576 : Int) < zs.length) = False := eq_false (by omega)
 obtain ⟨x, hxe⟩ : ∃ x, M.loNum zs 1 = x := ⟨_, rfl⟩
 rw [hxe] at hx HNx
 obtain ⟨y, hye⟩ : ∃ x, M.loNum zs 2 = x := ⟨_, rfl⟩
 rw [hye] at hy HNy
 obtain ⟨a, hae⟩ : ∃ a, Int.tmod x 1000 = a := ⟨_, rfl⟩
 have ha : a.natAbs = x.natAbs % 1000 := by rw [← hae]; exact Int.natAbs_tmod _ _
 obtain ⟨u, hue⟩ : ∃ a, Int.tmod y 1000 = a := ⟨_, rfl⟩
 have hu : u.natAbs = y.natAbs % 1000 := by rw [← hue]; exact Int.natAbs_tmod _ _
 have HAE := hid hae
 have HUE := hid hue
 have HA : Hid (M.numOk a = true) := hid (by unfold M.numOk; simp; omega)
 have HU : Hid (M.numOk u = true) := hid (by unfold M.numOk; simp; omega)
 clear hae ha hx hxe hue hu hy hye
 clear hb hl
 go_enter Tryz.func10, Tryz.ntmps10
 go_wp2_with fail
 refine HNx.out.mono ?_
 rintro e w1 ⟨rfl, rfl⟩
 go_wp2_with fail
 refine HNy.out.mono ?_
 rintro e w1 ⟨rfl, rfl⟩
 go_wp2_with fail
 simp only [HAE.out, HUE.out]
 refine (lo_top W ⟨#[116, 111, 112]⟩ a).mono ?_
 rintro e w1 ⟨⟨vf, vm, rfl, hcl⟩, hE1⟩
 obtain ⟨fa, fc, ma, mc, he⟩ := hcl.form
 have hv : vf = .slice fa 1 fc ∧ vm = .slice ma 2 mc := by simpa [M.topCls] using he
 obtain ⟨rfl, rfl⟩ := hv
 have HCL := hid hcl
 have HE1 := hid hE1
 clear hcl hE1 he
 go_wp2_with fail
 refine (lo_sub w1 ⟨#[99, 101, 108, 108]⟩ u).mono ?_
 rintro e w2 ⟨⟨vg, vn, rfl, hsl⟩, hE2⟩
 obtain ⟨ga, gc, mb, md, he⟩ := hsl.form
 have hv : vg = .slice ga 0 gc ∧ vn = .slice mb 1 md := by simpa [M.subCls, M.topN] using he
 obtain ⟨rfl, rfl⟩ := hv
 obtain ⟨w3, hw3⟩ : ∃ w3, w3 = (w2.alloc (.cells #[.string ⟨#[116, 111, 112]⟩, .string ⟨#[]⟩, .slice fa 1 fc, .slice ma 2 mc, .string ⟨#[99, 101, 108, 108]⟩, .string ⟨#[116, 111, 112]⟩, .slice ga 0 gc, .slice mb 1 md] 50)).alloc (.cells #[.int .i64 6, .int .i64 0, .string ⟨#[99, 101, 108, 108]⟩, .string ⟨#[]⟩, .int .i64 9, .int .i64 0, .string ⟨#[116, 111, 112]⟩, .string ⟨#[103, 101, 116]⟩, .int .i64 14, .int .i64 0, .string ⟨#[]⟩, .string ⟨#[]⟩, .int .i64 6, .int .i64 0, .string ⟨#[116, 111, 112]⟩, .string ⟨#[]⟩, .int .i64 9, .int .i64 0, .string ⟨#[116, 111, 112]⟩, .string ⟨#[103, 101, 116]⟩, .int .i64 10, .int .i64 0, .string ⟨#[]⟩, .string ⟨#[]⟩] 28) := ⟨_, rfl⟩
 have hE3 : Ext w2 w3 := by rw [hw3]; exact (by repeat (first | with_reducible exact Kp.refl _ _ | with_reducible assumption | with_reducible refine Kp.alloc ?_ _ | with_reducible refine Kp.drew ?_ | with_reducible refine Kp.drewN ?_ _ | with_reducible refine Kp.setCell ?_ (fun h => absurd h (by simp <;> omega)) _ | with_reducible refine Kp.trans ?_ (by with_reducible assumption) | exact Kp.refl _ _ | assumption | refine Kp.alloc ?_ _ | refine Kp.drew ?_ | refine Kp.drewN ?_ _ | (refine Kp.setCell ?_ (fun h => absurd h (by simp; done)) _) | (refine Kp.setCell ?_ (fun h => absurd h (by simp; omega)) _) | refine Kp.trans ?_ (by assumption)))
 have hz3 : w3.heap.size = w2.heap.size + 2 := by rw [hw3]; simp
 have h1s := hE2.size
 have hm : SliceOf 4 ClassL w3 (· < w3.heap.size) (.slice (some ⟨w2.heap.size, 0, none⟩) 2 2) [M.topCls M.topN a, M.subCls M.cellN u] := by
  have hb : Blk w3 w2.heap.size 50 #[.string ⟨#[116, 111, 112]⟩, .string ⟨#[]⟩, .slice fa 1 fc, .slice ma 2 mc, .string ⟨#[99, 101, 108, 108]⟩, .string ⟨#[116, 111, 112]⟩, .slice ga 0 gc, .slice mb 1 md] := by rw [hw3]; exact (Blk.new _ _ _).ext ((Kp.refl _ _).alloc _)
  have hc3 := ClassL.stays _ _ _ _ _ _ (Ext.same (hE2.trans hE3)) (fun _ h => h) (ClassL.inside _ _ _ _ HCL.out)
  have hc4 := ClassL.stays _ _ _ _ _ _ (Ext.same hE3) (fun _ h => h) (ClassL.inside _ _ _ _ hsl)
  exact SliceOf.row (R := ClassL) (xs := [M.topCls M.topN a, M.subCls M.cellN u]) [[.string ⟨#[116, 111, 112]⟩, .string ⟨#[]⟩, .slice fa 1 fc, .slice ma 2 mc], [.string ⟨#[99, 101, 108, 108]⟩, .string ⟨#[116, 111, 112]⟩, .slice ga 0 gc, .slice mb 1 md]] (CellsAt.ofB hb) rfl (by simp) ⟨ClassL.stays _ _ _ _ _ _ (fun _ _ _ _ h => h) (fun _ h => by have := h.2; omega) hc3, ClassL.stays _ _ _ _ _ _ (fun _ _ _ _ h => h) (fun _ h => by have := h.2; omega) hc4, trivial⟩ (by omega) (by simp) (by simp)
 have hc : SliceOf 4 InsL w3 (· < w3.heap.size) (.slice (some ⟨w2.heap.size + 1, 0, none⟩) 6 6) M.overC := by
  have hb : Blk w3 (w2.heap.size + 1) 28 #[.int .i64 6, .int .i64 0, .string ⟨#[99, 101, 108, 108]⟩, .string ⟨#[]⟩, .int .i64 9, .int .i64 0, .string ⟨#[116, 111, 112]⟩, .string ⟨#[103, 101, 116]⟩, .int .i64 14, .int .i64 0, .string ⟨#[]⟩, .string ⟨#[]⟩, .int .i64 6, .int .i64 0, .string ⟨#[116, 111, 112]⟩, .string ⟨#[]⟩, .int .i64 9, .int .i64 0, .string ⟨#[116, 111, 112]⟩, .string ⟨#[103, 101, 116]⟩, .int .i64 10, .int .i64 0, .string ⟨#[]⟩, .string ⟨#[]⟩] := by rw [hw3]; exact Blk.newAt _ _ (by simp)
  exact SliceOf.row (R := InsL) (xs := M.overC) [[.int .i64 6, .int .i64 0, .string ⟨#[99, 101, 108, 108]⟩, .string ⟨#[]⟩], [.int .i64 9, .int .i64 0, .string ⟨#[116, 111, 112]⟩, .string ⟨#[103, 101, 116]⟩], [.int .i64 14, .int .i64 0, .string ⟨#[]⟩, .string ⟨#[]⟩], [.int .i64 6, .int .i64 0, .string ⟨#[116, 111, 112]⟩, .string ⟨#[]⟩], [.int .i64 9, .int .i64 0, .string ⟨#[116, 111, 112]⟩, .string ⟨#[103, 101, 116]⟩], [.int .i64 10, .int .i64 0, .string ⟨#[]⟩, .string ⟨#[]⟩]] (CellsAt.ofB hb) rfl (by simp) ⟨rfl, rfl, rfl, rfl, rfl, rfl, trivial⟩ (by omega) (by simp [M.overC]) (by simp [M.overC])
 have hmain : Calls Tryz.prog 13 #[.slice (some ⟨w2.heap.size, 0, none⟩) 2 2, .slice (some ⟨w2.heap.size + 1, 0, none⟩) 6 6, .slice none 0 0] w3 _ := lo_main w3 (· < w3.heap.size) (fun _ h => h) ⟨w2.heap.size, 0, none⟩ 2 [M.topCls M.topN a, M.subCls M.cellN u] (some ⟨w2.heap.size + 1, 0, none⟩) 6 none 0 M.overC [] hm (by simp) (by simp) hc (SliceOf.nil _ _ _ _)
 have HMN := hid hmain
 have HE3 := hid (HE1.out.trans (hE2.trans hE3))
 have HW3 := hid hw3
 clear hE2 hE3 hm hc hmain hw3 hz3 hsl he h1s
 go_wp2_with fail
 rw [← HW3.out]
 refine HMN.out.mono ?_
 rintro e w4 ⟨⟨vp, rfl, hp⟩, hE4⟩
 obtain ⟨pa, pc, rfl, -, -⟩ := hp.form
 obtain ⟨w5, hw5⟩ : ∃ w5, w5 = w4.alloc (.cells #[.slice pa (M.mainPlan [M.topCls M.topN a, M.subCls M.cellN u] M.overC []).length pc] 40) := ⟨_, rfl⟩
 have hE5 : Ext w4 w5 := by rw [hw5]; exact (by repeat (first | with_reducible exact Kp.refl _ _ | with_reducible assumption | with_reducible refine Kp.alloc ?_ _ | with_reducible refine Kp.drew ?_ | with_reducible refine Kp.drewN ?_ _ | with_reducible refine Kp.setCell ?_ (fun h => absurd h (by simp <;> omega)) _ | with_reducible refine Kp.trans ?_ (by with_reducible assumption) | exact Kp.refl _ _ | assumption | refine Kp.alloc ?_ _ | refine Kp.drew ?_ | refine Kp.drewN ?_ _ | (refine Kp.setCell ?_ (fun h => absurd h (by simp; done)) _) | (refine Kp.setCell ?_ (fun h => absurd h (by simp; omega)) _) | refine Kp.trans ?_ (by assumption)))
 have bp : Blk w5 w4.heap.size 40 #[.slice pa (M.mainPlan [M.topCls M.topN a, M.subCls M.cellN u] M.overC []).length pc] := by rw [hw5]; exact Blk.new _ _ _
 have hdo := lo_do w5 _ _ _ (PlanL.in' (hp.ext KeeperL.stays hE5)) (fun _ h => h) 0
 have hr : M.loDo (M.mainPlan [M.topCls M.topN a, M.subCls M.cellN u] M.overC []) 0 = _ := M.over_run HA.out HU.out
 rw [hr] at hdo
 clear hr
 have HP := hid (hp.ext KeeperL.stays hE5)
 have HBP := hid bp
 have HDO := hid hdo
 have HE5 := hid (HE3.out.trans (hE4.trans hE5))
 have HW5 := hid hw5
 clear hp bp hE4 hE5 hdo hw5
 go_wp2_with fail
 rw [← HW5.out]
 refine HDO.out.mono ?_
 rintro e w6 ⟨⟨cs, rfl, hS⟩, hE6⟩
 obtain ⟨a1, c1, a2, c2, a3, c3, rfl, -, -, ho⟩ := hS.form
 simp only [List.length_cons, List.length_nil, Nat.zero_add] at ho ⊢
 obtain ⟨w8, hw8⟩ : ∃ w8, w8 = (w6.alloc (.cells #[.int .i64 2, .slice a1 0 c1, .slice a2 3 c2, .slice a3 1 c3, .int .i64 1, .int .i64 a] 36)).alloc (.cells #[.int .i64 u] 3) := ⟨_, rfl⟩
 have hE8 : Ext w6 w8 := by rw [hw8]; exact (by repeat (first | with_reducible exact Kp.refl _ _ | with_reducible assumption | with_reducible refine Kp.alloc ?_ _ | with_reducible refine Kp.drew ?_ | with_reducible refine Kp.drewN ?_ _ | with_reducible refine Kp.setCell ?_ (fun h => absurd h (by simp <;> omega)) _ | with_reducible refine Kp.trans ?_ (by with_reducible assumption) | exact Kp.refl _ _ | assumption | refine Kp.alloc ?_ _ | refine Kp.drew ?_ | refine Kp.drewN ?_ _ | (refine Kp.setCell ?_ (fun h => absurd h (by simp; done)) _) | (refine Kp.setCell ?_ (fun h => absurd h (by simp; omega)) _) | refine Kp.trans ?_ (by assumption)))
 have b6 : Blk w8 w6.heap.size 36 #[.int .i64 2, .slice a1 0 c1, .slice a2 3 c2, .slice a3 1 c3, .int .i64 1, .int .i64 a] := by rw [hw8]; exact (Blk.new _ _ _).ext ((Kp.refl _ _).alloc _)
 have hab : SliceOf 1 IntL w8 (fun _ => True) (.slice (some ⟨w6.heap.size + 1, 0, none⟩) 1 1) [u] := by
  rw [hw8]
  exact SliceOf.row (R := IntL) (xs := [u]) [[.int .i64 u]] (CellsAt.newA _ _ (by simp)) rfl (by simp) ⟨rfl, trivial⟩ trivial (by simp) (by simp)
 have hin : Calls Tryz.prog 14 #[.slice a3 1 c3, .slice (some ⟨w6.heap.size + 1, 0, none⟩) 1 1] w8 _ := lo_ints w8 _ _ _ _ [u] [u] (ho.ext IntL.stays hE8) hab
 rw [decide_eq_true rfl] at hin
 have HIN := hid hin
 have HB6 := hid b6
 have HW8 := hid hw8
 have HE8 := hid (hE6.trans hE8)
 clear hin hab b6 hw8 hE8 hE6 ho hS
 go_wp2_with fail
 rw [← HW8.out]
 refine HIN.out.mono ?_
 rintro e w9 ⟨rfl, hE9⟩
 have b69 := HB6.out.ext hE9
 have y0 := b69.c 0 (.int .i64 2) rfl
 have y1 := b69.c 1 (.slice a1 0 c1) rfl
 have y2 := b69.c 2 (.slice a2 3 c2) rfl
 have y3 := b69.c 3 (.slice a3 1 c3) rfl
 have y4 := b69.c 4 (.int .i64 1) rfl
 have y5 := b69.c 5 (.int .i64 a) rfl
 have yz := b69.lt
 have HE9 := hid (HE8.out.trans hE9)
 clear b69 hE9
 go_wp2_with fail
 refine (lo_gives w9 2 a1 0 c1 a2 3 c2 a3 1 c3 1 a a).mono ?_
 rintro e w10 ⟨rfl, hE10⟩
 have h510 := HE9.out.trans hE10
 have x0 := (HBP.out.ext h510).c 0 _ rfl
 have xz := (HBP.out.ext h510).lt
 have hri := plan_right w10 _ _ _ (PlanL.in' (HP.out.ext KeeperL.stays h510)) (fun _ h => h)
 have hr : M.planRight (M.mainPlan [M.topCls M.topN a, M.subCls M.cellN u] M.overC []) = _ := M.over_right HA.out HU.out
 rw [hr] at hri
 have HRI := hid hri
 have HE10 := hid (HE5.out.trans h510)
 clear hE10 h510 y0 y1 y2 y3 y4 y5 yz hri hr
 rw [decide_eq_true rfl, decide_eq_true rfl]
 go_wp2_with fail
 refine HRI.out.mono ?_
 rintro e w11 ⟨rfl, hE11⟩
 have HE11 := hid (HE10.out.trans hE11)
 clear hE11 x0 xz
 go_wp2_with fail
 go_ret
 exact ⟨rfl, HE11.out⟩
end Go.Proofs.YtjdfceejkneofaaGreat
namespace Go.Proofs.YtjdfceejkneofaaGreat
open Go Go.ChangeShapes Go.WideShapes Go.ChangeAt Go.RowKit
theorem fnVmOver_lifted (os : Os) (started : os.Started) (H : Type) (enc : TypeId × Value → H) :
    ReturnsInHanded {} Tryz.checked os 10 .any (Rows.fnVmOverSpec.pre6 enc Tryz.prog Tryz.f10 Rows.fnVmOverRow.domain false) (Rows.fnVmOverSpec.post enc Tryz.prog Tryz.f10 false true false false) := by
 refine returnsInHanded_of_change (C := Tryz.checked) Tryz.own started (by kernel_rfl) Tryz.func10
  (ChangeSpec.witness6 (enc := enc) (C := Tryz.checked) false ⟨#[], #[.slice none 0 0], []⟩ 8 (by kernel_rfl) (by kernel_rfl) (by kernel_rfl) (by kernel_rfl)) ?_
 intro W base args ds gs before hval0 hW hcnd _
 have hval : ∀ (j : Nat) t v, Tryz.f10.params[j]? = some t → args[j]? = some v → Value.okWide Tryz.prog W .any base t v := hval0
 have hW' := hW
 obtain ⟨p, q, hA0, hV, rfl, hfz, hnd⟩ := hW
 have hA : DataW.TrodAll enc Tryz.prog W 0 (fun _ => true) true Tryz.f10.params.toList args.toList ds p := hA0
 rw [Tryz.params10] at hA hval
 obtain ⟨v0, d0, rfl, rfl, h0⟩ := trodAll_one hA
 obtain ⟨rfl, rfl⟩ := trodVars_none hV
 simp only [List.append_nil] at hW'
 obtain ⟨zs, hb⟩ := bytes_at (okWide_slice Tryz.underlying22 (hval 0 22 v0 rfl rfl)) h0
 refine (law_over W v0 zs hb).mono fun e W' ⟨he, hE⟩ => ?_
 subst he
 exact ⟨_, rfl, law_post (fn := Tryz.f10) Tryz.params10 rfl rfl rfl hW' h0 hE⟩
theorem fnVmOver_holds : Rows.FnVmOverSaid :=
 OpenClaim.holds_of_wide 10 Tryz.f10 rfl rfl rfl rfl rfl rfl rfl ⟨rfl, rfl, rfl, rfl, rfl⟩ rfl rfl rfl rfl rfl (by kernel_rfl) Tryz.func10 (by kernel_rfl)
  (of_decide_eq_true (by kernel_rfl)) (by unfold Func.isWrapper; rw [if_neg (by decide +kernel)]; exact ⟨rfl, rfl⟩)
  (fun os started H enc _ => fnVmOver_lifted os started H enc)
#print axioms fnVmOver_holds
end Go.Proofs.YtjdfceejkneofaaGreat
