/- FnVmSum: for every input the program returns true, and the input reads as it did. No condition. -/
import Derived.Test.YtjdfceejkneofaaGreatJaw
import Derived.Test.YtjdfceejkneofaaGreatJax
set_option maxRecDepth 100000
set_option maxHeartbeats 4000000
set_option linter.unusedSimpArgs false
set_option linter.unusedVariables false
namespace Go.Proofs.YtjdfceejkneofaaGreat.M
def sumC : List Ins := [⟨1, 0, none_, none_⟩, ⟨3, 2, none_, none_⟩, ⟨2, 1, none_, none_⟩, ⟨11, 13, none_, none_⟩, ⟨2, 2, none_, none_⟩, ⟨2, 1, none_, none_⟩, ⟨4, 0, none_, none_⟩, ⟨3, 2, none_, none_⟩, ⟨2, 1, none_, none_⟩, ⟨1, -1, none_, none_⟩, ⟨4, 0, none_, none_⟩, ⟨3, 1, none_, none_⟩, ⟨13, 2, none_, none_⟩, ⟨2, 2, none_, none_⟩, ⟨10, 0, none_, none_⟩]
def sumT : List Tag := [⟨2, mainN⟩, ⟨1, none_⟩, ⟨1, none_⟩]
def sumM : List SMap := [⟨2, sumT, []⟩, ⟨13, sumT, []⟩]
def sumP : Plan := mainPlan [] sumC sumM
theorem sum_ok : lodOk sumP = true := by decide +kernel
theorem sum_right : planRight sumP = true := by decide +kernel
theorem sum_cases {i : Int} (h0 : 0 ≤ i) (h1 : i ≤ 20) : i = 0 ∨ i = 1 ∨ i = 2 ∨ i = 3 ∨ i = 4 ∨ i = 5 ∨ i = 6 ∨ i = 7 ∨ i = 8 ∨ i = 9 ∨ i = 10 ∨ i = 11 ∨ i = 12 ∨ i = 13 ∨ i = 14 ∨ i = 15 ∨ i = 16 ∨ i = 17 ∨ i = 18 ∨ i = 19 ∨ i = 20 := by omega
theorem sum_in {i : Int} (h0 : 0 ≤ i) (h1 : i ≤ 20) : (0 ≤ i * (i + 1) ∧ i * (i + 1) ≤ 420) ∧ 0 ≤ Int.tdiv (i * (i + 1)) 2 ∧ Int.tdiv (i * (i + 1)) 2 ≤ 420 := by
 rcases sum_cases h0 h1 with rfl | rfl | rfl | rfl | rfl | rfl | rfl | rfl | rfl | rfl | rfl | rfl | rfl | rfl | rfl | rfl | rfl | rfl | rfl | rfl | rfl
 all_goals decide
theorem sum_run {i : Int} (h0 : 0 ≤ i) (h1 : i ≤ 20) : loDo sumP i = ⟨2, [], [⟨⟨0, mainN⟩, []⟩], [], ⟨1, Int.tdiv (i * (i + 1)) 2⟩⟩ := by
 rw [loDo_eq sum_ok (by unfold numOk; simp; omega)]
 rcases sum_cases h0 h1 with rfl | rfl | rfl | rfl | rfl | rfl | rfl | rfl | rfl | rfl | rfl | rfl | rfl | rfl | rfl | rfl | rfl | rfl | rfl | rfl | rfl
 all_goals
  show _ = _
  kernel_rfl
end Go.Proofs.YtjdfceejkneofaaGreat.M
namespace Go.Proofs.YtjdfceejkneofaaGreat
open Go Go.RowKit
open Go.Lib (hid)
theorem law_sum : LawOk 7 := by
 intro W v zs hb
 by_cases hl : zs.length ≤ 1048576
 rotate_left
 · obtain ⟨va, vc, rfl⟩ := hb.form
   have hl' : decide ((1048576 : Int) < zs.length) = true := decide_eq_true (by omega)
   have hl2 : (1048576 : Int) < zs.length := by omega
   clear hb hl
   go_enter Tryz.func7, Tryz.ntmps7
   go_wp2_with fail
   go_ret
   exact ⟨rfl, Kp.refl _ _⟩
 obtain ⟨va, vc, rfl⟩ := hb.form
 have hl2 : ((1048576 : Int) < zs.length) = False := eq_false (by omega)
 obtain ⟨i, hie⟩ : ∃ a, (zs.length : Int) % 21 = a := ⟨_, rfl⟩
 have hi0 : 0 ≤ i := by omega
 have hi1 : i ≤ 20 := by omega
 obtain ⟨⟨hp0, hp1⟩, hq0, hq1⟩ := M.sum_in hi0 hi1
 have hrun := M.sum_run hi0 hi1
 obtain ⟨p, hpe⟩ : ∃ p, i * (i + 1) = p := ⟨_, rfl⟩
 rw [hpe] at hp0 hp1 hq0 hq1 hrun
 obtain ⟨q, hqe⟩ : ∃ q, Int.tdiv p 2 = q := ⟨_, rfl⟩
 rw [hqe] at hq0 hq1 hrun
 have HW1 : Hid (wrap64 (i + 1) = i + 1) := hid (by unfold wrap64; omega)
 have HW2 : Hid (wrap64 p = p) := hid (by unfold wrap64; omega)
 have HW3 : Hid (wrap64 q = q) := hid (by unfold wrap64; omega)
 have HIE := hid hie
 have HPE := hid hpe
 have HQE := hid hqe
 have HRUN := hid hrun
 clear hrun hpe hqe hie hi0 hi1 hp0 hp1 hq0 hq1
 clear hb hl
 obtain ⟨w1, hw1⟩ : ∃ w1, w1 = ((W.alloc (.cells #[.int .i64 2, .string ⟨#[109, 97, 105, 110]⟩, .int .i64 1, .string ⟨#[]⟩, .int .i64 1, .string ⟨#[]⟩] 25)).alloc (.cells #[.int .i64 1, .int .i64 0, .string ⟨#[]⟩, .string ⟨#[]⟩, .int .i64 3, .int .i64 2, .string ⟨#[]⟩, .string ⟨#[]⟩, .int .i64 2, .int .i64 1, .string ⟨#[]⟩, .string ⟨#[]⟩, .int .i64 11, .int .i64 13, .string ⟨#[]⟩, .string ⟨#[]⟩, .int .i64 2, .int .i64 2, .string ⟨#[]⟩, .string ⟨#[]⟩, .int .i64 2, .int .i64 1, .string ⟨#[]⟩, .string ⟨#[]⟩, .int .i64 4, .int .i64 0, .string ⟨#[]⟩, .string ⟨#[]⟩, .int .i64 3, .int .i64 2, .string ⟨#[]⟩, .string ⟨#[]⟩, .int .i64 2, .int .i64 1, .string ⟨#[]⟩, .string ⟨#[]⟩, .int .i64 1, .int .i64 (-1), .string ⟨#[]⟩, .string ⟨#[]⟩, .int .i64 4, .int .i64 0, .string ⟨#[]⟩, .string ⟨#[]⟩, .int .i64 3, .int .i64 1, .string ⟨#[]⟩, .string ⟨#[]⟩, .int .i64 13, .int .i64 2, .string ⟨#[]⟩, .string ⟨#[]⟩, .int .i64 2, .int .i64 2, .string ⟨#[]⟩, .string ⟨#[]⟩, .int .i64 10, .int .i64 0, .string ⟨#[]⟩, .string ⟨#[]⟩] 28)).alloc (.cells #[.int .i64 2, .slice (some ⟨W.heap.size, 0, none⟩) 3 3, .slice none 0 0, .int .i64 13, .slice (some ⟨W.heap.size, 0, none⟩) 3 3, .slice none 0 0] 43) := ⟨_, rfl⟩
 have hE1 : Ext W w1 := by rw [hw1]; exact (by repeat (first | with_reducible exact Kp.refl _ _ | with_reducible assumption | with_reducible refine Kp.alloc ?_ _ | with_reducible refine Kp.drew ?_ | with_reducible refine Kp.drewN ?_ _ | with_reducible refine Kp.setCell ?_ (fun h => absurd h (by simp <;> omega)) _ | with_reducible refine Kp.trans ?_ (by with_reducible assumption) | exact Kp.refl _ _ | assumption | refine Kp.alloc ?_ _ | refine Kp.drew ?_ | refine Kp.drewN ?_ _ | (refine Kp.setCell ?_ (fun h => absurd h (by simp; done)) _) | (refine Kp.setCell ?_ (fun h => absurd h (by simp; omega)) _) | refine Kp.trans ?_ (by assumption)))
 have hz1 : w1.heap.size = W.heap.size + 3 := by rw [hw1]; simp
 have ht : SliceOf 2 TagL w1 (· < w1.heap.size) (.slice (some ⟨W.heap.size, 0, none⟩) 3 3) M.sumT := by
  have hb : Blk w1 W.heap.size 25 #[.int .i64 2, .string ⟨#[109, 97, 105, 110]⟩, .int .i64 1, .string ⟨#[]⟩, .int .i64 1, .string ⟨#[]⟩] := by rw [hw1]; exact (Blk.new _ _ _).ext (((Kp.refl _ _).alloc _).alloc _)
  exact SliceOf.row (R := TagL) (xs := M.sumT) [[.int .i64 2, .string ⟨#[109, 97, 105, 110]⟩], [.int .i64 1, .string ⟨#[]⟩], [.int .i64 1, .string ⟨#[]⟩]] (CellsAt.ofB hb) rfl (by simp) ⟨rfl, rfl, rfl, trivial⟩ (by omega) (by simp [M.sumT]) (by simp [M.sumT])
 have hc : SliceOf 4 InsL w1 (· < w1.heap.size) (.slice (some ⟨W.heap.size + 1, 0, none⟩) 15 15) M.sumC := by
  have hb : Blk w1 (W.heap.size + 1) 28 #[.int .i64 1, .int .i64 0, .string ⟨#[]⟩, .string ⟨#[]⟩, .int .i64 3, .int .i64 2, .string ⟨#[]⟩, .string ⟨#[]⟩, .int .i64 2, .int .i64 1, .string ⟨#[]⟩, .string ⟨#[]⟩, .int .i64 11, .int .i64 13, .string ⟨#[]⟩, .string ⟨#[]⟩, .int .i64 2, .int .i64 2, .string ⟨#[]⟩, .string ⟨#[]⟩, .int .i64 2, .int .i64 1, .string ⟨#[]⟩, .string ⟨#[]⟩, .int .i64 4, .int .i64 0, .string ⟨#[]⟩, .string ⟨#[]⟩, .int .i64 3, .int .i64 2, .string ⟨#[]⟩, .string ⟨#[]⟩, .int .i64 2, .int .i64 1, .string ⟨#[]⟩, .string ⟨#[]⟩, .int .i64 1, .int .i64 (-1), .string ⟨#[]⟩, .string ⟨#[]⟩, .int .i64 4, .int .i64 0, .string ⟨#[]⟩, .string ⟨#[]⟩, .int .i64 3, .int .i64 1, .string ⟨#[]⟩, .string ⟨#[]⟩, .int .i64 13, .int .i64 2, .string ⟨#[]⟩, .string ⟨#[]⟩, .int .i64 2, .int .i64 2, .string ⟨#[]⟩, .string ⟨#[]⟩, .int .i64 10, .int .i64 0, .string ⟨#[]⟩, .string ⟨#[]⟩] := by rw [hw1]; exact Blk.ext (w := (W.alloc (.cells #[.int .i64 2, .string ⟨#[109, 97, 105, 110]⟩, .int .i64 1, .string ⟨#[]⟩, .int .i64 1, .string ⟨#[]⟩] 25)).alloc (.cells #[.int .i64 1, .int .i64 0, .string ⟨#[]⟩, .string ⟨#[]⟩, .int .i64 3, .int .i64 2, .string ⟨#[]⟩, .string ⟨#[]⟩, .int .i64 2, .int .i64 1, .string ⟨#[]⟩, .string ⟨#[]⟩, .int .i64 11, .int .i64 13, .string ⟨#[]⟩, .string ⟨#[]⟩, .int .i64 2, .int .i64 2, .string ⟨#[]⟩, .string ⟨#[]⟩, .int .i64 2, .int .i64 1, .string ⟨#[]⟩, .string ⟨#[]⟩, .int .i64 4, .int .i64 0, .string ⟨#[]⟩, .string ⟨#[]⟩, .int .i64 3, .int .i64 2, .string ⟨#[]⟩, .string ⟨#[]⟩, .int .i64 2, .int .i64 1, .string ⟨#[]⟩, .string ⟨#[]⟩, .int .i64 1, .int .i64 (-1), .string ⟨#[]⟩, .string ⟨#[]⟩, .int .i64 4, .int .i64 0, .string ⟨#[]⟩, .string ⟨#[]⟩, .int .i64 3, .int .i64 1, .string ⟨#[]⟩, .string ⟨#[]⟩, .int .i64 13, .int .i64 2, .string ⟨#[]⟩, .string ⟨#[]⟩, .int .i64 2, .int .i64 2, .string ⟨#[]⟩, .string ⟨#[]⟩, .int .i64 10, .int .i64 0, .string ⟨#[]⟩, .string ⟨#[]⟩] 28)) (Blk.newAt _ _ (by simp)) ((Kp.refl _ _).alloc _)
  exact SliceOf.row (R := InsL) (xs := M.sumC) [[.int .i64 1, .int .i64 0, .string ⟨#[]⟩, .string ⟨#[]⟩], [.int .i64 3, .int .i64 2, .string ⟨#[]⟩, .string ⟨#[]⟩], [.int .i64 2, .int .i64 1, .string ⟨#[]⟩, .string ⟨#[]⟩], [.int .i64 11, .int .i64 13, .string ⟨#[]⟩, .string ⟨#[]⟩], [.int .i64 2, .int .i64 2, .string ⟨#[]⟩, .string ⟨#[]⟩], [.int .i64 2, .int .i64 1, .string ⟨#[]⟩, .string ⟨#[]⟩], [.int .i64 4, .int .i64 0, .string ⟨#[]⟩, .string ⟨#[]⟩], [.int .i64 3, .int .i64 2, .string ⟨#[]⟩, .string ⟨#[]⟩], [.int .i64 2, .int .i64 1, .string ⟨#[]⟩, .string ⟨#[]⟩], [.int .i64 1, .int .i64 (-1), .string ⟨#[]⟩, .string ⟨#[]⟩], [.int .i64 4, .int .i64 0, .string ⟨#[]⟩, .string ⟨#[]⟩], [.int .i64 3, .int .i64 1, .string ⟨#[]⟩, .string ⟨#[]⟩], [.int .i64 13, .int .i64 2, .string ⟨#[]⟩, .string ⟨#[]⟩], [.int .i64 2, .int .i64 2, .string ⟨#[]⟩, .string ⟨#[]⟩], [.int .i64 10, .int .i64 0, .string ⟨#[]⟩, .string ⟨#[]⟩]] (CellsAt.ofB hb) rfl (by simp) ⟨rfl, rfl, rfl, rfl, rfl, rfl, rfl, rfl, rfl, rfl, rfl, rfl, rfl, rfl, rfl, trivial⟩ (by omega) (by simp [M.sumC]) (by simp [M.sumC])
 have bM : Blk w1 (W.heap.size + 1 + 1) 43 #[.int .i64 2, .slice (some ⟨W.heap.size, 0, none⟩) 3 3, .slice none 0 0, .int .i64 13, .slice (some ⟨W.heap.size, 0, none⟩) 3 3, .slice none 0 0] := by rw [hw1]; exact Blk.newAt _ _ (by simp)
 have hx : SliceOf 3 SMapL w1 (· < w1.heap.size) (.slice (some ⟨W.heap.size + 1 + 1, 0, none⟩) 2 2) M.sumM :=
  SliceOf.row (R := SMapL) (xs := M.sumM) [[.int .i64 2, .slice (some ⟨W.heap.size, 0, none⟩) 3 3, .slice none 0 0], [.int .i64 13, .slice (some ⟨W.heap.size, 0, none⟩) 3 3, .slice none 0 0]] (CellsAt.ofB bM) rfl (by simp) ⟨⟨_, _, rfl, ht, SliceOf.nil _ _ _ _⟩, ⟨_, _, rfl, ht, SliceOf.nil _ _ _ _⟩, trivial⟩ (by omega) (by simp [M.sumM]) (by simp [M.sumM])
 have hmain : Calls Tryz.prog 13 #[.slice none 0 0, .slice (some ⟨W.heap.size + 1, 0, none⟩) 15 15, .slice (some ⟨W.heap.size + 1 + 1, 0, none⟩) 2 2] w1 _ := lo_main_nil w1 (· < w1.heap.size) (fun _ h => h) (some ⟨W.heap.size + 1, 0, none⟩) 15 (some ⟨W.heap.size + 1 + 1, 0, none⟩) 2 M.sumC M.sumM hc hx
 have HMN := hid hmain
 have HE1 := hid hE1
 have HWW := hid hw1
 clear hE1 hc ht hx bM hmain hw1 hz1
 go_enter Tryz.func7, Tryz.ntmps7
 go_wp2_with fail
 rw [← HWW.out]
 refine HMN.out.mono ?_
 rintro e w4 ⟨⟨vp, rfl, hp⟩, hE4⟩
 obtain ⟨pa, pc, rfl, -, -⟩ := hp.form
 obtain ⟨w5, hw5⟩ : ∃ w5, w5 = w4.alloc (.cells #[.slice pa (M.mainPlan [] M.sumC M.sumM).length pc] 40) := ⟨_, rfl⟩
 have hE5 : Ext w4 w5 := by rw [hw5]; exact (by repeat (first | with_reducible exact Kp.refl _ _ | with_reducible assumption | with_reducible refine Kp.alloc ?_ _ | with_reducible refine Kp.drew ?_ | with_reducible refine Kp.drewN ?_ _ | with_reducible refine Kp.setCell ?_ (fun h => absurd h (by simp <;> omega)) _ | with_reducible refine Kp.trans ?_ (by with_reducible assumption) | exact Kp.refl _ _ | assumption | refine Kp.alloc ?_ _ | refine Kp.drew ?_ | refine Kp.drewN ?_ _ | (refine Kp.setCell ?_ (fun h => absurd h (by simp; done)) _) | (refine Kp.setCell ?_ (fun h => absurd h (by simp; omega)) _) | refine Kp.trans ?_ (by assumption)))
 have bp : Blk w5 w4.heap.size 40 #[.slice pa (M.mainPlan [] M.sumC M.sumM).length pc] := by rw [hw5]; exact Blk.new _ _ _
 have hdo := lo_do w5 _ _ _ (PlanL.in' (hp.ext KeeperL.stays hE5)) (fun _ h => h) i
 have hr : M.loDo (M.mainPlan [] M.sumC M.sumM) i = _ := HRUN.out
 rw [hr] at hdo
 clear hr
 have HP := hid (hp.ext KeeperL.stays hE5)
 have HBP := hid bp
 have HDO := hid hdo
 have HE5 := hid (HE1.out.trans (hE4.trans hE5))
 have HW5 := hid hw5
 clear hp bp hE4 hE5 hdo hw5
 go_wp2_with fail
 rw [← HW5.out]
 simp only [HIE.out]
 refine HDO.out.mono ?_
 rintro e w6 ⟨⟨cs, rfl, hS⟩, hE6⟩
 obtain ⟨a1, c1, a2, c2, a3, c3, rfl, -, -, -⟩ := hS.form
 simp only [List.length_cons, List.length_nil, Nat.zero_add]
 have HE6 := hid hE6
 clear hE6 hS
 go_wp2_with fail
 simp only [HW1.out, HPE.out, HW2.out, HQE.out, HW3.out]
 refine (lo_gives w6 2 a1 0 c1 a2 1 c2 a3 0 c3 1 q q).mono ?_
 rintro e w10 ⟨rfl, hE10⟩
 have h510 := HE6.out.trans hE10
 have x0 := (HBP.out.ext h510).c 0 _ rfl
 have xz := (HBP.out.ext h510).lt
 have hri := plan_right w10 _ _ _ (PlanL.in' (HP.out.ext KeeperL.stays h510)) (fun _ h => h)
 have hr : M.planRight (M.mainPlan [] M.sumC M.sumM) = _ := M.sum_right
 rw [hr] at hri
 have HRI := hid hri
 have HE10 := hid (HE5.out.trans h510)
 clear hE10 h510 hri hr
 rw [decide_eq_true rfl, decide_eq_true rfl]
 go_wp2_with fail
 refine HRI.out.mono ?_
 rintro e w11 ⟨rfl, hE11⟩
 have HE11 := hid (HE10.out.trans hE11)
 clear hE11 x0 xz
 go_wp2_with fail
 go_ret
 exact ⟨rfl, HE11.out⟩
end Go.Proofs.YtjdfceejkneofaaGreat
namespace Go.Proofs.YtjdfceejkneofaaGreat
open Go Go.ChangeShapes Go.WideShapes Go.ChangeAt Go.RowKit
theorem fnVmSum_lifted (os : Os) (started : os.Started) (H : Type) (enc : TypeId × Value → H) :
    ReturnsInHanded {} Tryz.checked os 7 .any (Rows.fnVmSumSpec.pre6 enc Tryz.prog Tryz.f7 Rows.fnVmSumRow.domain false) (Rows.fnVmSumSpec.post enc Tryz.prog Tryz.f7 false true false false) := by
 refine returnsInHanded_of_change (C := Tryz.checked) Tryz.own started (by kernel_rfl) Tryz.func7
  (ChangeSpec.witness6 (enc := enc) (C := Tryz.checked) false ⟨#[], #[.slice none 0 0], []⟩ 8 (by kernel_rfl) (by kernel_rfl) (by kernel_rfl) (by kernel_rfl)) ?_
 intro W base args ds gs before hval0 hW hcnd _
 have hval : ∀ (j : Nat) t v, Tryz.f7.params[j]? = some t → args[j]? = some v → Value.okWide Tryz.prog W .any base t v := hval0
 have hW' := hW
 obtain ⟨p, q, hA0, hV, rfl, hfz, hnd⟩ := hW
 have hA : DataW.TrodAll enc Tryz.prog W 0 (fun _ => true) true Tryz.f7.params.toList args.toList ds p := hA0
 rw [Tryz.params7] at hA hval
 obtain ⟨v0, d0, rfl, rfl, h0⟩ := trodAll_one hA
 obtain ⟨rfl, rfl⟩ := trodVars_none hV
 simp only [List.append_nil] at hW'
 obtain ⟨zs, hb⟩ := bytes_at (okWide_slice Tryz.underlying22 (hval 0 22 v0 rfl rfl)) h0
 refine (law_sum W v0 zs hb).mono fun e W' ⟨he, hE⟩ => ?_
 subst he
 exact ⟨_, rfl, law_post (fn := Tryz.f7) Tryz.params7 rfl rfl rfl hW' h0 hE⟩
theorem fnVmSum_holds : Rows.FnVmSumSaid :=
 OpenClaim.holds_of_wide 7 Tryz.f7 rfl rfl rfl rfl rfl rfl rfl ⟨rfl, rfl, rfl, rfl, rfl⟩ rfl rfl rfl rfl rfl (by kernel_rfl) Tryz.func7 (by kernel_rfl)
  (of_decide_eq_true (by kernel_rfl)) (by unfold Func.isWrapper; rw [if_neg (by decide +kernel)]; exact ⟨rfl, rfl⟩)
  (fun os started H enc _ => fnVmSum_lifted os started H enc)
#print axioms fnVmSum_holds
end Go.Proofs.YtjdfceejkneofaaGreat
