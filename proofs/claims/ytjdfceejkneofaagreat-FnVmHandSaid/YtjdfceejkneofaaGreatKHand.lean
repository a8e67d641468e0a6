/- FnVmHand: for every input the program returns true, and the input reads as it did. No condition. -/
import Derived.Test.YtjdfceejkneofaaGreatJax
import Derived.Test.YtjdfceejkneofaaGreatJav
import Derived.Test.YtjdfceejkneofaaGreatJaw
set_option maxRecDepth 100000
set_option maxHeartbeats 4000000
set_option linter.unusedSimpArgs false
set_option linter.unusedVariables false
namespace Go.Proofs.YtjdfceejkneofaaGreat.M
def handC : List Ins := [⟨6, 0, topN, none_⟩, ⟨3, 2, none_, none_⟩, ⟨2, 2, none_, none_⟩, ⟨2, 1, none_, none_⟩, ⟨9, 0, topN, putN⟩, ⟨14, 0, none_, none_⟩, ⟨6, 0, cellN, none_⟩, ⟨2, 2, none_, none_⟩, ⟨9, 0, cellN, takeN⟩, ⟨10, 0, none_, none_⟩]
def handT : List Ins := [⟨2, 1, none_, none_⟩, ⟨7, 0, topN, vN⟩, ⟨10, 0, none_, none_⟩]
def handM : Method := ⟨takeN, [⟨2, topN⟩], numK, 2, 1, handT, []⟩
def handK : Class := ⟨cellN, none_, [], [handM]⟩
def handP : Plan := [⟨[topCls topN 0] ++ [mainCls handC []], [⟨cellN, 1⟩]⟩, ⟨[handK], [⟨topN, 0⟩]⟩]
theorem hand_ok : lodOk handP = true := by decide +kernel
theorem hand_right : planRight handP = true := by decide +kernel
theorem hand_agree : agree handP 0 1 ⟨2, topN⟩ = true := by decide +kernel
theorem hand_run {a : Int} (h : numOk a = true) : loDo handP a = ⟨2, [], [⟨⟨0, mainN⟩, []⟩, ⟨⟨0, topN⟩, [⟨1, a⟩]⟩, ⟨⟨1, cellN⟩, []⟩], [0], ⟨1, a⟩⟩ := by
 rw [loDo_eq hand_ok h]
 kernel_rfl
end Go.Proofs.YtjdfceejkneofaaGreat.M
namespace Go.Proofs.YtjdfceejkneofaaGreat
open Go Go.RowKit
open Go.Lib (hid)
theorem lnk_agree (w : World) (I : Nat → Prop) (v : Value) (p : M.Plan) (hp : SliceOf 2 KeeperL w I v p) (hI : ∀ b, I b → b < w.heap.size) (i j : Int) (kk : Int) (kn : ByteArray)
    (ho : M.lodOk p = true) (h1 : M.has p i = true) (h2 : M.has p j = true) (h3 : M.kndOk ⟨kk, kn⟩ = true) (h4 : M.agree p i j ⟨kk, kn⟩ = true) :
    Calls Tryz.prog 20 #[.agg #[v], .int .i64 i, .int .i64 j, .agg #[.int .i64 kk, .string kn]] w fun e w' => e = .returned (.bool true) ∧ Ext w w' := by
 obtain ⟨a, cap, rfl, hn, hcap⟩ := hp.form
 obtain ⟨w1, hw1⟩ : ∃ w1, w1 = (w.alloc (.cells #[.slice a p.length cap] 40)).alloc (.cells #[.int .i64 kk, .string kn] 55) := ⟨_, rfl⟩
 have hE1 : Ext w w1 := by rw [hw1]; exact (by repeat (first | with_reducible exact Kp.refl _ _ | with_reducible assumption | with_reducible refine Kp.alloc ?_ _ | with_reducible refine Kp.drew ?_ | with_reducible refine Kp.drewN ?_ _ | with_reducible refine Kp.setCell ?_ (fun h => absurd h (by simp <;> omega)) _ | with_reducible refine Kp.trans ?_ (by with_reducible assumption) | exact Kp.refl _ _ | assumption | refine Kp.alloc ?_ _ | refine Kp.drew ?_ | refine Kp.drewN ?_ _ | (refine Kp.setCell ?_ (fun h => absurd h (by simp; done)) _) | (refine Kp.setCell ?_ (fun h => absurd h (by simp; omega)) _) | refine Kp.trans ?_ (by assumption)))
 have hz1 := hE1.size
 have bk : Blk w1 (w.heap.size + 1) 55 #[.int .i64 kk, .string kn] := by rw [hw1]; exact Blk.newAt _ _ (by simp)
 have hnl := new_lodge w1 I (.slice a p.length cap) p (hp.ext KeeperL.stays hE1) (fun b hb => by have := hI b hb; omega)
 have HNL := hid hnl
 have HE1 := hid hE1
 have HW1 := hid hw1
 have HBK := hid bk
 have HO := hid ho
 have H1 := hid h1
 have H2 := hid h2
 have H3 := hid h3
 have H4 := hid h4
 clear hE1 hw1 hnl hp hI bk ho h1 h2 h3 h4
 go_enter Tryz.func20, Tryz.ntmps20
 go_wp2_with fail
 rw [← HW1.out]
 refine HNL.out.mono ?_
 rintro e w2 ⟨hE2, hcs⟩
 rcases hcs with ⟨hlo, rfl⟩ | ⟨hlo, l, rfl, hL, hlO⟩
 · rw [HO.out] at hlo; cases hlo
 have HE2 := hid (HE1.out.trans hE2)
 have HB2 := hid (HBK.out.ext hE2)
 have HL := hid hL
 have hh1 := lodge_has w2 l p hL i
 have hh2 := lodge_has w2 l p hL j
 have hk := knd_ok ⟨kk, kn⟩ w2
 rw [H1.out] at hh1
 rw [H2.out] at hh2
 rw [H3.out] at hk
 have HH1 := hid hh1
 have HH2 := hid hh2
 have HK := hid hk
 have y0 := HB2.out.c 0 _ rfl
 have y1 := HB2.out.c 1 _ rfl
 have yz := HB2.out.lt
 clear hE2 hlo hL hh1 hh2 hk HNL
 go_wp2_with fail
 refine HH1.out.mono ?_
 rintro e w3 ⟨rfl, rfl⟩
 go_wp2_with fail
 refine HH2.out.mono ?_
 rintro e w3 ⟨rfl, rfl⟩
 go_wp2_with fail
 refine HK.out.mono ?_
 rintro e w3 ⟨rfl, hE3⟩
 have hag := lodge_agree w3 l p (HL.out.ext hE3) i j ⟨kk, kn⟩
 rw [H4.out] at hag
 have HAG := hid hag
 have hB3 := HB2.out.ext hE3
 have x0 := hB3.c 0 _ rfl
 have x1 := hB3.c 1 _ rfl
 have xz := hB3.lt
 have HE3 := hid (HE2.out.trans hE3)
 clear y0 y1 yz hE3 hB3 hag
 go_wp2_with fail
 refine HAG.out.mono ?_
 rintro e w4 ⟨rfl, hE4⟩
 have HE4 := hid (HE3.out.trans hE4)
 clear x0 x1 xz hE4
 go_wp2_with fail
 go_ret
 exact ⟨rfl, HE4.out⟩
theorem lo_ref (w : World) (name : ByteArray) : Calls Tryz.prog 18 #[.string name] w fun e w' => e = .returned (.agg #[.int .i64 2, .string name]) ∧ Ext w w' := by
 go_enter Tryz.func18, Tryz.ntmps18
 go_wp2_with fail
 refine bodyPost_ret (v := .agg #[.int .i64 2, .string name]) (by simp [results, Tryz.results18, go_sem]) rfl ?_
 exact ⟨rfl, (by repeat (first | with_reducible exact Kp.refl _ _ | with_reducible assumption | with_reducible refine Kp.alloc ?_ _ | with_reducible refine Kp.drew ?_ | with_reducible refine Kp.drewN ?_ _ | with_reducible refine Kp.setCell ?_ (fun h => absurd h (by simp <;> omega)) _ | with_reducible refine Kp.trans ?_ (by with_reducible assumption) | exact Kp.refl _ _ | assumption | refine Kp.alloc ?_ _ | refine Kp.drew ?_ | refine Kp.drewN ?_ _ | (refine Kp.setCell ?_ (fun h => absurd h (by simp; done)) _) | (refine Kp.setCell ?_ (fun h => absurd h (by simp; omega)) _) | refine Kp.trans ?_ (by assumption)))⟩
theorem elem_keeper : Elem 38 65 2 := elem_of (z := .agg #[.slice none 0 0, .slice none 0 0]) (bytes := 48) Tryz.underlying38 (by kernel_rfl) rfl (by decide) (by decide)
theorem owns_of_blk {w : World} {kb B : Nat} {t : TypeId} {x y : Value} (h : Blk w kb t #[x, y]) (hB : B ≤ kb) : w.ownsRow B t 2 (.slice (some ⟨kb, 0, none⟩) 1 1) 1 [x, y] := by
 exact ⟨rfl, .inr ⟨_, 1, #[x, y], rfl, hB, h, Nat.le_refl _, by decide, rfl, rfl⟩⟩
theorem law_hand : LawOk 8 := by
 intro W v zs hb
 by_cases hl : zs.length ≤ 1048576
 rotate_left
 · obtain ⟨va, vc, rfl⟩ := hb.form
   have hl' : decide ((1048576 : Int) < zs.length) = true := decide_eq_true (by omega)
   have hl2 : (1048576 : Int) < zs.length := by omega
   clear hb hl
   go_enter Tryz.func8, Tryz.ntmps8
   go_wp2_with fail
   go_ret
   exact ⟨rfl, Kp.refl _ _⟩
 have hu := M.loNum_in zs 1 (by omega)
 have HNu := hid (lo_num W v zs hb hl 1 (by omega))
 obtain ⟨va, vc, rfl⟩ := hb.form
 have hl2 : ((1048576 : Int) < zs.length) = False := eq_false (by omega)
 obtain ⟨u, hue⟩ : ∃ x, M.loNum zs 1 = x := ⟨_, rfl⟩
 rw [hue] at hu HNu
 have HU : Hid (M.numOk u = true) := hid (by unfold M.numOk; simp [hu])
 clear hue hu
 clear hb hl
 go_enter Tryz.func8, Tryz.ntmps8
 go_wp2_with fail
 refine HNu.out.mono ?_
 rintro e w1 ⟨rfl, rfl⟩
 go_wp2_with fail
 refine (lo_ref W ⟨#[116, 111, 112]⟩).mono ?_
 rintro e w1 ⟨rfl, hE1⟩
 obtain ⟨w2, hw2⟩ : ∃ w2, w2 = w1.alloc (.cells #[.int .i64 2, .string ⟨#[116, 111, 112]⟩] 55) := ⟨_, rfl⟩
 have hE2 : Ext w1 w2 := by rw [hw2]; exact (by repeat (first | with_reducible exact Kp.refl _ _ | with_reducible assumption | with_reducible refine Kp.alloc ?_ _ | with_reducible refine Kp.drew ?_ | with_reducible refine Kp.drewN ?_ _ | with_reducible refine Kp.setCell ?_ (fun h => absurd h (by simp <;> omega)) _ | with_reducible refine Kp.trans ?_ (by with_reducible assumption) | exact Kp.refl _ _ | assumption | refine Kp.alloc ?_ _ | refine Kp.drew ?_ | refine Kp.drewN ?_ _ | (refine Kp.setCell ?_ (fun h => absurd h (by simp; done)) _) | (refine Kp.setCell ?_ (fun h => absurd h (by simp; omega)) _) | refine Kp.trans ?_ (by assumption)))
 have hkn : SliceOf 2 KindL w2 (· < w2.heap.size) (.slice (some ⟨w1.heap.size, 0, none⟩) 1 1) [⟨2, M.topN⟩] := by
  have hb : Blk w2 w1.heap.size 55 #[.int .i64 2, .string ⟨#[116, 111, 112]⟩] := by rw [hw2]; exact Blk.new _ _ _
  exact SliceOf.row (R := KindL) (xs := [⟨2, M.topN⟩]) [[.int .i64 2, .string ⟨#[116, 111, 112]⟩]] (CellsAt.ofB hb) rfl (by simp) ⟨rfl, trivial⟩ hb.lt (by simp) (by simp)
 have HW2 := hid hw2
 have HE2 := hid (hE1.trans hE2)
 have HKN := hid hkn
 clear hE1 hE2 hw2 hkn
 go_wp2_with fail
 rw [← HW2.out]
 refine (lo_kind w2).mono ?_
 rintro e w3 ⟨rfl, hE3⟩
 obtain ⟨w4, hw4⟩ : ∃ w4, w4 = ((((w3.alloc (.cells #[.int .i64 2, .int .i64 1, .string ⟨#[]⟩, .string ⟨#[]⟩, .int .i64 7, .int .i64 0, .string ⟨#[116, 111, 112]⟩, .string ⟨#[118]⟩, .int .i64 10, .int .i64 0, .string ⟨#[]⟩, .string ⟨#[]⟩] 28)).alloc (.cells #[.string ⟨#[116, 97, 107, 101]⟩, .slice (some ⟨w1.heap.size, 0, none⟩) 1 1, .int .i64 1, .string ⟨#[]⟩, .int .i64 2, .int .i64 1, .slice (some ⟨w3.heap.size, 0, none⟩) 3 3, .slice none 0 0] 60)).alloc (.cells #[.string ⟨#[116, 97, 107, 101]⟩, .slice (some ⟨w1.heap.size, 0, none⟩) 1 1, .int .i64 1, .string ⟨#[]⟩, .int .i64 2, .int .i64 1, .slice (some ⟨w3.heap.size, 0, none⟩) 3 3, .slice none 0 0] 60)).alloc (.cells #[.string ⟨#[99, 101, 108, 108]⟩, .string ⟨#[]⟩, .slice none 0 0, .slice (some ⟨w3.heap.size + 1 + 1, 0, none⟩) 1 1] 50)).alloc (.cells #[.int .i64 6, .int .i64 0, .string ⟨#[116, 111, 112]⟩, .string ⟨#[]⟩, .int .i64 3, .int .i64 2, .string ⟨#[]⟩, .string ⟨#[]⟩, .int .i64 2, .int .i64 2, .string ⟨#[]⟩, .string ⟨#[]⟩, .int .i64 2, .int .i64 1, .string ⟨#[]⟩, .string ⟨#[]⟩, .int .i64 9, .int .i64 0, .string ⟨#[116, 111, 112]⟩, .string ⟨#[112, 117, 116]⟩, .int .i64 14, .int .i64 0, .string ⟨#[]⟩, .string ⟨#[]⟩, .int .i64 6, .int .i64 0, .string ⟨#[99, 101, 108, 108]⟩, .string ⟨#[]⟩, .int .i64 2, .int .i64 2, .string ⟨#[]⟩, .string ⟨#[]⟩, .int .i64 9, .int .i64 0, .string ⟨#[99, 101, 108, 108]⟩, .string ⟨#[116, 97, 107, 101]⟩, .int .i64 10, .int .i64 0, .string ⟨#[]⟩, .string ⟨#[]⟩] 28) := ⟨_, rfl⟩
 have HW4 := hid hw4
 have hE4 : Ext w3 w4 := by rw [hw4]; exact (by repeat (first | with_reducible exact Kp.refl _ _ | with_reducible assumption | with_reducible refine Kp.alloc ?_ _ | with_reducible refine Kp.drew ?_ | with_reducible refine Kp.drewN ?_ _ | with_reducible refine Kp.setCell ?_ (fun h => absurd h (by simp <;> omega)) _ | with_reducible refine Kp.trans ?_ (by with_reducible assumption) | exact Kp.refl _ _ | assumption | refine Kp.alloc ?_ _ | refine Kp.drew ?_ | refine Kp.drewN ?_ _ | (refine Kp.setCell ?_ (fun h => absurd h (by simp; done)) _) | (refine Kp.setCell ?_ (fun h => absurd h (by simp; omega)) _) | refine Kp.trans ?_ (by assumption)))
 have hz4 : w4.heap.size = w3.heap.size + 5 := by rw [hw4]; simp
 have htc : SliceOf 4 InsL w4 (· < w4.heap.size) (.slice (some ⟨w3.heap.size, 0, none⟩) 3 3) M.handT := by
  have hb : Blk w4 w3.heap.size 28 #[.int .i64 2, .int .i64 1, .string ⟨#[]⟩, .string ⟨#[]⟩, .int .i64 7, .int .i64 0, .string ⟨#[116, 111, 112]⟩, .string ⟨#[118]⟩, .int .i64 10, .int .i64 0, .string ⟨#[]⟩, .string ⟨#[]⟩] := by rw [hw4]; exact (Blk.new _ _ _).ext (((((Kp.refl _ _).alloc _).alloc _).alloc _).alloc _)
  exact SliceOf.row (R := InsL) (xs := M.handT) [[.int .i64 2, .int .i64 1, .string ⟨#[]⟩, .string ⟨#[]⟩], [.int .i64 7, .int .i64 0, .string ⟨#[116, 111, 112]⟩, .string ⟨#[118]⟩], [.int .i64 10, .int .i64 0, .string ⟨#[]⟩, .string ⟨#[]⟩]] (CellsAt.ofB hb) rfl (by simp) ⟨rfl, rfl, rfl, trivial⟩ (by omega) (by simp [M.handT]) (by simp [M.handT])
 have hmt : SliceOf 8 MethodL w4 (· < w4.heap.size) (.slice (some ⟨w3.heap.size + 1 + 1, 0, none⟩) 1 1) [M.handM] := by
  have hb : Blk w4 (w3.heap.size + 1 + 1) 60 #[.string ⟨#[116, 97, 107, 101]⟩, .slice (some ⟨w1.heap.size, 0, none⟩) 1 1, .int .i64 1, .string ⟨#[]⟩, .int .i64 2, .int .i64 1, .slice (some ⟨w3.heap.size, 0, none⟩) 3 3, .slice none 0 0] := by rw [hw4]; exact Blk.ext (w := ((w3.alloc (.cells #[.int .i64 2, .int .i64 1, .string ⟨#[]⟩, .string ⟨#[]⟩, .int .i64 7, .int .i64 0, .string ⟨#[116, 111, 112]⟩, .string ⟨#[118]⟩, .int .i64 10, .int .i64 0, .string ⟨#[]⟩, .string ⟨#[]⟩] 28)).alloc (.cells #[.string ⟨#[116, 97, 107, 101]⟩, .slice (some ⟨w1.heap.size, 0, none⟩) 1 1, .int .i64 1, .string ⟨#[]⟩, .int .i64 2, .int .i64 1, .slice (some ⟨w3.heap.size, 0, none⟩) 3 3, .slice none 0 0] 60)).alloc (.cells #[.string ⟨#[116, 97, 107, 101]⟩, .slice (some ⟨w1.heap.size, 0, none⟩) 1 1, .int .i64 1, .string ⟨#[]⟩, .int .i64 2, .int .i64 1, .slice (some ⟨w3.heap.size, 0, none⟩) 3 3, .slice none 0 0] 60)) (Blk.newAt _ _ (by simp)) (((Kp.refl _ _).alloc _).alloc _)
  have s4 := hE4.size
  have s3 := hE3.size
  exact SliceOf.row (R := MethodL) (xs := [M.handM]) [[.string ⟨#[116, 97, 107, 101]⟩, .slice (some ⟨w1.heap.size, 0, none⟩) 1 1, .int .i64 1, .string ⟨#[]⟩, .int .i64 2, .int .i64 1, .slice (some ⟨w3.heap.size, 0, none⟩) 3 3, .slice none 0 0]] (CellsAt.ofB hb) rfl (by simp) ⟨⟨_, _, _, rfl, HKN.out.keep KindL.stays (Ext.same (hE3.trans hE4)) (fun b hb => by omega), htc, SliceOf.nil _ _ _ _⟩, trivial⟩ (by omega) (by simp) (by simp)
 have bC : Blk w4 (w3.heap.size + 1 + 1 + 1) 50 #[.string ⟨#[99, 101, 108, 108]⟩, .string ⟨#[]⟩, .slice none 0 0, .slice (some ⟨w3.heap.size + 1 + 1, 0, none⟩) 1 1] := by rw [hw4]; exact Blk.ext (w := (((w3.alloc (.cells #[.int .i64 2, .int .i64 1, .string ⟨#[]⟩, .string ⟨#[]⟩, .int .i64 7, .int .i64 0, .string ⟨#[116, 111, 112]⟩, .string ⟨#[118]⟩, .int .i64 10, .int .i64 0, .string ⟨#[]⟩, .string ⟨#[]⟩] 28)).alloc (.cells #[.string ⟨#[116, 97, 107, 101]⟩, .slice (some ⟨w1.heap.size, 0, none⟩) 1 1, .int .i64 1, .string ⟨#[]⟩, .int .i64 2, .int .i64 1, .slice (some ⟨w3.heap.size, 0, none⟩) 3 3, .slice none 0 0] 60)).alloc (.cells #[.string ⟨#[116, 97, 107, 101]⟩, .slice (some ⟨w1.heap.size, 0, none⟩) 1 1, .int .i64 1, .string ⟨#[]⟩, .int .i64 2, .int .i64 1, .slice (some ⟨w3.heap.size, 0, none⟩) 3 3, .slice none 0 0] 60)).alloc (.cells #[.string ⟨#[99, 101, 108, 108]⟩, .string ⟨#[]⟩, .slice none 0 0, .slice (some ⟨w3.heap.size + 1 + 1, 0, none⟩) 1 1] 50)) (Blk.newAt _ _ (by simp)) ((Kp.refl _ _).alloc _)
 have hhc : SliceOf 4 InsL w4 (· < w4.heap.size) (.slice (some ⟨w3.heap.size + 1 + 1 + 1 + 1, 0, none⟩) 10 10) M.handC := by
  have hb : Blk w4 (w3.heap.size + 1 + 1 + 1 + 1) 28 #[.int .i64 6, .int .i64 0, .string ⟨#[116, 111, 112]⟩, .string ⟨#[]⟩, .int .i64 3, .int .i64 2, .string ⟨#[]⟩, .string ⟨#[]⟩, .int .i64 2, .int .i64 2, .string ⟨#[]⟩, .string ⟨#[]⟩, .int .i64 2, .int .i64 1, .string ⟨#[]⟩, .string ⟨#[]⟩, .int .i64 9, .int .i64 0, .string ⟨#[116, 111, 112]⟩, .string ⟨#[112, 117, 116]⟩, .int .i64 14, .int .i64 0, .string ⟨#[]⟩, .string ⟨#[]⟩, .int .i64 6, .int .i64 0, .string ⟨#[99, 101, 108, 108]⟩, .string ⟨#[]⟩, .int .i64 2, .int .i64 2, .string ⟨#[]⟩, .string ⟨#[]⟩, .int .i64 9, .int .i64 0, .string ⟨#[99, 101, 108, 108]⟩, .string ⟨#[116, 97, 107, 101]⟩, .int .i64 10, .int .i64 0, .string ⟨#[]⟩, .string ⟨#[]⟩] := by rw [hw4]; exact Blk.newAt _ _ (by simp)
  exact SliceOf.row (R := InsL) (xs := M.handC) [[.int .i64 6, .int .i64 0, .string ⟨#[116, 111, 112]⟩, .string ⟨#[]⟩], [.int .i64 3, .int .i64 2, .string ⟨#[]⟩, .string ⟨#[]⟩], [.int .i64 2, .int .i64 2, .string ⟨#[]⟩, .string ⟨#[]⟩], [.int .i64 2, .int .i64 1, .string ⟨#[]⟩, .string ⟨#[]⟩], [.int .i64 9, .int .i64 0, .string ⟨#[116, 111, 112]⟩, .string ⟨#[112, 117, 116]⟩], [.int .i64 14, .int .i64 0, .string ⟨#[]⟩, .string ⟨#[]⟩], [.int .i64 6, .int .i64 0, .string ⟨#[99, 101, 108, 108]⟩, .string ⟨#[]⟩], [.int .i64 2, .int .i64 2, .string ⟨#[]⟩, .string ⟨#[]⟩], [.int .i64 9, .int .i64 0, .string ⟨#[99, 101, 108, 108]⟩, .string ⟨#[116, 97, 107, 101]⟩], [.int .i64 10, .int .i64 0, .string ⟨#[]⟩, .string ⟨#[]⟩]] (CellsAt.ofB hb) rfl (by simp) ⟨rfl, rfl, rfl, rfl, rfl, rfl, rfl, rfl, rfl, rfl, trivial⟩ (by omega) (by simp [M.handC]) (by simp [M.handC])
 have HMT := hid hmt
 have HBC := hid bC
 have HHC := hid hhc
 have HE4 := hid (HE2.out.trans (hE3.trans hE4))
 clear hE3 hE4 hw4 hz4 htc hmt bC hhc
 go_wp2_with fail
 rw [← HW4.out]
 refine (lo_top w4 ⟨#[116, 111, 112]⟩ 0).mono ?_
 rintro e w5 ⟨⟨vf, vm, rfl, hcl⟩, hE5⟩
 obtain ⟨fa, fc, ma, mc, he⟩ := hcl.form
 have hv : vf = .slice fa 1 fc ∧ vm = .slice ma 2 mc := by simpa [M.topCls] using he
 obtain ⟨rfl, rfl⟩ := hv
 obtain ⟨w6, hw6⟩ : ∃ w6, w6 = w5.alloc (.cells #[.string ⟨#[116, 111, 112]⟩, .string ⟨#[]⟩, .slice fa 1 fc, .slice ma 2 mc] 50) := ⟨_, rfl⟩
 have hE6 : Ext w5 w6 := by rw [hw6]; exact (by repeat (first | with_reducible exact Kp.refl _ _ | with_reducible assumption | with_reducible refine Kp.alloc ?_ _ | with_reducible refine Kp.drew ?_ | with_reducible refine Kp.drewN ?_ _ | with_reducible refine Kp.setCell ?_ (fun h => absurd h (by simp <;> omega)) _ | with_reducible refine Kp.trans ?_ (by with_reducible assumption) | exact Kp.refl _ _ | assumption | refine Kp.alloc ?_ _ | refine Kp.drew ?_ | refine Kp.drewN ?_ _ | (refine Kp.setCell ?_ (fun h => absurd h (by simp; done)) _) | (refine Kp.setCell ?_ (fun h => absurd h (by simp; omega)) _) | refine Kp.trans ?_ (by assumption)))
 have h46 := hE5.trans hE6
 have s46 := h46.size
 have hm : SliceOf 4 ClassL w6 (· < w6.heap.size) (.slice (some ⟨w5.heap.size, 0, none⟩) 1 1) [M.topCls M.topN 0] := by
  have hb : Blk w6 w5.heap.size 50 #[.string ⟨#[116, 111, 112]⟩, .string ⟨#[]⟩, .slice fa 1 fc, .slice ma 2 mc] := by rw [hw6]; exact Blk.new _ _ _
  have hc3 := (ClassL.inside _ _ _ _ (ClassL.stays _ _ _ _ _ _ (Ext.same hE6) (fun _ h => h) hcl))
  exact SliceOf.row (R := ClassL) (xs := [M.topCls M.topN 0]) [[.string ⟨#[116, 111, 112]⟩, .string ⟨#[]⟩, .slice fa 1 fc, .slice ma 2 mc]] (CellsAt.ofB hb) rfl (by simp) ⟨ClassL.stays _ _ _ _ _ _ (fun _ _ _ _ h => h) (fun _ h => h.2) hc3, trivial⟩ hb.lt (by simp) (by simp)
 have hhc := HHC.out.keep InsL.stays (Ext.same h46) (J := (· < w6.heap.size)) (fun b hb => by omega)
 have hmain : Calls Tryz.prog 13 #[.slice (some ⟨w5.heap.size, 0, none⟩) 1 1, .slice (some ⟨w3.heap.size + 1 + 1 + 1 + 1, 0, none⟩) 10 10, .slice none 0 0] w6 _ := lo_main_at w6 (· < w6.heap.size) (fun _ h => h) ⟨w5.heap.size, 0, none⟩ 1 [M.topCls M.topN 0] (some ⟨w3.heap.size + 1 + 1 + 1 + 1, 0, none⟩) 10 none 0 M.handC [] hm (by simp) (by simp) hhc (SliceOf.nil _ _ _ _)
 have HMN := hid hmain
 have H46 := hid h46
 have HE6 := hid (HE4.out.trans h46)
 have HW6 := hid hw6
 clear hE5 hE6 h46 s46 hm hhc hmain hw6 hcl he
 go_wp2_with fail
 rw [← HW6.out]
 refine HMN.out.mono ?_
 rintro e w7 ⟨⟨vp, rfl, kb, oa, on, oc, rfl, hbk, hkb, hcs⟩, hE7⟩
 have hbc := HBC.out.ext (H46.out.trans hE7)
 have y0 := hbk.c 0 (.slice oa on oc) rfl
 have y1 := hbk.c 1 (.slice none 0 0) rfl
 have yz := hbk.lt
 have hne : w3.heap.size + 1 + 1 + 1 ≠ kb := by have := H46.out.size; have := HBC.out.lt; omega
 have KS : Kp (· = kb) w7 (w7.setCell ⟨kb, 1, none⟩ (.slice (some ⟨w7.heap.size + 1, 0, none⟩) 1 1)) := (Kp.refl (· = kb) w7).setCell (p := ⟨kb, 1, none⟩) (fun _ => rfl) _
 have bcs := hbc.kp KS hne
 have c0 := bcs.c 0 (.string ⟨#[99, 101, 108, 108]⟩) rfl
 have c1 := bcs.c 1 (.string ⟨#[]⟩) rfl
 have c2 := bcs.c 2 (.slice none 0 0) rfl
 have c3 := bcs.c 3 (.slice (some ⟨w3.heap.size + 1 + 1, 0, none⟩) 1 1) rfl
 have cz := bcs.lt
 have cz7 := hbc.lt
 have yf := hbk.frozen 1
 have bks : Blk (w7.setCell ⟨kb, 1, none⟩ (.slice (some ⟨w7.heap.size + 1, 0, none⟩) 1 1)) kb 65 #[.slice oa on oc, .slice (some ⟨w7.heap.size + 1, 0, none⟩) 1 1] := by simpa using hbk.set_ 1 (.slice (some ⟨w7.heap.size + 1, 0, none⟩) 1 1)
 have zS : (w7.setCell ⟨kb, 1, none⟩ (.slice (some ⟨w7.heap.size + 1, 0, none⟩) 1 1)).heap.size = w7.heap.size := by simp [World.setCell]
 obtain ⟨w8, hw8⟩ : ∃ w8, w8 = (((((w7.setCell ⟨kb, 1, none⟩ (.slice (some ⟨w7.heap.size + 1, 0, none⟩) 1 1)).alloc (.cells #[.slice (some ⟨kb, 0, none⟩) 1 1] 40)).alloc (.cells #[.string ⟨#[99, 101, 108, 108]⟩, .int .i64 1] 62)).alloc (.cells #[.string ⟨#[99, 101, 108, 108]⟩, .string ⟨#[]⟩, .slice none 0 0, .slice (some ⟨w3.heap.size + 1 + 1, 0, none⟩) 1 1] 50)).alloc (.cells #[.string ⟨#[116, 111, 112]⟩, .int .i64 0] 62)).alloc (.cells #[.slice (some ⟨w7.heap.size + 1 + 1, 0, none⟩) 1 1, .slice (some ⟨w7.heap.size + 1 + 1 + 1, 0, none⟩) 1 1] 65) := ⟨_, rfl⟩
 have z8 : w8.heap.size = w7.heap.size + 5 := by rw [hw8]; simp [zS]
 have bk8 : Blk w8 kb 65 #[.slice oa on oc, .slice (some ⟨w7.heap.size + 1, 0, none⟩) 1 1] := by rw [hw8]; exact bks.ext ((((((Kp.refl _ _).alloc _).alloc _).alloc _).alloc _).alloc _)
 have bp8 : Blk w8 w7.heap.size 40 #[.slice (some ⟨kb, 0, none⟩) 1 1] := by rw [hw8]; exact Blk.ext (w := (w7.setCell ⟨kb, 1, none⟩ (.slice (some ⟨w7.heap.size + 1, 0, none⟩) 1 1)).alloc (.cells #[.slice (some ⟨kb, 0, none⟩) 1 1] 40)) (Blk.newAt _ _ (by simp [zS])) (((((Kp.refl _ _).alloc _).alloc _).alloc _).alloc _)
 have ba8 : Blk w8 (w7.heap.size + 1) 62 #[.string ⟨#[99, 101, 108, 108]⟩, .int .i64 1] := by rw [hw8]; exact Blk.ext (w := ((w7.setCell ⟨kb, 1, none⟩ (.slice (some ⟨w7.heap.size + 1, 0, none⟩) 1 1)).alloc (.cells #[.slice (some ⟨kb, 0, none⟩) 1 1] 40)).alloc (.cells #[.string ⟨#[99, 101, 108, 108]⟩, .int .i64 1] 62)) (Blk.newAt _ _ (by simp [zS])) ((((Kp.refl _ _).alloc _).alloc _).alloc _)
 have bc8 : Blk w8 (w7.heap.size + 1 + 1) 50 #[.string ⟨#[99, 101, 108, 108]⟩, .string ⟨#[]⟩, .slice none 0 0, .slice (some ⟨w3.heap.size + 1 + 1, 0, none⟩) 1 1] := by rw [hw8]; exact Blk.ext (w := (((w7.setCell ⟨kb, 1, none⟩ (.slice (some ⟨w7.heap.size + 1, 0, none⟩) 1 1)).alloc (.cells #[.slice (some ⟨kb, 0, none⟩) 1 1] 40)).alloc (.cells #[.string ⟨#[99, 101, 108, 108]⟩, .int .i64 1] 62)).alloc (.cells #[.string ⟨#[99, 101, 108, 108]⟩, .string ⟨#[]⟩, .slice none 0 0, .slice (some ⟨w3.heap.size + 1 + 1, 0, none⟩) 1 1] 50)) (Blk.newAt _ _ (by simp [zS])) (((Kp.refl _ _).alloc _).alloc _)
 have bb8 : Blk w8 (w7.heap.size + 1 + 1 + 1) 62 #[.string ⟨#[116, 111, 112]⟩, .int .i64 0] := by rw [hw8]; exact Blk.ext (w := ((((w7.setCell ⟨kb, 1, none⟩ (.slice (some ⟨w7.heap.size + 1, 0, none⟩) 1 1)).alloc (.cells #[.slice (some ⟨kb, 0, none⟩) 1 1] 40)).alloc (.cells #[.string ⟨#[99, 101, 108, 108]⟩, .int .i64 1] 62)).alloc (.cells #[.string ⟨#[99, 101, 108, 108]⟩, .string ⟨#[]⟩, .slice none 0 0, .slice (some ⟨w3.heap.size + 1 + 1, 0, none⟩) 1 1] 50)).alloc (.cells #[.string ⟨#[116, 111, 112]⟩, .int .i64 0] 62)) (Blk.newAt _ _ (by simp [zS])) ((Kp.refl _ _).alloc _)
 have bl8 : Blk w8 (w7.heap.size + 1 + 1 + 1 + 1) 65 #[.slice (some ⟨w7.heap.size + 1 + 1, 0, none⟩) 1 1, .slice (some ⟨w7.heap.size + 1 + 1 + 1, 0, none⟩) 1 1] := by rw [hw8]; exact Blk.newAt _ _ (by simp [zS])
 have k78 : Kp (· = kb) w7 w8 := by rw [hw8]; exact (((((KS.alloc _).alloc _).alloc _).alloc _).alloc _)
 have h47 := H46.out.trans hE7
 have hmt := HMT.out
 have HBS := hid bcs
 have HW8 := hid hw8
 have HZ8 := hid z8
 have HBK8 := hid bk8
 have HBP8 := hid bp8
 have HBA8 := hid ba8
 have HBC8 := hid bc8
 have HBB8 := hid bb8
 have HBL8 := hid bl8
 have HK78 := hid k78
 have H47 := hid h47
 have HKB := hid hkb
 have HCS := hid hcs
 have HE7 := hid (HE6.out.trans hE7)
 clear hne bcs hbk hkb hcs hE7 hbc c0 c1 c2 c3 cz cz7 bks zS hw8 z8 bk8 bp8 ba8 bc8 bb8 bl8 k78 h47 hmt KS
 go_wp2_with (first
  | (refine wpList_load_agg agg_class rfl (.tmp 5) rfl _ 0 rfl [.string ⟨#[99, 101, 108, 108]⟩, .string ⟨#[]⟩, .slice none 0 0, .slice (some ⟨w3.heap.size + 1 + 1, 0, none⟩) 1 1] ((CellsAt.ofB HBS.out).ext (((Kp.refl _ _).alloc _).alloc _)) rfl ?_)
  | (rw [← HW8.out]; refine wpList_append_at elem_keeper rfl (.tmp 47) (.tmp 53) rfl kb (.slice (some ⟨kb, 0, none⟩) 1 1) 1 [.slice oa on oc, .slice (some ⟨w7.heap.size + 1, 0, none⟩) 1 1] rfl (owns_of_blk HBK8.out (Nat.le_refl _)) (w7.heap.size + 1 + 1 + 1 + 1) 1 [.slice (some ⟨w7.heap.size + 1 + 1, 0, none⟩) 1 1, .slice (some ⟨w7.heap.size + 1 + 1 + 1, 0, none⟩) 1 1] rfl rfl (CellsAt.ofB HBL8.out) (by simp [Value.oneCell']) (by omega) (by have := HZ8.out; omega) ?_; rintro g9 c9 w9 hO9 hK9 hg9; have bp9 := HBP8.out.kp hK9 (fun e => absurd (Option.some.inj e) (Nat.ne_of_lt yz)); have p0 := bp9.c 0 (.slice (some ⟨kb, 0, none⟩) 1 1) rfl; have pf := bp9.frozen 0; have pz := bp9.lt))
 have hO9 : w9.ownsRow kb 65 2 (.slice (some ⟨g9, 0, none⟩) 2 c9) 2 [.slice oa on oc, .slice (some ⟨w7.heap.size + 1, 0, none⟩) 1 1, .slice (some ⟨w7.heap.size + 1 + 1, 0, none⟩) 1 1, .slice (some ⟨w7.heap.size + 1 + 1 + 1, 0, none⟩) 1 1] := hO9
 have hg9 : g9 = kb ∨ g9 = w7.heap.size + 5 := hg9.imp (fun e => (Option.some.inj e).symm) (fun e => e.symm.trans HZ8.out)
 have k89 : Kp (· = kb) w8 w9 := hK9.weak fun b _ e => (Option.some.inj e).symm
 have hnp : w7.heap.size ≠ g9 := by omega
 obtain ⟨w10, hw10⟩ : ∃ w10, w10 = w9.setCell ⟨w7.heap.size, 0, none⟩ (.slice (some ⟨g9, 0, none⟩) 2 c9) := ⟨_, rfl⟩
 have k910 : Kp (· = w7.heap.size) w9 w10 := by rw [hw10]; exact (Kp.refl (· = w7.heap.size) w9).setCell (fun _ => rfl) _
 have bp10 : Blk w10 w7.heap.size 40 #[.slice (some ⟨g9, 0, none⟩) 2 c9] := by rw [hw10]; simpa using bp9.set_ 0 (.slice (some ⟨g9, 0, none⟩) 2 c9)
 have k810 : Kp (fun b => b = kb ∨ b = w7.heap.size) w8 w10 := (k89.weak fun _ _ e => .inl e).trans (k910.weak fun _ _ e => .inr e)
 have k710 : Kp (· = kb) w7 w10 := ((HK78.out.weak fun _ _ e => .inl e).trans k810).weak fun b hb e => e.elim id fun e => absurd hb (by omega)
 have z10 : w9.heap.size ≤ w10.heap.size := k910.size
 have z9 : w8.heap.size ≤ w9.heap.size := k89.size
 have hgl : g9 < w9.heap.size := by
  obtain ⟨g, c, e, -, hl, -⟩ := owns_form hO9 (by omega)
  cases e; exact hl
 have hcap : 2 ≤ c9 := by
  obtain ⟨g, c, e, -, -, hc⟩ := owns_form hO9 (by omega)
  cases e; exact hc
 have hrow : CellsAt w9 g9 0 [.slice oa on oc, .slice (some ⟨w7.heap.size + 1, 0, none⟩) 1 1, .slice (some ⟨w7.heap.size + 1 + 1, 0, none⟩) 1 1, .slice (some ⟨w7.heap.size + 1 + 1 + 1, 0, none⟩) 1 1] := fun j u hj => by
  have := hO9.cells (g := g9) rfl j u hj
  unfold Addr.add at this
  split at this
  · rename_i h0; subst h0; exact this
  · simpa using this
 have hkeep : w6.heap.size + 1 ≤ kb := HKB.out
 have s46 := H46.out.size
 have hz8 := HZ8.out
 have hplan : SliceOf 2 KeeperL w10 (· < w10.heap.size) (.slice (some ⟨g9, 0, none⟩) 2 c9) M.handP := by
  refine SliceOf.row (R := KeeperL) (xs := M.handP) [[.slice oa on oc, .slice (some ⟨w7.heap.size + 1, 0, none⟩) 1 1], [.slice (some ⟨w7.heap.size + 1 + 1, 0, none⟩) 1 1, .slice (some ⟨w7.heap.size + 1 + 1 + 1, 0, none⟩) 1 1]] (hrow.kp k910 (fun e => hnp e.symm)) rfl (by simp) ⟨?_, ?_, trivial⟩ (by omega) hcap (by decide)
  · exact ⟨_, _, rfl, HCS.out.keep ClassL.stays (k710.same fun b hb e => by omega) (fun b hb => by omega), SliceOf.row (R := AskL) (xs := [⟨M.cellN, 1⟩]) [[.string ⟨#[99, 101, 108, 108]⟩, .int .i64 1]] (CellsAt.ofB (HBA8.out.kp k810 (by omega))) rfl (by simp) ⟨rfl, trivial⟩ (by omega) (by simp) (by simp)⟩
  · refine ⟨_, _, rfl, SliceOf.row (R := ClassL) (xs := [M.handK]) [[.string ⟨#[99, 101, 108, 108]⟩, .string ⟨#[]⟩, .slice none 0 0, .slice (some ⟨w3.heap.size + 1 + 1, 0, none⟩) 1 1]] (CellsAt.ofB (HBC8.out.kp k810 (by omega))) rfl (by simp) ⟨⟨_, _, rfl, SliceOf.nil _ _ _ _, ?_⟩, trivial⟩ (by omega) (by simp) (by simp), SliceOf.row (R := AskL) (xs := [⟨M.topN, 0⟩]) [[.string ⟨#[116, 111, 112]⟩, .int .i64 0]] (CellsAt.ofB (HBB8.out.kp k810 (by omega))) rfl (by simp) ⟨rfl, trivial⟩ (by omega) (by simp) (by simp)⟩
    exact HMT.out.keep MethodL.stays ((H47.out.any.trans k710).same fun b hb e => by omega) (fun b hb => by have := H47.out.size; omega)
 have hdo := lo_do w10 _ _ _ hplan (fun _ h => h) u
 have hr : M.loDo M.handP u = _ := M.hand_run HU.out
 rw [hr] at hdo
 have hE10 : Ext W w10 := ((HE7.out.any : Kp (· = kb) W w7).trans k710).weak fun b hb e => by have := HE6.out.size; omega
 have HPL := hid hplan
 have HBP := hid bp10
 have HDO := hid hdo
 have HE10 := hid hE10
 have HW10 := hid hw10
 clear hO9 hK9 hg9 k89 hnp k910 bp10 k810 k710 z10 z9 hgl hcap hrow hkeep s46 hz8 hplan hdo hr hE10 hw10 bp9 p0 pf pz
 rw [← HW10.out]
 refine HDO.out.mono ?_
 rintro e w11 ⟨⟨cs, rfl, hS⟩, hE11⟩
 obtain ⟨a1, c1, a2, c2, a3, c3, rfl, -, -, ho⟩ := hS.form
 simp only [List.length_cons, List.length_nil, Nat.zero_add]
 obtain ⟨w12, hw12⟩ : ∃ w12, w12 = w11.alloc (.cells #[.int .i64 2, .slice a1 0 c1, .slice a2 3 c2, .slice a3 1 c3, .int .i64 1, .int .i64 u] 36) := ⟨_, rfl⟩
 have hE12 : Ext w11 w12 := by rw [hw12]; exact (by repeat (first | with_reducible exact Kp.refl _ _ | with_reducible assumption | with_reducible refine Kp.alloc ?_ _ | with_reducible refine Kp.drew ?_ | with_reducible refine Kp.drewN ?_ _ | with_reducible refine Kp.setCell ?_ (fun h => absurd h (by simp <;> omega)) _ | with_reducible refine Kp.trans ?_ (by with_reducible assumption) | exact Kp.refl _ _ | assumption | refine Kp.alloc ?_ _ | refine Kp.drew ?_ | refine Kp.drewN ?_ _ | (refine Kp.setCell ?_ (fun h => absurd h (by simp; done)) _) | (refine Kp.setCell ?_ (fun h => absurd h (by simp; omega)) _) | refine Kp.trans ?_ (by assumption)))
 have hb8 : Blk w12 w11.heap.size 36 #[.int .i64 2, .slice a1 0 c1, .slice a2 3 c2, .slice a3 1 c3, .int .i64 1, .int .i64 u] := by rw [hw12]; exact Blk.new _ _ _
 have hx := (HBP.out.ext (hE11.trans hE12))
 have hP := HPL.out.ext KeeperL.stays (hE11.trans hE12)
 have HB8 := hid hb8
 have HX := hid hx
 have HP := hid hP
 have HE12 := hid (HE10.out.trans (hE11.trans hE12))
 have HW12 := hid hw12
 clear hS ho hE11 hE12 hb8 hx hP hw12
 obtain ⟨T, f, hneT, HT⟩ := Cls.ex (fun W' => Ext w12 W') w12 (Kp.refl _ _)
 have r0 := fun z => (HB8.out.ext (HT.inn z)).c 0 (.int .i64 2) rfl
 have r1 := fun z => (HB8.out.ext (HT.inn z)).c 1 (.slice a1 0 c1) rfl
 have r2 := fun z => (HB8.out.ext (HT.inn z)).c 2 (.slice a2 3 c2) rfl
 have r3 := fun z => (HB8.out.ext (HT.inn z)).c 3 (.slice a3 1 c3) rfl
 have r4 := fun z => (HB8.out.ext (HT.inn z)).c 4 (.int .i64 1) rfl
 have r5 := fun z => (HB8.out.ext (HT.inn z)).c 5 (.int .i64 u) rfl
 have x0 := fun z => (HX.out.ext (HT.inn z)).c 0 (.slice (some ⟨g9, 0, none⟩) 2 c9) rfl
 have HTH := hid HT
 clear HT
 go_wp2_with fail
 rw [← HW12.out]
 (refine region_mix f 12 [([0, 1], 2), ([3, 4], 5), ([6, 7, 8], 9), ([], 10)] [11] (HTH.out.out _ ?_) (by kernel_rfl) (by kernel_rfl) (fun _ _ d _ _ h => by cases d <;> exact h) ?_)
 · exact (Kp.refl _ _).drew
 (refine wpMix_cons rfl rfl fun K hK => ?_); (change wpQuiet _ _ _ _ [_, _] _); (repeat (go_big_quiet_step (fail))); (refine wpQuiet_nil ?_); (refine hK _ fun K2 hK2 => ?_); clear hK K; (change wpList _ _ _ [_] _ _)
 go_wp2_with fail
 refine (lo_gives w12.drew 2 a1 0 c1 a2 3 c2 a3 1 c3 1 u u).mono ?_
 rintro e w13 ⟨rfl, hE13⟩
 have HE13 : Hid (Ext w12 w13) := hid (((Kp.refl _ _).drew : Ext w12 w12.drew).trans hE13)
 clear hE13
 rw [decide_eq_true rfl, decide_eq_true rfl]
 go_wp2_with fail
 (refine hK2 _ _ (HTH.out.out _ HE13.out) ?_); clear hK2 K2
 (refine wpMix_cons rfl rfl fun K hK => ?_); (change wpQuiet _ _ _ _ [_, _] _); (repeat (go_big_quiet_step (fail))); (refine wpQuiet_nil ?_); (refine hK _ fun K2 hK2 => ?_); clear hK K; (change wpList _ _ _ [_] _ _)
 go_wp2_with fail
 have hri := plan_right w13 _ _ _ (PlanL.in' (HP.out.ext KeeperL.stays HE13.out)) (fun _ h => h)
 rw [M.hand_right] at hri
 refine hri.mono ?_
 rintro e w14 ⟨rfl, hE14⟩
 have HE14 : Hid (Ext w12 w14) := hid (HE13.out.trans hE14)
 clear hri hE14
 go_wp2_with fail
 (refine hK2 _ _ (HTH.out.out _ HE14.out) ?_); clear hK2 K2
 (refine wpMix_cons rfl rfl fun K hK => ?_); (change wpQuiet _ _ _ _ [_, _, _] _); (repeat (go_big_quiet_step (fail))); (refine wpQuiet_nil ?_); (refine hK _ fun K2 hK2 => ?_); clear hK K; (change wpList _ _ _ [_] _ _)
 go_wp2_with fail
 refine (lo_ref w14 ⟨#[116, 111, 112]⟩).mono ?_
 rintro e w15 ⟨rfl, hE15⟩
 have HE15 : Hid (Ext w12 w15) := hid (HE14.out.trans hE15)
 clear hE15
 go_wp2_with fail
 (refine hK2 _ _ (HTH.out.out _ HE15.out) ?_); clear hK2 K2
 (refine wpMix_cons rfl rfl fun K hK => ?_); (change wpQuiet _ _ _ _ [] _); (refine wpQuiet_nil ?_); (refine hK _ fun K2 hK2 => ?_); clear hK K; (change wpList _ _ _ [_] _ _)
 go_wp2_with fail
 refine (lnk_agree w15 _ _ _ (PlanL.in' (HP.out.ext KeeperL.stays HE15.out)) (fun _ h => h) 0 1 2 ⟨#[116, 111, 112]⟩ M.hand_ok (by decide +kernel) (by decide +kernel) (by decide +kernel) M.hand_agree).mono ?_
 rintro e w16 ⟨rfl, hE16⟩
 have HE16 : Hid (Ext w12 w16) := hid (HE15.out.trans hE16)
 clear hE16
 go_wp2_with fail
 (refine hK2 _ _ (HTH.out.out _ HE16.out) ?_); clear hK2 K2
 (refine wpMix_nil rfl fun K hK => ?_); (change wpQuiet _ _ _ _ [_] _); (repeat (go_big_quiet_step (fail))); (refine wpQuiet_nil ?_); (refine hK _ ?_); clear hK K
 go_wp2_with fail
 go_ret
 exact ⟨rfl, HE12.out.trans HE16.out⟩
end Go.Proofs.YtjdfceejkneofaaGreat
namespace Go.Proofs.YtjdfceejkneofaaGreat
open Go Go.ChangeShapes Go.WideShapes Go.ChangeAt Go.RowKit
theorem fnVmHand_lifted (os : Os) (started : os.Started) (H : Type) (enc : TypeId × Value → H) :
    ReturnsInHanded {} Tryz.checked os 8 .any (Rows.fnVmHandSpec.pre6 enc Tryz.prog Tryz.f8 Rows.fnVmHandRow.domain false) (Rows.fnVmHandSpec.post enc Tryz.prog Tryz.f8 false true false false) := by
 refine returnsInHanded_of_change (C := Tryz.checked) Tryz.own started (by kernel_rfl) Tryz.func8
  (ChangeSpec.witness6 (enc := enc) (C := Tryz.checked) false ⟨#[], #[.slice none 0 0], []⟩ 8 (by kernel_rfl) (by kernel_rfl) (by kernel_rfl) (by kernel_rfl)) ?_
 intro W base args ds gs before hval0 hW hcnd _
 have hval : ∀ (j : Nat) t v, Tryz.f8.params[j]? = some t → args[j]? = some v → Value.okWide Tryz.prog W .any base t v := hval0
 have hW' := hW
 obtain ⟨p, q, hA0, hV, rfl, hfz, hnd⟩ := hW
 have hA : DataW.TrodAll enc Tryz.prog W 0 (fun _ => true) true Tryz.f8.params.toList args.toList ds p := hA0
 rw [Tryz.params8] at hA hval
 obtain ⟨v0, d0, rfl, rfl, h0⟩ := trodAll_one hA
 obtain ⟨rfl, rfl⟩ := trodVars_none hV
 simp only [List.append_nil] at hW'
 obtain ⟨zs, hb⟩ := bytes_at (okWide_slice Tryz.underlying22 (hval 0 22 v0 rfl rfl)) h0
 refine (law_hand W v0 zs hb).mono fun e W' ⟨he, hE⟩ => ?_
 subst he
 exact ⟨_, rfl, law_post (fn := Tryz.f8) Tryz.params8 rfl rfl rfl hW' h0 hE⟩
theorem fnVmHand_holds : Rows.FnVmHandSaid :=
 OpenClaim.holds_of_wide 8 Tryz.f8 rfl rfl rfl rfl rfl rfl rfl ⟨rfl, rfl, rfl, rfl, rfl⟩ rfl rfl rfl rfl rfl (by kernel_rfl) Tryz.func8 (by kernel_rfl)
  (of_decide_eq_true (by kernel_rfl)) (by unfold Func.isWrapper; rw [if_neg (by decide +kernel)]; exact ⟨rfl, rfl⟩)
  (fun os started H enc _ => fnVmHand_lifted os started H enc)
#print axioms fnVmHand_holds
end Go.Proofs.YtjdfceejkneofaaGreat
