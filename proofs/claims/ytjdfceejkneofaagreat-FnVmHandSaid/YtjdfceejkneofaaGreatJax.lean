/- Walks: loTop. (Printed by gen_lo5.py.); Plain facts: the plans of the laws on main's run with classes beside it, and what the runs come to.; Walks: classes, PlanRight. -/
import Derived.Test.YtjdfceejkneofaaGreatJaw
import Derived.KernelRfl
import Derived.Test.YtjdfceejkneofaaGreatJaq
import Derived.Test.YtjdfceejkneofaaGreatJae
import Derived.Test.YtjdfceejkneofaaGreatJaf
set_option maxRecDepth 100000
set_option maxHeartbeats 4000000
set_option linter.unusedSimpArgs false
set_option linter.unusedVariables false
namespace Go.Proofs.YtjdfceejkneofaaGreat
open Go Go.RowKit
open Go.Lib (hid)
namespace M
def topN : ByteArray := ⟨#[116, 111, 112]⟩
def cellN : ByteArray := ⟨#[99, 101, 108, 108]⟩
def vN : ByteArray := ⟨#[118]⟩
def getN : ByteArray := ⟨#[103, 101, 116]⟩
def putN : ByteArray := ⟨#[112, 117, 116]⟩
def takeN : ByteArray := ⟨#[116, 97, 107, 101]⟩
def numK : Kind := ⟨1, none_⟩
def getC (more : Int) : List Ins := [⟨2, 0, none_, none_⟩, ⟨7, 0, topN, vN⟩, ⟨1, more, none_, none_⟩, ⟨4, 0, none_, none_⟩, ⟨10, 0, none_, none_⟩]
def putC : List Ins := [⟨2, 0, none_, none_⟩, ⟨2, 1, none_, none_⟩, ⟨8, 0, topN, vN⟩, ⟨1, 0, none_, none_⟩, ⟨10, 0, none_, none_⟩]
def getM (more : Int) : Method := ⟨getN, [], numK, 1, 2, getC more, []⟩
def putM : Method := ⟨putN, [numK], numK, 2, 2, putC, []⟩
def topCls (name : ByteArray) (more : Int) : Class := ⟨name, none_, [⟨vN, numK⟩], [getM more, putM]⟩
def subCls (name : ByteArray) (more : Int) : Class := ⟨name, topN, [], [getM more]⟩
end M
theorem agg_class : Agg 50 4 := ⟨_, Tryz.underlying50, by kernel_rfl⟩
theorem elem_method : Elem 48 60 8 := elem_of (z := .agg #[.string ⟨#[]⟩, .slice none 0 0, .int .i64 0, .string ⟨#[]⟩, .int .i64 0, .int .i64 0, .slice none 0 0, .slice none 0 0]) (bytes := 128) Tryz.underlying48 (by kernel_rfl) rfl (by decide) (by decide)
theorem Kp.set4 {D : Nat → Prop} {w : World} {b : Nat} (hD : D b) (v0 v1 v2 v3 : Value) : Kp D w ((((w.setCell ⟨b, 0, none⟩ v0).setCell ⟨b, 1, none⟩ v1).setCell ⟨b, 2, none⟩ v2).setCell ⟨b, 3, none⟩ v3) :=
 (Kp.set3 hD v0 v1 v2).trans ((Kp.refl D _).setCell (p := ⟨b, 3, none⟩) (fun _ => hD) v3)
theorem Blk.set4 {w : World} {b : Nat} {t : TypeId} {u0 u1 u2 u3 : Value} (h : Blk w b t #[u0, u1, u2, u3]) (v0 v1 v2 v3 : Value) : Blk ((((w.setCell ⟨b, 0, none⟩ v0).setCell ⟨b, 1, none⟩ v1).setCell ⟨b, 2, none⟩ v2).setCell ⟨b, 3, none⟩ v3) b t #[v0, v1, v2, v3] :=
 (((h.set_ 0 v0).set_ 1 v1).set_ 2 v2).set_ 3 v3
theorem lo_top (w : World) (name : ByteArray) (more : Int) :
    Calls Tryz.prog 15 #[.string name, .string ⟨#[]⟩, .int .i64 more] w fun e w' => (∃ vf vm, e = .returned (.agg #[.string name, .string ⟨#[]⟩, vf, vm]) ∧ ClassL w' (fun b => w.heap.size ≤ b) (M.topCls name more) [.string name, .string ⟨#[]⟩, vf, vm]) ∧ Ext w w' := by
 obtain ⟨w1, hw1⟩ : ∃ w1, w1 = w.alloc (.cells #[.string ⟨#[]⟩, .string ⟨#[]⟩, .slice none 0 0, .slice none 0 0] 50) := ⟨_, rfl⟩
 have hE1 : Ext w w1 := by rw [hw1]; exact (KX.k (by repeat (first | assumption | constructor)))
 have b6 : Blk w1 w.heap.size 50 #[.string ⟨#[]⟩, .string ⟨#[]⟩, .slice none 0 0, .slice none 0 0] := by rw [hw1]; exact Blk.new _ _ _
 have HE1 := hid hE1
 have HB6 := hid b6
 have HW1 := hid hw1
 have hz1 : w1.heap.size = w.heap.size + 1 := by rw [hw1]; simp
 have HZ1 := hid hz1
 clear hE1 b6 hw1 hz1
 go_enter Tryz.func15, Tryz.ntmps15
 go_wp2_with fail
 rw [← HW1.out]
 refine (lo_kind w1).mono ?_
 rintro e w2 ⟨rfl, hE2⟩
 have HZ2 := hid hE2.size
 obtain ⟨w3, hw3⟩ : ∃ w3, w3 = (w2.alloc (.cells #[.int .i64 2, .int .i64 0, .string ⟨#[]⟩, .string ⟨#[]⟩, .int .i64 7, .int .i64 0, .string ⟨#[116, 111, 112]⟩, .string ⟨#[118]⟩, .int .i64 1, .int .i64 more, .string ⟨#[]⟩, .string ⟨#[]⟩, .int .i64 4, .int .i64 0, .string ⟨#[]⟩, .string ⟨#[]⟩, .int .i64 10, .int .i64 0, .string ⟨#[]⟩, .string ⟨#[]⟩] 28)).alloc (.cells #[.string ⟨#[103, 101, 116]⟩, .slice none 0 0, .int .i64 1, .string ⟨#[]⟩, .int .i64 1, .int .i64 2, .slice (some ⟨w2.heap.size, 0, none⟩) 5 5, .slice none 0 0] 60) := ⟨_, rfl⟩
 have hE3 : Ext w2 w3 := by rw [hw3]; exact (KX.k (by repeat (first | assumption | constructor)))
 have bi1 : Blk w3 w2.heap.size 28 #[.int .i64 2, .int .i64 0, .string ⟨#[]⟩, .string ⟨#[]⟩, .int .i64 7, .int .i64 0, .string ⟨#[116, 111, 112]⟩, .string ⟨#[118]⟩, .int .i64 1, .int .i64 more, .string ⟨#[]⟩, .string ⟨#[]⟩, .int .i64 4, .int .i64 0, .string ⟨#[]⟩, .string ⟨#[]⟩, .int .i64 10, .int .i64 0, .string ⟨#[]⟩, .string ⟨#[]⟩] := by rw [hw3]; exact (Blk.new _ _ _).ext ((Kp.refl _ _).alloc _)
 have b7 : Blk w3 (w2.heap.size + 1) 60 #[.string ⟨#[103, 101, 116]⟩, .slice none 0 0, .int .i64 1, .string ⟨#[]⟩, .int .i64 1, .int .i64 2, .slice (some ⟨w2.heap.size, 0, none⟩) 5 5, .slice none 0 0] := by rw [hw3]; exact Blk.newAt _ _ (by simp)
 have HI1 := hid bi1
 have HB7 := hid b7
 have HW3 := hid hw3
 have HE13 := hid (hE2.trans hE3)
 have hz3 : w3.heap.size = w2.heap.size + 2 := by rw [hw3]; simp
 have HZ3 := hid hz3
 clear hE2 hE3 bi1 b7 hw3 hz3
 go_wp2_with fail
 rw [← HW3.out]
 refine (lo_kind w3).mono ?_
 rintro e w4 ⟨rfl, hE4⟩
 have HZ4 := hid hE4.size
 obtain ⟨w5, hw5⟩ : ∃ w5, w5 = w4.alloc (.cells #[.int .i64 1, .string ⟨#[]⟩] 55) := ⟨_, rfl⟩
 have hE5 : Ext w4 w5 := by rw [hw5]; exact (KX.k (by repeat (first | assumption | constructor)))
 have bk : Blk w5 w4.heap.size 55 #[.int .i64 1, .string ⟨#[]⟩] := by rw [hw5]; exact Blk.new _ _ _
 have HK := hid bk
 have HW5 := hid hw5
 have HE35 := hid (hE4.trans hE5)
 have hz5 : w5.heap.size = w4.heap.size + 1 := by rw [hw5]; simp
 have HZ5 := hid hz5
 clear hE4 hE5 bk hw5 hz5
 go_wp2_with fail
 rw [← HW5.out]
 refine (lo_kind w5).mono ?_
 rintro e w6 ⟨rfl, hE6⟩
 have HZ6 := hid hE6.size
 have HE16 := hid (HE13.out.trans (HE35.out.trans hE6))
 have b76 := HB7.out.ext (HE35.out.trans hE6)
 have b66 := HB6.out.ext HE16.out
 have HB66 := hid b66
 have HI16 := hid (HI1.out.ext (HE35.out.trans hE6))
 have HK6 := hid (HK.out.ext hE6)
 have z1 := HZ1.out
 have z2 := HZ2.out
 have z3 := HZ3.out
 have z4 := HZ4.out
 have z5 := HZ5.out
 have z6 := HZ6.out
 have HZZ : Hid (w.heap.size + 1 ≤ w2.heap.size ∧ w2.heap.size + 2 ≤ w4.heap.size ∧ w4.heap.size + 1 ≤ w6.heap.size) := hid (by omega)
 have g0 := b76.c 0 (.string ⟨#[103, 101, 116]⟩) rfl
 have g1 := b76.c 1 (.slice none 0 0) rfl
 have g2 := b76.c 2 (.int .i64 1) rfl
 have g3 := b76.c 3 (.string ⟨#[]⟩) rfl
 have g4 := b76.c 4 (.int .i64 1) rfl
 have g5 := b76.c 5 (.int .i64 2) rfl
 have g6 := b76.c 6 (.slice (some ⟨w2.heap.size, 0, none⟩) 5 5) rfl
 have g7 := b76.c 7 (.slice none 0 0) rfl
 have gz := b76.lt
 have gz2 : w2.heap.size < w6.heap.size := by omega
 clear hE6 b76 z1 z2 z3 z4 z5 z6 HB7 HB6 HI1 HK HE35 HE13
 have HS6 : Hid (w6.heap.size = w6.heap.size) := hid rfl
 obtain ⟨w8, hw8⟩ : ∃ w8, w8 = ((((w6.alloc (.cells #[.int .i64 2, .int .i64 0, .string ⟨#[]⟩, .string ⟨#[]⟩, .int .i64 2, .int .i64 1, .string ⟨#[]⟩, .string ⟨#[]⟩, .int .i64 8, .int .i64 0, .string ⟨#[116, 111, 112]⟩, .string ⟨#[118]⟩, .int .i64 1, .int .i64 0, .string ⟨#[]⟩, .string ⟨#[]⟩, .int .i64 10, .int .i64 0, .string ⟨#[]⟩, .string ⟨#[]⟩] 28)).alloc (.cells #[.string ⟨#[112, 117, 116]⟩, .slice (some ⟨w4.heap.size, 0, none⟩) 1 1, .int .i64 1, .string ⟨#[]⟩, .int .i64 2, .int .i64 2, .slice (some ⟨w6.heap.size, 0, none⟩) 5 5, .slice none 0 0] 60)).alloc (.cells #[.string ⟨#[103, 101, 116]⟩, .slice none 0 0, .int .i64 1, .string ⟨#[]⟩, .int .i64 1, .int .i64 2, .slice (some ⟨w2.heap.size, 0, none⟩) 5 5, .slice none 0 0] 60)).alloc (.cells #[.string name, .string ⟨#[]⟩, .slice none 0 0, .slice (some ⟨w6.heap.size + 1 + 1, 0, none⟩) 1 1] 50)) := ⟨_, rfl⟩
 have hE8 : Ext w6 w8 := by rw [hw8]; exact (KX.k (by repeat (first | assumption | constructor)))
 have bi2 : Blk w8 w6.heap.size 28 #[.int .i64 2, .int .i64 0, .string ⟨#[]⟩, .string ⟨#[]⟩, .int .i64 2, .int .i64 1, .string ⟨#[]⟩, .string ⟨#[]⟩, .int .i64 8, .int .i64 0, .string ⟨#[116, 111, 112]⟩, .string ⟨#[118]⟩, .int .i64 1, .int .i64 0, .string ⟨#[]⟩, .string ⟨#[]⟩, .int .i64 10, .int .i64 0, .string ⟨#[]⟩, .string ⟨#[]⟩] := by rw [hw8]; exact (Blk.newAt _ _ (HS6.out)).ext (KX.k (by repeat (first | assumption | constructor)))
 have b8 : Blk w8 (w6.heap.size + 1) 60 #[.string ⟨#[112, 117, 116]⟩, .slice (some ⟨w4.heap.size, 0, none⟩) 1 1, .int .i64 1, .string ⟨#[]⟩, .int .i64 2, .int .i64 2, .slice (some ⟨w6.heap.size, 0, none⟩) 5 5, .slice none 0 0] := by rw [hw8]; exact Blk.ext (w := ((w6.alloc (.cells #[.int .i64 2, .int .i64 0, .string ⟨#[]⟩, .string ⟨#[]⟩, .int .i64 2, .int .i64 1, .string ⟨#[]⟩, .string ⟨#[]⟩, .int .i64 8, .int .i64 0, .string ⟨#[116, 111, 112]⟩, .string ⟨#[118]⟩, .int .i64 1, .int .i64 0, .string ⟨#[]⟩, .string ⟨#[]⟩, .int .i64 10, .int .i64 0, .string ⟨#[]⟩, .string ⟨#[]⟩] 28)).alloc (.cells #[.string ⟨#[112, 117, 116]⟩, .slice (some ⟨w4.heap.size, 0, none⟩) 1 1, .int .i64 1, .string ⟨#[]⟩, .int .i64 2, .int .i64 2, .slice (some ⟨w6.heap.size, 0, none⟩) 5 5, .slice none 0 0] 60))) (Blk.newAt _ _ (by simp [HS6.out])) (KX.k (by repeat (first | assumption | constructor)))
 have bg : Blk w8 (w6.heap.size + 1 + 1) 60 #[.string ⟨#[103, 101, 116]⟩, .slice none 0 0, .int .i64 1, .string ⟨#[]⟩, .int .i64 1, .int .i64 2, .slice (some ⟨w2.heap.size, 0, none⟩) 5 5, .slice none 0 0] := by rw [hw8]; exact Blk.ext (w := (((w6.alloc (.cells #[.int .i64 2, .int .i64 0, .string ⟨#[]⟩, .string ⟨#[]⟩, .int .i64 2, .int .i64 1, .string ⟨#[]⟩, .string ⟨#[]⟩, .int .i64 8, .int .i64 0, .string ⟨#[116, 111, 112]⟩, .string ⟨#[118]⟩, .int .i64 1, .int .i64 0, .string ⟨#[]⟩, .string ⟨#[]⟩, .int .i64 10, .int .i64 0, .string ⟨#[]⟩, .string ⟨#[]⟩] 28)).alloc (.cells #[.string ⟨#[112, 117, 116]⟩, .slice (some ⟨w4.heap.size, 0, none⟩) 1 1, .int .i64 1, .string ⟨#[]⟩, .int .i64 2, .int .i64 2, .slice (some ⟨w6.heap.size, 0, none⟩) 5 5, .slice none 0 0] 60))).alloc (.cells #[.string ⟨#[103, 101, 116]⟩, .slice none 0 0, .int .i64 1, .string ⟨#[]⟩, .int .i64 1, .int .i64 2, .slice (some ⟨w2.heap.size, 0, none⟩) 5 5, .slice none 0 0] 60)) (Blk.newAt _ _ (by simp [HS6.out])) (KX.k (by repeat (first | assumption | constructor)))
 have b9 : Blk w8 (w6.heap.size + 1 + 1 + 1) 50 #[.string name, .string ⟨#[]⟩, .slice none 0 0, .slice (some ⟨w6.heap.size + 1 + 1, 0, none⟩) 1 1] := by rw [hw8]; exact Blk.newAt _ _ (by simp [HS6.out])
 have hz8 : w8.heap.size = w6.heap.size + 4 := by rw [hw8]; simp
 have hrow8 : w8.ownsRow (w6.heap.size + 1 + 1) 60 8 (.slice (some ⟨w6.heap.size + 1 + 1, 0, none⟩) 1 1) 1 [.string ⟨#[103, 101, 116]⟩, .slice none 0 0, .int .i64 1, .string ⟨#[]⟩, .int .i64 1, .int .i64 2, .slice (some ⟨w2.heap.size, 0, none⟩) 5 5, .slice none 0 0] := by
  rw [hw8]
  have h0 : (((w6.alloc (.cells #[.int .i64 2, .int .i64 0, .string ⟨#[]⟩, .string ⟨#[]⟩, .int .i64 2, .int .i64 1, .string ⟨#[]⟩, .string ⟨#[]⟩, .int .i64 8, .int .i64 0, .string ⟨#[116, 111, 112]⟩, .string ⟨#[118]⟩, .int .i64 1, .int .i64 0, .string ⟨#[]⟩, .string ⟨#[]⟩, .int .i64 10, .int .i64 0, .string ⟨#[]⟩, .string ⟨#[]⟩] 28)).alloc (.cells #[.string ⟨#[112, 117, 116]⟩, .slice (some ⟨w4.heap.size, 0, none⟩) 1 1, .int .i64 1, .string ⟨#[]⟩, .int .i64 2, .int .i64 2, .slice (some ⟨w6.heap.size, 0, none⟩) 5 5, .slice none 0 0] 60))).heap.size = w6.heap.size + 1 + 1 := by simp
  have h1 := World.ownsRow_lit (size := 8) (e := 60) (((w6.alloc (.cells #[.int .i64 2, .int .i64 0, .string ⟨#[]⟩, .string ⟨#[]⟩, .int .i64 2, .int .i64 1, .string ⟨#[]⟩, .string ⟨#[]⟩, .int .i64 8, .int .i64 0, .string ⟨#[116, 111, 112]⟩, .string ⟨#[118]⟩, .int .i64 1, .int .i64 0, .string ⟨#[]⟩, .string ⟨#[]⟩, .int .i64 10, .int .i64 0, .string ⟨#[]⟩, .string ⟨#[]⟩] 28)).alloc (.cells #[.string ⟨#[112, 117, 116]⟩, .slice (some ⟨w4.heap.size, 0, none⟩) 1 1, .int .i64 1, .string ⟨#[]⟩, .int .i64 2, .int .i64 2, .slice (some ⟨w6.heap.size, 0, none⟩) 5 5, .slice none 0 0] 60))) #[.string ⟨#[103, 101, 116]⟩, .slice none 0 0, .int .i64 1, .string ⟨#[]⟩, .int .i64 1, .int .i64 2, .slice (some ⟨w2.heap.size, 0, none⟩) 5 5, .slice none 0 0] 1 (Nat.le_refl _) (by unfold maxLen; omega) rfl
  rw [h0] at h1
  exact owns_kp (D := fun _ => False) h1 ((Kp.refl _ _).alloc _) fun _ _ _ x => x
 have HE8 := hid hE8
 have HI28 := hid bi2
 have HB88 := hid b8
 have HB98 := hid b9
 have HROW := hid hrow8
 have HZ8 := hid hz8
 have HW8 := hid hw8
 clear hE8 bi2 b8 bg b9 hz8 hrow8 hw8 b66
 go_wp2_with fail
 rw [← HW8.out]
 refine (lo_kind w8).mono ?_
 rintro e w9 ⟨rfl, hE9⟩
 clear g0 g1 g2 g3 g4 g5 g6 g7 gz gz2
 have HZ9 := hid hE9.size
 have b99 := HB98.out.ext hE9
 have b89 := HB88.out.ext hE9
 have b69 := (HB66.out.ext HE8.out).ext hE9
 obtain ⟨wX, hwX⟩ : ∃ wX, wX = ((w9.setCell ⟨w6.heap.size + 1 + 1 + 1, 2, none⟩ (.slice (some ⟨w9.heap.size, 0, none⟩) 1 1)).alloc (.cells #[.string ⟨#[118]⟩, .int .i64 1, .string ⟨#[]⟩] 70)).alloc (.cells #[.string ⟨#[112, 117, 116]⟩, .slice (some ⟨w4.heap.size, 0, none⟩) 1 1, .int .i64 1, .string ⟨#[]⟩, .int .i64 2, .int .i64 2, .slice (some ⟨w6.heap.size, 0, none⟩) 5 5, .slice none 0 0] 60) := ⟨_, rfl⟩
 have hKX : Kp (· = w6.heap.size + 1 + 1 + 1) w9 wX := by
  rw [hwX]
  exact (((Kp.refl (· = w6.heap.size + 1 + 1 + 1) w9).setCell (p := ⟨w6.heap.size + 1 + 1 + 1, 2, none⟩) (fun _ => rfl) _).alloc _).alloc _
 have hsz : (w9.setCell ⟨w6.heap.size + 1 + 1 + 1, 2, none⟩ (.slice (some ⟨w9.heap.size, 0, none⟩) 1 1)).heap.size = w9.heap.size := by simp [World.setCell]
 have b9X : Blk wX (w6.heap.size + 1 + 1 + 1) 50 #[.string name, .string ⟨#[]⟩, .slice (some ⟨w9.heap.size, 0, none⟩) 1 1, .slice (some ⟨w6.heap.size + 1 + 1, 0, none⟩) 1 1] := by rw [hwX]; exact (b99.set_ 2 _).ext (KX.k (by repeat (first | assumption | constructor)))
 have bF : Blk wX w9.heap.size 70 #[.string ⟨#[118]⟩, .int .i64 1, .string ⟨#[]⟩] := by rw [hwX]; exact (Blk.newAt _ _ hsz).ext ((Kp.refl _ _).alloc _)
 have cPX : CellsAt wX (w9.heap.size + 1) 0 [.string ⟨#[112, 117, 116]⟩, .slice (some ⟨w4.heap.size, 0, none⟩) 1 1, .int .i64 1, .string ⟨#[]⟩, .int .i64 2, .int .i64 2, .slice (some ⟨w6.heap.size, 0, none⟩) 5 5, .slice none 0 0] := by rw [hwX]; exact CellsAt.newA _ _ (by simp [hsz])
 have hzX : wX.heap.size = w9.heap.size + 2 := by rw [hwX]; simp [hsz]
 have zz := HZZ.out
 have z8 := HZ8.out
 have z9 := HZ9.out
 have hrow9 := owns_kp (D := fun _ => False) HROW.out hE9 fun _ _ _ x => x
 have hrowX : wX.ownsRow (w6.heap.size + 1 + 1) 60 8 (.slice (some ⟨w6.heap.size + 1 + 1, 0, none⟩) 1 1) 1 [.string ⟨#[103, 101, 116]⟩, .slice none 0 0, .int .i64 1, .string ⟨#[]⟩, .int .i64 1, .int .i64 2, .slice (some ⟨w2.heap.size, 0, none⟩) 5 5, .slice none 0 0] := owns_kp hrow9 hKX (fun b hb _ e => by
  have hb2 : b = w6.heap.size + 1 + 1 := by cases hb; rfl
  omega)
 have HKX := hid hKX
 have HE9 := hid (HE8.out.trans hE9)
 have HB9X := hid b9X
 have HBF := hid bF
 have HCP := hid cPX
 have HRX := hid hrowX
 have HZX := hid hzX
 have HWX := hid hwX
 have HI29 := hid (HI28.out.ext hE9)
 have HB69 := hid b69
 have x2 := b99.c 2 (.slice none 0 0) rfl
 have x3 := b99.c 3 (.slice (some ⟨w6.heap.size + 1 + 1, 0, none⟩) 1 1) rfl
 have xf := b99.frozen 2
 have xz := b99.lt
 have xz2 : w6.heap.size + 1 < w9.heap.size := by omega
 have xz3 : w6.heap.size < w9.heap.size := by omega
 have xz4 : w6.heap.size + 1 + 1 < w9.heap.size := by omega
 have p0 := b89.c 0 (.string ⟨#[112, 117, 116]⟩) rfl
 have p1 := b89.c 1 (.slice (some ⟨w4.heap.size, 0, none⟩) 1 1) rfl
 have p2 := b89.c 2 (.int .i64 1) rfl
 have p3 := b89.c 3 (.string ⟨#[]⟩) rfl
 have p4 := b89.c 4 (.int .i64 2) rfl
 have p5 := b89.c 5 (.int .i64 2) rfl
 have p6 := b89.c 6 (.slice (some ⟨w6.heap.size, 0, none⟩) 5 5) rfl
 have p7 := b89.c 7 (.slice none 0 0) rfl
 have hne1 : ¬ w6.heap.size + 1 + 1 + 1 = w6.heap.size + 1 := by omega
 have hne2 : ¬ w6.heap.size + 1 = w6.heap.size + 1 + 1 + 1 := by omega
 clear hE9 hKX b9X bF cPX hrowX hzX hwX b99 b89 b69 hsz zz z8 z9 HROW HB98 HB88 HI28
 go_wp2_with (at_builtin; refine wpList_append_at elem_method rfl _ _ rfl (w6.heap.size + 1 + 1) _ 1 _ rfl (by rw [← HWX.out]; exact HRX.out) (w9.heap.size + 1) 1 [.string ⟨#[112, 117, 116]⟩, .slice (some ⟨w4.heap.size, 0, none⟩) 1 1, .int .i64 1, .string ⟨#[]⟩, .int .i64 2, .int .i64 2, .slice (some ⟨w6.heap.size, 0, none⟩) 5 5, .slice none 0 0] rfl rfl (by rw [← HWX.out]; exact HCP.out) (by simp [Value.oneCell']) (by omega) (by rw [← HWX.out]; have := HZX.out; have := HZ8.out; have := HZ9.out; omega) ?_)
 intro g9 c9 wY hOY hKY hg9
 rw [← HWX.out] at hKY
 have zz := HZZ.out
 have z8 := HZ8.out
 have z9 := HZ9.out
 have zX := HZX.out
 have sY := hKY.size
 have hKY2 : Kp (· = w6.heap.size + 1 + 1) wX wY := hKY.weak fun b _ e => by cases e; rfl
 have b9Y := HB9X.out.kp hKY2 (by omega)
 have b6Y := (HB69.out.kp HKX.out (by omega)).kp hKY2 (by omega)
 obtain ⟨wZ, hwZ⟩ : ∃ wZ, wZ = ((((wY.setCell ⟨w6.heap.size + 1 + 1 + 1, 3, none⟩ (.slice (some ⟨g9, 0, none⟩) (1 + 1) c9)).setCell ⟨w.heap.size, 0, none⟩ (.string name)).setCell ⟨w.heap.size, 1, none⟩ (.string ⟨#[]⟩)).setCell ⟨w.heap.size, 2, none⟩ (.slice (some ⟨w9.heap.size, 0, none⟩) 1 1)).setCell ⟨w.heap.size, 3, none⟩ (.slice (some ⟨g9, 0, none⟩) (1 + 1) c9) := ⟨_, rfl⟩
 have hKZ : Kp (fun b => b = w6.heap.size + 1 + 1 + 1 ∨ b = w.heap.size) wY wZ := by
  rw [hwZ]
  exact ((Kp.refl _ wY).setCell (p := ⟨w6.heap.size + 1 + 1 + 1, 3, none⟩) (fun _ => .inl rfl) _).trans (Kp.set4 (D := fun b => b = w6.heap.size + 1 + 1 + 1 ∨ b = w.heap.size) (.inr rfl) _ _ _ _)
 have hKs : Kp (· = w6.heap.size + 1 + 1 + 1) wY (wY.setCell ⟨w6.heap.size + 1 + 1 + 1, 3, none⟩ (.slice (some ⟨g9, 0, none⟩) (1 + 1) c9)) := (Kp.refl (· = w6.heap.size + 1 + 1 + 1) wY).setCell (p := ⟨w6.heap.size + 1 + 1 + 1, 3, none⟩) (fun _ => rfl) _
 have b6Z : Blk wZ w.heap.size 50 #[.string name, .string ⟨#[]⟩, .slice (some ⟨w9.heap.size, 0, none⟩) 1 1, .slice (some ⟨g9, 0, none⟩) (1 + 1) c9] := by rw [hwZ]; exact (b6Y.kp hKs (by omega)).set4 _ _ _ _
 have hg9n : g9 ≠ w6.heap.size + 1 + 1 + 1 ∧ g9 ≠ w.heap.size := by
  rcases hg9 with e | e
  · have : g9 = w6.heap.size + 1 + 1 := by cases e; rfl
    omega
  · omega
 have hOZ := owns_kp hOY hKZ (fun b hb _ e => by cases hb; exact e.elim hg9n.1 hg9n.2)
 have K9Z : Kp (fun b => b = w6.heap.size + 1 + 1 + 1 ∨ b = w6.heap.size + 1 + 1 ∨ b = w.heap.size) w9 wZ := ((HKX.out.weak fun b _ e => .inl e).trans (hKY2.weak fun b _ e => .inr (.inl e))).trans (hKZ.weak fun b _ e => e.elim .inl fun e => .inr (.inr e))
 have BI1 := (HI16.out.ext HE9.out).kp K9Z (by omega)
 have BK := (HK6.out.ext HE9.out).kp K9Z (by omega)
 have BI2 := HI29.out.kp K9Z (by omega)
 have BFZ := (HBF.out.kp hKY2 (by omega)).kp hKZ (by omega)
 have hcode1 : SliceOf 4 InsL wZ (fun b => w.heap.size ≤ b) (.slice (some ⟨w2.heap.size, 0, none⟩) 5 5) (M.getC more) := SliceOf.row (R := InsL) (xs := M.getC more) [[.int .i64 2, .int .i64 0, .string ⟨#[]⟩, .string ⟨#[]⟩], [.int .i64 7, .int .i64 0, .string ⟨#[116, 111, 112]⟩, .string ⟨#[118]⟩], [.int .i64 1, .int .i64 more, .string ⟨#[]⟩, .string ⟨#[]⟩], [.int .i64 4, .int .i64 0, .string ⟨#[]⟩, .string ⟨#[]⟩], [.int .i64 10, .int .i64 0, .string ⟨#[]⟩, .string ⟨#[]⟩]] (CellsAt.ofB BI1) rfl (by simp) ⟨rfl, rfl, rfl, rfl, rfl, trivial⟩ (by show w.heap.size ≤ _; omega) (by simp [M.getC]) (by simp [M.getC])
 have hget : MethodL wZ (fun b => w.heap.size ≤ b) (M.getM more) [.string ⟨#[103, 101, 116]⟩, .slice none 0 0, .int .i64 1, .string ⟨#[]⟩, .int .i64 1, .int .i64 2, .slice (some ⟨w2.heap.size, 0, none⟩) 5 5, .slice none 0 0] := ⟨_, _, _, rfl, SliceOf.nil _ _ _ _, hcode1, SliceOf.nil _ _ _ _⟩
 have hkn : SliceOf 2 KindL wZ (fun b => w.heap.size ≤ b) (.slice (some ⟨w4.heap.size, 0, none⟩) 1 1) [M.numK] := SliceOf.row (R := KindL) (xs := [M.numK]) [[.int .i64 1, .string ⟨#[]⟩]] (CellsAt.ofB BK) rfl (by simp) ⟨rfl, trivial⟩ (by show w.heap.size ≤ _; omega) (by simp) (by simp)
 have hcode2 : SliceOf 4 InsL wZ (fun b => w.heap.size ≤ b) (.slice (some ⟨w6.heap.size, 0, none⟩) 5 5) M.putC := SliceOf.row (R := InsL) (xs := M.putC) [[.int .i64 2, .int .i64 0, .string ⟨#[]⟩, .string ⟨#[]⟩], [.int .i64 2, .int .i64 1, .string ⟨#[]⟩, .string ⟨#[]⟩], [.int .i64 8, .int .i64 0, .string ⟨#[116, 111, 112]⟩, .string ⟨#[118]⟩], [.int .i64 1, .int .i64 0, .string ⟨#[]⟩, .string ⟨#[]⟩], [.int .i64 10, .int .i64 0, .string ⟨#[]⟩, .string ⟨#[]⟩]] (CellsAt.ofB BI2) rfl (by simp) ⟨rfl, rfl, rfl, rfl, rfl, trivial⟩ (by show w.heap.size ≤ _; omega) (by simp [M.putC]) (by simp [M.putC])
 have hput : MethodL wZ (fun b => w.heap.size ≤ b) M.putM [.string ⟨#[112, 117, 116]⟩, .slice (some ⟨w4.heap.size, 0, none⟩) 1 1, .int .i64 1, .string ⟨#[]⟩, .int .i64 2, .int .i64 2, .slice (some ⟨w6.heap.size, 0, none⟩) 5 5, .slice none 0 0] := ⟨_, _, _, rfl, hkn, hcode2, SliceOf.nil _ _ _ _⟩
 have hrow : CellsAt wZ g9 0 ([.string ⟨#[103, 101, 116]⟩, .slice none 0 0, .int .i64 1, .string ⟨#[]⟩, .int .i64 1, .int .i64 2, .slice (some ⟨w2.heap.size, 0, none⟩) 5 5, .slice none 0 0] ++ [.string ⟨#[112, 117, 116]⟩, .slice (some ⟨w4.heap.size, 0, none⟩) 1 1, .int .i64 1, .string ⟨#[]⟩, .int .i64 2, .int .i64 2, .slice (some ⟨w6.heap.size, 0, none⟩) 5 5, .slice none 0 0]) := fun j u hj => by
  have := hOZ.cells (g := g9) rfl j u hj
  unfold Addr.add at this
  split at this
  · rename_i h0; subst h0; exact this
  · simpa using this
 have hms : SliceOf 8 MethodL wZ (fun b => w.heap.size ≤ b) (.slice (some ⟨g9, 0, none⟩) (1 + 1) c9) [M.getM more, M.putM] := SliceOf.row (R := MethodL) (xs := [M.getM more, M.putM]) [[.string ⟨#[103, 101, 116]⟩, .slice none 0 0, .int .i64 1, .string ⟨#[]⟩, .int .i64 1, .int .i64 2, .slice (some ⟨w2.heap.size, 0, none⟩) 5 5, .slice none 0 0], [.string ⟨#[112, 117, 116]⟩, .slice (some ⟨w4.heap.size, 0, none⟩) 1 1, .int .i64 1, .string ⟨#[]⟩, .int .i64 2, .int .i64 2, .slice (some ⟨w6.heap.size, 0, none⟩) 5 5, .slice none 0 0]] hrow rfl (by simp) ⟨hget, hput, trivial⟩ (by show w.heap.size ≤ _; have := (hOY.lt g9 rfl).1; omega) (by obtain ⟨_, _, e, _, _, hc⟩ := owns_form hOZ (by omega); cases e; simpa using hc) (by simp)
 have hfs : SliceOf 3 FieldL wZ (fun b => w.heap.size ≤ b) (.slice (some ⟨w9.heap.size, 0, none⟩) 1 1) [⟨M.vN, M.numK⟩] := SliceOf.row (R := FieldL) (xs := [⟨M.vN, M.numK⟩]) [[.string ⟨#[118]⟩, .int .i64 1, .string ⟨#[]⟩]] (CellsAt.ofB BFZ) rfl (by simp) ⟨rfl, trivial⟩ (by show w.heap.size ≤ _; omega) (by simp) (by simp)
 have hEF : Ext w wZ := ((HE1.out.trans HE16.out).trans HE9.out).own K9Z (fun b e => by omega)
 have HEF := hid hEF
 have HMS := hid hms
 have HFS := hid hfs
 have HBX := hid b6Z
 have HWZ := hid hwZ
 have q0 := b9Y.c 0 (.string name) rfl
 have q1 := b9Y.c 1 (.string ⟨#[]⟩) rfl
 have q2 := b9Y.c 2 (.slice (some ⟨w9.heap.size, 0, none⟩) 1 1) rfl
 have q3 := b9Y.c 3 (.slice (some ⟨w6.heap.size + 1 + 1, 0, none⟩) 1 1) rfl
 have qf := b9Y.frozen 3
 have qz := b9Y.lt
 have y0 := b6Y.c 0 (.string ⟨#[]⟩) rfl
 have f0 := b6Y.frozen 0
 have y1 := b6Y.c 1 (.string ⟨#[]⟩) rfl
 have f1 := b6Y.frozen 1
 have y2 := b6Y.c 2 (.slice none 0 0) rfl
 have f2 := b6Y.frozen 2
 have y3 := b6Y.c 3 (.slice none 0 0) rfl
 have f3 := b6Y.frozen 3
 have yz := b6Y.lt
 have hn1 : ¬ w.heap.size = w6.heap.size + 1 + 1 + 1 := by omega
 have hn2 : ¬ w6.heap.size + 1 + 1 + 1 = w.heap.size := by omega
 clear hOY hKY hKY2 zz z8 z9 zX sY b9Y b6Y hKZ hKs b6Z hg9n hOZ K9Z BI1 BK BI2 BFZ hcode1 hget hkn hcode2 hput hrow hms hfs hEF hwZ x2 x3 xf xz xz2 xz3 xz4 p0 p1 p2 p3 p4 p5 p6 p7 hne1 hne2
 go_wp2_with fail
 rw [← HWZ.out]
 refine bodyPost_ret (results_agg agg_class rfl _ _ w.heap.size rfl [.string name, .string ⟨#[]⟩, .slice (some ⟨w9.heap.size, 0, none⟩) 1 1, .slice (some ⟨g9, 0, none⟩) (1 + 1) c9] (CellsAt.ofB HBX.out) rfl) rfl ?_
 exact ⟨⟨_, _, rfl, _, _, rfl, HFS.out, HMS.out⟩, HEF.out⟩
end Go.Proofs.YtjdfceejkneofaaGreat
namespace Go.Proofs.YtjdfceejkneofaaGreat.M
theorem step_add {p : Plan} {lk : Bool} {s s1 : St} {x y : Int} (h : stepped p lk s = if numOk (x + y) = true then push p (numVal (x + y)) s1 else (9, s1)) (hn : numOk (x + y) = true) (hs : s.status = 1) : step p lk s = end_ (push p (numVal (x + y)) s1).1 (push p (numVal (x + y)) s1).2 := by
 unfold step
 rw [if_pos hs, h, if_pos hn]
theorem steps_one {p : Plan} {lk : Bool} {n : Nat} {s s' : St} (hs : s.status = 1) (h : step p lk s = s') : steps p lk (n + 1) s = steps p lk n s' := by
 show (if s.status = 1 then steps p lk n (step p lk s) else s) = _
 rw [if_pos hs, h]
def twoC : List Ins := [⟨6, 0, topN, none_⟩, ⟨3, 2, none_, none_⟩, ⟨2, 2, none_, none_⟩, ⟨2, 1, none_, none_⟩, ⟨8, 0, topN, vN⟩, ⟨6, 0, topN, none_⟩, ⟨7, 0, topN, vN⟩, ⟨14, 0, none_, none_⟩, ⟨2, 2, none_, none_⟩, ⟨7, 0, topN, vN⟩, ⟨10, 0, none_, none_⟩]
def twoP : Plan := mainPlan [topCls topN 0] twoC []
theorem two_ok : lodOk twoP = true := by decide +kernel
theorem two_run {a : Int} (h : numOk a = true) : loDo twoP a = ⟨2, [], [⟨⟨0, mainN⟩, []⟩, ⟨⟨0, topN⟩, [⟨1, a⟩]⟩, ⟨⟨0, topN⟩, [⟨1, 0⟩]⟩], [0], ⟨1, a⟩⟩ := by
 rw [loDo_eq two_ok h]
 kernel_rfl
def castUp : List Ins := [⟨6, 0, cellN, none_⟩, ⟨15, 0, topN, none_⟩, ⟨15, 0, cellN, none_⟩, ⟨9, 0, cellN, getN⟩, ⟨10, 0, none_, none_⟩]
def castDown : List Ins := [⟨6, 0, topN, none_⟩, ⟨15, 0, cellN, none_⟩, ⟨9, 0, cellN, getN⟩, ⟨10, 0, none_, none_⟩]
def castNone : List Ins := [⟨5, 0, none_, none_⟩, ⟨15, 0, cellN, none_⟩, ⟨9, 0, cellN, getN⟩, ⟨10, 0, none_, none_⟩]
def castP (a : Int) (c : List Ins) : Plan := mainPlan [topCls topN a, subCls cellN a] c []
theorem cast_ok {a : Int} (h : numOk a = true) {c : List Ins} (hc : c = castUp ∨ c = castDown ∨ c = castNone) : lodOk (castP a c) = true := by
 rcases hc with rfl | rfl | rfl
 all_goals
  simp only [castP, lodOk, mainPlan, mainCls, topCls, subCls, getM, getC, List.cons_append, List.nil_append, List.all_cons, List.all_nil, keeperOk, freshAll, clsOk, mthOk, codeOk, insIn_num h, Bool.and_true, Bool.true_and]
  kernel_rfl
theorem numOk_0 : numOk 0 = true := by decide
theorem cast_down {a : Int} (h : numOk a = true) : loDo (castP a castDown) 0 = ⟨6, [], [⟨⟨0, mainN⟩, []⟩, ⟨⟨0, topN⟩, [⟨1, 0⟩]⟩], [], zval⟩ := by
 rw [loDo_eq (cast_ok h (.inr (.inl rfl))) numOk_0]
 kernel_rfl
theorem cast_none {a : Int} (h : numOk a = true) : loDo (castP a castNone) 0 = ⟨3, [], [⟨⟨0, mainN⟩, []⟩], [], zval⟩ := by
 rw [loDo_eq (cast_ok h (.inr (.inr rfl))) numOk_0]
 kernel_rfl
def castS (a : Int) : St := ⟨1, [⟨⟨⟨0, mainN⟩, 0⟩, 3, [⟨2, 0⟩, ⟨1, 0⟩, ⟨0, 0⟩], []⟩, ⟨⟨⟨0, cellN⟩, 0⟩, 3, [⟨2, 1⟩], [⟨1, 0⟩, ⟨1, a⟩]⟩], [⟨⟨0, mainN⟩, []⟩, ⟨⟨0, cellN⟩, [⟨1, 0⟩]⟩], [], zval⟩
theorem cast_up {a : Int} (h : numOk a = true) : loDo (castP a castUp) 0 = ⟨2, [], [⟨⟨0, mainN⟩, []⟩, ⟨⟨0, cellN⟩, [⟨1, 0⟩]⟩], [], ⟨1, a⟩⟩ := by
 rw [loDo_eq (cast_ok h (.inl rfl)) numOk_0]
 have e1 : steps (castP a castUp) true 7 (start (castP a castUp) true 0 mainN runN [0]) = castS a := by kernel_rfl
 rw [show (400 : Nat) = 7 + 393 from rfl, steps_add, e1, show (393 : Nat) = 392 + 1 from rfl]
 have e2 : stepped (castP a castUp) true (castS a) = if numOk (0 + a) = true then push (castP a castUp) (numVal (0 + a)) { castS a with frames := [⟨⟨⟨0, mainN⟩, 0⟩, 3, [⟨2, 0⟩, ⟨1, 0⟩, ⟨0, 0⟩], []⟩, ⟨⟨⟨0, cellN⟩, 0⟩, 3, [⟨2, 1⟩], []⟩] } else (9, { castS a with frames := [⟨⟨⟨0, mainN⟩, 0⟩, 3, [⟨2, 0⟩, ⟨1, 0⟩, ⟨0, 0⟩], []⟩, ⟨⟨⟨0, cellN⟩, 0⟩, 3, [⟨2, 1⟩], []⟩] }) := by kernel_rfl
 have e3 := step_add e2 (by rw [Int.zero_add]; exact h) rfl
 rw [Int.zero_add] at e3
 rw [steps_one rfl e3]
 show _ = _
 kernel_rfl
end Go.Proofs.YtjdfceejkneofaaGreat.M
namespace Go.Proofs.YtjdfceejkneofaaGreat
open Go Go.RowKit
open Go.Lib (hid)
def ownLoad (p : M.Plan) (k : Nat) (cs : List M.Class) : List M.Ref := (cs.map fun c => (⟨k, c.name⟩ : M.Ref)).filter fun r => decide (0 < (M.chain p r).length)
def firstLoad (p : M.Plan) (n : Nat) : List M.Ref := (List.range n).flatMap fun k => (((p[k]?).map fun q => q.owns.map fun c => (⟨k, c.name⟩ : M.Ref)).getD []).filter fun r => decide (0 < (M.chain p r).length)
theorem firstLoad_all (p : M.Plan) : firstLoad p p.length = M.classes p := rfl
theorem firstLoad_succ {p : M.Plan} {n : Nat} {q : M.Keeper} (h : p[n]? = some q) : firstLoad p (n + 1) = firstLoad p n ++ ownLoad p n q.owns := by
 unfold firstLoad ownLoad
 rw [List.range_succ, List.flatMap_append]
 simp [h]
theorem ownLoad_succ {p : M.Plan} {k n : Nat} {cs : List M.Class} {c : M.Class} (h : cs[n]? = some c) : ownLoad p k (cs.take (n + 1)) = ownLoad p k (cs.take n) ++ if 0 < (M.chain p ⟨k, c.name⟩).length then [⟨k, c.name⟩] else [] := by
 unfold ownLoad
 rw [List.take_add_one, h]
 simp only [Option.toList, List.map_append, List.filter_append, List.map_cons, List.map_nil]
 split
 · rename_i h; simp [h]
 · rename_i h; simp [h]
theorem ownLoad_len (p : M.Plan) (k : Nat) (cs : List M.Class) : (ownLoad p k cs).length ≤ cs.length := by
 unfold ownLoad
 exact Nat.le_trans (List.length_filter_le _ _) (by simp)
theorem firstLoad_len {p : M.Plan} (hok : M.lodOk p = true) : ∀ n, n ≤ p.length → (firstLoad p n).length ≤ n * 5
 | 0, _ => by simp [firstLoad]
 | n + 1, h => by
  obtain ⟨q, hq⟩ := elemF p n (by omega)
  rw [firstLoad_succ hq, List.length_append]
  have h1 := firstLoad_len hok n (by omega)
  have h2 := ownLoad_len p n q.owns
  have h3 : q.owns.length ≤ 5 := by
   unfold M.lodOk at hok
   simp only [Bool.and_eq_true, List.all_eq_true] at hok
   have := hok.2 q (List.mem_of_getElem? hq)
   unfold M.keeperOk at this
   simp only [Bool.and_eq_true, decide_eq_true_eq] at this
   exact this.1.1.1
  omega
theorem lodge_classes (w : World) (l : Lodge) (p : M.Plan) (h : LodgeAt w l p) :
    Calls Tryz.prog 24 #[.pointer (some ⟨l.L, 0, none⟩)] w fun e w' => (∃ v, e = .returned v ∧ SliceOf 2 RefL w' (fun b => w.heap.size ≤ b) v (M.classes p)) ∧ Ext w w' := by
 have hp3 : p.length ≤ 3 := (M.lodOk_len h.ok).2
 obtain ⟨a, cap, hs, c0, -⟩ := h.cells
 have d0 := c0 w (Kp.refl _ _)
 have dz := cell_lt d0
 have HFL : Hid (∀ n, n ≤ p.length → (firstLoad p n).length ≤ n * 5) := hid (firstLoad_len h.ok)
 have H := hid h
 have HS := hid hs
 clear h hs c0
 go_enter Tryz.func24, Tryz.ntmps24
 go_wp2_with fail
 clear d0 dz
 go_loopw [14, 3] (fun i v wr => ∃ q : Nat, q ≤ p.length ∧ i = .int .i64 q ∧ Ext w wr ∧ wr.ownsRow w.heap.size 76 2 v (firstLoad p q).length ((firstLoad p q).flatMap encRef)) (fun i _ _ => p.length - (intOf i).toNat)
 case atStart => exact ⟨0, Nat.zero_le _, rfl, Kp.refl _ _, World.ownsRow_nil _ _ _ _⟩
 case round =>
  obtain ⟨q, hq, rfl, hE, hrow⟩ := hrel
  obtain ⟨va, vc, rfl⟩ := owns_val hrow
  by_cases hlt : q < p.length
  · obtain ⟨⟨owns, asks⟩, hkp⟩ := elemF p q hlt
    obtain ⟨b, off, cs, rfl, hI, ⟨vo, vk, rfl, so, sk⟩, -, hc⟩ := HS.out.get hkp
    obtain ⟨oa, oc, rfl, hon, hoc⟩ := so.form
    obtain ⟨ka, kc, rfl, -, -⟩ := sk.form
    simp only at so hon hoc hc
    obtain ⟨g0, g1⟩ := (hc.ext hE).two
    have gz := cell_lt g0
    obtain ⟨w5, hw5⟩ : ∃ w5, w5 = wr.alloc (.cells #[.slice oa owns.length oc, .slice ka asks.length kc] 65) := ⟨_, rfl⟩
    have hE5 : Ext wr w5 := by rw [hw5]; exact (KX.k (by repeat (first | assumption | constructor)))
    have HE5 := hid (hE.trans hE5)
    have HR5 := hid (owns_kp (D := fun _ => False) hrow hE5 fun _ _ _ x => x)
    have HSO := hid so
    have HKP := hid hkp
    have HW5 := hid hw5
    have h5 := HFL.out q hq
    have HOW : Hid (owns.length ≤ 5) := hid (by
     have hok := H.out.ok
     unfold M.lodOk at hok
     simp only [Bool.and_eq_true, List.all_eq_true] at hok
     have := hok.2 _ (List.mem_of_getElem? hkp)
     unfold M.keeperOk at this
     simp only [Bool.and_eq_true, decide_eq_true_eq] at this
     exact this.1.1.1)
    clear hE hrow hE5 hw5 so sk hc hkp
    go_wp2_with fail
    rw [← HW5.out]
    clear g0 g1
    obtain ⟨wo, rfl⟩ : ∃ wo : World, wo = wr := ⟨_, rfl⟩
    go_loopw [22, 3] (fun j v wr => ∃ t : Nat, t ≤ owns.length ∧ j = .int .i64 t ∧ Ext w wr ∧ wr.ownsRow w.heap.size 76 2 v (firstLoad p q ++ ownLoad p q (owns.take t)).length ((firstLoad p q ++ ownLoad p q (owns.take t)).flatMap encRef)) (fun j _ _ => owns.length - (intOf j).toNat)
    case atStart => exact ⟨0, Nat.zero_le _, rfl, HE5.out, by simpa [ownLoad] using HR5.out⟩
    case round =>
     obtain ⟨t, ht, rfl, hE, hrow⟩ := hrel
     obtain ⟨va, vc, rfl⟩ := owns_val hrow
     by_cases hlt2 : t < owns.length
     · obtain ⟨c, hcq⟩ := elemF owns t hlt2
       obtain ⟨b, off, cs, rfl, hI, hcl, -, hc⟩ := (HSO.out.ext ClassL.stays hE).get hcq
       obtain ⟨fa, fc, ma, mc, rfl⟩ := hcl.form
       obtain ⟨g0, g1, g2, g3⟩ := hc.four
       have gz := cell_lt g0
       have hlen : (firstLoad p q ++ ownLoad p q (owns.take t)).length ≤ 1000 := by
        have h1 := ownLoad_len p q (owns.take t)
        have h2 := HOW.out
        rw [List.length_append]
        rw [List.length_take] at h1
        omega
       have HOL := hid (ownLoad_succ (p := p) (k := q) hcq)
       obtain ⟨L, hL⟩ : ∃ L, firstLoad p q ++ ownLoad p q (owns.take t) = L := ⟨_, rfl⟩
       obtain ⟨w8, hw8⟩ : ∃ w8, w8 = (wr.alloc (.cells #[.string c.name, .string c.super, .slice fa c.fields.length fc, .slice ma c.methods.length mc] 50)).alloc (.cells #[.int .i64 q, .string c.name] 76) := ⟨_, rfl⟩
       have hE8 : Ext wr w8 := by rw [hw8]; exact (KX.k (by repeat (first | assumption | constructor)))
       have b8 : Blk w8 (wr.heap.size + 1) 76 #[.int .i64 q, .string c.name] := by rw [hw8]; exact Blk.newAt _ _ (by simp)
       have HLL := hid hL
       rw [hL] at hrow hlen
       simp only [hL]
       have HE8 := hid (hE.trans hE8)
       have HR8 := hid (owns_kp (D := fun _ => False) hrow hE8 fun _ _ _ x => x)
       have HB8 := hid b8
       have HW8 := hid hw8
       have hzw := hE.size
       clear hL hE hrow hE8 b8 hw8 hcl hc hcq
       go_wp2_with fail
       rw [← HW8.out]
       clear g0 g1 g2 g3
       refine (lodge_chain _ _ _ (H.out.ext HE8.out) ⟨q, c.name⟩).mono ?_
       rintro e w9 ⟨⟨v9, rfl, hs9⟩, hE9⟩
       obtain ⟨a9, c9, rfl, -, -⟩ := hs9.form
       have b89 := HB8.out.ext hE9
       have y0 := b89.c 0 (.int .i64 q) rfl
       have y1 := b89.c 1 (.string c.name) rfl
       have yz := b89.lt
       have HE9 := hid (HE8.out.trans hE9)
       have HR9 := hid (owns_kp (D := fun _ => False) HR8.out hE9 fun _ _ _ x => x)
       have hz9 := hE9.size
       clear hs9 hE9 b89
       by_cases hch : 0 < (M.chain p ⟨q, c.name⟩).length
       · have hch' : (0 : Int) < (M.chain p ⟨q, c.name⟩).length := by omega
         have HCH := hid hch
         clear hch
         go_wp2_with (at_builtin; refine wpList_append_one elem_ref _ rfl _ _ rfl w.heap.size _ L.length _ rfl (owns_kp (D := fun _ => False) HR9.out ((Kp.refl _ _).alloc _) fun _ _ _ x => x) w9.heap.size 1 (encRef ⟨q, c.name⟩) rfl rfl ?c1 ?c2 ?c3 ?c4 ?_)
         case c1 => exact CellsAt.newA _ _ rfl
         case c2 => simp [encRef, Value.oneCell']
         case c3 => omega
         case c4 => have := HE9.out.size; simp; omega
         intro v' w' hown' hK g1 cp1 hv1 hg1 hl1
         subst hv1
         have HO2 := hid hown'
         have HK2 := hid hK
         clear hown' hK
         go_wp2_with fail
         refine ⟨⟨t + 1, by omega, by go_num, (HE9.out.alloc _).own HK2.out (fun b e => (HR9.out.lt b e).1), ?_⟩, by simp [intOf]; omega⟩
         have := HO2.out
         rw [HOL.out, if_pos HCH.out, ← List.append_assoc, HLL.out]
         simpa using this
       · have hch' : ((0 : Int) < (M.chain p ⟨q, c.name⟩).length) = False := eq_false (by omega)
         have HCH := hid hch
         clear hch
         go_wp2_with fail
         refine ⟨⟨t + 1, by omega, by go_num, HE9.out, ?_⟩, by simp [intOf]; omega⟩
         rw [HOL.out, if_neg HCH.out, List.append_nil, HLL.out]
         exact HR9.out
     · have hte : t = owns.length := by omega
       have HLE : Hid (firstLoad p q ++ ownLoad p q (owns.take t) = firstLoad p (q + 1)) := hid (by rw [hte, List.take_length, firstLoad_succ HKP.out])
       rw [HLE.out] at hrow ⊢
       have HRW := hid hrow
       have HEE := hid hE
       clear hrow hE hte
       go_wp2_with fail
       exact ⟨⟨q + 1, by omega, by go_num, HEE.out, HRW.out⟩, by simp [intOf]; omega⟩
  · have hqe : q = p.length := by omega
    have HE := hid hE
    have HRF : Hid (SliceOf 2 RefL wr (fun b => w.heap.size ≤ b) (.slice va (firstLoad p q).length vc) (M.classes p)) := hid (by
     rw [← firstLoad_all, ← hqe]
     exact SliceOf.of_owns encRef hrow rfl rfl (fun _ _ => rfl) (fun _ _ => rfl) (fun b h1 h2 => h1) (by have := HFL.out q hq; omega))
    clear hE hrow hqe
    go_wp2_with fail
    go_ret
    exact ⟨⟨_, rfl, HRF.out⟩, HE.out⟩
theorem plan_right (w : World) (I : Nat → Prop) (v : Value) (p : M.Plan) (hp : SliceOf 2 KeeperL w I v p) (hI : ∀ b, I b → b < w.heap.size) :
    Calls Tryz.prog 17 #[.agg #[v]] w fun e w' => e = .returned (.bool (M.planRight p)) ∧ Ext w w' := by
 obtain ⟨a, cap, rfl, hn, hcap⟩ := hp.form
 obtain ⟨w1, hw1⟩ : ∃ w1, w1 = w.alloc (.cells #[.slice a p.length cap] 40) := ⟨_, rfl⟩
 have hE1 : Ext w w1 := by rw [hw1]; exact (KX.k (by repeat (first | assumption | constructor)))
 have hz1 := hE1.size
 have hnl := new_lodge w1 I (.slice a p.length cap) p (hp.ext KeeperL.stays hE1) (fun b hb => by have := hI b hb; omega)
 have HV : Hid (M.planRight p = (M.lodOk p && (M.classes p).all (M.lookClass p))) := hid rfl
 have HNL := hid hnl
 have HE1 := hid hE1
 have HW1 := hid hw1
 clear hE1 hw1 hnl hp hI
 go_enter Tryz.func17, Tryz.ntmps17
 go_wp2_with fail
 rw [← HW1.out]
 refine HNL.out.mono ?_
 rintro e w2 ⟨hE2, hcs⟩
 have HE2 := hid (HE1.out.trans hE2)
 have hz2 := hE2.size
 clear hE2 HNL
 rcases hcs with ⟨hlo, rfl⟩ | ⟨hlo, l, rfl, hL, hlO⟩
 · have HR : Hid (M.planRight p = false) := hid (by rw [HV.out, hlo]; rfl)
   clear hlo
   go_wp2_with fail
   go_ret
   exact ⟨ret_bool HR.out.symm, HE2.out⟩
 replace HV : Hid (M.planRight p = (M.classes p).all (M.lookClass p)) := hid (by rw [HV.out, hlo]; rfl)
 have hord := hL.ord
 have hDw := hL.dlt
 have HL := hid hL
 clear hL hlo
 go_wp2_with fail
 refine (lodge_classes _ _ _ HL.out).mono ?_
 rintro e w3 ⟨⟨v3, rfl, hs3⟩, hE3⟩
 obtain ⟨a3, c3, rfl, hn3, hc3⟩ := hs3.form
 have HS3 := hid hs3
 have HL3 := hid (HL.out.ext hE3)
 have HE3 := hid (HE2.out.trans hE3)
 have hz3 := hE3.size
 obtain ⟨C, hC⟩ : ∃ C, M.classes p = C := ⟨_, rfl⟩
 rw [hC] at HS3 HV hn3 hc3
 simp only [hC]
 clear hE3 hs3 hC
 go_wp2_with fail
 go_loopw [13] (fun i wr => ∃ q : Nat, q ≤ C.length ∧ i = .int .i64 q ∧ LC l p w3 wr ∧ Hid ((C.take q).all (M.lookClass p) = true)) (fun i _ => C.length - (intOf i).toNat)
 case atStart => exact ⟨0, Nat.zero_le _, rfl, LC.refl HL3.out, hid (by simp)⟩
 case round =>
  obtain ⟨q, hq, rfl, hC, HQ⟩ := hrel
  have HC := hid hC
  have hzr := hC.kp.size
  by_cases hlt : q < C.length
  · obtain ⟨⟨rk, rn⟩, hr⟩ := elemF C q hlt
    obtain ⟨b, off, cs, rfl, hI, rfl, -, hc⟩ := HS3.out.get hr
    have hlb : w2.heap.size ≤ b := hI
    obtain ⟨g0, g1⟩ := (hc.kp hC.kp (by omega)).two
    have gz := cell_lt g0
    obtain ⟨w5, hw5⟩ : ∃ w5, w5 = wr.alloc (.cells #[.int .i64 rk, .string rn] 76) := ⟨_, rfl⟩
    have hE5 : Ext wr w5 := by rw [hw5]; exact (KX.k (by repeat (first | assumption | constructor)))
    have HL5 := hid (hC.at_.ext hE5)
    have HC5 := hid (hC.ext hE5)
    have HX := hid hr
    have HW5 := hid hw5
    clear hE5 hw5 hr hc hC hI
    go_wp2_with fail
    rw [← HW5.out]
    refine (lodge_lookClass _ _ _ HL5.out ⟨rk, rn⟩).mono ?_
    rintro e w6 ⟨rfl, hK6, hL6⟩
    have HC6 : Hid (LC l p w3 w6) := hid (HC5.out.step hL6 hK6)
    clear hK6 hL6
    cases hlc : M.lookClass p ⟨rk, rn⟩
    · have HR : Hid (M.planRight p = false) := hid (by rw [HV.out]; exact all_no HX.out hlc)
      clear hlc
      go_wp2_with fail
      go_ret
      exact ⟨ret_bool HR.out.symm, HE3.out.own HC6.out.kp (fun b e => by omega)⟩
    · have HT := hid hlc
      clear hlc
      go_wp2_with fail
      exact ⟨⟨q + 1, by omega, by go_num, HC6.out, hid (all_succ HQ.out HX.out HT.out)⟩, by simp [intOf]; omega⟩
  · have HR : Hid (M.planRight p = true) := hid (by rw [HV.out]; exact all_end HQ.out (by omega))
    clear hC
    go_wp2_with fail
    go_ret
    exact ⟨ret_bool HR.out.symm, HE3.out.own HC.out.kp (fun b e => by omega)⟩
end Go.Proofs.YtjdfceejkneofaaGreat
