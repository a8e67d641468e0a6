/- Walks: the program reads a line of what is turned. (Printed by gen_t14.py.); Walks: the law's helpers, at a class that is nothing.; The law FnExactChgRead, walked. -/
import Derived.Test.YtkndccgackohnaaGreatDoorChgReadc
set_option maxRecDepth 100000
set_option maxHeartbeats 4000000
set_option linter.unusedSimpArgs false
set_option linter.unusedVariables false
namespace Go.Proofs.YtkndccgackohnaaGreatDoor
open Go Go.RowKit
open Go.Lib (hid)
theorem M.kind_all (x : ByteArray) : (M.kindOf x = 2 ∧ (x.toList == [116, 97, 107, 101]) = true ∧ (x.toList == [97, 115, 107]) = false ∧ (x.toList == [102, 114, 101, 101]) = false) ∨ (M.kindOf x = 3 ∧ (x.toList == [116, 97, 107, 101]) = false ∧ (x.toList == [97, 115, 107]) = true ∧ (x.toList == [102, 114, 101, 101]) = false) ∨
    (M.kindOf x = 4 ∧ (x.toList == [116, 97, 107, 101]) = false ∧ (x.toList == [97, 115, 107]) = false ∧ (x.toList == [102, 114, 101, 101]) = true) ∨
    (M.kindOf x = 0 ∧ (x.toList == [116, 97, 107, 101]) = false ∧ (x.toList == [97, 115, 107]) = false ∧ (x.toList == [102, 114, 101, 101]) = false) := by
 rcases M.kind_cases x with ⟨h, h1⟩ | ⟨h, h1, h2⟩ | h | h
 · exact .inl ⟨h, h1, by rw [beq_iff_eq.1 h1]; decide, by rw [beq_iff_eq.1 h1]; decide⟩
 · exact .inr (.inl ⟨h, h1, h2, by rw [beq_iff_eq.1 h2]; decide⟩)
 · exact .inr (.inr (.inl h))
 · exact .inr (.inr (.inr h))
theorem StrL.first {w : World} {I : Nat → Prop} {a : Option Addr} {n c : Nat} {x : ByteArray} {r : List ByteArray} (h : SliceOf 1 StrL w I (.slice a n c) (x :: r)) :
    ∃ b off, a = some ⟨b, off, none⟩ ∧ w.cell? ⟨b, off, none⟩ = some (.string x) := by
 obtain ⟨b, off, cs, e, -, rfl, -, h0⟩ := h.get (i := 0) rfl
 exact ⟨b, off, e, by simpa using h0.one⟩
theorem chg_read (s : ByteArray) (w : World) (hs : s.size ≤ 4000000000) (hv : VarsAt w) :
    Calls Tryz.prog 6 #[.string s] w fun e w' => LineP s e ∧ Ext w w' := by
 obtain ⟨w0, hw0⟩ : ∃ w0, w0 = w.alloc (.cells zeroC.toArray 27) := ⟨_, rfl⟩
 have hE0 : Ext w w0 := by rw [hw0]; exact (by repeat (first | with_reducible exact Kp.refl _ _ | with_reducible assumption | with_reducible refine Kp.alloc ?_ _ | with_reducible refine Kp.drew ?_ | with_reducible refine Kp.drewN ?_ _ | with_reducible refine Kp.setCell ?_ (fun h => absurd h (by simp <;> omega)) _ | with_reducible refine Kp.trans ?_ (by with_reducible assumption) | exact Kp.refl _ _ | assumption | refine Kp.alloc ?_ _ | refine Kp.drew ?_ | refine Kp.drewN ?_ _ | (refine Kp.setCell ?_ (fun h => absurd h (by simp; done)) _) | (refine Kp.setCell ?_ (fun h => absurd h (by simp; omega)) _) | refine Kp.trans ?_ (by assumption)))
 have hb : Blk w0 w.heap.size 27 zeroC.toArray := by rw [hw0]; exact Blk.new _ _ _
 have HE0 := hid hE0
 have HB := hid hb
 have HW0 := hid hw0
 have HV := hid hv
 clear hE0 hb hw0 hv
 go_enter Tryz.func6, Tryz.ntmps6
 go_wp2_with fail
 rw [← HW0.out]
 refine (split_at s w0 hs (HV.out.ext HE0.out)).mono ?_
 rintro e w1 ⟨⟨v, rfl, hS⟩, hE1⟩
 obtain ⟨a, cap, rfl, hcap, -⟩ := hS.form
 have hb1 := HB.out.ext hE1
 have yz := hb1.lt
 have y0 := hb1.c 0 (.int .i64 0) rfl
 have y1 := hb1.c 1 (.int .i64 0) rfl
 have y2 := hb1.c 2 (.string ⟨#[]⟩) rfl
 have y3 := hb1.c 3 (.int .i64 0) rfl
 have y4 := hb1.c 4 (.string ⟨#[]⟩) rfl
 have y5 := hb1.c 5 (.string ⟨#[]⟩) rfl
 have y6 := hb1.c 6 (.slice none 0 0) rfl
 have y7 := hb1.c 7 (.slice none 0 0) rfl
 have f0 := hb1.frozen 0
 have f1 := hb1.frozen 1
 have f2 := hb1.frozen 2
 have f3 := hb1.frozen 3
 have f4 := hb1.frozen 4
 have f5 := hb1.frozen 5
 have f6 := hb1.frozen 6
 have f7 := hb1.frozen 7
 have HB1 := hid hb1
 have HE1 := hid (HE0.out.trans hE1)
 have HS := hid hS
 clear hb1 hE1 hS
 by_cases hl : (M.words s).length < 3
 · have HR := hid (M.says_len (.inl hl))
   obtain ⟨n, hn⟩ : ∃ n, (M.words s).length = n := ⟨_, rfl⟩
   rw [hn] at hl ⊢
   clear hn hcap HS
   go_wp2_with fail
   all_goals
    refine bodyPost_ret (results_agg2 agg_chg rfl _ _ w.heap.size rfl zeroC (CellsAt.ofB (Blk.set8 HB1.out _ _ _ _ _ _ _ _)) rfl) rfl ?_
    exact ⟨⟨none, rfl, HR.out⟩, HE1.out.own (Kp.set8 (D := (· = w.heap.size)) rfl _ _ _ _ _ _ _ _) (fun _ e => by omega)⟩
 obtain ⟨ws, hws⟩ : ∃ ws, M.words s = ws := ⟨_, rfl⟩
 have HWS := hid hws
 have HSZ : Hid (∀ x ∈ ws, x.size ≤ 4000000000) := hid (fun x hx => Nat.le_trans (M.words_size (by rw [hws]; exact hx)) hs)
 rw [hws] at hl HS hcap ⊢
 clear hws
 match ws, hl, HWS, HS, HSZ, hcap with
 | [], hl, _, _, _, _ => simp at hl
 | [_], hl, _, _, _, _ => simp at hl
 | [_, _], hl, _, _, _, _ => simp at hl
 | x0 :: x1 :: x2 :: x3 :: x4 :: r, _, HWS, HS, HSZ, hcap =>
  have HR := hid (M.says_len (s := s) (.inr (by rw [HWS.out]; simp)))
  obtain ⟨b, off, rfl, g0⟩ := StrL.first HS.out
  obtain ⟨n, hn⟩ : ∃ n, (x0 :: x1 :: x2 :: x3 :: x4 :: r).length = n := ⟨_, rfl⟩
  have hn5 : 5 ≤ n := by rw [← hn]; simp
  rw [hn] at hcap ⊢
  have l3 : ((n : Int) == 3) = false := beq_eq_false_iff_ne.2 (by omega)
  have l4 : ((n : Int) == 4) = false := beq_eq_false_iff_ne.2 (by omega)
  have gz := cell_lt g0
  clear HS HSZ hn
  rcases M.kind_all x0 with ⟨hK, h1, h2, h3⟩ | ⟨hK, h1, h2, h3⟩ | ⟨hK, h1, h2, h3⟩ | ⟨hK, h1, h2, h3⟩
  all_goals
   clear hK
   go_wp2_with fail
   refine bodyPost_ret (results_agg2 agg_chg rfl _ _ w.heap.size rfl zeroC (CellsAt.ofB ((Blk.set8 HB1.out _ _ _ _ _ _ _ _).ext ((Kp.refl _ _).alloc _))) rfl) rfl ?_
   exact ⟨⟨none, rfl, HR.out⟩, ((HE1.out.own (Kp.set8 (D := (· = w.heap.size)) rfl _ _ _ _ _ _ _ _) (fun _ e => by omega)) : Ext w _).alloc _⟩
 | [x0, x1, x2], _, HWS, HS, HSZ, hcap =>
  obtain ⟨b, off, rfl, g0, g1, g2, hc3⟩ := StrL.three HS.out
  have bz := cell_lt g0
  have HG2 := hid g2
  clear hcap HS HSZ
  rcases M.kind_all x0 with ⟨hK, h1, h2, h3⟩ | ⟨hK, h1, h2, h3⟩ | ⟨hK, h1, h2, h3⟩ | ⟨hK, h1, h2, h3⟩
  · have HK := hid hK
    clear hK
    obtain ⟨w3, hw3⟩ : ∃ w3, w3 = w1.alloc (.cells #[.int .i64 2, .int .i64 0, .string ⟨#[]⟩, .int .i64 0, .string ⟨#[]⟩, .string ⟨#[]⟩, .slice none 0 0, .slice none 0 0] 27) := ⟨_, rfl⟩
    have hE3 : Ext w1 w3 := by rw [hw3]; exact (by repeat (first | with_reducible exact Kp.refl _ _ | with_reducible assumption | with_reducible refine Kp.alloc ?_ _ | with_reducible refine Kp.drew ?_ | with_reducible refine Kp.drewN ?_ _ | with_reducible refine Kp.setCell ?_ (fun h => absurd h (by simp <;> omega)) _ | with_reducible refine Kp.trans ?_ (by with_reducible assumption) | exact Kp.refl _ _ | assumption | refine Kp.alloc ?_ _ | refine Kp.drew ?_ | refine Kp.drewN ?_ _ | (refine Kp.setCell ?_ (fun h => absurd h (by simp; done)) _) | (refine Kp.setCell ?_ (fun h => absurd h (by simp; omega)) _) | refine Kp.trans ?_ (by assumption)))
    have hc3' : Blk w3 w1.heap.size 27 #[.int .i64 2, .int .i64 0, .string ⟨#[]⟩, .int .i64 0, .string ⟨#[]⟩, .string ⟨#[]⟩, .slice none 0 0, .slice none 0 0] := by rw [hw3]; exact Blk.new _ _ _
    have HW3 := hid hw3
    have HE3 := hid hE3
    have HC3 := hid hc3'
    clear hw3 hE3 hc3'
    go_wp2_with fail
    rw [← HW3.out]
    refine (plain_number x1 w3 (HV.out.ext (HE1.out.trans HE3.out))).mono ?_
    rintro e w6 ⟨⟨n, ok, rfl, hrd⟩, hE6⟩
    have HRD := hid hrd
    have hb6 := HB1.out.ext (HE3.out.trans hE6)
    have hc6 := HC3.out.ext hE6
    have hE36 := HE3.out.trans hE6
    have q2 := hE36.cellE HG2.out
    have qz := cell_lt q2
    have HB6 := hid hb6
    have HC6 := hid hc6
    have HE6 := hid (HE1.out.trans hE36)
    have hne : w1.heap.size ≠ w.heap.size := Nat.ne_of_gt yz
    have hnb : b ≠ w1.heap.size := Nat.ne_of_lt bz
    have zz6 := hb6.lt
    have z0 := hb6.c 0 (.int .i64 0) rfl
    have z1 := hb6.c 1 (.int .i64 0) rfl
    have z2 := hb6.c 2 (.string ⟨#[]⟩) rfl
    have z3 := hb6.c 3 (.int .i64 0) rfl
    have z4 := hb6.c 4 (.string ⟨#[]⟩) rfl
    have z5 := hb6.c 5 (.string ⟨#[]⟩) rfl
    have z6 := hb6.c 6 (.slice none 0 0) rfl
    have z7 := hb6.c 7 (.slice none 0 0) rfl
    have e0 := hb6.frozen 0
    have e1 := hb6.frozen 1
    have e2 := hb6.frozen 2
    have e3 := hb6.frozen 3
    have e4 := hb6.frozen 4
    have e5 := hb6.frozen 5
    have e6 := hb6.frozen 6
    have e7 := hb6.frozen 7
    have k0 := hc6.c 0 (.int .i64 2) rfl
    have k1 := hc6.c 1 (.int .i64 0) rfl
    have k2 := hc6.c 2 (.string ⟨#[]⟩) rfl
    have k3 := hc6.c 3 (.int .i64 0) rfl
    have k4 := hc6.c 4 (.string ⟨#[]⟩) rfl
    have k5 := hc6.c 5 (.string ⟨#[]⟩) rfl
    have k6 := hc6.c 6 (.slice none 0 0) rfl
    have k7 := hc6.c 7 (.slice none 0 0) rfl
    have kf1 := hc6.frozen 1
    have kf2 := hc6.frozen 2
    have kf3 := hc6.frozen 3
    have kz := hc6.lt
    clear hrd hb6 hc6 hE6 hE36 y0 y1 y2 y3 y4 y5 y6 y7 f0 f1 f2 f3 f4 f5 f6 f7 g0 g1 g2
    cases ok
    · have HR := hid (M.says_three HWS.out HRD.out (by rw [HK.out]; exact .inl rfl))
      go_wp2_with fail
      refine bodyPost_ret (results_agg2 agg_chg rfl _ _ w.heap.size rfl zeroC (CellsAt.ofB (Blk.set8 HB6.out _ _ _ _ _ _ _ _)) rfl) rfl ?_
      exact ⟨⟨none, rfl, HR.out⟩, HE6.out.own (Kp.set8 (D := (· = w.heap.size)) rfl _ _ _ _ _ _ _ _) (fun _ e => by omega)⟩
    obtain ⟨T, f, hneT, HT⟩ := Cls.ex (fun W' => Kp (· = w1.heap.size) w6 W') w6 (Kp.refl _ _)
    have r2 := fun z => (HT.inn z).cellK q2 hnb
    have HTH := hid HT
    clear HT
    go_wp2_with fail
    (refine region_mix f 6 [([0, 1, 2, 3, 4], 5)] [] (HTH.out.out _ ?_) (by kernel_rfl) (by kernel_rfl) (fun _ _ d _ _ h => by cases d <;> exact h) ?_)
    · exact (Kp.refl _ _).drew
    (refine wpMix_cons rfl rfl fun K hK => ?_); (change wpQuiet _ _ _ _ [_, _, _, _, _] _); (repeat (go_big_quiet_step (fail))); (refine wpQuiet_nil ?_); (refine hK _ fun K2 hK2 => ?_); clear hK K; (change wpList _ _ _ [_] _ _)
    go_wp2_with fail
    have hk7 : Kp (· = w1.heap.size) w6 (w6.setCell ⟨w1.heap.size, 1, none⟩ (.int .i64 n)).drew := ((Kp.refl (· = w1.heap.size) w6).setCell (p := ⟨w1.heap.size, 1, none⟩) (fun _ => rfl) _).drew
    (refine hK2 _ _ (HTH.out.out _ hk7) ?_); clear hK2 K2
    (refine wpMix_nil rfl fun K hK => ?_); (change wpQuiet _ _ _ _ [] _); (refine wpQuiet_nil ?_); (refine hK _ ?_); clear hK K
    clear r2 HTH hk7
    obtain ⟨w7, hw7⟩ : ∃ w7, w7 = ((w6.setCell ⟨w1.heap.size, 1, none⟩ (.int .i64 n)).setCell ⟨w1.heap.size, 2, none⟩ (.string x2)).drew := ⟨_, rfl⟩
    have hk7 : Kp (· = w1.heap.size) w6 w7 := by rw [hw7]; exact (((Kp.refl (· = w1.heap.size) w6).setCell (p := ⟨w1.heap.size, 1, none⟩) (fun _ => rfl) _).setCell (p := ⟨w1.heap.size, 2, none⟩) (fun _ => rfl) _).drew
    have hc7 : Blk w7 w1.heap.size 27 #[.int .i64 2, .int .i64 n, .string x2, .int .i64 0, .string ⟨#[]⟩, .string ⟨#[]⟩, .slice none 0 0, .slice none 0 0] := by rw [hw7]; exact Blk.ext ((HC6.out.set_ 1 (.int .i64 n)).set_ 2 (.string x2)) ((Kp.refl _ _).drew)
    have HB7 := hid (HB6.out.kp hk7 (Ne.symm hne))
    have HC7 := hid hc7
    have HE7 := hid (HE6.out.own hk7 (fun _ e => by have := HE1.out.size; omega))
    have HW7 := hid hw7
    clear hc7 hw7 hk7
    go_wp2_with fail
    rw [← HW7.out]
    have ht := chg_text ⟨2, n, x2, 0⟩ (show (2 : Int) ≠ 1 by decide) M.none_ M.none_ none 0 0 none 0 0 w7 (HV.out.ext HE7.out)
    rw [M.chgOut_one] at ht
    refine ht.mono ?_
    rintro e w5 ⟨rfl, hE5⟩
    have hb5 := HB7.out.ext hE5
    have hc5 := HC7.out.ext hE5
    have HB5 := hid hb5
    have HE5 := hid (HE7.out.trans hE5)
    have zz5 := hb5.lt
    have z0 := hb5.c 0 (.int .i64 0) rfl
    have z1 := hb5.c 1 (.int .i64 0) rfl
    have z2 := hb5.c 2 (.string ⟨#[]⟩) rfl
    have z3 := hb5.c 3 (.int .i64 0) rfl
    have z4 := hb5.c 4 (.string ⟨#[]⟩) rfl
    have z5 := hb5.c 5 (.string ⟨#[]⟩) rfl
    have z6 := hb5.c 6 (.slice none 0 0) rfl
    have z7 := hb5.c 7 (.slice none 0 0) rfl
    have e0 := hb5.frozen 0
    have e1 := hb5.frozen 1
    have e2 := hb5.frozen 2
    have e3 := hb5.frozen 3
    have e4 := hb5.frozen 4
    have e5 := hb5.frozen 5
    have e6 := hb5.frozen 6
    have e7 := hb5.frozen 7
    have k0 := hc5.c 0 (.int .i64 2) rfl
    have k1 := hc5.c 1 (.int .i64 n) rfl
    have k2 := hc5.c 2 (.string x2) rfl
    have k3 := hc5.c 3 (.int .i64 0) rfl
    have k4 := hc5.c 4 (.string ⟨#[]⟩) rfl
    have k5 := hc5.c 5 (.string ⟨#[]⟩) rfl
    have k6 := hc5.c 6 (.slice none 0 0) rfl
    have k7 := hc5.c 7 (.slice none 0 0) rfl
    have kz := hc5.lt
    clear ht hE5 hb5 hc5
    cases hq : ((M.chgText ⟨2, n, x2, 0⟩).toList == s.toList)
    · have HS := hid (M.says_three HWS.out HRD.out (by rw [HK.out]; exact .inr (toList_ne hq)))
      go_wp2_with fail
      refine bodyPost_ret (results_agg2 agg_chg rfl _ _ w.heap.size rfl zeroC (CellsAt.ofB (Blk.set8 HB5.out _ _ _ _ _ _ _ _)) rfl) rfl ?_
      exact ⟨⟨none, rfl, HS.out⟩, HE5.out.own (Kp.set8 (D := (· = w.heap.size)) rfl _ _ _ _ _ _ _ _) (fun _ e => by omega)⟩
    · have HS := hid (M.says_yes (s := s) (c := ⟨2, n, x2, 0⟩) (by rw [HWS.out]; simp) (toList_eq_true hq))
      go_wp2_with fail
      refine bodyPost_ret (results_agg2 agg_chg rfl _ _ w.heap.size rfl [.int .i64 2, .int .i64 n, .string x2, .int .i64 0, .string ⟨#[]⟩, .string ⟨#[]⟩, .slice none 0 0, .slice none 0 0] (CellsAt.ofB (Blk.set8 HB5.out _ _ _ _ _ _ _ _)) rfl) rfl ?_
      exact ⟨⟨some _, rfl, HS.out⟩, HE5.out.own (Kp.set8 (D := (· = w.heap.size)) rfl _ _ _ _ _ _ _ _) (fun _ e => by omega)⟩
  · have HK := hid hK
    clear hK
    have HR := hid (M.says_kind HWS.out (by rw [HK.out]; simp))
    go_wp2_with fail
    refine bodyPost_ret (results_agg2 agg_chg rfl _ _ w.heap.size rfl zeroC (CellsAt.ofB ((Blk.set8 HB1.out _ _ _ _ _ _ _ _).ext ((Kp.refl _ _).alloc _))) rfl) rfl ?_
    exact ⟨⟨none, rfl, HR.out⟩, ((HE1.out.own (Kp.set8 (D := (· = w.heap.size)) rfl _ _ _ _ _ _ _ _) (fun _ e => by omega)) : Ext w _).alloc _⟩
  · have HK := hid hK
    clear hK
    obtain ⟨w3, hw3⟩ : ∃ w3, w3 = w1.alloc (.cells #[.int .i64 4, .int .i64 0, .string ⟨#[]⟩, .int .i64 0, .string ⟨#[]⟩, .string ⟨#[]⟩, .slice none 0 0, .slice none 0 0] 27) := ⟨_, rfl⟩
    have hE3 : Ext w1 w3 := by rw [hw3]; exact (by repeat (first | with_reducible exact Kp.refl _ _ | with_reducible assumption | with_reducible refine Kp.alloc ?_ _ | with_reducible refine Kp.drew ?_ | with_reducible refine Kp.drewN ?_ _ | with_reducible refine Kp.setCell ?_ (fun h => absurd h (by simp <;> omega)) _ | with_reducible refine Kp.trans ?_ (by with_reducible assumption) | exact Kp.refl _ _ | assumption | refine Kp.alloc ?_ _ | refine Kp.drew ?_ | refine Kp.drewN ?_ _ | (refine Kp.setCell ?_ (fun h => absurd h (by simp; done)) _) | (refine Kp.setCell ?_ (fun h => absurd h (by simp; omega)) _) | refine Kp.trans ?_ (by assumption)))
    have hc3' : Blk w3 w1.heap.size 27 #[.int .i64 4, .int .i64 0, .string ⟨#[]⟩, .int .i64 0, .string ⟨#[]⟩, .string ⟨#[]⟩, .slice none 0 0, .slice none 0 0] := by rw [hw3]; exact Blk.new _ _ _
    have HW3 := hid hw3
    have HE3 := hid hE3
    have HC3 := hid hc3'
    clear hw3 hE3 hc3'
    go_wp2_with fail
    rw [← HW3.out]
    refine (plain_number x1 w3 (HV.out.ext (HE1.out.trans HE3.out))).mono ?_
    rintro e w6 ⟨⟨n, ok, rfl, hrd⟩, hE6⟩
    have HRD := hid hrd
    have hb6 := HB1.out.ext (HE3.out.trans hE6)
    have hc6 := HC3.out.ext hE6
    have hE36 := HE3.out.trans hE6
    have q2 := hE36.cellE HG2.out
    have qz := cell_lt q2
    have HB6 := hid hb6
    have HC6 := hid hc6
    have HE6 := hid (HE1.out.trans hE36)
    have hne : w1.heap.size ≠ w.heap.size := Nat.ne_of_gt yz
    have hnb : b ≠ w1.heap.size := Nat.ne_of_lt bz
    have zz6 := hb6.lt
    have z0 := hb6.c 0 (.int .i64 0) rfl
    have z1 := hb6.c 1 (.int .i64 0) rfl
    have z2 := hb6.c 2 (.string ⟨#[]⟩) rfl
    have z3 := hb6.c 3 (.int .i64 0) rfl
    have z4 := hb6.c 4 (.string ⟨#[]⟩) rfl
    have z5 := hb6.c 5 (.string ⟨#[]⟩) rfl
    have z6 := hb6.c 6 (.slice none 0 0) rfl
    have z7 := hb6.c 7 (.slice none 0 0) rfl
    have e0 := hb6.frozen 0
    have e1 := hb6.frozen 1
    have e2 := hb6.frozen 2
    have e3 := hb6.frozen 3
    have e4 := hb6.frozen 4
    have e5 := hb6.frozen 5
    have e6 := hb6.frozen 6
    have e7 := hb6.frozen 7
    have k0 := hc6.c 0 (.int .i64 4) rfl
    have k1 := hc6.c 1 (.int .i64 0) rfl
    have k2 := hc6.c 2 (.string ⟨#[]⟩) rfl
    have k3 := hc6.c 3 (.int .i64 0) rfl
    have k4 := hc6.c 4 (.string ⟨#[]⟩) rfl
    have k5 := hc6.c 5 (.string ⟨#[]⟩) rfl
    have k6 := hc6.c 6 (.slice none 0 0) rfl
    have k7 := hc6.c 7 (.slice none 0 0) rfl
    have kf1 := hc6.frozen 1
    have kf2 := hc6.frozen 2
    have kf3 := hc6.frozen 3
    have kz := hc6.lt
    clear hrd hb6 hc6 hE6 hE36 y0 y1 y2 y3 y4 y5 y6 y7 f0 f1 f2 f3 f4 f5 f6 f7 g0 g1 g2
    cases ok
    · have HR := hid (M.says_three HWS.out HRD.out (by rw [HK.out]; exact .inl rfl))
      go_wp2_with fail
      refine bodyPost_ret (results_agg2 agg_chg rfl _ _ w.heap.size rfl zeroC (CellsAt.ofB (Blk.set8 HB6.out _ _ _ _ _ _ _ _)) rfl) rfl ?_
      exact ⟨⟨none, rfl, HR.out⟩, HE6.out.own (Kp.set8 (D := (· = w.heap.size)) rfl _ _ _ _ _ _ _ _) (fun _ e => by omega)⟩
    obtain ⟨T, f, hneT, HT⟩ := Cls.ex (fun W' => Kp (· = w1.heap.size) w6 W') w6 (Kp.refl _ _)
    have r2 := fun z => (HT.inn z).cellK q2 hnb
    have HTH := hid HT
    clear HT
    go_wp2_with fail
    (refine region_mix f 6 [([0, 1, 2, 3, 4], 5)] [] (HTH.out.out _ ?_) (by kernel_rfl) (by kernel_rfl) (fun _ _ d _ _ h => by cases d <;> exact h) ?_)
    · exact (Kp.refl _ _).drew
    (refine wpMix_cons rfl rfl fun K hK => ?_); (change wpQuiet _ _ _ _ [_, _, _, _, _] _); (repeat (go_big_quiet_step (fail))); (refine wpQuiet_nil ?_); (refine hK _ fun K2 hK2 => ?_); clear hK K; (change wpList _ _ _ [_] _ _)
    go_wp2_with fail
    have hk7 : Kp (· = w1.heap.size) w6 (w6.setCell ⟨w1.heap.size, 1, none⟩ (.int .i64 n)).drew := ((Kp.refl (· = w1.heap.size) w6).setCell (p := ⟨w1.heap.size, 1, none⟩) (fun _ => rfl) _).drew
    (refine hK2 _ _ (HTH.out.out _ hk7) ?_); clear hK2 K2
    (refine wpMix_nil rfl fun K hK => ?_); (change wpQuiet _ _ _ _ [] _); (refine wpQuiet_nil ?_); (refine hK _ ?_); clear hK K
    clear r2 HTH hk7
    obtain ⟨w7, hw7⟩ : ∃ w7, w7 = ((w6.setCell ⟨w1.heap.size, 1, none⟩ (.int .i64 n)).setCell ⟨w1.heap.size, 2, none⟩ (.string x2)).drew := ⟨_, rfl⟩
    have hk7 : Kp (· = w1.heap.size) w6 w7 := by rw [hw7]; exact (((Kp.refl (· = w1.heap.size) w6).setCell (p := ⟨w1.heap.size, 1, none⟩) (fun _ => rfl) _).setCell (p := ⟨w1.heap.size, 2, none⟩) (fun _ => rfl) _).drew
    have hc7 : Blk w7 w1.heap.size 27 #[.int .i64 4, .int .i64 n, .string x2, .int .i64 0, .string ⟨#[]⟩, .string ⟨#[]⟩, .slice none 0 0, .slice none 0 0] := by rw [hw7]; exact Blk.ext ((HC6.out.set_ 1 (.int .i64 n)).set_ 2 (.string x2)) ((Kp.refl _ _).drew)
    have HB7 := hid (HB6.out.kp hk7 (Ne.symm hne))
    have HC7 := hid hc7
    have HE7 := hid (HE6.out.own hk7 (fun _ e => by have := HE1.out.size; omega))
    have HW7 := hid hw7
    clear hc7 hw7 hk7
    go_wp2_with fail
    rw [← HW7.out]
    have ht := chg_text ⟨4, n, x2, 0⟩ (show (4 : Int) ≠ 1 by decide) M.none_ M.none_ none 0 0 none 0 0 w7 (HV.out.ext HE7.out)
    rw [M.chgOut_one] at ht
    refine ht.mono ?_
    rintro e w5 ⟨rfl, hE5⟩
    have hb5 := HB7.out.ext hE5
    have hc5 := HC7.out.ext hE5
    have HB5 := hid hb5
    have HE5 := hid (HE7.out.trans hE5)
    have zz5 := hb5.lt
    have z0 := hb5.c 0 (.int .i64 0) rfl
    have z1 := hb5.c 1 (.int .i64 0) rfl
    have z2 := hb5.c 2 (.string ⟨#[]⟩) rfl
    have z3 := hb5.c 3 (.int .i64 0) rfl
    have z4 := hb5.c 4 (.string ⟨#[]⟩) rfl
    have z5 := hb5.c 5 (.string ⟨#[]⟩) rfl
    have z6 := hb5.c 6 (.slice none 0 0) rfl
    have z7 := hb5.c 7 (.slice none 0 0) rfl
    have e0 := hb5.frozen 0
    have e1 := hb5.frozen 1
    have e2 := hb5.frozen 2
    have e3 := hb5.frozen 3
    have e4 := hb5.frozen 4
    have e5 := hb5.frozen 5
    have e6 := hb5.frozen 6
    have e7 := hb5.frozen 7
    have k0 := hc5.c 0 (.int .i64 4) rfl
    have k1 := hc5.c 1 (.int .i64 n) rfl
    have k2 := hc5.c 2 (.string x2) rfl
    have k3 := hc5.c 3 (.int .i64 0) rfl
    have k4 := hc5.c 4 (.string ⟨#[]⟩) rfl
    have k5 := hc5.c 5 (.string ⟨#[]⟩) rfl
    have k6 := hc5.c 6 (.slice none 0 0) rfl
    have k7 := hc5.c 7 (.slice none 0 0) rfl
    have kz := hc5.lt
    clear ht hE5 hb5 hc5
    cases hq : ((M.chgText ⟨4, n, x2, 0⟩).toList == s.toList)
    · have HS := hid (M.says_three HWS.out HRD.out (by rw [HK.out]; exact .inr (toList_ne hq)))
      go_wp2_with fail
      refine bodyPost_ret (results_agg2 agg_chg rfl _ _ w.heap.size rfl zeroC (CellsAt.ofB (Blk.set8 HB5.out _ _ _ _ _ _ _ _)) rfl) rfl ?_
      exact ⟨⟨none, rfl, HS.out⟩, HE5.out.own (Kp.set8 (D := (· = w.heap.size)) rfl _ _ _ _ _ _ _ _) (fun _ e => by omega)⟩
    · have HS := hid (M.says_yes (s := s) (c := ⟨4, n, x2, 0⟩) (by rw [HWS.out]; simp) (toList_eq_true hq))
      go_wp2_with fail
      refine bodyPost_ret (results_agg2 agg_chg rfl _ _ w.heap.size rfl [.int .i64 4, .int .i64 n, .string x2, .int .i64 0, .string ⟨#[]⟩, .string ⟨#[]⟩, .slice none 0 0, .slice none 0 0] (CellsAt.ofB (Blk.set8 HB5.out _ _ _ _ _ _ _ _)) rfl) rfl ?_
      exact ⟨⟨some _, rfl, HS.out⟩, HE5.out.own (Kp.set8 (D := (· = w.heap.size)) rfl _ _ _ _ _ _ _ _) (fun _ e => by omega)⟩
  · have HK := hid hK
    clear hK
    have HR := hid (M.says_kind HWS.out (by rw [HK.out]; simp))
    go_wp2_with fail
    refine bodyPost_ret (results_agg2 agg_chg rfl _ _ w.heap.size rfl zeroC (CellsAt.ofB ((Blk.set8 HB1.out _ _ _ _ _ _ _ _).ext ((Kp.refl _ _).alloc _))) rfl) rfl ?_
    exact ⟨⟨none, rfl, HR.out⟩, ((HE1.out.own (Kp.set8 (D := (· = w.heap.size)) rfl _ _ _ _ _ _ _ _) (fun _ e => by omega)) : Ext w _).alloc _⟩
 | [x0, x1, x2, x3], _, HWS, HS, HSZ, hcap =>
  obtain ⟨b, off, rfl, g0, g1, g2, g3, hc3⟩ := StrL.four HS.out
  have bz := cell_lt g0
  have HG2 := hid g2
  have HG3 := hid g3
  clear hcap HS HSZ
  rcases M.kind_all x0 with ⟨hK, h1, h2, h3⟩ | ⟨hK, h1, h2, h3⟩ | ⟨hK, h1, h2, h3⟩ | ⟨hK, h1, h2, h3⟩
  · have HK := hid hK
    clear hK
    have HR := hid (M.says_kind HWS.out (by rw [HK.out]; simp))
    go_wp2_with fail
    refine bodyPost_ret (results_agg2 agg_chg rfl _ _ w.heap.size rfl zeroC (CellsAt.ofB ((Blk.set8 HB1.out _ _ _ _ _ _ _ _).ext ((Kp.refl _ _).alloc _))) rfl) rfl ?_
    exact ⟨⟨none, rfl, HR.out⟩, ((HE1.out.own (Kp.set8 (D := (· = w.heap.size)) rfl _ _ _ _ _ _ _ _) (fun _ e => by omega)) : Ext w _).alloc _⟩
  · have HK := hid hK
    clear hK
    obtain ⟨w3, hw3⟩ : ∃ w3, w3 = w1.alloc (.cells #[.int .i64 3, .int .i64 0, .string ⟨#[]⟩, .int .i64 0, .string ⟨#[]⟩, .string ⟨#[]⟩, .slice none 0 0, .slice none 0 0] 27) := ⟨_, rfl⟩
    have hE3 : Ext w1 w3 := by rw [hw3]; exact (by repeat (first | with_reducible exact Kp.refl _ _ | with_reducible assumption | with_reducible refine Kp.alloc ?_ _ | with_reducible refine Kp.drew ?_ | with_reducible refine Kp.drewN ?_ _ | with_reducible refine Kp.setCell ?_ (fun h => absurd h (by simp <;> omega)) _ | with_reducible refine Kp.trans ?_ (by with_reducible assumption) | exact Kp.refl _ _ | assumption | refine Kp.alloc ?_ _ | refine Kp.drew ?_ | refine Kp.drewN ?_ _ | (refine Kp.setCell ?_ (fun h => absurd h (by simp; done)) _) | (refine Kp.setCell ?_ (fun h => absurd h (by simp; omega)) _) | refine Kp.trans ?_ (by assumption)))
    have hc3' : Blk w3 w1.heap.size 27 #[.int .i64 3, .int .i64 0, .string ⟨#[]⟩, .int .i64 0, .string ⟨#[]⟩, .string ⟨#[]⟩, .slice none 0 0, .slice none 0 0] := by rw [hw3]; exact Blk.new _ _ _
    have HW3 := hid hw3
    have HE3 := hid hE3
    have HC3 := hid hc3'
    clear hw3 hE3 hc3'
    go_wp2_with fail
    rw [← HW3.out]
    refine (plain_number x1 w3 (HV.out.ext (HE1.out.trans HE3.out))).mono ?_
    rintro e w6 ⟨⟨n, ok, rfl, hrd⟩, hE6⟩
    have HRD := hid hrd
    have hb6 := HB1.out.ext (HE3.out.trans hE6)
    have hc6 := HC3.out.ext hE6
    have hE36 := HE3.out.trans hE6
    have q2 := hE36.cellE HG2.out
    have q3 := hE36.cellE HG3.out
    have qz := cell_lt q2
    have HB6 := hid hb6
    have HC6 := hid hc6
    have HE6 := hid (HE1.out.trans hE36)
    have hne : w1.heap.size ≠ w.heap.size := Nat.ne_of_gt yz
    have hnb : b ≠ w1.heap.size := Nat.ne_of_lt bz
    have zz6 := hb6.lt
    have z0 := hb6.c 0 (.int .i64 0) rfl
    have z1 := hb6.c 1 (.int .i64 0) rfl
    have z2 := hb6.c 2 (.string ⟨#[]⟩) rfl
    have z3 := hb6.c 3 (.int .i64 0) rfl
    have z4 := hb6.c 4 (.string ⟨#[]⟩) rfl
    have z5 := hb6.c 5 (.string ⟨#[]⟩) rfl
    have z6 := hb6.c 6 (.slice none 0 0) rfl
    have z7 := hb6.c 7 (.slice none 0 0) rfl
    have e0 := hb6.frozen 0
    have e1 := hb6.frozen 1
    have e2 := hb6.frozen 2
    have e3 := hb6.frozen 3
    have e4 := hb6.frozen 4
    have e5 := hb6.frozen 5
    have e6 := hb6.frozen 6
    have e7 := hb6.frozen 7
    have k0 := hc6.c 0 (.int .i64 3) rfl
    have k1 := hc6.c 1 (.int .i64 0) rfl
    have k2 := hc6.c 2 (.string ⟨#[]⟩) rfl
    have k3 := hc6.c 3 (.int .i64 0) rfl
    have k4 := hc6.c 4 (.string ⟨#[]⟩) rfl
    have k5 := hc6.c 5 (.string ⟨#[]⟩) rfl
    have k6 := hc6.c 6 (.slice none 0 0) rfl
    have k7 := hc6.c 7 (.slice none 0 0) rfl
    have kf1 := hc6.frozen 1
    have kf2 := hc6.frozen 2
    have kf3 := hc6.frozen 3
    have kz := hc6.lt
    clear hrd hb6 hc6 hE6 hE36 y0 y1 y2 y3 y4 y5 y6 y7 f0 f1 f2 f3 f4 f5 f6 f7 g0 g1 g2 g3
    cases ok
    · have HR := hid (M.says_four_no HWS.out HRD.out)
      go_wp2_with fail
      refine bodyPost_ret (results_agg2 agg_chg rfl _ _ w.heap.size rfl zeroC (CellsAt.ofB (Blk.set8 HB6.out _ _ _ _ _ _ _ _)) rfl) rfl ?_
      exact ⟨⟨none, rfl, HR.out⟩, HE6.out.own (Kp.set8 (D := (· = w.heap.size)) rfl _ _ _ _ _ _ _ _) (fun _ e => by omega)⟩
    obtain ⟨T, f, hneT, HT⟩ := Cls.ex (fun W' => Kp (· = w1.heap.size) w6 W') w6 (Kp.refl _ _)
    have r2 := fun z => (HT.inn z).cellK q2 hnb
    have HTH := hid HT
    clear HT
    go_wp2_with fail
    (refine region_mix f 6 [([0, 1, 2, 3, 4], 5)] [] (HTH.out.out _ ?_) (by kernel_rfl) (by kernel_rfl) (fun _ _ d _ _ h => by cases d <;> exact h) ?_)
    · exact (Kp.refl _ _).drew
    (refine wpMix_cons rfl rfl fun K hK => ?_); (change wpQuiet _ _ _ _ [_, _, _, _, _] _); (repeat (go_big_quiet_step (fail))); (refine wpQuiet_nil ?_); (refine hK _ fun K2 hK2 => ?_); clear hK K; (change wpList _ _ _ [_] _ _)
    go_wp2_with fail
    have hk7 : Kp (· = w1.heap.size) w6 (w6.setCell ⟨w1.heap.size, 1, none⟩ (.int .i64 n)).drew := ((Kp.refl (· = w1.heap.size) w6).setCell (p := ⟨w1.heap.size, 1, none⟩) (fun _ => rfl) _).drew
    (refine hK2 _ _ (HTH.out.out _ hk7) ?_); clear hK2 K2
    (refine wpMix_nil rfl fun K hK => ?_); (change wpQuiet _ _ _ _ [] _); (refine wpQuiet_nil ?_); (refine hK _ ?_); clear hK K
    clear r2 HTH hk7
    obtain ⟨w7, hw7⟩ : ∃ w7, w7 = ((w6.setCell ⟨w1.heap.size, 1, none⟩ (.int .i64 n)).setCell ⟨w1.heap.size, 2, none⟩ (.string x2)).drew := ⟨_, rfl⟩
    have hk7 : Kp (· = w1.heap.size) w6 w7 := by rw [hw7]; exact (((Kp.refl (· = w1.heap.size) w6).setCell (p := ⟨w1.heap.size, 1, none⟩) (fun _ => rfl) _).setCell (p := ⟨w1.heap.size, 2, none⟩) (fun _ => rfl) _).drew
    have hc7 : Blk w7 w1.heap.size 27 #[.int .i64 3, .int .i64 n, .string x2, .int .i64 0, .string ⟨#[]⟩, .string ⟨#[]⟩, .slice none 0 0, .slice none 0 0] := by rw [hw7]; exact Blk.ext ((HC6.out.set_ 1 (.int .i64 n)).set_ 2 (.string x2)) ((Kp.refl _ _).drew)
    have HB7 := hid (HB6.out.kp hk7 (Ne.symm hne))
    have HC7 := hid hc7
    have HE7 := hid (HE6.out.own hk7 (fun _ e => by have := HE1.out.size; omega))
    have HW7 := hid hw7
    clear hc7 hw7 hk7
    go_wp2_with fail
    rw [← HW7.out]
    refine (plain_number x3 w7 (HV.out.ext HE7.out)).mono ?_
    rintro e w9 ⟨⟨m, ok3, rfl, hrd3⟩, hE9⟩
    have HRD3 := hid hrd3
    have hb9 := HB7.out.ext hE9
    have hc9 := HC7.out.ext hE9
    have HB9 := hid hb9
    have HC9 := hid hc9
    have HE9 := hid (HE7.out.trans hE9)
    have zz9 := hb9.lt
    clear z0 z1 z2 z3 z4 z5 z6 z7 e0 e1 e2 e3 e4 e5 e6 e7 k0 k1 k2 k3 k4 k5 k6 k7 kf1 kf2 kf3 kz q2 q3
    have z0 := hb9.c 0 (.int .i64 0) rfl
    have z1 := hb9.c 1 (.int .i64 0) rfl
    have z2 := hb9.c 2 (.string ⟨#[]⟩) rfl
    have z3 := hb9.c 3 (.int .i64 0) rfl
    have z4 := hb9.c 4 (.string ⟨#[]⟩) rfl
    have z5 := hb9.c 5 (.string ⟨#[]⟩) rfl
    have z6 := hb9.c 6 (.slice none 0 0) rfl
    have z7 := hb9.c 7 (.slice none 0 0) rfl
    have e0 := hb9.frozen 0
    have e1 := hb9.frozen 1
    have e2 := hb9.frozen 2
    have e3 := hb9.frozen 3
    have e4 := hb9.frozen 4
    have e5 := hb9.frozen 5
    have e6 := hb9.frozen 6
    have e7 := hb9.frozen 7
    have k0 := hc9.c 0 (.int .i64 3) rfl
    have k1 := hc9.c 1 (.int .i64 n) rfl
    have k2 := hc9.c 2 (.string x2) rfl
    have k3 := hc9.c 3 (.int .i64 0) rfl
    have k4 := hc9.c 4 (.string ⟨#[]⟩) rfl
    have k5 := hc9.c 5 (.string ⟨#[]⟩) rfl
    have k6 := hc9.c 6 (.slice none 0 0) rfl
    have k7 := hc9.c 7 (.slice none 0 0) rfl
    have kf3 := hc9.frozen 3
    have kz := hc9.lt
    clear hrd3 hb9 hc9 hE9
    cases ok3
    · have HR := hid (M.says_four HWS.out HRD.out HRD3.out (by rw [HK.out]; exact .inr (.inl rfl)))
      go_wp2_with fail
      refine bodyPost_ret (results_agg2 agg_chg rfl _ _ w.heap.size rfl zeroC (CellsAt.ofB (Blk.set8 HB9.out _ _ _ _ _ _ _ _)) rfl) rfl ?_
      exact ⟨⟨none, rfl, HR.out⟩, HE9.out.own (Kp.set8 (D := (· = w.heap.size)) rfl _ _ _ _ _ _ _ _) (fun _ e => by omega)⟩
    obtain ⟨w10, hw10⟩ : ∃ w10, w10 = w9.setCell ⟨w1.heap.size, 3, none⟩ (.int .i64 m) := ⟨_, rfl⟩
    have hk10 : Kp (· = w1.heap.size) w9 w10 := by rw [hw10]; exact (Kp.refl (· = w1.heap.size) w9).setCell (fun _ => rfl) _
    have hc10 : Blk w10 w1.heap.size 27 #[.int .i64 3, .int .i64 n, .string x2, .int .i64 m, .string ⟨#[]⟩, .string ⟨#[]⟩, .slice none 0 0, .slice none 0 0] := by rw [hw10]; exact HC9.out.set_ 3 (.int .i64 m)
    have HB10 := hid (HB9.out.kp hk10 (Ne.symm hne))
    have HC10 := hid hc10
    have HE10 := hid (HE9.out.own hk10 (fun _ e => by have := HE1.out.size; omega))
    have HW10 := hid hw10
    clear hc10 hw10 hk10
    go_wp2_with fail
    rw [← HW10.out]
    have ht := chg_text ⟨3, n, x2, m⟩ (show (3 : Int) ≠ 1 by decide) M.none_ M.none_ none 0 0 none 0 0 w10 (HV.out.ext HE10.out)
    rw [M.chgOut_one] at ht
    refine ht.mono ?_
    rintro e w5 ⟨rfl, hE5⟩
    have hb5 := HB10.out.ext hE5
    have hc5 := HC10.out.ext hE5
    have HB5 := hid hb5
    have HE5 := hid (HE10.out.trans hE5)
    have zz5 := hb5.lt
    have z0 := hb5.c 0 (.int .i64 0) rfl
    have z1 := hb5.c 1 (.int .i64 0) rfl
    have z2 := hb5.c 2 (.string ⟨#[]⟩) rfl
    have z3 := hb5.c 3 (.int .i64 0) rfl
    have z4 := hb5.c 4 (.string ⟨#[]⟩) rfl
    have z5 := hb5.c 5 (.string ⟨#[]⟩) rfl
    have z6 := hb5.c 6 (.slice none 0 0) rfl
    have z7 := hb5.c 7 (.slice none 0 0) rfl
    have e0 := hb5.frozen 0
    have e1 := hb5.frozen 1
    have e2 := hb5.frozen 2
    have e3 := hb5.frozen 3
    have e4 := hb5.frozen 4
    have e5 := hb5.frozen 5
    have e6 := hb5.frozen 6
    have e7 := hb5.frozen 7
    have k0 := hc5.c 0 (.int .i64 3) rfl
    have k1 := hc5.c 1 (.int .i64 n) rfl
    have k2 := hc5.c 2 (.string x2) rfl
    have k3 := hc5.c 3 (.int .i64 m) rfl
    have k4 := hc5.c 4 (.string ⟨#[]⟩) rfl
    have k5 := hc5.c 5 (.string ⟨#[]⟩) rfl
    have k6 := hc5.c 6 (.slice none 0 0) rfl
    have k7 := hc5.c 7 (.slice none 0 0) rfl
    have kz := hc5.lt
    clear ht hE5 hb5 hc5
    cases hq : ((M.chgText ⟨3, n, x2, m⟩).toList == s.toList)
    · have HS := hid (M.says_four HWS.out HRD.out HRD3.out (by rw [HK.out]; exact .inr (.inr (toList_ne hq))))
      go_wp2_with fail
      refine bodyPost_ret (results_agg2 agg_chg rfl _ _ w.heap.size rfl zeroC (CellsAt.ofB (Blk.set8 HB5.out _ _ _ _ _ _ _ _)) rfl) rfl ?_
      exact ⟨⟨none, rfl, HS.out⟩, HE5.out.own (Kp.set8 (D := (· = w.heap.size)) rfl _ _ _ _ _ _ _ _) (fun _ e => by omega)⟩
    · have HS := hid (M.says_yes (s := s) (c := ⟨3, n, x2, m⟩) (by rw [HWS.out]; simp) (toList_eq_true hq))
      go_wp2_with fail
      refine bodyPost_ret (results_agg2 agg_chg rfl _ _ w.heap.size rfl [.int .i64 3, .int .i64 n, .string x2, .int .i64 m, .string ⟨#[]⟩, .string ⟨#[]⟩, .slice none 0 0, .slice none 0 0] (CellsAt.ofB (Blk.set8 HB5.out _ _ _ _ _ _ _ _)) rfl) rfl ?_
      exact ⟨⟨some _, rfl, HS.out⟩, HE5.out.own (Kp.set8 (D := (· = w.heap.size)) rfl _ _ _ _ _ _ _ _) (fun _ e => by omega)⟩
  · have HK := hid hK
    clear hK
    have HR := hid (M.says_kind HWS.out (by rw [HK.out]; simp))
    go_wp2_with fail
    refine bodyPost_ret (results_agg2 agg_chg rfl _ _ w.heap.size rfl zeroC (CellsAt.ofB ((Blk.set8 HB1.out _ _ _ _ _ _ _ _).ext ((Kp.refl _ _).alloc _))) rfl) rfl ?_
    exact ⟨⟨none, rfl, HR.out⟩, ((HE1.out.own (Kp.set8 (D := (· = w.heap.size)) rfl _ _ _ _ _ _ _ _) (fun _ e => by omega)) : Ext w _).alloc _⟩
  · have HK := hid hK
    clear hK
    have HR := hid (M.says_kind HWS.out (by rw [HK.out]; simp))
    go_wp2_with fail
    refine bodyPost_ret (results_agg2 agg_chg rfl _ _ w.heap.size rfl zeroC (CellsAt.ofB ((Blk.set8 HB1.out _ _ _ _ _ _ _ _).ext ((Kp.refl _ _).alloc _))) rfl) rfl ?_
    exact ⟨⟨none, rfl, HR.out⟩, ((HE1.out.own (Kp.set8 (D := (· = w.heap.size)) rfl _ _ _ _ _ _ _ _) (fun _ e => by omega)) : Ext w _).alloc _⟩
theorem eq_fields (w : World) : Calls Tryz.prog 41 #[.slice none 0 0, .slice none 0 0] w fun e w' => e = .returned (.bool true) ∧ w = w' := by
 go_enter Tryz.func41, Tryz.ntmps41
 go_wp2_with fail
 go_loopw [5] (fun i wr => i = .int .i64 0 ∧ w = wr) (fun _ _ => 0)
 case atStart => exact ⟨rfl, rfl⟩
 case round =>
  obtain ⟨rfl, rfl⟩ := hrel
  go_wp2_with fail
  go_ret
  exact ⟨rfl, rfl⟩
theorem eq_methods (w : World) : Calls Tryz.prog 42 #[.slice none 0 0, .slice none 0 0] w fun e w' => e = .returned (.bool true) ∧ w = w' := by
 go_enter Tryz.func42, Tryz.ntmps42
 go_wp2_with fail
 go_loopw [5] (fun i wr => i = .int .i64 0 ∧ w = wr) (fun _ _ => 0)
 case atStart => exact ⟨rfl, rfl⟩
 case round =>
  obtain ⟨rfl, rfl⟩ := hrel
  go_wp2_with fail
  go_ret
  exact ⟨rfl, rfl⟩
theorem mark_fields (k : Int) (w : World) : Calls Tryz.prog 43 #[.slice none 0 0, .int .i64 k] w fun e w' => e = .returned (.int .i64 k) ∧ w = w' := by
 go_enter Tryz.func43, Tryz.ntmps43
 go_wp2_with fail
 go_loopw [1, 5] (fun q i wr => q = .int .i64 k ∧ i = .int .i64 0 ∧ w = wr) (fun _ _ _ => 0)
 case atStart => exact ⟨rfl, rfl, rfl⟩
 case round =>
  obtain ⟨rfl, rfl, rfl⟩ := hrel
  go_wp2_with fail
  go_ret
  exact ⟨rfl, rfl⟩
theorem mark_methods (k : Int) (w : World) : Calls Tryz.prog 44 #[.slice none 0 0, .int .i64 k] w fun e w' => e = .returned (.int .i64 k) ∧ w = w' := by
 go_enter Tryz.func44, Tryz.ntmps44
 go_wp2_with fail
 go_loopw [1, 5] (fun q i wr => q = .int .i64 k ∧ i = .int .i64 0 ∧ w = wr) (fun _ _ _ => 0)
 case atStart => exact ⟨rfl, rfl, rfl⟩
 case round =>
  obtain ⟨rfl, rfl, rfl⟩ := hrel
  go_wp2_with fail
  go_ret
  exact ⟨rfl, rfl⟩
theorem held_fields (k : Int) (w : World) : Calls Tryz.prog 45 #[.slice none 0 0, .int .i64 k] w fun e w' => e = .returned (.int .i64 k) ∧ w = w' := by
 go_enter Tryz.func45, Tryz.ntmps45
 go_wp2_with fail
 go_loopw [1, 5] (fun q i wr => q = .int .i64 k ∧ i = .int .i64 0 ∧ w = wr) (fun _ _ _ => 0)
 case atStart => exact ⟨rfl, rfl, rfl⟩
 case round =>
  obtain ⟨rfl, rfl, rfl⟩ := hrel
  go_wp2_with fail
  go_ret
  exact ⟨rfl, rfl⟩
theorem held_methods (k : Int) (w : World) : Calls Tryz.prog 46 #[.slice none 0 0, .int .i64 k] w fun e w' => e = .returned (.int .i64 k) ∧ w = w' := by
 go_enter Tryz.func46, Tryz.ntmps46
 go_wp2_with fail
 go_loopw [1, 5] (fun q i wr => q = .int .i64 k ∧ i = .int .i64 0 ∧ w = wr) (fun _ _ _ => 0)
 case atStart => exact ⟨rfl, rfl, rfl⟩
 case round =>
  obtain ⟨rfl, rfl, rfl⟩ := hrel
  go_wp2_with fail
  go_ret
  exact ⟨rfl, rfl⟩
abbrev zeroK : Array Value := #[.string ⟨#[]⟩, .string ⟨#[]⟩, .slice none 0 0, .slice none 0 0]
theorem eq_class (w : World) : Calls Tryz.prog 22 #[.agg zeroK, .agg zeroK] w fun e w' => e = .returned (.bool true) ∧ Ext w w' := by
 go_enter Tryz.func22, Tryz.ntmps22
 go_wp2_with fail
 refine (eq_fields _).mono ?_
 rintro e w1 ⟨rfl, rfl⟩
 go_wp2_with fail
 refine (eq_methods _).mono ?_
 rintro e w1 ⟨rfl, rfl⟩
 go_wp2_with fail
 go_ret
 exact ⟨rfl, (by repeat (first | with_reducible exact Kp.refl _ _ | with_reducible assumption | with_reducible refine Kp.alloc ?_ _ | with_reducible refine Kp.drew ?_ | with_reducible refine Kp.drewN ?_ _ | with_reducible refine Kp.setCell ?_ (fun h => absurd h (by simp <;> omega)) _ | with_reducible refine Kp.trans ?_ (by with_reducible assumption) | exact Kp.refl _ _ | assumption | refine Kp.alloc ?_ _ | refine Kp.drew ?_ | refine Kp.drewN ?_ _ | (refine Kp.setCell ?_ (fun h => absurd h (by simp; done)) _) | (refine Kp.setCell ?_ (fun h => absurd h (by simp; omega)) _) | refine Kp.trans ?_ (by assumption)))⟩
theorem mark_class (k : Int) (w : World) : Calls Tryz.prog 23 #[.agg zeroK, .int .i64 k] w fun e w' => e = .returned (.int .i64 k) ∧ Ext w w' := by
 go_enter Tryz.func23, Tryz.ntmps23
 go_wp2_with fail
 refine (mark_fields _ _).mono ?_
 rintro e w1 ⟨rfl, rfl⟩
 go_wp2_with fail
 refine (mark_methods _ _).mono ?_
 rintro e w1 ⟨rfl, rfl⟩
 go_wp2_with fail
 go_ret
 exact ⟨rfl, (by repeat (first | with_reducible exact Kp.refl _ _ | with_reducible assumption | with_reducible refine Kp.alloc ?_ _ | with_reducible refine Kp.drew ?_ | with_reducible refine Kp.drewN ?_ _ | with_reducible refine Kp.setCell ?_ (fun h => absurd h (by simp <;> omega)) _ | with_reducible refine Kp.trans ?_ (by with_reducible assumption) | exact Kp.refl _ _ | assumption | refine Kp.alloc ?_ _ | refine Kp.drew ?_ | refine Kp.drewN ?_ _ | (refine Kp.setCell ?_ (fun h => absurd h (by simp; done)) _) | (refine Kp.setCell ?_ (fun h => absurd h (by simp; omega)) _) | refine Kp.trans ?_ (by assumption)))⟩
theorem held_class (w : World) : Calls Tryz.prog 24 #[.agg zeroK, .int .i64 1] w fun e w' => e = .returned (.int .i64 1) ∧ Ext w w' := by
 go_enter Tryz.func24, Tryz.ntmps24
 go_wp2_with fail
 refine (held_fields _ _).mono ?_
 rintro e w1 ⟨rfl, rfl⟩
 go_wp2_with fail
 refine (held_methods _ _).mono ?_
 rintro e w1 ⟨rfl, rfl⟩
 go_wp2_with fail
 go_ret
 exact ⟨rfl, (by repeat (first | with_reducible exact Kp.refl _ _ | with_reducible assumption | with_reducible refine Kp.alloc ?_ _ | with_reducible refine Kp.drew ?_ | with_reducible refine Kp.drewN ?_ _ | with_reducible refine Kp.setCell ?_ (fun h => absurd h (by simp <;> omega)) _ | with_reducible refine Kp.trans ?_ (by with_reducible assumption) | exact Kp.refl _ _ | assumption | refine Kp.alloc ?_ _ | refine Kp.drew ?_ | refine Kp.drewN ?_ _ | (refine Kp.setCell ?_ (fun h => absurd h (by simp; done)) _) | (refine Kp.setCell ?_ (fun h => absurd h (by simp; omega)) _) | refine Kp.trans ?_ (by assumption)))⟩
abbrev chgV (c : M.Chg) : Array Value := #[.int .i64 c.kind, .int .i64 c.keeper, .string c.name, .int .i64 c.dst, .string ⟨#[]⟩, .string ⟨#[]⟩, .slice none 0 0, .slice none 0 0]
theorem eq_chg (c : M.Chg) (w : World) : Calls Tryz.prog 7 #[.agg (chgV c), .agg (chgV c)] w fun e w' => e = .returned (.bool true) ∧ Ext w w' := by
 obtain ⟨kind, keeper, name, dst⟩ := c
 simp only [chgV]
 go_enter Tryz.func7, Tryz.ntmps7
 go_wp2_with fail
 refine (eq_class _).mono ?_
 rintro e w1 ⟨rfl, hE⟩
 have HE : Hid (Ext w w1) := hid ((((Kp.refl _ _).alloc _).alloc _ : Ext w _).trans hE)
 clear hE
 go_wp2_with fail
 go_ret
 exact ⟨rfl, HE.out⟩
theorem mark_chg (c : M.Chg) (k : Int) (w : World) : Calls Tryz.prog 8 #[.agg (chgV c), .int .i64 k] w fun e w' => e = .returned (.int .i64 k) ∧ Ext w w' := by
 obtain ⟨kind, keeper, name, dst⟩ := c
 simp only [chgV]
 go_enter Tryz.func8, Tryz.ntmps8
 go_wp2_with fail
 refine (mark_class k _).mono ?_
 rintro e w1 ⟨rfl, hE⟩
 have HE : Hid (Ext w w1) := hid (((Kp.refl _ _).alloc _ : Ext w _).trans hE)
 clear hE
 go_wp2_with fail
 go_ret
 exact ⟨rfl, HE.out⟩
theorem held_chg (c : M.Chg) (w : World) : Calls Tryz.prog 9 #[.agg (chgV c), .int .i64 1] w fun e w' => e = .returned (.int .i64 1) ∧ Ext w w' := by
 obtain ⟨kind, keeper, name, dst⟩ := c
 simp only [chgV]
 go_enter Tryz.func9, Tryz.ntmps9
 go_wp2_with fail
 refine (held_class _).mono ?_
 rintro e w1 ⟨rfl, hE⟩
 have HE : Hid (Ext w w1) := hid (((Kp.refl _ _).alloc _ : Ext w _).trans hE)
 clear hE
 go_wp2_with fail
 go_ret
 exact ⟨rfl, HE.out⟩
theorem chgRet_form (r : Option M.Chg) : ∃ (c : M.Chg) (b : Bool), chgRet r = .returned (.tuple #[.agg (chgV c), .bool b]) := by
 cases r with
 | none => exact ⟨⟨0, 0, M.none_, 0⟩, false, rfl⟩
 | some c => exact ⟨c, true, rfl⟩
theorem law_chg_read (s : ByteArray) (w : World) (hv : VarsAt w) :
    Calls Tryz.prog 3 #[.string s] w fun e w' => e = .returned (.bool true) ∧ Ext w w' := by
 by_cases hl : (1048576 : Int) < s.size
 · go_enter Tryz.func3, Tryz.ntmps3
   go_wp2_with fail
   go_ret
   exact ⟨rfl, Kp.refl _ _⟩
 have hs : s.size ≤ 4000000000 := by omega
 have HV := hid hv
 clear hv
 go_enter Tryz.func3, Tryz.ntmps3
 go_wp2_with fail
 refine (sp_chg_read s w hs).mono ?_
 rintro e w1 ⟨⟨r, rfl, hr⟩, hE1⟩
 have HRD : Hid (∀ W, VarsAt W → Calls Tryz.prog 6 #[.string s] W fun e w' => e = chgRet r ∧ Ext W w') := hid (fun W hW => (chg_read s W hs hW).mono fun e w' ⟨⟨r', he, hr'⟩, hE⟩ => ⟨by rw [he, hr'.one hr], hE⟩)
 obtain ⟨c, b, hf⟩ := chgRet_form r
 rw [hf] at HRD ⊢
 clear hf hr
 obtain ⟨kind, keeper, name, dst⟩ := c
 have HEQ := fun W => hid (eq_chg ⟨kind, keeper, name, dst⟩ W)
 have HMK := fun W => hid (mark_chg ⟨kind, keeper, name, dst⟩ 1 W)
 have HHL := fun W => hid (held_chg ⟨kind, keeper, name, dst⟩ W)
 simp only [chgV] at HRD HEQ HMK HHL ⊢
 obtain ⟨w2, hw2⟩ : ∃ w2, w2 = w1.alloc (.cells #[.int .i64 kind, .int .i64 keeper, .string name, .int .i64 dst, .string ⟨#[]⟩, .string ⟨#[]⟩, .slice none 0 0, .slice none 0 0] 27) := ⟨_, rfl⟩
 have hE2 : Ext w1 w2 := by rw [hw2]; exact (by repeat (first | with_reducible exact Kp.refl _ _ | with_reducible assumption | with_reducible refine Kp.alloc ?_ _ | with_reducible refine Kp.drew ?_ | with_reducible refine Kp.drewN ?_ _ | with_reducible refine Kp.setCell ?_ (fun h => absurd h (by simp <;> omega)) _ | with_reducible refine Kp.trans ?_ (by with_reducible assumption) | exact Kp.refl _ _ | assumption | refine Kp.alloc ?_ _ | refine Kp.drew ?_ | refine Kp.drewN ?_ _ | (refine Kp.setCell ?_ (fun h => absurd h (by simp; done)) _) | (refine Kp.setCell ?_ (fun h => absurd h (by simp; omega)) _) | refine Kp.trans ?_ (by assumption)))
 have h3 : Blk w2 w1.heap.size 27 #[.int .i64 kind, .int .i64 keeper, .string name, .int .i64 dst, .string ⟨#[]⟩, .string ⟨#[]⟩, .slice none 0 0, .slice none 0 0] := by rw [hw2]; exact Blk.new _ _ _
 have H3 := hid h3
 have HE2 := hid (hE1.trans hE2)
 have HW2 := hid hw2
 clear hE1 hE2 h3 hw2
 go_wp2_with fail
 rw [← HW2.out]
 refine (HRD.out w2 (HV.out.ext HE2.out)).mono ?_
 rintro e w3 ⟨rfl, hE3⟩
 obtain ⟨w4, hw4⟩ : ∃ w4, w4 = w3.alloc (.cells #[.int .i64 kind, .int .i64 keeper, .string name, .int .i64 dst, .string ⟨#[]⟩, .string ⟨#[]⟩, .slice none 0 0, .slice none 0 0] 27) := ⟨_, rfl⟩
 have hE4 : Ext w3 w4 := by rw [hw4]; exact (by repeat (first | with_reducible exact Kp.refl _ _ | with_reducible assumption | with_reducible refine Kp.alloc ?_ _ | with_reducible refine Kp.drew ?_ | with_reducible refine Kp.drewN ?_ _ | with_reducible refine Kp.setCell ?_ (fun h => absurd h (by simp <;> omega)) _ | with_reducible refine Kp.trans ?_ (by with_reducible assumption) | exact Kp.refl _ _ | assumption | refine Kp.alloc ?_ _ | refine Kp.drew ?_ | refine Kp.drewN ?_ _ | (refine Kp.setCell ?_ (fun h => absurd h (by simp; done)) _) | (refine Kp.setCell ?_ (fun h => absurd h (by simp; omega)) _) | refine Kp.trans ?_ (by assumption)))
 have h5 : Blk w4 w3.heap.size 27 #[.int .i64 kind, .int .i64 keeper, .string name, .int .i64 dst, .string ⟨#[]⟩, .string ⟨#[]⟩, .slice none 0 0, .slice none 0 0] := by rw [hw4]; exact Blk.new _ _ _
 have H3b := hid (H3.out.ext hE3)
 have H5 := hid h5
 have HE4 := hid (HE2.out.trans (hE3.trans hE4))
 have H3c := hid (H3b.out.ext hE4)
 have HW4 := hid hw4
 clear hE3 hE4 h5 hw4
 have a0 := H3b.out.c 0 (.int .i64 kind) rfl
 have a1 := H3b.out.c 1 (.int .i64 keeper) rfl
 have a2 := H3b.out.c 2 (.string name) rfl
 have a3 := H3b.out.c 3 (.int .i64 dst) rfl
 have a4 := H3b.out.c 4 (.string ⟨#[]⟩) rfl
 have a5 := H3b.out.c 5 (.string ⟨#[]⟩) rfl
 have a6 := H3b.out.c 6 (.slice none 0 0) rfl
 have a7 := H3b.out.c 7 (.slice none 0 0) rfl
 have az := H3b.out.lt
 go_wp2_with fail
 rw [← HW4.out]
 refine (HEQ w4).out.mono ?_
 rintro e w5 ⟨rfl, hE5⟩
 clear a0 a1 a2 a3 a4 a5 a6 a7 az
 have H5_5 := hid (H5.out.ext hE5)
 have H3_5 := hid (H3c.out.ext hE5)
 have HE5 := hid (HE4.out.trans hE5)
 clear hE5
 have b0 := H5_5.out.c 0 (.int .i64 kind) rfl
 have b1 := H5_5.out.c 1 (.int .i64 keeper) rfl
 have b2 := H5_5.out.c 2 (.string name) rfl
 have b3 := H5_5.out.c 3 (.int .i64 dst) rfl
 have b4 := H5_5.out.c 4 (.string ⟨#[]⟩) rfl
 have b5 := H5_5.out.c 5 (.string ⟨#[]⟩) rfl
 have b6 := H5_5.out.c 6 (.slice none 0 0) rfl
 have b7 := H5_5.out.c 7 (.slice none 0 0) rfl
 have bz := H5_5.out.lt
 go_wp2_with fail
 refine (HMK w5).out.mono ?_
 rintro e w6 ⟨rfl, hE6⟩
 clear b0 b1 b2 b3 b4 b5 b6 b7 bz
 have H5_6 := hid (H5_5.out.ext hE6)
 have H3_6 := hid (H3_5.out.ext hE6)
 have HE6 := hid (HE5.out.trans hE6)
 clear hE6
 have b0 := H5_6.out.c 0 (.int .i64 kind) rfl
 have b1 := H5_6.out.c 1 (.int .i64 keeper) rfl
 have b2 := H5_6.out.c 2 (.string name) rfl
 have b3 := H5_6.out.c 3 (.int .i64 dst) rfl
 have b4 := H5_6.out.c 4 (.string ⟨#[]⟩) rfl
 have b5 := H5_6.out.c 5 (.string ⟨#[]⟩) rfl
 have b6 := H5_6.out.c 6 (.slice none 0 0) rfl
 have b7 := H5_6.out.c 7 (.slice none 0 0) rfl
 have bz := H5_6.out.lt
 go_wp2_with fail
 refine (HHL w6).out.mono ?_
 rintro e w7 ⟨rfl, hE7⟩
 clear b0 b1 b2 b3 b4 b5 b6 b7 bz
 have H5_7 := hid (H5_6.out.ext hE7)
 have H3_7 := hid (H3_6.out.ext hE7)
 have HE7 := hid (HE6.out.trans hE7)
 clear hE7
 go_wp2_with fail
 refine (HRD.out w7 (HV.out.ext HE7.out)).mono ?_
 rintro e w8 ⟨rfl, hE8⟩
 have H5_8 := hid (H5_7.out.ext hE8)
 have H3_8 := hid (H3_7.out.ext hE8)
 have HE8 := hid (HE7.out.trans hE8)
 clear hE8
 obtain ⟨w9, hw9⟩ : ∃ w9, w9 = w8.alloc (.cells #[.int .i64 kind, .int .i64 keeper, .string name, .int .i64 dst, .string ⟨#[]⟩, .string ⟨#[]⟩, .slice none 0 0, .slice none 0 0] 27) := ⟨_, rfl⟩
 have hE9 : Ext w8 w9 := by rw [hw9]; exact (by repeat (first | with_reducible exact Kp.refl _ _ | with_reducible assumption | with_reducible refine Kp.alloc ?_ _ | with_reducible refine Kp.drew ?_ | with_reducible refine Kp.drewN ?_ _ | with_reducible refine Kp.setCell ?_ (fun h => absurd h (by simp <;> omega)) _ | with_reducible refine Kp.trans ?_ (by with_reducible assumption) | exact Kp.refl _ _ | assumption | refine Kp.alloc ?_ _ | refine Kp.drew ?_ | refine Kp.drewN ?_ _ | (refine Kp.setCell ?_ (fun h => absurd h (by simp; done)) _) | (refine Kp.setCell ?_ (fun h => absurd h (by simp; omega)) _) | refine Kp.trans ?_ (by assumption)))
 have HW9 := hid hw9
 clear hw9
 have a0 := H3_8.out.c 0 (.int .i64 kind) rfl
 have a1 := H3_8.out.c 1 (.int .i64 keeper) rfl
 have a2 := H3_8.out.c 2 (.string name) rfl
 have a3 := H3_8.out.c 3 (.int .i64 dst) rfl
 have a4 := H3_8.out.c 4 (.string ⟨#[]⟩) rfl
 have a5 := H3_8.out.c 5 (.string ⟨#[]⟩) rfl
 have a6 := H3_8.out.c 6 (.slice none 0 0) rfl
 have a7 := H3_8.out.c 7 (.slice none 0 0) rfl
 have az := H3_8.out.lt
 have H5_9 := hid (H5_8.out.ext hE9)
 have H3_9 := hid (H3_8.out.ext hE9)
 have HE9 := hid (HE8.out.trans hE9)
 clear hE9
 go_wp2_with fail
 rw [← HW9.out]
 refine (HEQ w9).out.mono ?_
 rintro e w10 ⟨rfl, hE10⟩
 clear a0 a1 a2 a3 a4 a5 a6 a7 az
 have H5_10 := hid (H5_9.out.ext hE10)
 have H3_10 := hid (H3_9.out.ext hE10)
 have HE10 := hid (HE9.out.trans hE10)
 clear hE10
 have b0 := H5_10.out.c 0 (.int .i64 kind) rfl
 have b1 := H5_10.out.c 1 (.int .i64 keeper) rfl
 have b2 := H5_10.out.c 2 (.string name) rfl
 have b3 := H5_10.out.c 3 (.int .i64 dst) rfl
 have b4 := H5_10.out.c 4 (.string ⟨#[]⟩) rfl
 have b5 := H5_10.out.c 5 (.string ⟨#[]⟩) rfl
 have b6 := H5_10.out.c 6 (.slice none 0 0) rfl
 have b7 := H5_10.out.c 7 (.slice none 0 0) rfl
 have bz := H5_10.out.lt
 go_wp2_with fail
 refine (HHL w10).out.mono ?_
 rintro e w11 ⟨rfl, hE11⟩
 clear b0 b1 b2 b3 b4 b5 b6 b7 bz
 have HE11 := hid (HE10.out.trans hE11)
 clear hE11
 go_wp2_with fail
 go_ret
 exact ⟨rfl, HE11.out⟩
end Go.Proofs.YtkndccgackohnaaGreatDoor
