/- Walks: the reference reads a line of what is turned.; Walks: the program's numbers, read.; Walks: what the program lets be turned.; Walks: what the program lets be turned. (Printed by gen_t11.py.); Walks: the program's text of what is turned.; The library's split at a space gives the words. -/
import Derived.Test.YtkndccgackohnaaGreatDoorChgReadb
import Derived.Test.YtkndccgackohnaaGreatDoorShelf
import Derived.Lib.AtoiBound
import Derived.Lib.ItoaLen
import Derived.WalkSmall
import Derived.Lib.SplitLaws
import Derived.Lib.IndexBytes
set_option maxRecDepth 100000
set_option maxHeartbeats 4000000
set_option linter.unusedSimpArgs false
set_option linter.unusedVariables false
namespace Go.Proofs.YtkndccgackohnaaGreatDoor
open Go Go.RowKit
open Go.Lib (hid)
theorem toList_ne {a b : ByteArray} (h : (a.toList == b.toList) = false) : a ≠ b := fun e => by
 subst e
 rw [beq_self_eq_true] at h
 cases h
theorem agg_chg : Agg 27 8 := ⟨_, Tryz.underlying27, by kernel_rfl⟩
namespace M
theorem wordsGo_size : ∀ (l cur : List UInt8), ∀ x ∈ wordsGo cur l, x.length ≤ cur.length + l.length
 | [], cur, x, h => by simp [wordsGo] at h; subst h; simp
 | c :: r, cur, x, h => by
  rw [wordsGo] at h
  split at h
  · rcases List.mem_cons.1 h with rfl | h
    · omega
    · have := wordsGo_size r [] x h
      simp at this ⊢; omega
  · have := wordsGo_size r _ x h
    simp at this ⊢; omega
theorem words_size {s x : ByteArray} (h : x ∈ words s) : x.size ≤ s.size := by
 unfold words at h
 obtain ⟨l, hl, rfl⟩ := List.mem_map.1 h
 have := wordsGo_size s.data.toList [] l hl
 have e : (bs l).size = l.length := by simp [bs, ByteArray.size]
 have e2 : s.data.toList.length = s.size := by simp
 simp at this
 omega
theorem bs_beq (x : ByteArray) (l : List UInt8) : (x.toList == l) = decide (x = bs l) := by
 rw [ByteArray.toList_eq]
 by_cases h : x = bs l
 · subst h; simp [bs]
 · rw [decide_eq_false h]
   apply beq_eq_false_iff_ne.2
   intro e
   exact h (ByteArray.ext (Array.toList_inj.1 (by rw [e]; rfl)))
theorem kind_cases (x : ByteArray) : (kindOf x = 2 ∧ (x.toList == [116, 97, 107, 101]) = true) ∨ (kindOf x = 3 ∧ (x.toList == [116, 97, 107, 101]) = false ∧ (x.toList == [97, 115, 107]) = true) ∨
    (kindOf x = 4 ∧ (x.toList == [116, 97, 107, 101]) = false ∧ (x.toList == [97, 115, 107]) = false ∧ (x.toList == [102, 114, 101, 101]) = true) ∨
    (kindOf x = 0 ∧ (x.toList == [116, 97, 107, 101]) = false ∧ (x.toList == [97, 115, 107]) = false ∧ (x.toList == [102, 114, 101, 101]) = false) := by
 rw [bs_beq, bs_beq, bs_beq]
 unfold kindOf
 by_cases h1 : x = bs takeW
 · rw [if_pos h1]; exact .inl ⟨rfl, decide_eq_true h1⟩
 rw [if_neg h1]
 by_cases h2 : x = bs askW
 · rw [if_pos h2]; exact .inr (.inl ⟨rfl, decide_eq_false h1, decide_eq_true h2⟩)
 rw [if_neg h2]
 by_cases h3 : x = bs freeW
 · rw [if_pos h3]; exact .inr (.inr (.inl ⟨rfl, decide_eq_false h1, decide_eq_false h2, decide_eq_true h3⟩))
 · rw [if_neg h3]; exact .inr (.inr (.inr ⟨rfl, decide_eq_false h1, decide_eq_false h2, decide_eq_false h3⟩))
theorem chgOut_one (c : Chg) : chgOut c (clsNone none_ none_ 0 0) = chgText c := by
 unfold chgOut chgText
 rw [show clsNone none_ none_ 0 0 = true from rfl, Bool.and_true]
end M
abbrev zeroC : List Value := [.int .i64 0, .int .i64 0, .string ⟨#[]⟩, .int .i64 0, .string ⟨#[]⟩, .string ⟨#[]⟩, .slice none 0 0, .slice none 0 0]
def chgRet : Option M.Chg → Ending
 | some c => .returned (.tuple #[.agg (chgCs c M.none_ M.none_ none 0 0 none 0 0).toArray, .bool true])
 | none => .returned (.tuple #[.agg zeroC.toArray, .bool false])
def LineP (s : ByteArray) (e : Ending) : Prop := ∃ r, e = chgRet r ∧ M.Says s r
theorem sp_chg_read (s : ByteArray) (w : World) (hs : s.size ≤ 4000000000) :
    Calls Tryz.prog 5 #[.string s] w fun e w' => LineP s e ∧ Ext w w' := by
 obtain ⟨w0, hw0⟩ : ∃ w0, w0 = w.alloc (.cells zeroC.toArray 27) := ⟨_, rfl⟩
 have hE0 : Ext w w0 := by rw [hw0]; exact (by repeat (first | with_reducible exact Kp.refl _ _ | with_reducible assumption | with_reducible refine Kp.alloc ?_ _ | with_reducible refine Kp.drew ?_ | with_reducible refine Kp.drewN ?_ _ | with_reducible refine Kp.setCell ?_ (fun h => absurd h (by simp <;> omega)) _ | with_reducible refine Kp.trans ?_ (by with_reducible assumption) | exact Kp.refl _ _ | assumption | refine Kp.alloc ?_ _ | refine Kp.drew ?_ | refine Kp.drewN ?_ _ | (refine Kp.setCell ?_ (fun h => absurd h (by simp; done)) _) | (refine Kp.setCell ?_ (fun h => absurd h (by simp; omega)) _) | refine Kp.trans ?_ (by assumption)))
 have hb : Blk w0 w.heap.size 27 zeroC.toArray := by rw [hw0]; exact Blk.new _ _ _
 have HE0 := hid hE0
 have HB := hid hb
 have HW0 := hid hw0
 clear hE0 hb hw0
 go_enter Tryz.func5, Tryz.ntmps5
 go_wp2_with fail
 rw [← HW0.out]
 refine (sp_words s w0 hs).mono ?_
 rintro e w1 ⟨⟨v, rfl, hS⟩, hE1⟩
 obtain ⟨a, cap, rfl, hcap, -⟩ := hS.form
 have hb1 := HB.out.ext hE1
 have yz := hb1.lt
 have y0 := hb1.c 0 (.int .i64 0) rfl
 have y1 := hb1.c 1 (.int .i64 0) rfl
 have y2 := hb1.c 2 (.string ⟨#[]⟩) rfl
 have y3 := hb1.c 3 (.int .i64 0) rfl
 have y4 := hb1.c 4 (.string ⟨#[]⟩) rfl
 have y5 := hb1.c 5 (.string ⟨#[]⟩) rfl
 have y6 := hb1.c 6 (.slice none 0 0) rfl
 have y7 := hb1.c 7 (.slice none 0 0) rfl
 have f0 := hb1.frozen 0
 have f1 := hb1.frozen 1
 have f2 := hb1.frozen 2
 have f3 := hb1.frozen 3
 have f4 := hb1.frozen 4
 have f5 := hb1.frozen 5
 have f6 := hb1.frozen 6
 have f7 := hb1.frozen 7
 have HB1 := hid hb1
 have HE1 := hid (HE0.out.trans hE1)
 have HS := hid hS
 clear hb1 hE1 hS
 by_cases hl : (M.words s).length < 3 ∨ 4 < (M.words s).length
 · have HR := hid (M.says_len hl)
   obtain ⟨n, hn⟩ : ∃ n, (M.words s).length = n := ⟨_, rfl⟩
   rw [hn] at hl ⊢
   clear hn hcap HS
   go_wp2_with fail
   all_goals
    refine bodyPost_ret (results_agg2 agg_chg rfl _ _ w.heap.size rfl zeroC (CellsAt.ofB (Blk.set8 HB1.out _ _ _ _ _ _ _ _)) rfl) rfl ?_
    exact ⟨⟨none, rfl, HR.out⟩, HE1.out.own (Kp.set8 (D := (· = w.heap.size)) rfl _ _ _ _ _ _ _ _) (fun _ e => by omega)⟩
 · obtain ⟨ws, hws⟩ : ∃ ws, M.words s = ws := ⟨_, rfl⟩
   have HWS := hid hws
   have HSZ : Hid (∀ x ∈ ws, x.size ≤ 4000000000) := hid (fun x hx => Nat.le_trans (M.words_size (by rw [hws]; exact hx)) hs)
   rw [hws] at hl HS hcap ⊢
   clear hws
   match ws, hl, HWS, HS, HSZ, hcap with
   | [], hl, _, _, _, _ => simp at hl
   | [_], hl, _, _, _, _ => simp at hl
   | [_, _], hl, _, _, _, _ => simp at hl
   | _ :: _ :: _ :: _ :: _ :: _, hl, _, _, _, _ => simp at hl
   | [x0, x1, x2], _, HWS, HS, HSZ, hcap =>
    obtain ⟨b, off, rfl, g0, g1, g2, hc3⟩ := StrL.three HS.out
    have bz := cell_lt g0
    have HR1 := fun W => hid (sp_read x1 W (HSZ.out x1 (by simp)))
    have HG0 := hid g0
    have HG2 := hid g2
    clear hcap HS HSZ
    go_wp2_with fail
    refine (HR1 w1).out.mono ?_
    rintro e w2 ⟨⟨n, ok, rfl, hrd⟩, hE2⟩
    have HRD := hid hrd
    have hb2 := HB1.out.ext hE2
    have zz := hb2.lt
    have z0 := hb2.c 0 (.int .i64 0) rfl
    have z1 := hb2.c 1 (.int .i64 0) rfl
    have z2 := hb2.c 2 (.string ⟨#[]⟩) rfl
    have z3 := hb2.c 3 (.int .i64 0) rfl
    have z4 := hb2.c 4 (.string ⟨#[]⟩) rfl
    have z5 := hb2.c 5 (.string ⟨#[]⟩) rfl
    have z6 := hb2.c 6 (.slice none 0 0) rfl
    have z7 := hb2.c 7 (.slice none 0 0) rfl
    have e0 := hb2.frozen 0
    have e1 := hb2.frozen 1
    have e2 := hb2.frozen 2
    have e3 := hb2.frozen 3
    have e4 := hb2.frozen 4
    have e5 := hb2.frozen 5
    have e6 := hb2.frozen 6
    have e7 := hb2.frozen 7
    have q0 := hE2.cellE HG0.out
    have q2 := hE2.cellE HG2.out
    have qz := cell_lt q0
    have HB2 := hid hb2
    have HE2 := hid (HE1.out.trans hE2)
    clear hrd hb2 hE2 y0 y1 y2 y3 y4 y5 y6 y7 f0 f1 f2 f3 f4 f5 f6 f7 yz g0 g1 g2 bz
    rcases M.kind_cases x0 with ⟨hK, h1⟩ | ⟨hK, h1, h2⟩ | ⟨hK, h1, h2, h3⟩ | ⟨hK, h1, h2, h3⟩
    · have HK := hid hK
      clear hK
      cases ok
      · have HS := hid (M.says_three HWS.out HRD.out (by rw [HK.out]; exact .inl rfl))
        go_wp2_with fail
        refine bodyPost_ret (results_agg2 agg_chg rfl _ _ w.heap.size rfl zeroC (CellsAt.ofB ((Blk.set8 HB2.out _ _ _ _ _ _ _ _).ext ((Kp.refl _ _).alloc _))) rfl) rfl ?_
        exact ⟨⟨none, rfl, HS.out⟩, ((HE2.out.own (Kp.set8 (D := (· = w.heap.size)) rfl _ _ _ _ _ _ _ _) (fun _ e => by omega)) : Ext w _).alloc _⟩
      · go_wp2_with fail
        obtain ⟨w4, hw4⟩ : ∃ w4, w4 = w2.alloc (.cells #[.int .i64 2, .int .i64 n, .string x2, .int .i64 0, .string ⟨#[]⟩, .string ⟨#[]⟩, .slice none 0 0, .slice none 0 0] 27) := ⟨_, rfl⟩
        have hE4 : Ext w2 w4 := by rw [hw4]; exact (by repeat (first | with_reducible exact Kp.refl _ _ | with_reducible assumption | with_reducible refine Kp.alloc ?_ _ | with_reducible refine Kp.drew ?_ | with_reducible refine Kp.drewN ?_ _ | with_reducible refine Kp.setCell ?_ (fun h => absurd h (by simp <;> omega)) _ | with_reducible refine Kp.trans ?_ (by with_reducible assumption) | exact Kp.refl _ _ | assumption | refine Kp.alloc ?_ _ | refine Kp.drew ?_ | refine Kp.drewN ?_ _ | (refine Kp.setCell ?_ (fun h => absurd h (by simp; done)) _) | (refine Kp.setCell ?_ (fun h => absurd h (by simp; omega)) _) | refine Kp.trans ?_ (by assumption)))
        have hc4 : Blk w4 w2.heap.size 27 #[.int .i64 2, .int .i64 n, .string x2, .int .i64 0, .string ⟨#[]⟩, .string ⟨#[]⟩, .slice none 0 0, .slice none 0 0] := by rw [hw4]; exact Blk.new _ _ _
        have ht := sp_chg_text ⟨2, n, x2, 0⟩ (show (2 : Int) ≠ 1 by decide) M.none_ M.none_ none 0 0 none 0 0 w4
        rw [M.chgOut_one] at ht
        rw [← hw4]
        clear hw4
        refine ht.mono ?_
        rintro e w5 ⟨rfl, hE5⟩
        have hb5 := HB2.out.ext (hE4.trans hE5)
        have hc5 := hc4.ext hE5
        have HB5 := hid hb5
        have HE5 := hid (HE2.out.trans (hE4.trans hE5))
        have zz5 := hb5.lt
        have z0 := hb5.c 0 (.int .i64 0) rfl
        have z1 := hb5.c 1 (.int .i64 0) rfl
        have z2 := hb5.c 2 (.string ⟨#[]⟩) rfl
        have z3 := hb5.c 3 (.int .i64 0) rfl
        have z4 := hb5.c 4 (.string ⟨#[]⟩) rfl
        have z5 := hb5.c 5 (.string ⟨#[]⟩) rfl
        have z6 := hb5.c 6 (.slice none 0 0) rfl
        have z7 := hb5.c 7 (.slice none 0 0) rfl
        have e0 := hb5.frozen 0
        have e1 := hb5.frozen 1
        have e2 := hb5.frozen 2
        have e3 := hb5.frozen 3
        have e4 := hb5.frozen 4
        have e5 := hb5.frozen 5
        have e6 := hb5.frozen 6
        have e7 := hb5.frozen 7
        have k0 := hc5.c 0 (.int .i64 2) rfl
        have k1 := hc5.c 1 (.int .i64 n) rfl
        have k2 := hc5.c 2 (.string x2) rfl
        have k3 := hc5.c 3 (.int .i64 0) rfl
        have k4 := hc5.c 4 (.string ⟨#[]⟩) rfl
        have k5 := hc5.c 5 (.string ⟨#[]⟩) rfl
        have k6 := hc5.c 6 (.slice none 0 0) rfl
        have k7 := hc5.c 7 (.slice none 0 0) rfl
        have kz := hc5.lt
        clear ht hE4 hc4 hE5 hb5 hc5
        cases hq : ((M.chgText ⟨2, n, x2, 0⟩).toList == s.toList)
        · have HS := hid ((fun h => M.says_three HWS.out HRD.out (by rw [HK.out]; exact .inr h)) (toList_ne hq))
          go_wp2_with fail
          refine bodyPost_ret (results_agg2 agg_chg rfl _ _ w.heap.size rfl zeroC (CellsAt.ofB (Blk.set8 HB5.out _ _ _ _ _ _ _ _)) rfl) rfl ?_
          exact ⟨⟨none, rfl, HS.out⟩, HE5.out.own (Kp.set8 (D := (· = w.heap.size)) rfl _ _ _ _ _ _ _ _) (fun _ e => by omega)⟩
        · have HS := hid (M.says_yes (s := s) (c := ⟨2, n, x2, 0⟩) (by rw [HWS.out]; simp) (toList_eq_true hq))
          go_wp2_with fail
          refine bodyPost_ret (results_agg2 agg_chg rfl _ _ w.heap.size rfl [.int .i64 2, .int .i64 n, .string x2, .int .i64 0, .string ⟨#[]⟩, .string ⟨#[]⟩, .slice none 0 0, .slice none 0 0] (CellsAt.ofB (Blk.set8 HB5.out _ _ _ _ _ _ _ _)) rfl) rfl ?_
          exact ⟨⟨some _, rfl, HS.out⟩, HE5.out.own (Kp.set8 (D := (· = w.heap.size)) rfl _ _ _ _ _ _ _ _) (fun _ e => by omega)⟩
    · have HK := hid hK
      clear hK
      cases ok
      · have HS := hid (M.says_three HWS.out HRD.out (by rw [HK.out]; exact .inl rfl))
        go_wp2_with fail
        refine bodyPost_ret (results_agg2 agg_chg rfl _ _ w.heap.size rfl zeroC (CellsAt.ofB ((Blk.set8 HB2.out _ _ _ _ _ _ _ _).ext ((Kp.refl _ _).alloc _))) rfl) rfl ?_
        exact ⟨⟨none, rfl, HS.out⟩, ((HE2.out.own (Kp.set8 (D := (· = w.heap.size)) rfl _ _ _ _ _ _ _ _) (fun _ e => by omega)) : Ext w _).alloc _⟩
      · go_wp2_with fail
        obtain ⟨w4, hw4⟩ : ∃ w4, w4 = w2.alloc (.cells #[.int .i64 3, .int .i64 n, .string x2, .int .i64 0, .string ⟨#[]⟩, .string ⟨#[]⟩, .slice none 0 0, .slice none 0 0] 27) := ⟨_, rfl⟩
        have hE4 : Ext w2 w4 := by rw [hw4]; exact (by repeat (first | with_reducible exact Kp.refl _ _ | with_reducible assumption | with_reducible refine Kp.alloc ?_ _ | with_reducible refine Kp.drew ?_ | with_reducible refine Kp.drewN ?_ _ | with_reducible refine Kp.setCell ?_ (fun h => absurd h (by simp <;> omega)) _ | with_reducible refine Kp.trans ?_ (by with_reducible assumption) | exact Kp.refl _ _ | assumption | refine Kp.alloc ?_ _ | refine Kp.drew ?_ | refine Kp.drewN ?_ _ | (refine Kp.setCell ?_ (fun h => absurd h (by simp; done)) _) | (refine Kp.setCell ?_ (fun h => absurd h (by simp; omega)) _) | refine Kp.trans ?_ (by assumption)))
        have hc4 : Blk w4 w2.heap.size 27 #[.int .i64 3, .int .i64 n, .string x2, .int .i64 0, .string ⟨#[]⟩, .string ⟨#[]⟩, .slice none 0 0, .slice none 0 0] := by rw [hw4]; exact Blk.new _ _ _
        have ht := sp_chg_text ⟨3, n, x2, 0⟩ (show (3 : Int) ≠ 1 by decide) M.none_ M.none_ none 0 0 none 0 0 w4
        rw [M.chgOut_one] at ht
        rw [← hw4]
        clear hw4
        refine ht.mono ?_
        rintro e w5 ⟨rfl, hE5⟩
        have hb5 := HB2.out.ext (hE4.trans hE5)
        have hc5 := hc4.ext hE5
        have HB5 := hid hb5
        have HE5 := hid (HE2.out.trans (hE4.trans hE5))
        have zz5 := hb5.lt
        have z0 := hb5.c 0 (.int .i64 0) rfl
        have z1 := hb5.c 1 (.int .i64 0) rfl
        have z2 := hb5.c 2 (.string ⟨#[]⟩) rfl
        have z3 := hb5.c 3 (.int .i64 0) rfl
        have z4 := hb5.c 4 (.string ⟨#[]⟩) rfl
        have z5 := hb5.c 5 (.string ⟨#[]⟩) rfl
        have z6 := hb5.c 6 (.slice none 0 0) rfl
        have z7 := hb5.c 7 (.slice none 0 0) rfl
        have e0 := hb5.frozen 0
        have e1 := hb5.frozen 1
        have e2 := hb5.frozen 2
        have e3 := hb5.frozen 3
        have e4 := hb5.frozen 4
        have e5 := hb5.frozen 5
        have e6 := hb5.frozen 6
        have e7 := hb5.frozen 7
        have k0 := hc5.c 0 (.int .i64 3) rfl
        have k1 := hc5.c 1 (.int .i64 n) rfl
        have k2 := hc5.c 2 (.string x2) rfl
        have k3 := hc5.c 3 (.int .i64 0) rfl
        have k4 := hc5.c 4 (.string ⟨#[]⟩) rfl
        have k5 := hc5.c 5 (.string ⟨#[]⟩) rfl
        have k6 := hc5.c 6 (.slice none 0 0) rfl
        have k7 := hc5.c 7 (.slice none 0 0) rfl
        have kz := hc5.lt
        clear ht hE4 hc4 hE5 hb5 hc5
        cases hq : ((M.chgText ⟨3, n, x2, 0⟩).toList == s.toList)
        · have HS := hid ((fun h => M.says_three HWS.out HRD.out (by rw [HK.out]; exact .inr h)) (toList_ne hq))
          go_wp2_with fail
          refine bodyPost_ret (results_agg2 agg_chg rfl _ _ w.heap.size rfl zeroC (CellsAt.ofB (Blk.set8 HB5.out _ _ _ _ _ _ _ _)) rfl) rfl ?_
          exact ⟨⟨none, rfl, HS.out⟩, HE5.out.own (Kp.set8 (D := (· = w.heap.size)) rfl _ _ _ _ _ _ _ _) (fun _ e => by omega)⟩
        · have HS := hid (M.says_yes (s := s) (c := ⟨3, n, x2, 0⟩) (by rw [HWS.out]; simp) (toList_eq_true hq))
          go_wp2_with fail
          refine bodyPost_ret (results_agg2 agg_chg rfl _ _ w.heap.size rfl [.int .i64 3, .int .i64 n, .string x2, .int .i64 0, .string ⟨#[]⟩, .string ⟨#[]⟩, .slice none 0 0, .slice none 0 0] (CellsAt.ofB (Blk.set8 HB5.out _ _ _ _ _ _ _ _)) rfl) rfl ?_
          exact ⟨⟨some _, rfl, HS.out⟩, HE5.out.own (Kp.set8 (D := (· = w.heap.size)) rfl _ _ _ _ _ _ _ _) (fun _ e => by omega)⟩
    · have HK := hid hK
      clear hK
      cases ok
      · have HS := hid (M.says_three HWS.out HRD.out (by rw [HK.out]; exact .inl rfl))
        go_wp2_with fail
        refine bodyPost_ret (results_agg2 agg_chg rfl _ _ w.heap.size rfl zeroC (CellsAt.ofB ((Blk.set8 HB2.out _ _ _ _ _ _ _ _).ext ((Kp.refl _ _).alloc _))) rfl) rfl ?_
        exact ⟨⟨none, rfl, HS.out⟩, ((HE2.out.own (Kp.set8 (D := (· = w.heap.size)) rfl _ _ _ _ _ _ _ _) (fun _ e => by omega)) : Ext w _).alloc _⟩
      · go_wp2_with fail
        obtain ⟨w4, hw4⟩ : ∃ w4, w4 = w2.alloc (.cells #[.int .i64 4, .int .i64 n, .string x2, .int .i64 0, .string ⟨#[]⟩, .string ⟨#[]⟩, .slice none 0 0, .slice none 0 0] 27) := ⟨_, rfl⟩
        have hE4 : Ext w2 w4 := by rw [hw4]; exact (by repeat (first | with_reducible exact Kp.refl _ _ | with_reducible assumption | with_reducible refine Kp.alloc ?_ _ | with_reducible refine Kp.drew ?_ | with_reducible refine Kp.drewN ?_ _ | with_reducible refine Kp.setCell ?_ (fun h => absurd h (by simp <;> omega)) _ | with_reducible refine Kp.trans ?_ (by with_reducible assumption) | exact Kp.refl _ _ | assumption | refine Kp.alloc ?_ _ | refine Kp.drew ?_ | refine Kp.drewN ?_ _ | (refine Kp.setCell ?_ (fun h => absurd h (by simp; done)) _) | (refine Kp.setCell ?_ (fun h => absurd h (by simp; omega)) _) | refine Kp.trans ?_ (by assumption)))
        have hc4 : Blk w4 w2.heap.size 27 #[.int .i64 4, .int .i64 n, .string x2, .int .i64 0, .string ⟨#[]⟩, .string ⟨#[]⟩, .slice none 0 0, .slice none 0 0] := by rw [hw4]; exact Blk.new _ _ _
        have ht := sp_chg_text ⟨4, n, x2, 0⟩ (show (4 : Int) ≠ 1 by decide) M.none_ M.none_ none 0 0 none 0 0 w4
        rw [M.chgOut_one] at ht
        rw [← hw4]
        clear hw4
        refine ht.mono ?_
        rintro e w5 ⟨rfl, hE5⟩
        have hb5 := HB2.out.ext (hE4.trans hE5)
        have hc5 := hc4.ext hE5
        have HB5 := hid hb5
        have HE5 := hid (HE2.out.trans (hE4.trans hE5))
        have zz5 := hb5.lt
        have z0 := hb5.c 0 (.int .i64 0) rfl
        have z1 := hb5.c 1 (.int .i64 0) rfl
        have z2 := hb5.c 2 (.string ⟨#[]⟩) rfl
        have z3 := hb5.c 3 (.int .i64 0) rfl
        have z4 := hb5.c 4 (.string ⟨#[]⟩) rfl
        have z5 := hb5.c 5 (.string ⟨#[]⟩) rfl
        have z6 := hb5.c 6 (.slice none 0 0) rfl
        have z7 := hb5.c 7 (.slice none 0 0) rfl
        have e0 := hb5.frozen 0
        have e1 := hb5.frozen 1
        have e2 := hb5.frozen 2
        have e3 := hb5.frozen 3
        have e4 := hb5.frozen 4
        have e5 := hb5.frozen 5
        have e6 := hb5.frozen 6
        have e7 := hb5.frozen 7
        have k0 := hc5.c 0 (.int .i64 4) rfl
        have k1 := hc5.c 1 (.int .i64 n) rfl
        have k2 := hc5.c 2 (.string x2) rfl
        have k3 := hc5.c 3 (.int .i64 0) rfl
        have k4 := hc5.c 4 (.string ⟨#[]⟩) rfl
        have k5 := hc5.c 5 (.string ⟨#[]⟩) rfl
        have k6 := hc5.c 6 (.slice none 0 0) rfl
        have k7 := hc5.c 7 (.slice none 0 0) rfl
        have kz := hc5.lt
        clear ht hE4 hc4 hE5 hb5 hc5
        cases hq : ((M.chgText ⟨4, n, x2, 0⟩).toList == s.toList)
        · have HS := hid ((fun h => M.says_three HWS.out HRD.out (by rw [HK.out]; exact .inr h)) (toList_ne hq))
          go_wp2_with fail
          refine bodyPost_ret (results_agg2 agg_chg rfl _ _ w.heap.size rfl zeroC (CellsAt.ofB (Blk.set8 HB5.out _ _ _ _ _ _ _ _)) rfl) rfl ?_
          exact ⟨⟨none, rfl, HS.out⟩, HE5.out.own (Kp.set8 (D := (· = w.heap.size)) rfl _ _ _ _ _ _ _ _) (fun _ e => by omega)⟩
        · have HS := hid (M.says_yes (s := s) (c := ⟨4, n, x2, 0⟩) (by rw [HWS.out]; simp) (toList_eq_true hq))
          go_wp2_with fail
          refine bodyPost_ret (results_agg2 agg_chg rfl _ _ w.heap.size rfl [.int .i64 4, .int .i64 n, .string x2, .int .i64 0, .string ⟨#[]⟩, .string ⟨#[]⟩, .slice none 0 0, .slice none 0 0] (CellsAt.ofB (Blk.set8 HB5.out _ _ _ _ _ _ _ _)) rfl) rfl ?_
          exact ⟨⟨some _, rfl, HS.out⟩, HE5.out.own (Kp.set8 (D := (· = w.heap.size)) rfl _ _ _ _ _ _ _ _) (fun _ e => by omega)⟩
    · have HK := hid hK
      clear hK
      cases ok
      · have HS := hid (M.says_three HWS.out HRD.out (by rw [HK.out]; exact .inl rfl))
        go_wp2_with fail
        refine bodyPost_ret (results_agg2 agg_chg rfl _ _ w.heap.size rfl zeroC (CellsAt.ofB ((Blk.set8 HB2.out _ _ _ _ _ _ _ _).ext ((Kp.refl _ _).alloc _))) rfl) rfl ?_
        exact ⟨⟨none, rfl, HS.out⟩, ((HE2.out.own (Kp.set8 (D := (· = w.heap.size)) rfl _ _ _ _ _ _ _ _) (fun _ e => by omega)) : Ext w _).alloc _⟩
      · go_wp2_with fail
        obtain ⟨w4, hw4⟩ : ∃ w4, w4 = w2.alloc (.cells #[.int .i64 0, .int .i64 n, .string x2, .int .i64 0, .string ⟨#[]⟩, .string ⟨#[]⟩, .slice none 0 0, .slice none 0 0] 27) := ⟨_, rfl⟩
        have hE4 : Ext w2 w4 := by rw [hw4]; exact (by repeat (first | with_reducible exact Kp.refl _ _ | with_reducible assumption | with_reducible refine Kp.alloc ?_ _ | with_reducible refine Kp.drew ?_ | with_reducible refine Kp.drewN ?_ _ | with_reducible refine Kp.setCell ?_ (fun h => absurd h (by simp <;> omega)) _ | with_reducible refine Kp.trans ?_ (by with_reducible assumption) | exact Kp.refl _ _ | assumption | refine Kp.alloc ?_ _ | refine Kp.drew ?_ | refine Kp.drewN ?_ _ | (refine Kp.setCell ?_ (fun h => absurd h (by simp; done)) _) | (refine Kp.setCell ?_ (fun h => absurd h (by simp; omega)) _) | refine Kp.trans ?_ (by assumption)))
        have hc4 : Blk w4 w2.heap.size 27 #[.int .i64 0, .int .i64 n, .string x2, .int .i64 0, .string ⟨#[]⟩, .string ⟨#[]⟩, .slice none 0 0, .slice none 0 0] := by rw [hw4]; exact Blk.new _ _ _
        have ht := sp_chg_text ⟨0, n, x2, 0⟩ (show (0 : Int) ≠ 1 by decide) M.none_ M.none_ none 0 0 none 0 0 w4
        rw [M.chgOut_one] at ht
        rw [← hw4]
        clear hw4
        refine ht.mono ?_
        rintro e w5 ⟨rfl, hE5⟩
        have hb5 := HB2.out.ext (hE4.trans hE5)
        have hc5 := hc4.ext hE5
        have HB5 := hid hb5
        have HE5 := hid (HE2.out.trans (hE4.trans hE5))
        have zz5 := hb5.lt
        have z0 := hb5.c 0 (.int .i64 0) rfl
        have z1 := hb5.c 1 (.int .i64 0) rfl
        have z2 := hb5.c 2 (.string ⟨#[]⟩) rfl
        have z3 := hb5.c 3 (.int .i64 0) rfl
        have z4 := hb5.c 4 (.string ⟨#[]⟩) rfl
        have z5 := hb5.c 5 (.string ⟨#[]⟩) rfl
        have z6 := hb5.c 6 (.slice none 0 0) rfl
        have z7 := hb5.c 7 (.slice none 0 0) rfl
        have e0 := hb5.frozen 0
        have e1 := hb5.frozen 1
        have e2 := hb5.frozen 2
        have e3 := hb5.frozen 3
        have e4 := hb5.frozen 4
        have e5 := hb5.frozen 5
        have e6 := hb5.frozen 6
        have e7 := hb5.frozen 7
        have k0 := hc5.c 0 (.int .i64 0) rfl
        have k1 := hc5.c 1 (.int .i64 n) rfl
        have k2 := hc5.c 2 (.string x2) rfl
        have k3 := hc5.c 3 (.int .i64 0) rfl
        have k4 := hc5.c 4 (.string ⟨#[]⟩) rfl
        have k5 := hc5.c 5 (.string ⟨#[]⟩) rfl
        have k6 := hc5.c 6 (.slice none 0 0) rfl
        have k7 := hc5.c 7 (.slice none 0 0) rfl
        have kz := hc5.lt
        clear ht hE4 hc4 hE5 hb5 hc5
        cases hq : ((M.chgText ⟨0, n, x2, 0⟩).toList == s.toList)
        · have HS := hid ((fun h => M.says_three HWS.out HRD.out (by rw [HK.out]; exact .inr h)) (toList_ne hq))
          go_wp2_with fail
          refine bodyPost_ret (results_agg2 agg_chg rfl _ _ w.heap.size rfl zeroC (CellsAt.ofB (Blk.set8 HB5.out _ _ _ _ _ _ _ _)) rfl) rfl ?_
          exact ⟨⟨none, rfl, HS.out⟩, HE5.out.own (Kp.set8 (D := (· = w.heap.size)) rfl _ _ _ _ _ _ _ _) (fun _ e => by omega)⟩
        · have HS := hid (M.says_yes (s := s) (c := ⟨0, n, x2, 0⟩) (by rw [HWS.out]; simp) (toList_eq_true hq))
          go_wp2_with fail
          refine bodyPost_ret (results_agg2 agg_chg rfl _ _ w.heap.size rfl [.int .i64 0, .int .i64 n, .string x2, .int .i64 0, .string ⟨#[]⟩, .string ⟨#[]⟩, .slice none 0 0, .slice none 0 0] (CellsAt.ofB (Blk.set8 HB5.out _ _ _ _ _ _ _ _)) rfl) rfl ?_
          exact ⟨⟨some _, rfl, HS.out⟩, HE5.out.own (Kp.set8 (D := (· = w.heap.size)) rfl _ _ _ _ _ _ _ _) (fun _ e => by omega)⟩
   | [x0, x1, x2, x3], _, HWS, HS, HSZ, hcap =>
    obtain ⟨b, off, rfl, g0, g1, g2, g3, hc3⟩ := StrL.four HS.out
    have bz := cell_lt g0
    have HR1 := fun W => hid (sp_read x1 W (HSZ.out x1 (by simp)))
    have HG0 := hid g0
    have HG2 := hid g2
    have HG3 := hid g3
    have HR3 := fun W => hid (sp_read x3 W (HSZ.out x3 (by simp)))
    clear hcap HS HSZ
    go_wp2_with fail
    refine (HR1 w1).out.mono ?_
    rintro e w2 ⟨⟨n, ok, rfl, hrd⟩, hE2⟩
    have HRD := hid hrd
    have hb2 := HB1.out.ext hE2
    have zz := hb2.lt
    have z0 := hb2.c 0 (.int .i64 0) rfl
    have z1 := hb2.c 1 (.int .i64 0) rfl
    have z2 := hb2.c 2 (.string ⟨#[]⟩) rfl
    have z3 := hb2.c 3 (.int .i64 0) rfl
    have z4 := hb2.c 4 (.string ⟨#[]⟩) rfl
    have z5 := hb2.c 5 (.string ⟨#[]⟩) rfl
    have z6 := hb2.c 6 (.slice none 0 0) rfl
    have z7 := hb2.c 7 (.slice none 0 0) rfl
    have e0 := hb2.frozen 0
    have e1 := hb2.frozen 1
    have e2 := hb2.frozen 2
    have e3 := hb2.frozen 3
    have e4 := hb2.frozen 4
    have e5 := hb2.frozen 5
    have e6 := hb2.frozen 6
    have e7 := hb2.frozen 7
    have q0 := hE2.cellE HG0.out
    have q2 := hE2.cellE HG2.out
    have q3 := hE2.cellE HG3.out
    have qz := cell_lt q0
    have HB2 := hid hb2
    have HE2 := hid (HE1.out.trans hE2)
    clear hrd hb2 hE2 y0 y1 y2 y3 y4 y5 y6 y7 f0 f1 f2 f3 f4 f5 f6 f7 yz g0 g1 g2 g3 bz
    rcases M.kind_cases x0 with ⟨hK, h1⟩ | ⟨hK, h1, h2⟩ | ⟨hK, h1, h2, h3⟩ | ⟨hK, h1, h2, h3⟩
    · have HK := hid hK
      clear hK
      obtain ⟨w3, hw3⟩ : ∃ w3, w3 = w2.alloc (.cells #[.int .i64 2, .int .i64 n, .string x2, .int .i64 0, .string ⟨#[]⟩, .string ⟨#[]⟩, .slice none 0 0, .slice none 0 0] 27) := ⟨_, rfl⟩
      have hE3 : Ext w2 w3 := by rw [hw3]; exact (by repeat (first | with_reducible exact Kp.refl _ _ | with_reducible assumption | with_reducible refine Kp.alloc ?_ _ | with_reducible refine Kp.drew ?_ | with_reducible refine Kp.drewN ?_ _ | with_reducible refine Kp.setCell ?_ (fun h => absurd h (by simp <;> omega)) _ | with_reducible refine Kp.trans ?_ (by with_reducible assumption) | exact Kp.refl _ _ | assumption | refine Kp.alloc ?_ _ | refine Kp.drew ?_ | refine Kp.drewN ?_ _ | (refine Kp.setCell ?_ (fun h => absurd h (by simp; done)) _) | (refine Kp.setCell ?_ (fun h => absurd h (by simp; omega)) _) | refine Kp.trans ?_ (by assumption)))
      have hc3' : Blk w3 w2.heap.size 27 #[.int .i64 2, .int .i64 n, .string x2, .int .i64 0, .string ⟨#[]⟩, .string ⟨#[]⟩, .slice none 0 0, .slice none 0 0] := by rw [hw3]; exact Blk.new _ _ _
      have HW3 := hid hw3
      have HE3 := hid hE3
      have HC3 := hid hc3'
      clear hw3 hE3 hc3'
      go_wp2_with fail
      rw [← HW3.out]
      refine (HR3 w3).out.mono ?_
      rintro e w6 ⟨⟨m, ok3, rfl, hrd3⟩, hE6⟩
      have HRD3 := hid hrd3
      have hb6 := HB2.out.ext (HE3.out.trans hE6)
      have hc6 := HC3.out.ext hE6
      have HB6 := hid hb6
      have HC6 := hid hc6
      have HE6 := hid (HE2.out.trans (HE3.out.trans hE6))
      have hne : w2.heap.size ≠ w.heap.size := Nat.ne_of_gt zz
      have zz6 := hb6.lt
      have z0 := hb6.c 0 (.int .i64 0) rfl
      have z1 := hb6.c 1 (.int .i64 0) rfl
      have z2 := hb6.c 2 (.string ⟨#[]⟩) rfl
      have z3 := hb6.c 3 (.int .i64 0) rfl
      have z4 := hb6.c 4 (.string ⟨#[]⟩) rfl
      have z5 := hb6.c 5 (.string ⟨#[]⟩) rfl
      have z6 := hb6.c 6 (.slice none 0 0) rfl
      have z7 := hb6.c 7 (.slice none 0 0) rfl
      have e0 := hb6.frozen 0
      have e1 := hb6.frozen 1
      have e2 := hb6.frozen 2
      have e3 := hb6.frozen 3
      have e4 := hb6.frozen 4
      have e5 := hb6.frozen 5
      have e6 := hb6.frozen 6
      have e7 := hb6.frozen 7
      have k0 := hc6.c 0 (.int .i64 2) rfl
      have k1 := hc6.c 1 (.int .i64 n) rfl
      have k2 := hc6.c 2 (.string x2) rfl
      have k3 := hc6.c 3 (.int .i64 0) rfl
      have k4 := hc6.c 4 (.string ⟨#[]⟩) rfl
      have k5 := hc6.c 5 (.string ⟨#[]⟩) rfl
      have k6 := hc6.c 6 (.slice none 0 0) rfl
      have k7 := hc6.c 7 (.slice none 0 0) rfl
      have kf := hc6.frozen 3
      have kz := hc6.lt
      clear hrd3 hb6 hc6 hE6 q0 q2 q3 qz
      obtain ⟨w7, hw7⟩ : ∃ w7, w7 = w6.setCell ⟨w2.heap.size, 3, none⟩ (.int .i64 m) := ⟨_, rfl⟩
      have hk7 : Kp (· = w2.heap.size) w6 w7 := by rw [hw7]; exact (Kp.refl (· = w2.heap.size) w6).setCell (fun _ => rfl) _
      have hc7 : Blk w7 w2.heap.size 27 #[.int .i64 2, .int .i64 n, .string x2, .int .i64 m, .string ⟨#[]⟩, .string ⟨#[]⟩, .slice none 0 0, .slice none 0 0] := by rw [hw7]; exact HC6.out.set_ 3 (.int .i64 m)
      have HB7 := hid (HB6.out.kp hk7 (Ne.symm hne))
      have HC7 := hid hc7
      have HE7 := hid (HE6.out.own hk7 (fun _ e => by have := HE2.out.size; omega))
      have HW7 := hid hw7
      clear hk7 hc7 hw7
      cases ok
      · have HS := hid (M.says_four HWS.out HRD.out HRD3.out (by rw [HK.out]; exact .inl rfl))
        go_wp2_with fail
        rw [← HW7.out]
        refine bodyPost_ret (results_agg2 agg_chg rfl _ _ w.heap.size rfl zeroC (CellsAt.ofB (Blk.set8 HB7.out _ _ _ _ _ _ _ _)) rfl) rfl ?_
        exact ⟨⟨none, rfl, HS.out⟩, HE7.out.own (Kp.set8 (D := (· = w.heap.size)) rfl _ _ _ _ _ _ _ _) (fun _ e => by omega)⟩
      · cases ok3
        · have HS := hid (M.says_four HWS.out HRD.out HRD3.out (by rw [HK.out]; exact .inr (.inl rfl)))
          go_wp2_with fail
          rw [← HW7.out]
          refine bodyPost_ret (results_agg2 agg_chg rfl _ _ w.heap.size rfl zeroC (CellsAt.ofB (Blk.set8 HB7.out _ _ _ _ _ _ _ _)) rfl) rfl ?_
          exact ⟨⟨none, rfl, HS.out⟩, HE7.out.own (Kp.set8 (D := (· = w.heap.size)) rfl _ _ _ _ _ _ _ _) (fun _ e => by omega)⟩
        · go_wp2_with fail
          have ht := sp_chg_text ⟨2, n, x2, m⟩ (show (2 : Int) ≠ 1 by decide) M.none_ M.none_ none 0 0 none 0 0 w7
          rw [M.chgOut_one] at ht
          rw [← HW7.out]
          refine ht.mono ?_
          rintro e w5 ⟨rfl, hE5⟩
          have hb5 := HB7.out.ext hE5
          have hc5 := HC7.out.ext hE5
          have HB5 := hid hb5
          have HE5 := hid (HE7.out.trans hE5)
          have zz5 := hb5.lt
          have z0 := hb5.c 0 (.int .i64 0) rfl
          have z1 := hb5.c 1 (.int .i64 0) rfl
          have z2 := hb5.c 2 (.string ⟨#[]⟩) rfl
          have z3 := hb5.c 3 (.int .i64 0) rfl
          have z4 := hb5.c 4 (.string ⟨#[]⟩) rfl
          have z5 := hb5.c 5 (.string ⟨#[]⟩) rfl
          have z6 := hb5.c 6 (.slice none 0 0) rfl
          have z7 := hb5.c 7 (.slice none 0 0) rfl
          have e0 := hb5.frozen 0
          have e1 := hb5.frozen 1
          have e2 := hb5.frozen 2
          have e3 := hb5.frozen 3
          have e4 := hb5.frozen 4
          have e5 := hb5.frozen 5
          have e6 := hb5.frozen 6
          have e7 := hb5.frozen 7
          have k0 := hc5.c 0 (.int .i64 2) rfl
          have k1 := hc5.c 1 (.int .i64 n) rfl
          have k2 := hc5.c 2 (.string x2) rfl
          have k3 := hc5.c 3 (.int .i64 m) rfl
          have k4 := hc5.c 4 (.string ⟨#[]⟩) rfl
          have k5 := hc5.c 5 (.string ⟨#[]⟩) rfl
          have k6 := hc5.c 6 (.slice none 0 0) rfl
          have k7 := hc5.c 7 (.slice none 0 0) rfl
          have kz := hc5.lt
          clear ht hE5 hb5 hc5
          cases hq : ((M.chgText ⟨2, n, x2, m⟩).toList == s.toList)
          · have HS := hid (M.says_four HWS.out HRD.out HRD3.out (by rw [HK.out]; exact .inr (.inr (toList_ne hq))))
            go_wp2_with fail
            refine bodyPost_ret (results_agg2 agg_chg rfl _ _ w.heap.size rfl zeroC (CellsAt.ofB (Blk.set8 HB5.out _ _ _ _ _ _ _ _)) rfl) rfl ?_
            exact ⟨⟨none, rfl, HS.out⟩, HE5.out.own (Kp.set8 (D := (· = w.heap.size)) rfl _ _ _ _ _ _ _ _) (fun _ e => by omega)⟩
          · have HS := hid (M.says_yes (s := s) (c := ⟨2, n, x2, m⟩) (by rw [HWS.out]; simp) (toList_eq_true hq))
            go_wp2_with fail
            refine bodyPost_ret (results_agg2 agg_chg rfl _ _ w.heap.size rfl [.int .i64 2, .int .i64 n, .string x2, .int .i64 m, .string ⟨#[]⟩, .string ⟨#[]⟩, .slice none 0 0, .slice none 0 0] (CellsAt.ofB (Blk.set8 HB5.out _ _ _ _ _ _ _ _)) rfl) rfl ?_
            exact ⟨⟨some _, rfl, HS.out⟩, HE5.out.own (Kp.set8 (D := (· = w.heap.size)) rfl _ _ _ _ _ _ _ _) (fun _ e => by omega)⟩
    · have HK := hid hK
      clear hK
      obtain ⟨w3, hw3⟩ : ∃ w3, w3 = w2.alloc (.cells #[.int .i64 3, .int .i64 n, .string x2, .int .i64 0, .string ⟨#[]⟩, .string ⟨#[]⟩, .slice none 0 0, .slice none 0 0] 27) := ⟨_, rfl⟩
      have hE3 : Ext w2 w3 := by rw [hw3]; exact (by repeat (first | with_reducible exact Kp.refl _ _ | with_reducible assumption | with_reducible refine Kp.alloc ?_ _ | with_reducible refine Kp.drew ?_ | with_reducible refine Kp.drewN ?_ _ | with_reducible refine Kp.setCell ?_ (fun h => absurd h (by simp <;> omega)) _ | with_reducible refine Kp.trans ?_ (by with_reducible assumption) | exact Kp.refl _ _ | assumption | refine Kp.alloc ?_ _ | refine Kp.drew ?_ | refine Kp.drewN ?_ _ | (refine Kp.setCell ?_ (fun h => absurd h (by simp; done)) _) | (refine Kp.setCell ?_ (fun h => absurd h (by simp; omega)) _) | refine Kp.trans ?_ (by assumption)))
      have hc3' : Blk w3 w2.heap.size 27 #[.int .i64 3, .int .i64 n, .string x2, .int .i64 0, .string ⟨#[]⟩, .string ⟨#[]⟩, .slice none 0 0, .slice none 0 0] := by rw [hw3]; exact Blk.new _ _ _
      have HW3 := hid hw3
      have HE3 := hid hE3
      have HC3 := hid hc3'
      clear hw3 hE3 hc3'
      go_wp2_with fail
      rw [← HW3.out]
      refine (HR3 w3).out.mono ?_
      rintro e w6 ⟨⟨m, ok3, rfl, hrd3⟩, hE6⟩
      have HRD3 := hid hrd3
      have hb6 := HB2.out.ext (HE3.out.trans hE6)
      have hc6 := HC3.out.ext hE6
      have HB6 := hid hb6
      have HC6 := hid hc6
      have HE6 := hid (HE2.out.trans (HE3.out.trans hE6))
      have hne : w2.heap.size ≠ w.heap.size := Nat.ne_of_gt zz
      have zz6 := hb6.lt
      have z0 := hb6.c 0 (.int .i64 0) rfl
      have z1 := hb6.c 1 (.int .i64 0) rfl
      have z2 := hb6.c 2 (.string ⟨#[]⟩) rfl
      have z3 := hb6.c 3 (.int .i64 0) rfl
      have z4 := hb6.c 4 (.string ⟨#[]⟩) rfl
      have z5 := hb6.c 5 (.string ⟨#[]⟩) rfl
      have z6 := hb6.c 6 (.slice none 0 0) rfl
      have z7 := hb6.c 7 (.slice none 0 0) rfl
      have e0 := hb6.frozen 0
      have e1 := hb6.frozen 1
      have e2 := hb6.frozen 2
      have e3 := hb6.frozen 3
      have e4 := hb6.frozen 4
      have e5 := hb6.frozen 5
      have e6 := hb6.frozen 6
      have e7 := hb6.frozen 7
      have k0 := hc6.c 0 (.int .i64 3) rfl
      have k1 := hc6.c 1 (.int .i64 n) rfl
      have k2 := hc6.c 2 (.string x2) rfl
      have k3 := hc6.c 3 (.int .i64 0) rfl
      have k4 := hc6.c 4 (.string ⟨#[]⟩) rfl
      have k5 := hc6.c 5 (.string ⟨#[]⟩) rfl
      have k6 := hc6.c 6 (.slice none 0 0) rfl
      have k7 := hc6.c 7 (.slice none 0 0) rfl
      have kf := hc6.frozen 3
      have kz := hc6.lt
      clear hrd3 hb6 hc6 hE6 q0 q2 q3 qz
      obtain ⟨w7, hw7⟩ : ∃ w7, w7 = w6.setCell ⟨w2.heap.size, 3, none⟩ (.int .i64 m) := ⟨_, rfl⟩
      have hk7 : Kp (· = w2.heap.size) w6 w7 := by rw [hw7]; exact (Kp.refl (· = w2.heap.size) w6).setCell (fun _ => rfl) _
      have hc7 : Blk w7 w2.heap.size 27 #[.int .i64 3, .int .i64 n, .string x2, .int .i64 m, .string ⟨#[]⟩, .string ⟨#[]⟩, .slice none 0 0, .slice none 0 0] := by rw [hw7]; exact HC6.out.set_ 3 (.int .i64 m)
      have HB7 := hid (HB6.out.kp hk7 (Ne.symm hne))
      have HC7 := hid hc7
      have HE7 := hid (HE6.out.own hk7 (fun _ e => by have := HE2.out.size; omega))
      have HW7 := hid hw7
      clear hk7 hc7 hw7
      cases ok
      · have HS := hid (M.says_four HWS.out HRD.out HRD3.out (by rw [HK.out]; exact .inl rfl))
        go_wp2_with fail
        rw [← HW7.out]
        refine bodyPost_ret (results_agg2 agg_chg rfl _ _ w.heap.size rfl zeroC (CellsAt.ofB (Blk.set8 HB7.out _ _ _ _ _ _ _ _)) rfl) rfl ?_
        exact ⟨⟨none, rfl, HS.out⟩, HE7.out.own (Kp.set8 (D := (· = w.heap.size)) rfl _ _ _ _ _ _ _ _) (fun _ e => by omega)⟩
      · cases ok3
        · have HS := hid (M.says_four HWS.out HRD.out HRD3.out (by rw [HK.out]; exact .inr (.inl rfl)))
          go_wp2_with fail
          rw [← HW7.out]
          refine bodyPost_ret (results_agg2 agg_chg rfl _ _ w.heap.size rfl zeroC (CellsAt.ofB (Blk.set8 HB7.out _ _ _ _ _ _ _ _)) rfl) rfl ?_
          exact ⟨⟨none, rfl, HS.out⟩, HE7.out.own (Kp.set8 (D := (· = w.heap.size)) rfl _ _ _ _ _ _ _ _) (fun _ e => by omega)⟩
        · go_wp2_with fail
          have ht := sp_chg_text ⟨3, n, x2, m⟩ (show (3 : Int) ≠ 1 by decide) M.none_ M.none_ none 0 0 none 0 0 w7
          rw [M.chgOut_one] at ht
          rw [← HW7.out]
          refine ht.mono ?_
          rintro e w5 ⟨rfl, hE5⟩
          have hb5 := HB7.out.ext hE5
          have hc5 := HC7.out.ext hE5
          have HB5 := hid hb5
          have HE5 := hid (HE7.out.trans hE5)
          have zz5 := hb5.lt
          have z0 := hb5.c 0 (.int .i64 0) rfl
          have z1 := hb5.c 1 (.int .i64 0) rfl
          have z2 := hb5.c 2 (.string ⟨#[]⟩) rfl
          have z3 := hb5.c 3 (.int .i64 0) rfl
          have z4 := hb5.c 4 (.string ⟨#[]⟩) rfl
          have z5 := hb5.c 5 (.string ⟨#[]⟩) rfl
          have z6 := hb5.c 6 (.slice none 0 0) rfl
          have z7 := hb5.c 7 (.slice none 0 0) rfl
          have e0 := hb5.frozen 0
          have e1 := hb5.frozen 1
          have e2 := hb5.frozen 2
          have e3 := hb5.frozen 3
          have e4 := hb5.frozen 4
          have e5 := hb5.frozen 5
          have e6 := hb5.frozen 6
          have e7 := hb5.frozen 7
          have k0 := hc5.c 0 (.int .i64 3) rfl
          have k1 := hc5.c 1 (.int .i64 n) rfl
          have k2 := hc5.c 2 (.string x2) rfl
          have k3 := hc5.c 3 (.int .i64 m) rfl
          have k4 := hc5.c 4 (.string ⟨#[]⟩) rfl
          have k5 := hc5.c 5 (.string ⟨#[]⟩) rfl
          have k6 := hc5.c 6 (.slice none 0 0) rfl
          have k7 := hc5.c 7 (.slice none 0 0) rfl
          have kz := hc5.lt
          clear ht hE5 hb5 hc5
          cases hq : ((M.chgText ⟨3, n, x2, m⟩).toList == s.toList)
          · have HS := hid (M.says_four HWS.out HRD.out HRD3.out (by rw [HK.out]; exact .inr (.inr (toList_ne hq))))
            go_wp2_with fail
            refine bodyPost_ret (results_agg2 agg_chg rfl _ _ w.heap.size rfl zeroC (CellsAt.ofB (Blk.set8 HB5.out _ _ _ _ _ _ _ _)) rfl) rfl ?_
            exact ⟨⟨none, rfl, HS.out⟩, HE5.out.own (Kp.set8 (D := (· = w.heap.size)) rfl _ _ _ _ _ _ _ _) (fun _ e => by omega)⟩
          · have HS := hid (M.says_yes (s := s) (c := ⟨3, n, x2, m⟩) (by rw [HWS.out]; simp) (toList_eq_true hq))
            go_wp2_with fail
            refine bodyPost_ret (results_agg2 agg_chg rfl _ _ w.heap.size rfl [.int .i64 3, .int .i64 n, .string x2, .int .i64 m, .string ⟨#[]⟩, .string ⟨#[]⟩, .slice none 0 0, .slice none 0 0] (CellsAt.ofB (Blk.set8 HB5.out _ _ _ _ _ _ _ _)) rfl) rfl ?_
            exact ⟨⟨some _, rfl, HS.out⟩, HE5.out.own (Kp.set8 (D := (· = w.heap.size)) rfl _ _ _ _ _ _ _ _) (fun _ e => by omega)⟩
    · have HK := hid hK
      clear hK
      obtain ⟨w3, hw3⟩ : ∃ w3, w3 = w2.alloc (.cells #[.int .i64 4, .int .i64 n, .string x2, .int .i64 0, .string ⟨#[]⟩, .string ⟨#[]⟩, .slice none 0 0, .slice none 0 0] 27) := ⟨_, rfl⟩
      have hE3 : Ext w2 w3 := by rw [hw3]; exact (by repeat (first | with_reducible exact Kp.refl _ _ | with_reducible assumption | with_reducible refine Kp.alloc ?_ _ | with_reducible refine Kp.drew ?_ | with_reducible refine Kp.drewN ?_ _ | with_reducible refine Kp.setCell ?_ (fun h => absurd h (by simp <;> omega)) _ | with_reducible refine Kp.trans ?_ (by with_reducible assumption) | exact Kp.refl _ _ | assumption | refine Kp.alloc ?_ _ | refine Kp.drew ?_ | refine Kp.drewN ?_ _ | (refine Kp.setCell ?_ (fun h => absurd h (by simp; done)) _) | (refine Kp.setCell ?_ (fun h => absurd h (by simp; omega)) _) | refine Kp.trans ?_ (by assumption)))
      have hc3' : Blk w3 w2.heap.size 27 #[.int .i64 4, .int .i64 n, .string x2, .int .i64 0, .string ⟨#[]⟩, .string ⟨#[]⟩, .slice none 0 0, .slice none 0 0] := by rw [hw3]; exact Blk.new _ _ _
      have HW3 := hid hw3
      have HE3 := hid hE3
      have HC3 := hid hc3'
      clear hw3 hE3 hc3'
      go_wp2_with fail
      rw [← HW3.out]
      refine (HR3 w3).out.mono ?_
      rintro e w6 ⟨⟨m, ok3, rfl, hrd3⟩, hE6⟩
      have HRD3 := hid hrd3
      have hb6 := HB2.out.ext (HE3.out.trans hE6)
      have hc6 := HC3.out.ext hE6
      have HB6 := hid hb6
      have HC6 := hid hc6
      have HE6 := hid (HE2.out.trans (HE3.out.trans hE6))
      have hne : w2.heap.size ≠ w.heap.size := Nat.ne_of_gt zz
      have zz6 := hb6.lt
      have z0 := hb6.c 0 (.int .i64 0) rfl
      have z1 := hb6.c 1 (.int .i64 0) rfl
      have z2 := hb6.c 2 (.string ⟨#[]⟩) rfl
      have z3 := hb6.c 3 (.int .i64 0) rfl
      have z4 := hb6.c 4 (.string ⟨#[]⟩) rfl
      have z5 := hb6.c 5 (.string ⟨#[]⟩) rfl
      have z6 := hb6.c 6 (.slice none 0 0) rfl
      have z7 := hb6.c 7 (.slice none 0 0) rfl
      have e0 := hb6.frozen 0
      have e1 := hb6.frozen 1
      have e2 := hb6.frozen 2
      have e3 := hb6.frozen 3
      have e4 := hb6.frozen 4
      have e5 := hb6.frozen 5
      have e6 := hb6.frozen 6
      have e7 := hb6.frozen 7
      have k0 := hc6.c 0 (.int .i64 4) rfl
      have k1 := hc6.c 1 (.int .i64 n) rfl
      have k2 := hc6.c 2 (.string x2) rfl
      have k3 := hc6.c 3 (.int .i64 0) rfl
      have k4 := hc6.c 4 (.string ⟨#[]⟩) rfl
      have k5 := hc6.c 5 (.string ⟨#[]⟩) rfl
      have k6 := hc6.c 6 (.slice none 0 0) rfl
      have k7 := hc6.c 7 (.slice none 0 0) rfl
      have kf := hc6.frozen 3
      have kz := hc6.lt
      clear hrd3 hb6 hc6 hE6 q0 q2 q3 qz
      obtain ⟨w7, hw7⟩ : ∃ w7, w7 = w6.setCell ⟨w2.heap.size, 3, none⟩ (.int .i64 m) := ⟨_, rfl⟩
      have hk7 : Kp (· = w2.heap.size) w6 w7 := by rw [hw7]; exact (Kp.refl (· = w2.heap.size) w6).setCell (fun _ => rfl) _
      have hc7 : Blk w7 w2.heap.size 27 #[.int .i64 4, .int .i64 n, .string x2, .int .i64 m, .string ⟨#[]⟩, .string ⟨#[]⟩, .slice none 0 0, .slice none 0 0] := by rw [hw7]; exact HC6.out.set_ 3 (.int .i64 m)
      have HB7 := hid (HB6.out.kp hk7 (Ne.symm hne))
      have HC7 := hid hc7
      have HE7 := hid (HE6.out.own hk7 (fun _ e => by have := HE2.out.size; omega))
      have HW7 := hid hw7
      clear hk7 hc7 hw7
      cases ok
      · have HS := hid (M.says_four HWS.out HRD.out HRD3.out (by rw [HK.out]; exact .inl rfl))
        go_wp2_with fail
        rw [← HW7.out]
        refine bodyPost_ret (results_agg2 agg_chg rfl _ _ w.heap.size rfl zeroC (CellsAt.ofB (Blk.set8 HB7.out _ _ _ _ _ _ _ _)) rfl) rfl ?_
        exact ⟨⟨none, rfl, HS.out⟩, HE7.out.own (Kp.set8 (D := (· = w.heap.size)) rfl _ _ _ _ _ _ _ _) (fun _ e => by omega)⟩
      · cases ok3
        · have HS := hid (M.says_four HWS.out HRD.out HRD3.out (by rw [HK.out]; exact .inr (.inl rfl)))
          go_wp2_with fail
          rw [← HW7.out]
          refine bodyPost_ret (results_agg2 agg_chg rfl _ _ w.heap.size rfl zeroC (CellsAt.ofB (Blk.set8 HB7.out _ _ _ _ _ _ _ _)) rfl) rfl ?_
          exact ⟨⟨none, rfl, HS.out⟩, HE7.out.own (Kp.set8 (D := (· = w.heap.size)) rfl _ _ _ _ _ _ _ _) (fun _ e => by omega)⟩
        · go_wp2_with fail
          have ht := sp_chg_text ⟨4, n, x2, m⟩ (show (4 : Int) ≠ 1 by decide) M.none_ M.none_ none 0 0 none 0 0 w7
          rw [M.chgOut_one] at ht
          rw [← HW7.out]
          refine ht.mono ?_
          rintro e w5 ⟨rfl, hE5⟩
          have hb5 := HB7.out.ext hE5
          have hc5 := HC7.out.ext hE5
          have HB5 := hid hb5
          have HE5 := hid (HE7.out.trans hE5)
          have zz5 := hb5.lt
          have z0 := hb5.c 0 (.int .i64 0) rfl
          have z1 := hb5.c 1 (.int .i64 0) rfl
          have z2 := hb5.c 2 (.string ⟨#[]⟩) rfl
          have z3 := hb5.c 3 (.int .i64 0) rfl
          have z4 := hb5.c 4 (.string ⟨#[]⟩) rfl
          have z5 := hb5.c 5 (.string ⟨#[]⟩) rfl
          have z6 := hb5.c 6 (.slice none 0 0) rfl
          have z7 := hb5.c 7 (.slice none 0 0) rfl
          have e0 := hb5.frozen 0
          have e1 := hb5.frozen 1
          have e2 := hb5.frozen 2
          have e3 := hb5.frozen 3
          have e4 := hb5.frozen 4
          have e5 := hb5.frozen 5
          have e6 := hb5.frozen 6
          have e7 := hb5.frozen 7
          have k0 := hc5.c 0 (.int .i64 4) rfl
          have k1 := hc5.c 1 (.int .i64 n) rfl
          have k2 := hc5.c 2 (.string x2) rfl
          have k3 := hc5.c 3 (.int .i64 m) rfl
          have k4 := hc5.c 4 (.string ⟨#[]⟩) rfl
          have k5 := hc5.c 5 (.string ⟨#[]⟩) rfl
          have k6 := hc5.c 6 (.slice none 0 0) rfl
          have k7 := hc5.c 7 (.slice none 0 0) rfl
          have kz := hc5.lt
          clear ht hE5 hb5 hc5
          cases hq : ((M.chgText ⟨4, n, x2, m⟩).toList == s.toList)
          · have HS := hid (M.says_four HWS.out HRD.out HRD3.out (by rw [HK.out]; exact .inr (.inr (toList_ne hq))))
            go_wp2_with fail
            refine bodyPost_ret (results_agg2 agg_chg rfl _ _ w.heap.size rfl zeroC (CellsAt.ofB (Blk.set8 HB5.out _ _ _ _ _ _ _ _)) rfl) rfl ?_
            exact ⟨⟨none, rfl, HS.out⟩, HE5.out.own (Kp.set8 (D := (· = w.heap.size)) rfl _ _ _ _ _ _ _ _) (fun _ e => by omega)⟩
          · have HS := hid (M.says_yes (s := s) (c := ⟨4, n, x2, m⟩) (by rw [HWS.out]; simp) (toList_eq_true hq))
            go_wp2_with fail
            refine bodyPost_ret (results_agg2 agg_chg rfl _ _ w.heap.size rfl [.int .i64 4, .int .i64 n, .string x2, .int .i64 m, .string ⟨#[]⟩, .string ⟨#[]⟩, .slice none 0 0, .slice none 0 0] (CellsAt.ofB (Blk.set8 HB5.out _ _ _ _ _ _ _ _)) rfl) rfl ?_
            exact ⟨⟨some _, rfl, HS.out⟩, HE5.out.own (Kp.set8 (D := (· = w.heap.size)) rfl _ _ _ _ _ _ _ _) (fun _ e => by omega)⟩
    · have HK := hid hK
      clear hK
      obtain ⟨w3, hw3⟩ : ∃ w3, w3 = w2.alloc (.cells #[.int .i64 0, .int .i64 n, .string x2, .int .i64 0, .string ⟨#[]⟩, .string ⟨#[]⟩, .slice none 0 0, .slice none 0 0] 27) := ⟨_, rfl⟩
      have hE3 : Ext w2 w3 := by rw [hw3]; exact (by repeat (first | with_reducible exact Kp.refl _ _ | with_reducible assumption | with_reducible refine Kp.alloc ?_ _ | with_reducible refine Kp.drew ?_ | with_reducible refine Kp.drewN ?_ _ | with_reducible refine Kp.setCell ?_ (fun h => absurd h (by simp <;> omega)) _ | with_reducible refine Kp.trans ?_ (by with_reducible assumption) | exact Kp.refl _ _ | assumption | refine Kp.alloc ?_ _ | refine Kp.drew ?_ | refine Kp.drewN ?_ _ | (refine Kp.setCell ?_ (fun h => absurd h (by simp; done)) _) | (refine Kp.setCell ?_ (fun h => absurd h (by simp; omega)) _) | refine Kp.trans ?_ (by assumption)))
      have hc3' : Blk w3 w2.heap.size 27 #[.int .i64 0, .int .i64 n, .string x2, .int .i64 0, .string ⟨#[]⟩, .string ⟨#[]⟩, .slice none 0 0, .slice none 0 0] := by rw [hw3]; exact Blk.new _ _ _
      have HW3 := hid hw3
      have HE3 := hid hE3
      have HC3 := hid hc3'
      clear hw3 hE3 hc3'
      go_wp2_with fail
      rw [← HW3.out]
      refine (HR3 w3).out.mono ?_
      rintro e w6 ⟨⟨m, ok3, rfl, hrd3⟩, hE6⟩
      have HRD3 := hid hrd3
      have hb6 := HB2.out.ext (HE3.out.trans hE6)
      have hc6 := HC3.out.ext hE6
      have HB6 := hid hb6
      have HC6 := hid hc6
      have HE6 := hid (HE2.out.trans (HE3.out.trans hE6))
      have hne : w2.heap.size ≠ w.heap.size := Nat.ne_of_gt zz
      have zz6 := hb6.lt
      have z0 := hb6.c 0 (.int .i64 0) rfl
      have z1 := hb6.c 1 (.int .i64 0) rfl
      have z2 := hb6.c 2 (.string ⟨#[]⟩) rfl
      have z3 := hb6.c 3 (.int .i64 0) rfl
      have z4 := hb6.c 4 (.string ⟨#[]⟩) rfl
      have z5 := hb6.c 5 (.string ⟨#[]⟩) rfl
      have z6 := hb6.c 6 (.slice none 0 0) rfl
      have z7 := hb6.c 7 (.slice none 0 0) rfl
      have e0 := hb6.frozen 0
      have e1 := hb6.frozen 1
      have e2 := hb6.frozen 2
      have e3 := hb6.frozen 3
      have e4 := hb6.frozen 4
      have e5 := hb6.frozen 5
      have e6 := hb6.frozen 6
      have e7 := hb6.frozen 7
      have k0 := hc6.c 0 (.int .i64 0) rfl
      have k1 := hc6.c 1 (.int .i64 n) rfl
      have k2 := hc6.c 2 (.string x2) rfl
      have k3 := hc6.c 3 (.int .i64 0) rfl
      have k4 := hc6.c 4 (.string ⟨#[]⟩) rfl
      have k5 := hc6.c 5 (.string ⟨#[]⟩) rfl
      have k6 := hc6.c 6 (.slice none 0 0) rfl
      have k7 := hc6.c 7 (.slice none 0 0) rfl
      have kf := hc6.frozen 3
      have kz := hc6.lt
      clear hrd3 hb6 hc6 hE6 q0 q2 q3 qz
      obtain ⟨w7, hw7⟩ : ∃ w7, w7 = w6.setCell ⟨w2.heap.size, 3, none⟩ (.int .i64 m) := ⟨_, rfl⟩
      have hk7 : Kp (· = w2.heap.size) w6 w7 := by rw [hw7]; exact (Kp.refl (· = w2.heap.size) w6).setCell (fun _ => rfl) _
      have hc7 : Blk w7 w2.heap.size 27 #[.int .i64 0, .int .i64 n, .string x2, .int .i64 m, .string ⟨#[]⟩, .string ⟨#[]⟩, .slice none 0 0, .slice none 0 0] := by rw [hw7]; exact HC6.out.set_ 3 (.int .i64 m)
      have HB7 := hid (HB6.out.kp hk7 (Ne.symm hne))
      have HC7 := hid hc7
      have HE7 := hid (HE6.out.own hk7 (fun _ e => by have := HE2.out.size; omega))
      have HW7 := hid hw7
      clear hk7 hc7 hw7
      cases ok
      · have HS := hid (M.says_four HWS.out HRD.out HRD3.out (by rw [HK.out]; exact .inl rfl))
        go_wp2_with fail
        rw [← HW7.out]
        refine bodyPost_ret (results_agg2 agg_chg rfl _ _ w.heap.size rfl zeroC (CellsAt.ofB (Blk.set8 HB7.out _ _ _ _ _ _ _ _)) rfl) rfl ?_
        exact ⟨⟨none, rfl, HS.out⟩, HE7.out.own (Kp.set8 (D := (· = w.heap.size)) rfl _ _ _ _ _ _ _ _) (fun _ e => by omega)⟩
      · cases ok3
        · have HS := hid (M.says_four HWS.out HRD.out HRD3.out (by rw [HK.out]; exact .inr (.inl rfl)))
          go_wp2_with fail
          rw [← HW7.out]
          refine bodyPost_ret (results_agg2 agg_chg rfl _ _ w.heap.size rfl zeroC (CellsAt.ofB (Blk.set8 HB7.out _ _ _ _ _ _ _ _)) rfl) rfl ?_
          exact ⟨⟨none, rfl, HS.out⟩, HE7.out.own (Kp.set8 (D := (· = w.heap.size)) rfl _ _ _ _ _ _ _ _) (fun _ e => by omega)⟩
        · go_wp2_with fail
          have ht := sp_chg_text ⟨0, n, x2, m⟩ (show (0 : Int) ≠ 1 by decide) M.none_ M.none_ none 0 0 none 0 0 w7
          rw [M.chgOut_one] at ht
          rw [← HW7.out]
          refine ht.mono ?_
          rintro e w5 ⟨rfl, hE5⟩
          have hb5 := HB7.out.ext hE5
          have hc5 := HC7.out.ext hE5
          have HB5 := hid hb5
          have HE5 := hid (HE7.out.trans hE5)
          have zz5 := hb5.lt
          have z0 := hb5.c 0 (.int .i64 0) rfl
          have z1 := hb5.c 1 (.int .i64 0) rfl
          have z2 := hb5.c 2 (.string ⟨#[]⟩) rfl
          have z3 := hb5.c 3 (.int .i64 0) rfl
          have z4 := hb5.c 4 (.string ⟨#[]⟩) rfl
          have z5 := hb5.c 5 (.string ⟨#[]⟩) rfl
          have z6 := hb5.c 6 (.slice none 0 0) rfl
          have z7 := hb5.c 7 (.slice none 0 0) rfl
          have e0 := hb5.frozen 0
          have e1 := hb5.frozen 1
          have e2 := hb5.frozen 2
          have e3 := hb5.frozen 3
          have e4 := hb5.frozen 4
          have e5 := hb5.frozen 5
          have e6 := hb5.frozen 6
          have e7 := hb5.frozen 7
          have k0 := hc5.c 0 (.int .i64 0) rfl
          have k1 := hc5.c 1 (.int .i64 n) rfl
          have k2 := hc5.c 2 (.string x2) rfl
          have k3 := hc5.c 3 (.int .i64 m) rfl
          have k4 := hc5.c 4 (.string ⟨#[]⟩) rfl
          have k5 := hc5.c 5 (.string ⟨#[]⟩) rfl
          have k6 := hc5.c 6 (.slice none 0 0) rfl
          have k7 := hc5.c 7 (.slice none 0 0) rfl
          have kz := hc5.lt
          clear ht hE5 hb5 hc5
          cases hq : ((M.chgText ⟨0, n, x2, m⟩).toList == s.toList)
          · have HS := hid (M.says_four HWS.out HRD.out HRD3.out (by rw [HK.out]; exact .inr (.inr (toList_ne hq))))
            go_wp2_with fail
            refine bodyPost_ret (results_agg2 agg_chg rfl _ _ w.heap.size rfl zeroC (CellsAt.ofB (Blk.set8 HB5.out _ _ _ _ _ _ _ _)) rfl) rfl ?_
            exact ⟨⟨none, rfl, HS.out⟩, HE5.out.own (Kp.set8 (D := (· = w.heap.size)) rfl _ _ _ _ _ _ _ _) (fun _ e => by omega)⟩
          · have HS := hid (M.says_yes (s := s) (c := ⟨0, n, x2, m⟩) (by rw [HWS.out]; simp) (toList_eq_true hq))
            go_wp2_with fail
            refine bodyPost_ret (results_agg2 agg_chg rfl _ _ w.heap.size rfl [.int .i64 0, .int .i64 n, .string x2, .int .i64 m, .string ⟨#[]⟩, .string ⟨#[]⟩, .slice none 0 0, .slice none 0 0] (CellsAt.ofB (Blk.set8 HB5.out _ _ _ _ _ _ _ _)) rfl) rfl ?_
            exact ⟨⟨some _, rfl, HS.out⟩, HE5.out.own (Kp.set8 (D := (· = w.heap.size)) rfl _ _ _ _ _ _ _ _) (fun _ e => by omega)⟩
end Go.Proofs.YtkndccgackohnaaGreatDoor
namespace Go.Proofs.YtkndccgackohnaaGreatDoor
open Go Go.RowKit
open Go.Lib (hid)
structure VarsAt (w : World) : Prop where
 tab : Lib.TabIs Tryz.prog w "internal/strconv.uint64pow10" .u64 Lib.pow10Tab
 syn : ∃ ev, w.cell? ⟨4, 0, none⟩ = some ev ∧ (ev = .nilIface ∨ ∃ te pe, ev = .iface te pe)
 max : ∃ m, w.cell? ⟨0, 0, none⟩ = some (.int .i64 m)
 low : 2 ≤ w.heap.size
theorem tab_glob : Tryz.prog.globalNamed "internal/strconv.uint64pow10" = some 1 := by kernel_rfl
theorem VarsAt.ext {w w' : World} (h : VarsAt w) (hE : Ext w w') : VarsAt w' := by
 obtain ⟨h1, ⟨ev, h2, h2'⟩, ⟨m, h3⟩, h4⟩ := h
 exact ⟨var?_below hE.to_below tab_glob (by omega) h1, ⟨ev, hE.cellE h2, h2'⟩, ⟨m, hE.cellE h3⟩, by have := hE.size; omega⟩
theorem Ext.grow (w : World) (k : Nat) (os : Array Obj) : Ext w (Sort.grow (w.drewN k) os) :=
 ⟨rfl, rfl, rfl, by rw [Sort.size_grow]; exact Nat.le_add_right _ _, fun j hj _ => Sort.heap_grow_old (w.drewN k) os hj⟩
theorem itoa_digit {d : Int} (h0 : 0 ≤ d) (h2 : d ≤ 2) : Lib.itoa d = M.digit d := by
 have : d = 0 ∨ d = 1 ∨ d = 2 := by omega
 rcases this with rfl | rfl | rfl <;> decide +kernel
theorem atoi_digit {d : Int} (h0 : 0 ≤ d) (h2 : d ≤ 2) : Lib.atoi (M.digit d) = some d := by
 have : d = 0 ∨ d = 1 ∨ d = 2 := by omega
 rcases this with rfl | rfl | rfl <;> decide +kernel
theorem Ext.bytes (w : World) (e : TypeId) (s : ByteArray) : Ext w (Lib.bytesWorld w e s) := by
 have h1 : Ext w (w.drew.alloc (.cells (Lib.bytesCells w e s) e)) := (Kp.refl _ _).drew.alloc _
 refine ⟨rfl, rfl, rfl, ?_, fun k hk _ => ?_⟩
 · have := h1.size
   simp [Lib.bytesWorld, World.freeze] at this ⊢
 · rw [← h1.block k hk (fun x => x)]
   simp [Lib.bytesWorld, World.freeze, Array.getElem?_modify]
   omega
def NumP (s : ByteArray) (e : Ending) : Prop := ∃ n b, e = .returned (.tuple #[.int .i64 n, .bool b]) ∧ M.Reads s n b
theorem NumP.no {s : ByteArray} (h : s.size < 1 ∨ 5 < s.size ∨ Lib.atoi s.data.toList = none) : NumP s (.returned (.tuple #[.int .i64 0, .bool false])) := by
 refine ⟨0, false, rfl, fun e => (by cases e), fun d h0 h2 hd => ?_⟩
 subst hd
 rcases h with h | h | h
 · have : (M.bs (M.digit d)).size = 1 := rfl
   omega
 · have : (M.bs (M.digit d)).size = 1 := rfl
   omega
 · exact absurd (atoi_digit h0 h2) (by
    have e : (M.bs (M.digit d)).data.toList = M.digit d := rfl
    rw [e] at h
    rw [h]; simp)
theorem short_number (s : ByteArray) (w : World) (hv : VarsAt w) :
    Calls Tryz.prog 40 #[.string s] w fun e w' => NumP s e ∧ Ext w w' := by
 by_cases h1 : s.size < 1
 · go_enter Tryz.func40, Tryz.ntmps40
   go_wp2_with fail
   go_ret2
   exact ⟨NumP.no (.inl h1), Kp.refl _ _⟩
 by_cases h5 : 5 < s.size
 · go_enter Tryz.func40, Tryz.ntmps40
   go_wp2_with fail
   go_ret2
   exact ⟨NumP.no (.inr (.inl h5)), Kp.refl _ _⟩
 cases ha : Lib.atoi s.data.toList with
 | none =>
  have HN := hid (NumP.no (.inr (.inr ha)))
  obtain ⟨ev, he, he2⟩ := hv.syn
  have HA := hid (Tryz.strconv_Atoi_err s (by omega) ha ev w he he2)
  clear ha he he2
  go_enter Tryz.func40, Tryz.ntmps40
  go_wp2_with fail
  refine HA.out.mono ?_
  rintro e w1 ⟨N, rfl, -, -, hB⟩
  have HE := hid (Kp.of_below (D := fun _ => False) hB)
  clear hB
  go_wp2_with fail
  go_ret2
  exact ⟨HN.out, HE.out⟩
 | some n =>
  have hb := Lib.atoi_bound ha (by have : s.data.toList.length = s.size := by simp
                                   omega)
  have hd : ∀ d, 0 ≤ d → d ≤ 2 → s = M.bs (M.digit d) → n = d := fun d h0 h2 e => by
   subst e
   have e2 : Lib.atoi (M.bs (M.digit d)).data.toList = some d := atoi_digit h0 h2
   rw [e2] at ha
   exact (Option.some.inj ha).symm
  have HD := hid hd
  have HA := hid (Tryz.strconv_Atoi s n (by omega) ha w)
  have HV := hid hv
  clear hd ha hv
  obtain ⟨t, ht⟩ : ∃ t : ByteArray, t = ⟨(Lib.itoa n).toArray⟩ := ⟨_, rfl⟩
  have HI := fun W (h : VarsAt W) => hid (Tryz.strconv_Itoa n (by omega) (by omega) W h.tab)
  rw [← ht] at HI
  have HT := hid ht
  clear ht
  have HNO : Hid (∀ (h : ¬ (t = s ∧ -9999 ≤ n ∧ n ≤ 9999)), NumP s (.returned (.tuple #[.int .i64 0, .bool false]))) := hid (fun h => ⟨0, false, rfl, fun e => (by cases e), fun d h0 h2 e => by
   have e2 := HD.out d h0 h2 e
   subst e2
   exact absurd ⟨by rw [HT.out, e, itoa_digit h0 h2]; rfl, by omega, by omega⟩ h⟩)
  cases hq : (t.toList == s.toList)
  · have HR := hid (HNO.out (fun h => toList_ne hq h.1))
    go_enter Tryz.func40, Tryz.ntmps40
    go_wp2_with fail
    refine HA.out.mono ?_
    rintro e w1 ⟨rfl, u, rfl⟩
    have HE1 := hid (Ext.bytes w 5 u)
    go_wp2_with fail
    refine (HI _ (HV.out.ext HE1.out)).out.mono ?_
    rintro e w2 ⟨rfl, k, os, rfl⟩
    have HE2 := hid (HE1.out.trans (Ext.grow _ k os))
    go_wp2_with fail
    go_ret2
    exact ⟨HR.out, HE2.out⟩
  by_cases h9 : -9999 ≤ n ∧ n ≤ 9999
  · have HR : Hid (NumP s (.returned (.tuple #[.int .i64 n, .bool true]))) := hid ⟨n, true, rfl, fun _ h0 h2 => by
     rw [← toList_eq_true hq, HT.out, itoa_digit h0 h2]; rfl, fun d h0 h2 e => ⟨HD.out d h0 h2 e, rfl⟩⟩
    go_enter Tryz.func40, Tryz.ntmps40
    go_wp2_with fail
    refine HA.out.mono ?_
    rintro e w1 ⟨rfl, u, rfl⟩
    have HE1 := hid (Ext.bytes w 5 u)
    go_wp2_with fail
    refine (HI _ (HV.out.ext HE1.out)).out.mono ?_
    rintro e w2 ⟨rfl, k, os, rfl⟩
    have HE2 := hid (HE1.out.trans (Ext.grow _ k os))
    go_wp2_with fail
    go_ret2
    exact ⟨HR.out, HE2.out⟩
  · have HR := hid (HNO.out (fun h => h9 h.2))
    go_enter Tryz.func40, Tryz.ntmps40
    go_wp2_with fail
    refine HA.out.mono ?_
    rintro e w1 ⟨rfl, u, rfl⟩
    have HE1 := hid (Ext.bytes w 5 u)
    go_wp2_with fail
    refine (HI _ (HV.out.ext HE1.out)).out.mono ?_
    rintro e w2 ⟨rfl, k, os, rfl⟩
    have HE2 := hid (HE1.out.trans (Ext.grow _ k os))
    go_wp2_with fail
    all_goals
     go_ret2
     exact ⟨HR.out, HE2.out⟩
theorem plain_number (s : ByteArray) (w : World) (hv : VarsAt w) :
    Calls Tryz.prog 21 #[.string s] w fun e w' => NumP s e ∧ Ext w w' := by
 have HS := hid (short_number s w hv)
 clear hv
 go_enter Tryz.func21, Tryz.ntmps21
 go_wp2_with fail
 refine HS.out.mono ?_
 rintro e w1 ⟨⟨n, b, rfl, hr⟩, hE⟩
 have HR := hid hr
 have HE := hid hE
 clear hr hE
 have HNO : Hid (b = false ∨ n < 0 → NumP s (.returned (.tuple #[.int .i64 0, .bool false]))) := hid (fun h => ⟨0, false, rfl, fun e => (by cases e), fun d h0 h2 e => by
  obtain ⟨rfl, rfl⟩ := HR.out.2 d h0 h2 e
  rcases h with h | h
  · cases h
  · omega⟩)
 cases b
 · have HN := hid (HNO.out (.inl rfl))
   go_wp2_with fail
   go_ret2
   exact ⟨HN.out, HE.out⟩
 · by_cases hn : n < 0
   · have HN := hid (HNO.out (.inr hn))
     go_wp2_with fail
     go_ret2
     exact ⟨HN.out, HE.out⟩
   · go_wp2_with fail
     go_ret2
     exact ⟨⟨_, _, rfl, HR.out⟩, HE.out⟩
theorem fields_nil (a1 : Option Addr) (n1 c1 : Nat) (w : World) :
    Calls Tryz.prog 79 #[.slice a1 n1 c1, .slice none 0 0] w fun e w' => e = .returned (.bool (decide (n1 = 0))) ∧ w = w' := by
 by_cases h : n1 = 0
 · subst h
   go_enter Tryz.func79, Tryz.ntmps79
   go_wp2_with fail
   go_loop [13] (fun i => i = .int .i64 0) (fun _ => 0)
   case atStart => rfl
   case round =>
    subst hrel
    go_wp2_with fail
    go_ret
    exact ⟨rfl, rfl⟩
 · have h' : ((n1 : Int) == 0) = false := beq_eq_false_iff_ne.2 (by omega)
   have HD : Hid (decide (n1 = 0) = false) := hid (decide_eq_false h)
   clear h
   go_enter Tryz.func79, Tryz.ntmps79
   go_wp2_with fail
   go_ret
   exact ⟨by rw [HD.out]; rfl, rfl⟩
theorem methods_nil (a1 : Option Addr) (n1 c1 : Nat) (fv : Value) (w : World) :
    Calls Tryz.prog 80 #[.slice a1 n1 c1, .slice none 0 0, fv] w fun e w' => e = .returned (.bool (decide (n1 = 0))) ∧ w = w' := by
 by_cases h : n1 = 0
 · subst h
   go_enter Tryz.func80, Tryz.ntmps80
   go_wp2_with fail
   go_loop [17] (fun i => i = .int .i64 0) (fun _ => 0)
   case atStart => rfl
   case round =>
    subst hrel
    go_wp2_with fail
    go_ret
    exact ⟨rfl, rfl⟩
 · have h' : ((n1 : Int) == 0) = false := beq_eq_false_iff_ne.2 (by omega)
   have HD : Hid (decide (n1 = 0) = false) := hid (decide_eq_false h)
   clear h
   go_enter Tryz.func80, Tryz.ntmps80
   go_wp2_with fail
   go_ret
   exact ⟨by rw [HD.out]; rfl, rfl⟩
theorem cls_same (nm su : ByteArray) (a1 : Option Addr) (n1 c1 : Nat) (a2 : Option Addr) (n2 c2 : Nat) (w : World) :
    Calls Tryz.prog 53 #[.agg #[.string nm, .string su, .slice a1 n1 c1, .slice a2 n2 c2], .agg #[.string ⟨#[]⟩, .string ⟨#[]⟩, .slice none 0 0, .slice none 0 0]] w fun e w' => e = .returned (.bool (M.clsNone nm su n1 n2)) ∧ Ext w w' := by
 unfold M.clsNone
 rw [← toList_isEmpty nm, ← toList_isEmpty su]
 have HF := fun W => hid (fields_nil a1 n1 c1 W)
 have HM := fun fv W => hid (methods_nil a2 n2 c2 fv W)
 cases h1 : nm.toList.isEmpty
 · go_enter Tryz.func53, Tryz.ntmps53
   go_wp2_with fail
   go_ret
   exact ⟨rfl, (by repeat (first | with_reducible exact Kp.refl _ _ | with_reducible assumption | with_reducible refine Kp.alloc ?_ _ | with_reducible refine Kp.drew ?_ | with_reducible refine Kp.drewN ?_ _ | with_reducible refine Kp.setCell ?_ (fun h => absurd h (by simp <;> omega)) _ | with_reducible refine Kp.trans ?_ (by with_reducible assumption) | exact Kp.refl _ _ | assumption | refine Kp.alloc ?_ _ | refine Kp.drew ?_ | refine Kp.drewN ?_ _ | (refine Kp.setCell ?_ (fun h => absurd h (by simp; done)) _) | (refine Kp.setCell ?_ (fun h => absurd h (by simp; omega)) _) | refine Kp.trans ?_ (by assumption)))⟩
 cases h2 : su.toList.isEmpty
 · go_enter Tryz.func53, Tryz.ntmps53
   go_wp2_with fail
   go_ret
   exact ⟨rfl, (by repeat (first | with_reducible exact Kp.refl _ _ | with_reducible assumption | with_reducible refine Kp.alloc ?_ _ | with_reducible refine Kp.drew ?_ | with_reducible refine Kp.drewN ?_ _ | with_reducible refine Kp.setCell ?_ (fun h => absurd h (by simp <;> omega)) _ | with_reducible refine Kp.trans ?_ (by with_reducible assumption) | exact Kp.refl _ _ | assumption | refine Kp.alloc ?_ _ | refine Kp.drew ?_ | refine Kp.drewN ?_ _ | (refine Kp.setCell ?_ (fun h => absurd h (by simp; done)) _) | (refine Kp.setCell ?_ (fun h => absurd h (by simp; omega)) _) | refine Kp.trans ?_ (by assumption)))⟩
 cases h3 : decide (n1 = 0)
 · simp only [h3] at HF
   go_enter Tryz.func53, Tryz.ntmps53
   go_wp2_with fail
   refine (HF _).out.mono ?_
   rintro e w1 ⟨rfl, rfl⟩
   go_wp2_with fail
   go_ret
   exact ⟨rfl, (by repeat (first | with_reducible exact Kp.refl _ _ | with_reducible assumption | with_reducible refine Kp.alloc ?_ _ | with_reducible refine Kp.drew ?_ | with_reducible refine Kp.drewN ?_ _ | with_reducible refine Kp.setCell ?_ (fun h => absurd h (by simp <;> omega)) _ | with_reducible refine Kp.trans ?_ (by with_reducible assumption) | exact Kp.refl _ _ | assumption | refine Kp.alloc ?_ _ | refine Kp.drew ?_ | refine Kp.drewN ?_ _ | (refine Kp.setCell ?_ (fun h => absurd h (by simp; done)) _) | (refine Kp.setCell ?_ (fun h => absurd h (by simp; omega)) _) | refine Kp.trans ?_ (by assumption)))⟩
 · simp only [h3] at HF
   go_enter Tryz.func53, Tryz.ntmps53
   go_wp2_with fail
   refine (HF _).out.mono ?_
   rintro e w1 ⟨rfl, rfl⟩
   go_wp2_with fail
   refine (HM _ _).out.mono ?_
   rintro e w1 ⟨rfl, rfl⟩
   go_wp2_with fail
   go_ret
   exact ⟨rfl, (by repeat (first | with_reducible exact Kp.refl _ _ | with_reducible assumption | with_reducible refine Kp.alloc ?_ _ | with_reducible refine Kp.drew ?_ | with_reducible refine Kp.drewN ?_ _ | with_reducible refine Kp.setCell ?_ (fun h => absurd h (by simp <;> omega)) _ | with_reducible refine Kp.trans ?_ (by with_reducible assumption) | exact Kp.refl _ _ | assumption | refine Kp.alloc ?_ _ | refine Kp.drew ?_ | refine Kp.drewN ?_ _ | (refine Kp.setCell ?_ (fun h => absurd h (by simp; done)) _) | (refine Kp.setCell ?_ (fun h => absurd h (by simp; omega)) _) | refine Kp.trans ?_ (by assumption)))⟩
def ChangeIs (b : Bool) (e : Ending) : Prop := (b = true ∧ ∃ t x, e = .returned (.iface t x)) ∨ (b = false ∧ e = .returned .nilIface)
theorem M.chgOk_of (c : M.Chg) : M.chgOk c = (if 0 ≤ c.keeper ∧ c.keeper ≤ 2 then (if M.namOk c.name = true then (if c.kind = 3 then decide (0 ≤ c.dst ∧ c.dst ≤ 2) else decide ((c.kind = 2 ∨ c.kind = 4) ∧ c.dst = 0)) else false) else false) := by
 unfold M.chgOk
 by_cases h1 : 0 ≤ c.keeper <;> by_cases h2 : c.keeper ≤ 2 <;> cases h3 : M.namOk c.name <;> by_cases h4 : c.kind = 3 <;> simp [h1, h2, h4] <;> (by_cases h5 : c.kind = 2 <;> by_cases h6 : c.kind = 4 <;> simp [h5, h6])
theorem change_of (c : M.Chg) (hk1 : c.kind ≠ 1) (nm su : ByteArray) (a1 : Option Addr) (n1 c1 : Nat) (a2 : Option Addr) (n2 c2 : Nat) (w : World) :
    Calls Tryz.prog 32 #[.agg (chgCs c nm su a1 n1 c1 a2 n2 c2).toArray] w fun e w' => ChangeIs (M.chgOk c && M.clsNone nm su n1 n2) e ∧ Ext w w' := by
 rw [M.chgOk_of]
 obtain ⟨kind, keeper, name, dst⟩ := c
 simp only [chgCs] at hk1 ⊢
 obtain ⟨w0, hw0⟩ : ∃ w0, w0 = w.alloc (.cells #[.int .i64 kind, .int .i64 keeper, .string name, .int .i64 dst, .string nm, .string su, .slice a1 n1 c1, .slice a2 n2 c2] 27) := ⟨_, rfl⟩
 have hE0 : Ext w w0 := by rw [hw0]; exact (by repeat (first | with_reducible exact Kp.refl _ _ | with_reducible assumption | with_reducible refine Kp.alloc ?_ _ | with_reducible refine Kp.drew ?_ | with_reducible refine Kp.drewN ?_ _ | with_reducible refine Kp.setCell ?_ (fun h => absurd h (by simp <;> omega)) _ | with_reducible refine Kp.trans ?_ (by with_reducible assumption) | exact Kp.refl _ _ | assumption | refine Kp.alloc ?_ _ | refine Kp.drew ?_ | refine Kp.drewN ?_ _ | (refine Kp.setCell ?_ (fun h => absurd h (by simp; done)) _) | (refine Kp.setCell ?_ (fun h => absurd h (by simp; omega)) _) | refine Kp.trans ?_ (by assumption)))
 have hb : Blk w0 w.heap.size 27 #[.int .i64 kind, .int .i64 keeper, .string name, .int .i64 dst, .string nm, .string su, .slice a1 n1 c1, .slice a2 n2 c2] := by rw [hw0]; exact Blk.new _ _ _
 have HE0 := hid hE0
 have HB := hid hb
 have HW0 := hid hw0
 clear hE0 hb hw0
 have hk1e : (kind == 1) = false := beq_eq_false_iff_ne.2 hk1
 have c0 := HB.out.c 0 (.int .i64 kind) rfl
 have c1' := HB.out.c 1 (.int .i64 keeper) rfl
 have c2' := HB.out.c 2 (.string name) rfl
 have c3 := HB.out.c 3 (.int .i64 dst) rfl
 have c4 := HB.out.c 4 (.string nm) rfl
 have c5 := HB.out.c 5 (.string su) rfl
 have c6 := HB.out.c 6 (.slice a1 n1 c1) rfl
 have c7 := HB.out.c 7 (.slice a2 n2 c2) rfl
 have cz := HB.out.lt
 have HNM := fun W => hid (nam_ok name W)
 have HNO := fun W => hid (cls_same nm su a1 n1 c1 a2 n2 c2 W)
 by_cases h1 : keeper < 0
 · rw [if_neg (by omega)]
   go_enter Tryz.func32, Tryz.ntmps32
   go_wp2_with fail
   rw [← HW0.out]
   go_ret
   exact ⟨.inr ⟨rfl, rfl⟩, HE0.out⟩
 by_cases h2 : 3 ≤ keeper
 · rw [if_neg (by omega)]
   go_enter Tryz.func32, Tryz.ntmps32
   go_wp2_with fail
   rw [← HW0.out]
   go_ret
   exact ⟨.inr ⟨rfl, rfl⟩, HE0.out⟩
 rw [if_pos (by omega)]
 cases h3 : M.namOk name
 · simp only [h3] at HNM
   rw [if_neg (by simp)]
   go_enter Tryz.func32, Tryz.ntmps32
   go_wp2_with fail
   rw [← HW0.out]
   refine (HNM w0).out.mono ?_
   rintro e w1 ⟨rfl, rfl⟩
   go_wp2_with fail
   go_ret
   exact ⟨.inr ⟨rfl, rfl⟩, HE0.out⟩
 simp only [h3] at HNM
 rw [if_pos rfl]
 cases h4 : M.clsNone nm su n1 n2
 · simp only [h4] at HNO
   rw [Bool.and_false]
   go_enter Tryz.func32, Tryz.ntmps32
   go_wp2_with fail
   rw [← HW0.out]
   refine (HNM w0).out.mono ?_
   rintro e w1 ⟨rfl, rfl⟩
   go_wp2_with fail
   refine (HNO w0).out.mono ?_
   rintro e w1 ⟨rfl, hE1⟩
   go_wp2_with fail
   go_ret
   exact ⟨.inr ⟨rfl, rfl⟩, HE0.out.trans hE1⟩
 simp only [h4] at HNO
 rw [Bool.and_true]
 by_cases k3 : kind = 3
 · have k3e : (kind == 3) = true := beq_iff_eq.2 k3
   rw [if_pos k3]
   clear k3 hk1
   by_cases h5 : 0 ≤ dst ∧ dst ≤ 2
   · rw [decide_eq_true h5]
     go_enter Tryz.func32, Tryz.ntmps32
     go_wp2_with fail
     rw [← HW0.out]
     refine (HNM w0).out.mono ?_
     rintro e w1 ⟨rfl, rfl⟩
     go_wp2_with fail
     refine (HNO w0).out.mono ?_
     rintro e w1 ⟨rfl, hE1⟩
     have hb1 := HB.out.ext hE1
     have d0 := hb1.c 0 (.int .i64 kind) rfl
     have d2 := hb1.c 2 (.string name) rfl
     have d3 := hb1.c 3 (.int .i64 dst) rfl
     have dz := hb1.lt
     have HE1 := hid (HE0.out.trans hE1)
     clear hb1 hE1
     go_wp2_with fail
     go_ret
     exact ⟨.inl ⟨rfl, _, _, rfl⟩, (by first | exact HE1.out | exact HE1.out.alloc _)⟩
   · rw [decide_eq_false h5]
     by_cases h6 : dst < 0
     · go_enter Tryz.func32, Tryz.ntmps32
       go_wp2_with fail
       rw [← HW0.out]
       refine (HNM w0).out.mono ?_
       rintro e w1 ⟨rfl, rfl⟩
       go_wp2_with fail
       refine (HNO w0).out.mono ?_
       rintro e w1 ⟨rfl, hE1⟩
       have hb1 := HB.out.ext hE1
       have d0 := hb1.c 0 (.int .i64 kind) rfl
       have d2 := hb1.c 2 (.string name) rfl
       have d3 := hb1.c 3 (.int .i64 dst) rfl
       have dz := hb1.lt
       have HE1 := hid (HE0.out.trans hE1)
       clear hb1 hE1
       go_wp2_with fail
       go_ret
       exact ⟨.inr ⟨rfl, rfl⟩, HE1.out⟩
     · have h7 : 3 ≤ dst := by omega
       go_enter Tryz.func32, Tryz.ntmps32
       go_wp2_with fail
       rw [← HW0.out]
       refine (HNM w0).out.mono ?_
       rintro e w1 ⟨rfl, rfl⟩
       go_wp2_with fail
       refine (HNO w0).out.mono ?_
       rintro e w1 ⟨rfl, hE1⟩
       have hb1 := HB.out.ext hE1
       have d0 := hb1.c 0 (.int .i64 kind) rfl
       have d2 := hb1.c 2 (.string name) rfl
       have d3 := hb1.c 3 (.int .i64 dst) rfl
       have dz := hb1.lt
       have HE1 := hid (HE0.out.trans hE1)
       clear hb1 hE1
       go_wp2_with fail
       go_ret
       exact ⟨.inr ⟨rfl, rfl⟩, HE1.out⟩
 have k3e : (kind == 3) = false := beq_eq_false_iff_ne.2 k3
 rw [if_neg k3]
 cases h5 : (dst == 0)
 · rw [decide_eq_false (fun h => absurd h.2 (beq_eq_false_iff_ne.1 h5))]
   clear k3 hk1
   go_enter Tryz.func32, Tryz.ntmps32
   go_wp2_with fail
   rw [← HW0.out]
   refine (HNM w0).out.mono ?_
   rintro e w1 ⟨rfl, rfl⟩
   go_wp2_with fail
   refine (HNO w0).out.mono ?_
   rintro e w1 ⟨rfl, hE1⟩
   have hb1 := HB.out.ext hE1
   have d0 := hb1.c 0 (.int .i64 kind) rfl
   have d2 := hb1.c 2 (.string name) rfl
   have d3 := hb1.c 3 (.int .i64 dst) rfl
   have dz := hb1.lt
   have HE1 := hid (HE0.out.trans hE1)
   clear hb1 hE1
   go_wp2_with fail
   go_ret
   exact ⟨.inr ⟨rfl, rfl⟩, HE1.out⟩
 cases k2 : (kind == 2)
 · cases k4 : (kind == 4)
   · rw [decide_eq_false (fun h => h.1.elim (beq_eq_false_iff_ne.1 k2) (beq_eq_false_iff_ne.1 k4))]
     clear k3 hk1
     go_enter Tryz.func32, Tryz.ntmps32
     go_wp2_with fail
     rw [← HW0.out]
     refine (HNM w0).out.mono ?_
     rintro e w1 ⟨rfl, rfl⟩
     go_wp2_with fail
     refine (HNO w0).out.mono ?_
     rintro e w1 ⟨rfl, hE1⟩
     have hb1 := HB.out.ext hE1
     have d0 := hb1.c 0 (.int .i64 kind) rfl
     have d2 := hb1.c 2 (.string name) rfl
     have d3 := hb1.c 3 (.int .i64 dst) rfl
     have dz := hb1.lt
     have HE1 := hid (HE0.out.trans hE1)
     clear hb1 hE1
     go_wp2_with fail
     go_ret
     exact ⟨.inr ⟨rfl, rfl⟩, HE1.out⟩
   · rw [decide_eq_true ⟨.inr (beq_iff_eq.1 k4), beq_iff_eq.1 h5⟩]
     clear k3 hk1
     go_enter Tryz.func32, Tryz.ntmps32
     go_wp2_with fail
     rw [← HW0.out]
     refine (HNM w0).out.mono ?_
     rintro e w1 ⟨rfl, rfl⟩
     go_wp2_with fail
     refine (HNO w0).out.mono ?_
     rintro e w1 ⟨rfl, hE1⟩
     have hb1 := HB.out.ext hE1
     have d0 := hb1.c 0 (.int .i64 kind) rfl
     have d2 := hb1.c 2 (.string name) rfl
     have d3 := hb1.c 3 (.int .i64 dst) rfl
     have dz := hb1.lt
     have HE1 := hid (HE0.out.trans hE1)
     clear hb1 hE1
     go_wp2_with fail
     go_ret
     exact ⟨.inl ⟨rfl, _, _, rfl⟩, (by first | exact HE1.out | exact HE1.out.alloc _)⟩
 · rw [decide_eq_true ⟨.inl (beq_iff_eq.1 k2), beq_iff_eq.1 h5⟩]
   clear k3 hk1
   go_enter Tryz.func32, Tryz.ntmps32
   go_wp2_with fail
   rw [← HW0.out]
   refine (HNM w0).out.mono ?_
   rintro e w1 ⟨rfl, rfl⟩
   go_wp2_with fail
   refine (HNO w0).out.mono ?_
   rintro e w1 ⟨rfl, hE1⟩
   have hb1 := HB.out.ext hE1
   have d0 := hb1.c 0 (.int .i64 kind) rfl
   have d2 := hb1.c 2 (.string name) rfl
   have d3 := hb1.c 3 (.int .i64 dst) rfl
   have dz := hb1.lt
   have HE1 := hid (HE0.out.trans hE1)
   clear hb1 hE1
   go_wp2_with fail
   go_ret
   exact ⟨.inl ⟨rfl, _, _, rfl⟩, (by first | exact HE1.out | exact HE1.out.alloc _)⟩
theorem chg_ok (c : M.Chg) (hk1 : c.kind ≠ 1) (nm su : ByteArray) (a1 : Option Addr) (n1 c1 : Nat) (a2 : Option Addr) (n2 c2 : Nat) (w : World) :
    Calls Tryz.prog 15 #[.agg (chgCs c nm su a1 n1 c1 a2 n2 c2).toArray] w fun e w' => e = .returned (.bool (M.chgOk c && M.clsNone nm su n1 n2)) ∧ Ext w w' := by
 have HC := fun W => hid (change_of c hk1 nm su a1 n1 c1 a2 n2 c2 W)
 obtain ⟨B, hB⟩ : ∃ B, (M.chgOk c && M.clsNone nm su n1 n2) = B := ⟨_, rfl⟩
 rw [hB] at HC ⊢
 clear hB hk1
 simp only [chgCs] at HC ⊢
 go_enter Tryz.func15, Tryz.ntmps15
 go_wp2_with fail
 refine (HC _).out.mono ?_
 rintro e w1 ⟨⟨rfl, t, x, rfl⟩ | ⟨rfl, rfl⟩, hE⟩
 · have HE := hid (((Kp.refl _ _).alloc _ : Ext w _).trans hE)
   clear hE
   go_wp2_with fail
   go_ret
   exact ⟨rfl, HE.out⟩
 · have HE := hid (((Kp.refl _ _).alloc _ : Ext w _).trans hE)
   clear hE
   go_wp2_with fail
   go_ret
   exact ⟨rfl, HE.out⟩
theorem chg_two' {keeper : Int} {name t : ByteArray} (pre : List UInt8) (ht : t = M.bs (M.digit keeper)) :
    M.bs (pre ++ [32]) ++ (t ++ M.bs [32] ++ name) = M.bs (pre ++ 32 :: (M.digit keeper ++ 32 :: name.data.toList)) := by
 subst ht
 apply ByteArray.ext
 apply Array.toList_inj.1
 simp [M.bs]
theorem chg_three' {keeper dst : Int} {name t u : ByteArray} (pre : List UInt8) (ht : t = M.bs (M.digit keeper)) (hu : u = M.bs (M.digit dst)) :
    M.bs (pre ++ [32]) ++ (t ++ M.bs [32] ++ name) ++ M.bs [32] ++ u = M.bs (pre ++ 32 :: (M.digit keeper ++ 32 :: (name.data.toList ++ 32 :: M.digit dst))) := by
 subst ht hu
 apply ByteArray.ext
 apply Array.toList_inj.1
 simp [M.bs]
theorem itoa_at (n : Int) (h0 : 0 ≤ n) (h2 : n ≤ 2) (w : World) (hv : VarsAt w) :
    Calls Tryz.prog 29 #[.int .i64 n] w fun e w' => e = .returned (.string (M.bs (M.digit n))) ∧ Ext w w' := by
 refine (Tryz.strconv_Itoa n (by omega) (by omega) w hv.tab).mono ?_
 rintro e w1 ⟨rfl, k, os, rfl⟩
 exact ⟨by rw [itoa_digit h0 h2]; rfl, Ext.grow _ k os⟩
theorem chg_text (c : M.Chg) (hk1 : c.kind ≠ 1) (nm su : ByteArray) (a1 : Option Addr) (n1 c1 : Nat) (a2 : Option Addr) (n2 c2 : Nat) (w : World) (hv : VarsAt w) :
    Calls Tryz.prog 12 #[.agg (chgCs c nm su a1 n1 c1 a2 n2 c2).toArray] w fun e w' => e = .returned (.string (chgOut c (M.clsNone nm su n1 n2))) ∧ Ext w w' := by
 have hok := fun W => chg_ok c hk1 nm su a1 n1 c1 a2 n2 c2 W
 obtain ⟨kind, keeper, name, dst⟩ := c
 simp only [chgCs] at hk1 hok ⊢
 obtain ⟨w0, hw0⟩ : ∃ w0, w0 = w.alloc (.cells #[.int .i64 kind, .int .i64 keeper, .string name, .int .i64 dst, .string nm, .string su, .slice a1 n1 c1, .slice a2 n2 c2] 27) := ⟨_, rfl⟩
 have hE0 : Ext w w0 := by rw [hw0]; exact (by repeat (first | with_reducible exact Kp.refl _ _ | with_reducible assumption | with_reducible refine Kp.alloc ?_ _ | with_reducible refine Kp.drew ?_ | with_reducible refine Kp.drewN ?_ _ | with_reducible refine Kp.setCell ?_ (fun h => absurd h (by simp <;> omega)) _ | with_reducible refine Kp.trans ?_ (by with_reducible assumption) | exact Kp.refl _ _ | assumption | refine Kp.alloc ?_ _ | refine Kp.drew ?_ | refine Kp.drewN ?_ _ | (refine Kp.setCell ?_ (fun h => absurd h (by simp; done)) _) | (refine Kp.setCell ?_ (fun h => absurd h (by simp; omega)) _) | refine Kp.trans ?_ (by assumption)))
 have hb : Blk w0 w.heap.size 27 #[.int .i64 kind, .int .i64 keeper, .string name, .int .i64 dst, .string nm, .string su, .slice a1 n1 c1, .slice a2 n2 c2] := by rw [hw0]; exact Blk.new _ _ _
 have HE0 := hid hE0
 have HB := hid hb
 have HW0 := hid hw0
 clear hE0 hb hw0
 have HOK := fun W => hid (hok W)
 clear hok
 cases hB : (M.chgOk ⟨kind, keeper, name, dst⟩ && M.clsNone nm su n1 n2)
 · rw [hB] at HOK
   have HR : Hid (chgOut ⟨kind, keeper, name, dst⟩ (M.clsNone nm su n1 n2) = M.bs []) := hid (by unfold chgOut; rw [hB]; rfl)
   go_enter Tryz.func12, Tryz.ntmps12
   go_wp2_with fail
   rw [← HW0.out]
   refine (HOK w0).out.mono ?_
   rintro e w1 ⟨rfl, hE1⟩
   go_wp2_with fail
   go_ret
   exact ⟨by rw [HR.out]; rfl, HE0.out.trans hE1⟩
 rw [hB] at HOK
 have HR : Hid (chgOut ⟨kind, keeper, name, dst⟩ (M.clsNone nm su n1 n2) = M.bs (M.chgLine ⟨kind, keeper, name, dst⟩)) := hid (by unfold chgOut; rw [hB]; rfl)
 obtain ⟨g0, g2, gn, gk⟩ := M.chgOk_parts (Bool.and_eq_true_iff.1 hB).1
 simp only at g0 g2 gn gk
 have hns := name_size gn
 have GN := hid gn
 clear gn
 have HPL := fun W (h : VarsAt W) => hid (itoa_at keeper g0 g2 W h)
 have HV := hid hv
 go_enter Tryz.func12, Tryz.ntmps12
 go_wp2_with fail
 rw [← HW0.out]
 refine (HOK w0).out.mono ?_
 rintro e w1 ⟨rfl, hE1⟩
 have HB1 := hid (HB.out.ext hE1)
 have HE1 := hid (HE0.out.trans hE1)
 clear hE1
 obtain ⟨T, f, hneT, HT⟩ := Cls.ex (fun W' => Ext w1 W') w1 (Kp.refl _ _)
 have r1 := fun z => (HB1.out.ext (HT.inn z)).c 1 (.int .i64 keeper) rfl
 have r2 := fun z => (HB1.out.ext (HT.inn z)).c 2 (.string name) rfl
 have HTH := hid HT
 clear HT
 go_wp2_with fail
 (refine region_mix f 7 [([0, 1, 4, 5], 2)] [3, 6] (HTH.out.out _ ?_) (by kernel_rfl) (by kernel_rfl) (fun _ _ d _ _ h => by cases d <;> exact h) ?_)
 · exact (Kp.refl _ _).drew
 (refine wpMix_cons rfl rfl fun K hK => ?_); (change wpQuiet _ _ _ _ [_, _, _, _] _); (repeat (go_big_quiet_step (fail))); (refine wpQuiet_nil ?_); (refine hK _ fun K2 hK2 => ?_); clear hK K; (change wpList _ _ _ [_] _ _)
 go_wp2_with fail
 refine (HPL _ (HV.out.ext (HE1.out.trans (Kp.refl _ _).drew))).out.mono ?_
 rintro e w2 ⟨rfl, hE2⟩
 have HE2 : Hid (Ext w1 w2) := hid (((Kp.refl _ _).drew : Ext w1 w1.drew).trans hE2)
 clear hE2
 have hz1 := digit_size keeper
 go_wp2_with fail
 (refine hK2 _ _ (HTH.out.out _ HE2.out) ?_); clear hK2 K2
 (refine wpMix_nil rfl fun K hK => ?_); (change wpQuiet _ _ _ _ [_, _] _); (repeat (go_big_quiet_step (fail))); (refine wpQuiet_nil ?_); (refine hK _ ?_); clear hK K
 have c0 := (HB1.out.ext HE2.out).c 0 (.int .i64 kind) rfl
 have c3 := (HB1.out.ext HE2.out).c 3 (.int .i64 dst) rfl
 have cz := (HB1.out.ext HE2.out).lt
 have HE2w := hid (HE1.out.trans HE2.out)
 clear r1 r2 HTH hB
 rcases gk with ⟨hk, gd0, gd2⟩ | ⟨hk | hk, -⟩
 · subst hk
   have hl : M.chgLine ⟨3, keeper, name, dst⟩ = M.askW ++ 32 :: (M.digit keeper ++ 32 :: (name.data.toList ++ 32 :: M.digit dst)) := by simp [M.chgLine]
   have HL := hid hl
   clear hl
   have hz2 := digit_size dst
   go_wp2_with fail
   refine (itoa_at dst gd0 gd2 w2 (HV.out.ext HE2w.out)).mono ?_
   rintro e w3 ⟨rfl, hE3⟩
   go_wp2_with fail
   go_ret
   exact ⟨by rw [HR.out, HL.out, ← chg_three' (name := name) M.askW rfl rfl]; rfl, HE2w.out.trans hE3⟩
 · subst hk
   have hl : M.chgLine ⟨2, keeper, name, dst⟩ = M.takeW ++ 32 :: (M.digit keeper ++ 32 :: name.data.toList) := by simp [M.chgLine]
   have HL := hid hl
   clear hl
   go_wp2_with fail
   go_ret
   exact ⟨by rw [HR.out, HL.out, ← chg_two' (name := name) M.takeW rfl]; rfl, HE2w.out⟩
 · subst hk
   have hl : M.chgLine ⟨4, keeper, name, dst⟩ = M.freeW ++ 32 :: (M.digit keeper ++ 32 :: name.data.toList) := by simp [M.chgLine]
   have HL := hid hl
   clear hl
   go_wp2_with fail
   go_ret
   exact ⟨by rw [HR.out, HL.out, ← chg_two' (name := name) M.freeW rfl]; rfl, HE2w.out⟩
end Go.Proofs.YtkndccgackohnaaGreatDoor
namespace Go.Proofs.YtkndccgackohnaaGreatDoor
open Go Go.RowKit
namespace M
theorem index_hit32 (r : List UInt8) : Lib.index (32 :: r) [32] = 0 := by
 rw [Lib.index_one]; simp [Lib.indexByte]
theorem index_skip32 {c : UInt8} (r : List UInt8) (h : c ≠ 32) : Lib.index (c :: r) [32] = if Lib.index r [32] = -1 then -1 else Lib.index r [32] + 1 := by
 rw [Lib.index_one, Lib.index_one]
 simp [Lib.indexByte, h]
theorem split_words : ∀ (l cur : List UInt8) (k : Nat), l.count 32 ≤ k → ∃ h t, Lib.splitK [32] 0 k l = h :: t ∧ wordsGo cur l = (cur ++ h) :: t
 | [], cur, k, _ => by
  refine ⟨[], [], ?_, by simp [wordsGo]⟩
  cases k with
  | zero => rfl
  | succ k =>
   have : Lib.index [] [32] = -1 := by rw [Lib.index_one]; rfl
   rw [Lib.splitK, this]; rfl
 | c :: r, cur, k, hk => by
  by_cases h : c = 32
  · subst h
    rw [List.count_cons_self] at hk
    obtain ⟨k, rfl⟩ : ∃ j, k = j + 1 := ⟨k - 1, by omega⟩
    obtain ⟨h, t, e1, e2⟩ := split_words r [] k (by omega)
    refine ⟨[], h :: t, ?_, ?_⟩
    · rw [Lib.splitK, index_hit32]
      simpa using e1
    · rw [wordsGo, if_pos rfl, e2]; simp
  · rw [List.count_cons_of_ne h] at hk
    obtain ⟨h', t, e1, e2⟩ := split_words r (cur ++ [c]) k hk
    refine ⟨c :: h', t, ?_, by rw [wordsGo, if_neg h, e2]; simp⟩
    cases k with
    | zero =>
     rw [Lib.splitK] at e1 ⊢
     obtain ⟨rfl, rfl⟩ := List.cons.inj e1
     rfl
    | succ k =>
     rw [Lib.splitK] at e1 ⊢
     rw [index_skip32 r h]
     by_cases hi : Lib.index r [32] = -1
     · rw [if_pos hi]
       rw [hi] at e1
       simp only [BEq.rfl, if_true] at e1 ⊢
       obtain ⟨rfl, rfl⟩ := List.cons.inj e1
       rfl
     · rw [if_neg hi]
       have hge := Lib.index_ge r [32]
       obtain ⟨i, hi2⟩ : ∃ i : Nat, Lib.index r [32] = i := ⟨(Lib.index r [32]).toNat, by omega⟩
       rw [hi2] at e1 ⊢
       have n1 : ((i : Int) == -1) = false := beq_eq_false_iff_ne.2 (by omega)
       have n2 : ((i : Int) + 1 == -1) = false := beq_eq_false_iff_ne.2 (by omega)
       have n3 : ((i : Int) + 1).toNat = i + 1 := by omega
       rw [n1] at e1
       rw [n2, n3]
       simp only [Bool.false_eq_true, if_false, Int.toNat_natCast, Nat.add_zero, List.length_singleton] at e1 ⊢
       obtain ⟨rfl, rfl⟩ := List.cons.inj e1
       rw [List.take_succ_cons, List.drop_succ_cons]
theorem split_is (s : ByteArray) : Lib.splitB ⟨#[32]⟩ 0 (Lib.countB s ⟨#[32]⟩) s = words s := by
 have h1 := Lib.splitB_data ⟨#[32]⟩ 0 (Lib.countB s ⟨#[32]⟩) s
 obtain ⟨h, t, e1, e2⟩ := split_words s.data.toList [] (Lib.countB s ⟨#[32]⟩) (by rw [← Lib.count_one]; exact Nat.le_refl _)
 have e3 : Lib.splitK [32] 0 (Lib.countB s ⟨#[32]⟩) s.data.toList = wordsGo [] s.data.toList := by rw [e1, e2]; rfl
 unfold words
 rw [← e3, ← h1, List.map_map]
 exact (List.map_id _).symm
theorem split_len (s : ByteArray) : Lib.countB s ⟨#[32]⟩ + 1 = (words s).length := by
 rw [← split_is, Lib.splitB_all ⟨#[32]⟩ (by decide) 0 _ s rfl]
end M
theorem str_flat (l : List ByteArray) : l.map Value.string = l.flatMap strCs := by
 induction l with
 | nil => rfl
 | cons x r ih => rw [List.map_cons, List.flatMap_cons, ih]; rfl
theorem split_at (s : ByteArray) (w : World) (hs : s.size ≤ 4000000000) (hv : VarsAt w) :
    Calls Tryz.prog 20 #[.string s, .string ⟨#[32]⟩] w fun e w' => (∃ v, e = .returned v ∧ SliceOf 1 StrL w' (fun b => w.heap.size ≤ b ∧ b < w'.heap.size) v (M.words s)) ∧ Ext w w' := by
 obtain ⟨m, hm⟩ := hv.max
 refine (Tryz.strings_Split s ⟨#[32]⟩ m w (by omega) hm (by decide)).mono ?_
 rintro e w1 ⟨rfl, rfl⟩
 rw [M.split_is, M.split_len]
 refine ⟨⟨_, rfl, _, _, rfl, Nat.le_refl _, ?_, fun i x hx => ⟨w.heap.size, 0, strCs x, rfl, ⟨Nat.le_refl _, by simp⟩, rfl, rfl, fun j u hj => ?_⟩⟩, (Kp.refl _ _).alloc _⟩
 · rw [← M.split_len]
   have := Lib.countB_le ⟨#[32]⟩ (by decide) _ s (Nat.le_refl _)
   omega
 · have hj0 : j = 0 := by
    cases j with
    | zero => rfl
    | succ j => simp [strCs] at hj
   subst hj0
   simp [strCs] at hj
   subst hj
   rw [(Blk.new w 9 _).cell]
   simp [List.getElem?_map, hx]
end Go.Proofs.YtkndccgackohnaaGreatDoor
