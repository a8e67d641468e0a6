/- Walks: VmNew.; Walks: VmRun. (Printed by gen_m29.py.); Walks: the laws' small helpers.; Walks: a run of main's run with a number. -/
import Derived.Test.YtjdfceejkneofaaGreatJau
import Derived.Test.YtjdfceejkneofaaGreatJae
import Derived.BigQuiet
import Derived.Deep.QuietTactic
set_option maxRecDepth 100000
set_option maxHeartbeats 4000000
set_option linter.unusedSimpArgs false
set_option linter.unusedVariables false
namespace Go.Proofs.YtjdfceejkneofaaGreat
open Go Go.RowKit
open Go.Lib (hid)
theorem zst_at (w : World) (I : Nat → Prop) : StateL w I M.zst [.int .i64 0, .slice none 0 0, .slice none 0 0, .slice none 0 0, .int .i64 0, .int .i64 0] :=
 ⟨_, _, _, rfl, SliceOf.nil _ _ _ _, SliceOf.nil _ _ _ _, SliceOf.nil _ _ _ _⟩
theorem vm_new (w : World) (I : Nat → Prop) (v : Value) (p : M.Plan) (hp : SliceOf 2 KeeperL w I v p) (hI : ∀ b, I b → b < w.heap.size) (lk : Bool) (k : Int) (n m : ByteArray) (args : List Int) (va : Option Addr) (ac : Nat) (hargs : SliceOf 1 IntL w I (.slice va args.length ac) args) :
    Calls Tryz.prog 22 #[.agg #[v], .bool lk, .int .i64 k, .string n, .string m, .slice va args.length ac] w fun e w' =>
     (∃ cs, e = .returned (.agg cs.toArray) ∧ StateL w' (fun b => w.heap.size ≤ b) (M.vmNew p lk k n m args) cs) ∧ Ext w w' := by
 obtain ⟨a, cap, rfl, hn, hcap⟩ := hp.form
 obtain ⟨w2, hw2⟩ : ∃ w2, w2 = (w.alloc (.cells #[.slice a p.length cap] 40)).alloc (.cells #[.int .i64 0, .slice none 0 0, .slice none 0 0, .slice none 0 0, .int .i64 0, .int .i64 0] 36) := ⟨_, rfl⟩
 have hE2 : Ext w w2 := by rw [hw2]; exact (KX.k (by repeat (first | assumption | constructor)))
 have b12 : Blk w2 (w.heap.size + 1) 36 #[.int .i64 0, .slice none 0 0, .slice none 0 0, .slice none 0 0, .int .i64 0, .int .i64 0] := by rw [hw2]; exact Blk.newAt _ _ (by simp)
 have hz2 : w2.heap.size = w.heap.size + 2 := by rw [hw2]; simp
 have hnl := new_lodge w2 I (.slice a p.length cap) p (hp.ext KeeperL.stays hE2) (fun b hb => by have := hI b hb; omega)
 have hla : args.length ≤ 4294967296 := by obtain ⟨_, _, e, _, h4⟩ := hargs.form; exact h4
 have HV : Hid (M.vmNew p lk k n m args = if M.lodOk p && M.has p k && M.namOk n && M.namOk m && args.all M.numOk then M.start p lk k n m args else M.zst) := hid rfl
 have HNL := hid hnl
 have HE2 := hid hE2
 have HB2 := hid b12
 have HW2 := hid hw2
 have HAR := hid hargs
 have HI := hid hI
 clear hE2 b12 hw2 hnl hp hargs hI
 go_enter Tryz.func22, Tryz.ntmps22
 go_wp2_with fail
 rw [← HW2.out]
 refine HNL.out.mono ?_
 rintro e w3 ⟨hE3, hcs⟩
 have hbz := HB2.out.ext hE3
 have HBZ := hid hbz
 have HE3 := hid (HE2.out.trans hE3)
 have hz3 := hE3.size
 clear hE3 HNL
 rcases hcs with ⟨hlo, rfl⟩ | ⟨hlo, l, rfl, hL, hlO⟩
 · replace HV : Hid (M.vmNew p lk k n m args = M.zst) := hid (by rw [HV.out, hlo]; rfl)
   clear hlo
   have y0 := hbz.c 0 (.int .i64 0) rfl
   have f0 := hbz.frozen 0
   have y1 := hbz.c 1 (.slice none 0 0) rfl
   have f1 := hbz.frozen 1
   have y2 := hbz.c 2 (.slice none 0 0) rfl
   have f2 := hbz.frozen 2
   have y3 := hbz.c 3 (.slice none 0 0) rfl
   have f3 := hbz.frozen 3
   have y4 := hbz.c 4 (.int .i64 0) rfl
   have f4 := hbz.frozen 4
   have y5 := hbz.c 5 (.int .i64 0) rfl
   have f5 := hbz.frozen 5
   have yz := hbz.lt
   clear hbz
   go_wp2_with fail
   obtain ⟨w9, hw9⟩ : ∃ w9, w9 = (((((w3.setCell ⟨w.heap.size + 1, 0, none⟩ (.int .i64 0)).setCell ⟨w.heap.size + 1, 1, none⟩ (.slice none 0 0)).setCell ⟨w.heap.size + 1, 2, none⟩ (.slice none 0 0)).setCell ⟨w.heap.size + 1, 3, none⟩ (.slice none 0 0)).setCell ⟨w.heap.size + 1, 4, none⟩ (.int .i64 0)).setCell ⟨w.heap.size + 1, 5, none⟩ (.int .i64 0) := ⟨_, rfl⟩
   have hK9 : Kp (· = w.heap.size + 1) w3 w9 := by rw [hw9]; exact Kp.set6 (D := (· = w.heap.size + 1)) rfl _ _ _ _ _ _
   have hB9 : Blk w9 (w.heap.size + 1) 36 #[.int .i64 0, .slice none 0 0, .slice none 0 0, .slice none 0 0, .int .i64 0, .int .i64 0] := by rw [hw9]; exact HBZ.out.set6 _ _ _ _ _ _
   rw [← hw9]
   refine bodyPost_ret (results_agg agg_state rfl _ _ (w.heap.size + 1) rfl [.int .i64 0, .slice none 0 0, .slice none 0 0, .slice none 0 0, .int .i64 0, .int .i64 0] (CellsAt.ofB hB9) rfl) rfl ?_
   rw [HV.out]
   exact ⟨⟨_, rfl, zst_at _ _⟩, HE3.out.own hK9 (fun b e => by omega)⟩
 have hord := hL.ord
 have HL := hid hL
 replace HV : Hid (M.vmNew p lk k n m args = if M.has p k && M.namOk n && M.namOk m && args.all M.numOk then M.start p lk k n m args else M.zst) := hid (by rw [HV.out, hlo]; rfl)
 clear hL hlo
 go_wp2_with fail
 refine (lodge_has _ _ _ HL.out k).mono ?_
 rintro e w1 ⟨rfl, rfl⟩
 cases hh : M.has p k
 · replace HV : Hid (M.vmNew p lk k n m args = M.zst) := hid (by rw [HV.out, hh]; rfl)
   clear hh
   have y0 := hbz.c 0 (.int .i64 0) rfl
   have f0 := hbz.frozen 0
   have y1 := hbz.c 1 (.slice none 0 0) rfl
   have f1 := hbz.frozen 1
   have y2 := hbz.c 2 (.slice none 0 0) rfl
   have f2 := hbz.frozen 2
   have y3 := hbz.c 3 (.slice none 0 0) rfl
   have f3 := hbz.frozen 3
   have y4 := hbz.c 4 (.int .i64 0) rfl
   have f4 := hbz.frozen 4
   have y5 := hbz.c 5 (.int .i64 0) rfl
   have f5 := hbz.frozen 5
   have yz := hbz.lt
   clear hbz
   go_wp2_with fail
   obtain ⟨w9, hw9⟩ : ∃ w9, w9 = (((((w3.setCell ⟨w.heap.size + 1, 0, none⟩ (.int .i64 0)).setCell ⟨w.heap.size + 1, 1, none⟩ (.slice none 0 0)).setCell ⟨w.heap.size + 1, 2, none⟩ (.slice none 0 0)).setCell ⟨w.heap.size + 1, 3, none⟩ (.slice none 0 0)).setCell ⟨w.heap.size + 1, 4, none⟩ (.int .i64 0)).setCell ⟨w.heap.size + 1, 5, none⟩ (.int .i64 0) := ⟨_, rfl⟩
   have hK9 : Kp (· = w.heap.size + 1) w3 w9 := by rw [hw9]; exact Kp.set6 (D := (· = w.heap.size + 1)) rfl _ _ _ _ _ _
   have hB9 : Blk w9 (w.heap.size + 1) 36 #[.int .i64 0, .slice none 0 0, .slice none 0 0, .slice none 0 0, .int .i64 0, .int .i64 0] := by rw [hw9]; exact HBZ.out.set6 _ _ _ _ _ _
   rw [← hw9]
   refine bodyPost_ret (results_agg agg_state rfl _ _ (w.heap.size + 1) rfl [.int .i64 0, .slice none 0 0, .slice none 0 0, .slice none 0 0, .int .i64 0, .int .i64 0] (CellsAt.ofB hB9) rfl) rfl ?_
   rw [HV.out]
   exact ⟨⟨_, rfl, zst_at _ _⟩, HE3.out.own hK9 (fun b e => by omega)⟩
 replace HV : Hid (M.vmNew p lk k n m args = if M.namOk n && M.namOk m && args.all M.numOk then M.start p lk k n m args else M.zst) := hid (by rw [HV.out, hh]; rfl)
 clear hh
 go_wp2_with fail
 refine (nam_ok n _).mono ?_
 rintro e w1 ⟨rfl, rfl⟩
 cases hh : M.namOk n
 · replace HV : Hid (M.vmNew p lk k n m args = M.zst) := hid (by rw [HV.out, hh]; rfl)
   clear hh
   have y0 := hbz.c 0 (.int .i64 0) rfl
   have f0 := hbz.frozen 0
   have y1 := hbz.c 1 (.slice none 0 0) rfl
   have f1 := hbz.frozen 1
   have y2 := hbz.c 2 (.slice none 0 0) rfl
   have f2 := hbz.frozen 2
   have y3 := hbz.c 3 (.slice none 0 0) rfl
   have f3 := hbz.frozen 3
   have y4 := hbz.c 4 (.int .i64 0) rfl
   have f4 := hbz.frozen 4
   have y5 := hbz.c 5 (.int .i64 0) rfl
   have f5 := hbz.frozen 5
   have yz := hbz.lt
   clear hbz
   go_wp2_with fail
   obtain ⟨w9, hw9⟩ : ∃ w9, w9 = (((((w3.setCell ⟨w.heap.size + 1, 0, none⟩ (.int .i64 0)).setCell ⟨w.heap.size + 1, 1, none⟩ (.slice none 0 0)).setCell ⟨w.heap.size + 1, 2, none⟩ (.slice none 0 0)).setCell ⟨w.heap.size + 1, 3, none⟩ (.slice none 0 0)).setCell ⟨w.heap.size + 1, 4, none⟩ (.int .i64 0)).setCell ⟨w.heap.size + 1, 5, none⟩ (.int .i64 0) := ⟨_, rfl⟩
   have hK9 : Kp (· = w.heap.size + 1) w3 w9 := by rw [hw9]; exact Kp.set6 (D := (· = w.heap.size + 1)) rfl _ _ _ _ _ _
   have hB9 : Blk w9 (w.heap.size + 1) 36 #[.int .i64 0, .slice none 0 0, .slice none 0 0, .slice none 0 0, .int .i64 0, .int .i64 0] := by rw [hw9]; exact HBZ.out.set6 _ _ _ _ _ _
   rw [← hw9]
   refine bodyPost_ret (results_agg agg_state rfl _ _ (w.heap.size + 1) rfl [.int .i64 0, .slice none 0 0, .slice none 0 0, .slice none 0 0, .int .i64 0, .int .i64 0] (CellsAt.ofB hB9) rfl) rfl ?_
   rw [HV.out]
   exact ⟨⟨_, rfl, zst_at _ _⟩, HE3.out.own hK9 (fun b e => by omega)⟩
 replace HV : Hid (M.vmNew p lk k n m args = if M.namOk m && args.all M.numOk then M.start p lk k n m args else M.zst) := hid (by rw [HV.out, hh]; rfl)
 clear hh
 go_wp2_with fail
 refine (nam_ok m _).mono ?_
 rintro e w1 ⟨rfl, rfl⟩
 cases hh : M.namOk m
 · replace HV : Hid (M.vmNew p lk k n m args = M.zst) := hid (by rw [HV.out, hh]; rfl)
   clear hh
   have y0 := hbz.c 0 (.int .i64 0) rfl
   have f0 := hbz.frozen 0
   have y1 := hbz.c 1 (.slice none 0 0) rfl
   have f1 := hbz.frozen 1
   have y2 := hbz.c 2 (.slice none 0 0) rfl
   have f2 := hbz.frozen 2
   have y3 := hbz.c 3 (.slice none 0 0) rfl
   have f3 := hbz.frozen 3
   have y4 := hbz.c 4 (.int .i64 0) rfl
   have f4 := hbz.frozen 4
   have y5 := hbz.c 5 (.int .i64 0) rfl
   have f5 := hbz.frozen 5
   have yz := hbz.lt
   clear hbz
   go_wp2_with fail
   obtain ⟨w9, hw9⟩ : ∃ w9, w9 = (((((w3.setCell ⟨w.heap.size + 1, 0, none⟩ (.int .i64 0)).setCell ⟨w.heap.size + 1, 1, none⟩ (.slice none 0 0)).setCell ⟨w.heap.size + 1, 2, none⟩ (.slice none 0 0)).setCell ⟨w.heap.size + 1, 3, none⟩ (.slice none 0 0)).setCell ⟨w.heap.size + 1, 4, none⟩ (.int .i64 0)).setCell ⟨w.heap.size + 1, 5, none⟩ (.int .i64 0) := ⟨_, rfl⟩
   have hK9 : Kp (· = w.heap.size + 1) w3 w9 := by rw [hw9]; exact Kp.set6 (D := (· = w.heap.size + 1)) rfl _ _ _ _ _ _
   have hB9 : Blk w9 (w.heap.size + 1) 36 #[.int .i64 0, .slice none 0 0, .slice none 0 0, .slice none 0 0, .int .i64 0, .int .i64 0] := by rw [hw9]; exact HBZ.out.set6 _ _ _ _ _ _
   rw [← hw9]
   refine bodyPost_ret (results_agg agg_state rfl _ _ (w.heap.size + 1) rfl [.int .i64 0, .slice none 0 0, .slice none 0 0, .slice none 0 0, .int .i64 0, .int .i64 0] (CellsAt.ofB hB9) rfl) rfl ?_
   rw [HV.out]
   exact ⟨⟨_, rfl, zst_at _ _⟩, HE3.out.own hK9 (fun b e => by omega)⟩
 replace HV : Hid (M.vmNew p lk k n m args = if args.all M.numOk then M.start p lk k n m args else M.zst) := hid (by rw [HV.out, hh]; rfl)
 clear hh hbz
 have HAR3 : Hid (SliceOf 1 IntL w3 (· < l.O) (.slice va args.length ac) args) := hid (HAR.out.keep IntL.stays (Ext.same HE3.out) fun b hb => by have := HI.out b hb; omega)
 go_wp2_with fail
 go_loopw [39] (fun i wr => ∃ q : Nat, q ≤ args.length ∧ i = .int .i64 q ∧ Ext w3 wr ∧ Hid ((args.take q).all M.numOk = true)) (fun i _ => args.length - (intOf i).toNat)
 case atStart => exact ⟨0, Nat.zero_le _, rfl, Kp.refl _ _, hid (by simp)⟩
 case round =>
  obtain ⟨q, hq, rfl, hE, HQ⟩ := hrel
  have HE := hid hE
  have hzr := hE.size
  have hbz := HBZ.out.ext hE
  replace HBZ := hid hbz
  by_cases hlt : q < args.length
  · obtain ⟨x, hx⟩ := elemF args q hlt
    obtain ⟨b, off, cs, rfl, hI, rfl, -, hc⟩ := (HAR3.out.ext IntL.stays hE).get hx
    rw [Nat.mul_one] at hc
    have g0 := hc.one
    have gz := cell_lt g0
    have HX := hid hx
    clear hx hc hE
    go_wp2_with fail
    refine (num_ok x _).mono ?_
    rintro e w4 ⟨rfl, rfl⟩
    cases hno : (decide (-9999 ≤ x) && decide (x ≤ 9999))
    · replace HV : Hid (M.vmNew p lk k n m args = M.zst) := hid (by rw [HV.out, all_no HX.out (show M.numOk x = false from hno)]; rfl)
      clear hno g0
      have y0 := hbz.c 0 (.int .i64 0) rfl
      have f0 := hbz.frozen 0
      have y1 := hbz.c 1 (.slice none 0 0) rfl
      have f1 := hbz.frozen 1
      have y2 := hbz.c 2 (.slice none 0 0) rfl
      have f2 := hbz.frozen 2
      have y3 := hbz.c 3 (.slice none 0 0) rfl
      have f3 := hbz.frozen 3
      have y4 := hbz.c 4 (.int .i64 0) rfl
      have f4 := hbz.frozen 4
      have y5 := hbz.c 5 (.int .i64 0) rfl
      have f5 := hbz.frozen 5
      have yz := hbz.lt
      clear hbz
      go_wp2_with fail
      obtain ⟨w9, hw9⟩ : ∃ w9, w9 = (((((wr.setCell ⟨w.heap.size + 1, 0, none⟩ (.int .i64 0)).setCell ⟨w.heap.size + 1, 1, none⟩ (.slice none 0 0)).setCell ⟨w.heap.size + 1, 2, none⟩ (.slice none 0 0)).setCell ⟨w.heap.size + 1, 3, none⟩ (.slice none 0 0)).setCell ⟨w.heap.size + 1, 4, none⟩ (.int .i64 0)).setCell ⟨w.heap.size + 1, 5, none⟩ (.int .i64 0) := ⟨_, rfl⟩
      have hK9 : Kp (· = w.heap.size + 1) wr w9 := by rw [hw9]; exact Kp.set6 (D := (· = w.heap.size + 1)) rfl _ _ _ _ _ _
      have hB9 : Blk w9 (w.heap.size + 1) 36 #[.int .i64 0, .slice none 0 0, .slice none 0 0, .slice none 0 0, .int .i64 0, .int .i64 0] := by rw [hw9]; exact HBZ.out.set6 _ _ _ _ _ _
      rw [← hw9]
      refine bodyPost_ret (results_agg agg_state rfl _ _ (w.heap.size + 1) rfl [.int .i64 0, .slice none 0 0, .slice none 0 0, .slice none 0 0, .int .i64 0, .int .i64 0] (CellsAt.ofB hB9) rfl) rfl ?_
      rw [HV.out]
      exact ⟨⟨_, rfl, zst_at _ _⟩, (HE3.out.trans HE.out).own hK9 (fun b e => by omega)⟩
    · have HN : Hid (M.numOk x = true) := hid hno
      clear hno hbz
      go_wp2_with fail
      exact ⟨⟨q + 1, by omega, by go_num, HE.out, hid (all_succ HQ.out HX.out HN.out)⟩, by simp [intOf]; omega⟩
  · have HN : Hid (args.all M.numOk = true) := hid (all_end HQ.out (by omega))
    replace HV : Hid (M.vmNew p lk k n m args = M.start p lk k n m args) := hid (by rw [HV.out, HN.out]; rfl)
    clear hE hbz
    go_wp2_with fail
    refine (lodge_start _ _ _ (HL.out.ext HE.out) lk k n m args va ac (HAR3.out.ext IntL.stays HE.out) HN.out).mono ?_
    rintro e w4 ⟨⟨cs, rfl, hS⟩, hK4⟩
    rw [← HV.out] at hS
    obtain ⟨s, hs⟩ : ∃ s, M.vmNew p lk k n m args = s := ⟨_, rfl⟩
    rw [hs] at hS
    have HSS := hid hs
    have HS := hid hS
    obtain ⟨a1, c1, a2, c2, a3, c3, rfl, -, -, -⟩ := hS.form
    have hbz := HBZ.out.kp hK4 (by omega)
    have hz4 := hK4.size
    obtain ⟨w15, hw15⟩ : ∃ w15, w15 = (((((w4.setCell ⟨w.heap.size + 1, 0, none⟩ (.int .i64 s.status)).setCell ⟨w.heap.size + 1, 1, none⟩ (.slice a1 s.frames.length c1)).setCell ⟨w.heap.size + 1, 2, none⟩ (.slice a2 s.heap.length c2)).setCell ⟨w.heap.size + 1, 3, none⟩ (.slice a3 s.outs.length c3)).setCell ⟨w.heap.size + 1, 4, none⟩ (.int .i64 s.back.kind)).setCell ⟨w.heap.size + 1, 5, none⟩ (.int .i64 s.back.n) := ⟨_, rfl⟩
    have hK15 : Kp (· = w.heap.size + 1) w4 w15 := by rw [hw15]; exact Kp.set6 (D := (· = w.heap.size + 1)) rfl _ _ _ _ _ _
    have hB15 : Blk w15 (w.heap.size + 1) 36 #[.int .i64 s.status, .slice a1 s.frames.length c1, .slice a2 s.heap.length c2, .slice a3 s.outs.length c3, .int .i64 s.back.kind, .int .i64 s.back.n] := by rw [hw15]; exact hbz.set6 _ _ _ _ _ _
    have hKF : Ext w w15 := ((HE3.out.trans HE.out).own hK4 (fun b e => by omega)).own hK15 (fun b e => by omega)
    have hSF := StateL.stays _ _ _ (fun b => w.heap.size ≤ b) _ _ (hK15.same fun b (hb : wr.heap.size ≤ b) e => by omega) (fun b (hb : wr.heap.size ≤ b) => by omega) HS.out
    have y0 := hbz.c 0 (.int .i64 0) rfl
    have f0 := hbz.frozen 0
    have y1 := hbz.c 1 (.slice none 0 0) rfl
    have f1 := hbz.frozen 1
    have y2 := hbz.c 2 (.slice none 0 0) rfl
    have f2 := hbz.frozen 2
    have y3 := hbz.c 3 (.slice none 0 0) rfl
    have f3 := hbz.frozen 3
    have y4 := hbz.c 4 (.int .i64 0) rfl
    have f4 := hbz.frozen 4
    have y5 := hbz.c 5 (.int .i64 0) rfl
    have f5 := hbz.frozen 5
    have yz := hbz.lt
    have HKF := hid hKF
    have HSF := hid hSF
    have HB15 := hid hB15
    have HW15 := hid hw15
    clear hbz hw15 hK15 hB15 hKF hSF hS hK4 hs
    go_wp2_with fail
    rw [← HW15.out]
    refine bodyPost_ret (results_agg agg_state rfl _ _ (w.heap.size + 1) rfl [.int .i64 s.status, .slice a1 s.frames.length c1, .slice a2 s.heap.length c2, .slice a3 s.outs.length c3, .int .i64 s.back.kind, .int .i64 s.back.n] (CellsAt.ofB HB15.out) rfl) rfl ?_
    rw [HSS.out]
    exact ⟨⟨_, rfl, HSF.out⟩, HKF.out⟩
theorem M.steps_end {p : M.Plan} {lk : Bool} {s : M.St} (h : s.status ≠ 1) (f : Nat) : M.steps p lk f s = s := by
 cases f with
 | zero => rfl
 | succ f => unfold M.steps; rw [if_neg h]
theorem vm_run (w : World) (I : Nat → Prop) (v : Value) (p : M.Plan) (hp : SliceOf 2 KeeperL w I v p) (hI : ∀ b, I b → b < w.heap.size) (lk : Bool) (s : M.St) (cs : List Value) (hs : StateL w I s cs) (fuel : Int) :
    Calls Tryz.prog 21 #[.agg #[v], .bool lk, .agg cs.toArray, .int .i64 fuel] w fun e w' =>
     (∃ cs', e = .returned (.agg cs'.toArray) ∧ StateL w' (fun b => w.heap.size ≤ b) (M.vmRun p lk s fuel) cs') ∧ Ext w w' := by
 obtain ⟨a, cap, rfl, hn, hcap⟩ := hp.form
 obtain ⟨a1, c1, a2, c2, a3, c3, rfl, -, -, -⟩ := hs.form
 obtain ⟨w2, hw2⟩ : ∃ w2, w2 = ((w.alloc (.cells #[.slice a p.length cap] 40)).alloc (.cells #[.int .i64 s.status, .slice a1 s.frames.length c1, .slice a2 s.heap.length c2, .slice a3 s.outs.length c3, .int .i64 s.back.kind, .int .i64 s.back.n] 36)).alloc (.cells #[.int .i64 0, .slice none 0 0, .slice none 0 0, .slice none 0 0, .int .i64 0, .int .i64 0] 36) := ⟨_, rfl⟩
 have hE2 : Ext w w2 := by rw [hw2]; exact (KX.k (by repeat (first | assumption | constructor)))
 have b8 : Blk w2 (w.heap.size + 2) 36 #[.int .i64 0, .slice none 0 0, .slice none 0 0, .slice none 0 0, .int .i64 0, .int .i64 0] := by rw [hw2]; exact Blk.newAt _ _ (by simp)
 have b6 : Blk w2 (w.heap.size + 1) 36 #[.int .i64 s.status, .slice a1 s.frames.length c1, .slice a2 s.heap.length c2, .slice a3 s.outs.length c3, .int .i64 s.back.kind, .int .i64 s.back.n] := by rw [hw2]; exact Blk.ext (w := (w.alloc (.cells #[.slice a p.length cap] 40)).alloc (.cells #[.int .i64 s.status, .slice a1 s.frames.length c1, .slice a2 s.heap.length c2, .slice a3 s.outs.length c3, .int .i64 s.back.kind, .int .i64 s.back.n] 36)) (Blk.newAt _ _ (by simp)) ((Kp.refl _ _).alloc _)
 have hz2 : w2.heap.size = w.heap.size + 3 := by rw [hw2]; simp
 have hnl := new_lodge w2 I (.slice a p.length cap) p (hp.ext KeeperL.stays hE2) (fun b hb => by have := hI b hb; omega)
 have HV : Hid (M.vmRun p lk s fuel = if decide (fuel ≤ 400) && M.lodOk p && M.vmOk p s then M.steps p lk fuel.toNat s else M.zst) := hid rfl
 have HNL := hid hnl
 have HE2 := hid hE2
 have HB8 := hid b8
 have HB6 := hid b6
 have HW2 := hid hw2
 have HS := hid hs
 have HI := hid hI
 clear hE2 b8 b6 hw2 hnl hp hs hI
 go_enter Tryz.func21, Tryz.ntmps21
 go_wp2_with fail
 rw [← HW2.out]
 refine HNL.out.mono ?_
 rintro e w3 ⟨hE3, hcs⟩
 have hbz := HB8.out.ext hE3
 have HBZ := hid hbz
 have HE23 := hid hE3
 have HE3 := hid (HE2.out.trans hE3)
 have hz3 := hE3.size
 clear hE3 HNL
 by_cases hf : 400 < fuel
 · replace HV : Hid (M.vmRun p lk s fuel = M.zst) := hid (by rw [HV.out, decide_eq_false (by omega)]; rfl)
   have hf' : decide (400 < fuel) = true := decide_eq_true hf
   clear hf
   rcases hcs with ⟨hlo, rfl⟩ | ⟨hlo, l, rfl, hL, hlO⟩
   · clear hlo
     have y0 := hbz.c 0 (.int .i64 0) rfl
     have f0 := hbz.frozen 0
     have y1 := hbz.c 1 (.slice none 0 0) rfl
     have f1 := hbz.frozen 1
     have y2 := hbz.c 2 (.slice none 0 0) rfl
     have f2 := hbz.frozen 2
     have y3 := hbz.c 3 (.slice none 0 0) rfl
     have f3 := hbz.frozen 3
     have y4 := hbz.c 4 (.int .i64 0) rfl
     have f4 := hbz.frozen 4
     have y5 := hbz.c 5 (.int .i64 0) rfl
     have f5 := hbz.frozen 5
     have yz := hbz.lt
     clear hbz
     go_wp2_with fail
     obtain ⟨w9, hw9⟩ : ∃ w9, w9 = (((((w3.setCell ⟨w.heap.size + 2, 0, none⟩ (.int .i64 0)).setCell ⟨w.heap.size + 2, 1, none⟩ (.slice none 0 0)).setCell ⟨w.heap.size + 2, 2, none⟩ (.slice none 0 0)).setCell ⟨w.heap.size + 2, 3, none⟩ (.slice none 0 0)).setCell ⟨w.heap.size + 2, 4, none⟩ (.int .i64 0)).setCell ⟨w.heap.size + 2, 5, none⟩ (.int .i64 0) := ⟨_, rfl⟩
     have hK9 : Kp (· = w.heap.size + 2) w3 w9 := by rw [hw9]; exact Kp.set6 (D := (· = w.heap.size + 2)) rfl _ _ _ _ _ _
     have hB9 : Blk w9 (w.heap.size + 2) 36 #[.int .i64 0, .slice none 0 0, .slice none 0 0, .slice none 0 0, .int .i64 0, .int .i64 0] := by rw [hw9]; exact HBZ.out.set6 _ _ _ _ _ _
     rw [← hw9]
     refine bodyPost_ret (results_agg agg_state rfl _ _ (w.heap.size + 2) rfl [.int .i64 0, .slice none 0 0, .slice none 0 0, .slice none 0 0, .int .i64 0, .int .i64 0] (CellsAt.ofB hB9) rfl) rfl ?_
     rw [HV.out]
     exact ⟨⟨_, rfl, zst_at _ _⟩, HE3.out.own hK9 (fun b e => by omega)⟩
   · clear hlo hL
     have y0 := hbz.c 0 (.int .i64 0) rfl
     have f0 := hbz.frozen 0
     have y1 := hbz.c 1 (.slice none 0 0) rfl
     have f1 := hbz.frozen 1
     have y2 := hbz.c 2 (.slice none 0 0) rfl
     have f2 := hbz.frozen 2
     have y3 := hbz.c 3 (.slice none 0 0) rfl
     have f3 := hbz.frozen 3
     have y4 := hbz.c 4 (.int .i64 0) rfl
     have f4 := hbz.frozen 4
     have y5 := hbz.c 5 (.int .i64 0) rfl
     have f5 := hbz.frozen 5
     have yz := hbz.lt
     clear hbz
     go_wp2_with fail
     obtain ⟨w9, hw9⟩ : ∃ w9, w9 = (((((w3.setCell ⟨w.heap.size + 2, 0, none⟩ (.int .i64 0)).setCell ⟨w.heap.size + 2, 1, none⟩ (.slice none 0 0)).setCell ⟨w.heap.size + 2, 2, none⟩ (.slice none 0 0)).setCell ⟨w.heap.size + 2, 3, none⟩ (.slice none 0 0)).setCell ⟨w.heap.size + 2, 4, none⟩ (.int .i64 0)).setCell ⟨w.heap.size + 2, 5, none⟩ (.int .i64 0) := ⟨_, rfl⟩
     have hK9 : Kp (· = w.heap.size + 2) w3 w9 := by rw [hw9]; exact Kp.set6 (D := (· = w.heap.size + 2)) rfl _ _ _ _ _ _
     have hB9 : Blk w9 (w.heap.size + 2) 36 #[.int .i64 0, .slice none 0 0, .slice none 0 0, .slice none 0 0, .int .i64 0, .int .i64 0] := by rw [hw9]; exact HBZ.out.set6 _ _ _ _ _ _
     rw [← hw9]
     refine bodyPost_ret (results_agg agg_state rfl _ _ (w.heap.size + 2) rfl [.int .i64 0, .slice none 0 0, .slice none 0 0, .slice none 0 0, .int .i64 0, .int .i64 0] (CellsAt.ofB hB9) rfl) rfl ?_
     rw [HV.out]
     exact ⟨⟨_, rfl, zst_at _ _⟩, HE3.out.own hK9 (fun b e => by omega)⟩
 have hf' : decide (400 < fuel) = false := decide_eq_false hf
 rcases hcs with ⟨hlo, rfl⟩ | ⟨hlo, l, rfl, hL, hlO⟩
 · replace HV : Hid (M.vmRun p lk s fuel = M.zst) := hid (by rw [HV.out, hlo, Bool.and_false]; rfl)
   clear hlo hf
   have y0 := hbz.c 0 (.int .i64 0) rfl
   have f0 := hbz.frozen 0
   have y1 := hbz.c 1 (.slice none 0 0) rfl
   have f1 := hbz.frozen 1
   have y2 := hbz.c 2 (.slice none 0 0) rfl
   have f2 := hbz.frozen 2
   have y3 := hbz.c 3 (.slice none 0 0) rfl
   have f3 := hbz.frozen 3
   have y4 := hbz.c 4 (.int .i64 0) rfl
   have f4 := hbz.frozen 4
   have y5 := hbz.c 5 (.int .i64 0) rfl
   have f5 := hbz.frozen 5
   have yz := hbz.lt
   clear hbz
   go_wp2_with fail
   obtain ⟨w9, hw9⟩ : ∃ w9, w9 = (((((w3.setCell ⟨w.heap.size + 2, 0, none⟩ (.int .i64 0)).setCell ⟨w.heap.size + 2, 1, none⟩ (.slice none 0 0)).setCell ⟨w.heap.size + 2, 2, none⟩ (.slice none 0 0)).setCell ⟨w.heap.size + 2, 3, none⟩ (.slice none 0 0)).setCell ⟨w.heap.size + 2, 4, none⟩ (.int .i64 0)).setCell ⟨w.heap.size + 2, 5, none⟩ (.int .i64 0) := ⟨_, rfl⟩
   have hK9 : Kp (· = w.heap.size + 2) w3 w9 := by rw [hw9]; exact Kp.set6 (D := (· = w.heap.size + 2)) rfl _ _ _ _ _ _
   have hB9 : Blk w9 (w.heap.size + 2) 36 #[.int .i64 0, .slice none 0 0, .slice none 0 0, .slice none 0 0, .int .i64 0, .int .i64 0] := by rw [hw9]; exact HBZ.out.set6 _ _ _ _ _ _
   rw [← hw9]
   refine bodyPost_ret (results_agg agg_state rfl _ _ (w.heap.size + 2) rfl [.int .i64 0, .slice none 0 0, .slice none 0 0, .slice none 0 0, .int .i64 0, .int .i64 0] (CellsAt.ofB hB9) rfl) rfl ?_
   rw [HV.out]
   exact ⟨⟨_, rfl, zst_at _ _⟩, HE3.out.own hK9 (fun b e => by omega)⟩
 have hord := hL.ord
 have HL := hid hL
 replace HV : Hid (M.vmRun p lk s fuel = if M.vmOk p s then M.steps p lk fuel.toNat s else M.zst) := hid (by rw [HV.out, decide_eq_true (by omega), hlo]; rfl)
 have b63 := HB6.out.ext HE23.out
 have HSL : Hid (StateL w3 (· < l.O) s [.int .i64 s.status, .slice a1 s.frames.length c1, .slice a2 s.heap.length c2, .slice a3 s.outs.length c3, .int .i64 s.back.kind, .int .i64 s.back.n]) := hid (StateL.stays _ _ _ _ _ _ (Ext.same HE3.out) (fun b hb => by have := HI.out b hb; omega) HS.out)
 have HB63 := hid b63
 have HF := hid hf
 have x0 := b63.c 0 (.int .i64 s.status) rfl
 have x1 := b63.c 1 (.slice a1 s.frames.length c1) rfl
 have x2 := b63.c 2 (.slice a2 s.heap.length c2) rfl
 have x3 := b63.c 3 (.slice a3 s.outs.length c3) rfl
 have x4 := b63.c 4 (.int .i64 s.back.kind) rfl
 have x5 := b63.c 5 (.int .i64 s.back.n) rfl
 have xz := b63.lt
 clear hL hlo b63 hf hbz
 go_wp2_with fail
 refine (lodge_vmOk _ _ _ HL.out s _ HSL.out).mono ?_
 rintro e w4 ⟨rfl, hC4⟩
 have HC4 := hid hC4
 have hz4 := hC4.kp.size
 clear hC4 x0 x1 x2 x3 x4 x5 xz
 have hbz := HBZ.out.kp HC4.out.kp (by omega)
 replace HBZ := hid hbz
 have HE4 : Hid (Ext w w4) := hid (HE3.out.own HC4.out.kp (fun b e => by omega))
 cases hv : M.vmOk p s
 · replace HV : Hid (M.vmRun p lk s fuel = M.zst) := hid (by rw [HV.out, hv]; rfl)
   clear hv
   have y0 := hbz.c 0 (.int .i64 0) rfl
   have f0 := hbz.frozen 0
   have y1 := hbz.c 1 (.slice none 0 0) rfl
   have f1 := hbz.frozen 1
   have y2 := hbz.c 2 (.slice none 0 0) rfl
   have f2 := hbz.frozen 2
   have y3 := hbz.c 3 (.slice none 0 0) rfl
   have f3 := hbz.frozen 3
   have y4 := hbz.c 4 (.int .i64 0) rfl
   have f4 := hbz.frozen 4
   have y5 := hbz.c 5 (.int .i64 0) rfl
   have f5 := hbz.frozen 5
   have yz := hbz.lt
   clear hbz
   go_wp2_with fail
   obtain ⟨w9, hw9⟩ : ∃ w9, w9 = (((((w4.setCell ⟨w.heap.size + 2, 0, none⟩ (.int .i64 0)).setCell ⟨w.heap.size + 2, 1, none⟩ (.slice none 0 0)).setCell ⟨w.heap.size + 2, 2, none⟩ (.slice none 0 0)).setCell ⟨w.heap.size + 2, 3, none⟩ (.slice none 0 0)).setCell ⟨w.heap.size + 2, 4, none⟩ (.int .i64 0)).setCell ⟨w.heap.size + 2, 5, none⟩ (.int .i64 0) := ⟨_, rfl⟩
   have hK9 : Kp (· = w.heap.size + 2) w4 w9 := by rw [hw9]; exact Kp.set6 (D := (· = w.heap.size + 2)) rfl _ _ _ _ _ _
   have hB9 : Blk w9 (w.heap.size + 2) 36 #[.int .i64 0, .slice none 0 0, .slice none 0 0, .slice none 0 0, .int .i64 0, .int .i64 0] := by rw [hw9]; exact HBZ.out.set6 _ _ _ _ _ _
   rw [← hw9]
   refine bodyPost_ret (results_agg agg_state rfl _ _ (w.heap.size + 2) rfl [.int .i64 0, .slice none 0 0, .slice none 0 0, .slice none 0 0, .int .i64 0, .int .i64 0] (CellsAt.ofB hB9) rfl) rfl ?_
   rw [HV.out]
   exact ⟨⟨_, rfl, zst_at _ _⟩, HE4.out.own hK9 (fun b e => by omega)⟩
 replace HV : Hid (M.vmRun p lk s fuel = M.steps p lk fuel.toNat s) := hid (by rw [HV.out, hv]; rfl)
 have b64 := HB63.out.kp HC4.out.kp (by omega)
 have x0 := b64.c 0 (.int .i64 s.status) rfl
 have x1 := b64.c 1 (.slice a1 s.frames.length c1) rfl
 have x2 := b64.c 2 (.slice a2 s.heap.length c2) rfl
 have x3 := b64.c 3 (.slice a3 s.outs.length c3) rfl
 have x4 := b64.c 4 (.int .i64 s.back.kind) rfl
 have x5 := b64.c 5 (.int .i64 s.back.n) rfl
 have xz := b64.lt
 have HVO := hid hv
 clear hv b64 hbz
 go_wp2_with fail
 refine (new_machine _ _ _ HC4.out.at_ lk s _ (StateL.stays _ _ _ _ _ _ (HC4.out.same (by omega)) (fun _ h => h) HSL.out) HVO.out).mono ?_
 rintro e w5 ⟨⟨mb, own, g, rfl, hM, hg⟩, hE5⟩
 have HM := hid hM
 have HG := hid hg
 have HE5 := hid hE5
 have hz5 := hE5.size
 clear hM hg hE5 x0 x1 x2 x3 x4 x5 xz
 go_wp2_with fail
 go_loopw [11] (fun i wr => ∃ (q : Nat) (own' : Own) (g' : Gh), i = .int .i64 q ∧ Ext w wr ∧ Kp (fun b => w4.heap.size ≤ b ∨ b = l.D) w5 wr ∧ MachAt wr l p own' w4.heap.size mb lk g' ∧ M.Runs p g'.st ∧ M.steps p lk fuel.toNat s = M.steps p lk (fuel.toNat - q) g'.st) (fun i _ => fuel.toNat - (intOf i).toNat)
 case atStart => exact ⟨0, own, g, rfl, HE4.out.trans HE5.out, Kp.refl _ _, HM.out, by rw [HG.out]; exact M.runs_iff.1 HVO.out, by rw [HG.out]; rfl⟩
 case round =>
  obtain ⟨q, own', g', rfl, hE, hKr, hM, hR, hst⟩ := hrel
  have HE := hid hE
  have HKR := hid hKr
  have HMM := hid hM
  have HR := hid hR
  have HST := hid hst
  have e2 := hM.blk.c 2 (.int .i64 g'.status) rfl
  have ez := hM.blk.lt
  have hzr := hKr.size
  by_cases hgo : (q : Int) < fuel ∧ g'.status = 1
  · obtain ⟨hq, hs1⟩ := hgo
    have hq' : decide ((q : Int) < fuel) = true := decide_eq_true hq
    have e3 : ((g'.status : Int) == 1) = true := beq_iff_eq.2 hs1
    obtain ⟨r, c, hcs⟩ : ∃ r c, g'.cs = r ++ [c] := by
     have hne : g'.cs ≠ [] := fun e => by
      have := hR.goes.1 hs1
      simp [Gh.st, e] at this
     exact ⟨g'.cs.dropLast, g'.cs.getLast hne, (List.dropLast_concat_getLast hne).symm⟩
    have hstep := mach_step wr l p own' w4.heap.size mb lk g' hM r c hcs hs1
    have HSTEP := hid hstep
    have HQ := hid hq
    have HS1 := hid hs1
    have hwq : IntKind.i64.wrap ((q : Int) + 1) = q + 1 := IntWalk.i64_in _ (by have := HF.out; omega)
    clear hE hKr hM hR hst hcs hstep hs1
    go_wp2_with fail
    refine HSTEP.out.mono ?_
    rintro e w6 ⟨rfl, hK6, own6, g6, hag6, hM6, hg6⟩
    have HX := hid (And.intro hK6 (And.intro hM6 hg6))
    have hd : ∀ b, MO l own' b → w4.heap.size ≤ b ∨ b = l.D := fun b hb => by
     rcases hb with hb | hb
     · exact .inr hb
     · exact .inl (HMM.out.dom b hb).1
    have HD := hid hd
    clear hK6 hag6 hM6 hg6 hd e2 ez
    go_wp2_with fail
    refine ⟨⟨q + 1, own6, g6, by go_num, HE.out.own HX.out.1 (fun b hb => by rcases HD.out b hb with h | h <;> omega), HKR.out.trans (HX.out.1.weak fun b _ hb => HD.out b hb), HX.out.2.1, ?_, ?_⟩, by simp [intOf]; omega⟩
    · rw [HX.out.2.2]; exact M.step_runs HMM.out.lod.ok HR.out lk
    · rw [HX.out.2.2, HST.out]
      have e1 : fuel.toNat - q = (fuel.toNat - (q + 1)) + 1 := by omega
      rw [e1]
      show (if g'.st.status = 1 then _ else _) = _
      rw [if_pos (show g'.st.status = 1 from HS1.out)]
  · have hfin : M.steps p lk fuel.toNat s = g'.st := by
     rw [hst]
     by_cases hs1 : g'.status = 1
     · have : fuel.toNat - q = 0 := by omega
       rw [this]; rfl
     · exact M.steps_end hs1 _
    have HFIN := hid hfin
    have hstt := mach_state wr l p own' w4.heap.size mb lk g' hM
    have HSTT := hid hstt
    have hbz := (HBZ.out.ext HE5.out).kp hKr (fun e => by omega)
    replace HBZ := hid hbz
    have hq' : ∃ b1, decide ((q : Int) < fuel) = b1 := ⟨_, rfl⟩
    obtain ⟨b1, hb1⟩ := hq'
    have e3 : ∃ b2, ((g'.status : Int) == 1) = b2 := ⟨_, rfl⟩
    obtain ⟨b2, hb2⟩ := e3
    have hand : (b1 && b2) = false := by
     rw [← hb1, ← hb2]
     cases hx : decide ((q : Int) < fuel)
     · rfl
     · have h1 := of_decide_eq_true hx
       have h2 : ¬ g'.status = 1 := fun e => hgo ⟨h1, e⟩
       simp [h2]
    have HBZ' := HBZ
    clear hgo hE hKr hM hR hst hfin hstt hbz
    have tail : True := trivial
    have hcase : (b1 = false) ∨ (b1 = true ∧ b2 = false) := by cases b1 <;> cases b2 <;> simp_all
    clear hand
    rcases hcase with rfl | ⟨rfl, rfl⟩
    all_goals
     go_wp2_with fail
     refine HSTT.out.mono ?_
     rintro e w6 ⟨⟨cs, rfl, hS⟩, hE6⟩
     rw [← HFIN.out, ← HV.out] at hS
     obtain ⟨s2, hs2⟩ : ∃ s2, M.vmRun p lk s fuel = s2 := ⟨_, rfl⟩
     rw [hs2] at hS
     have HS2 := hid hs2
     have HSX := hid hS
     obtain ⟨a1', c1', a2', c2', a3', c3', rfl, -, -, -⟩ := hS.form
     have hbz := HBZ.out.ext hE6
     have hz6 := hE6.size
     obtain ⟨w15, hw15⟩ : ∃ w15, w15 = (((((w6.setCell ⟨w.heap.size + 2, 0, none⟩ (.int .i64 s2.status)).setCell ⟨w.heap.size + 2, 1, none⟩ (.slice a1' s2.frames.length c1')).setCell ⟨w.heap.size + 2, 2, none⟩ (.slice a2' s2.heap.length c2')).setCell ⟨w.heap.size + 2, 3, none⟩ (.slice a3' s2.outs.length c3')).setCell ⟨w.heap.size + 2, 4, none⟩ (.int .i64 s2.back.kind)).setCell ⟨w.heap.size + 2, 5, none⟩ (.int .i64 s2.back.n) := ⟨_, rfl⟩
     have hK15 : Kp (· = w.heap.size + 2) w6 w15 := by rw [hw15]; exact Kp.set6 (D := (· = w.heap.size + 2)) rfl _ _ _ _ _ _
     have hB15 : Blk w15 (w.heap.size + 2) 36 #[.int .i64 s2.status, .slice a1' s2.frames.length c1', .slice a2' s2.heap.length c2', .slice a3' s2.outs.length c3', .int .i64 s2.back.kind, .int .i64 s2.back.n] := by rw [hw15]; exact hbz.set6 _ _ _ _ _ _
     have hKF : Ext w w15 := (HE.out.trans hE6).own hK15 (fun b e => by omega)
     have hSF := StateL.stays _ _ _ (fun b => w.heap.size ≤ b) _ _ (hK15.same fun b (hb : wr.heap.size ≤ b) e => by omega) (fun b (hb : wr.heap.size ≤ b) => by omega) HSX.out
     have y0 := hbz.c 0 (.int .i64 0) rfl
     have f0 := hbz.frozen 0
     have y1 := hbz.c 1 (.slice none 0 0) rfl
     have f1 := hbz.frozen 1
     have y2 := hbz.c 2 (.slice none 0 0) rfl
     have f2 := hbz.frozen 2
     have y3 := hbz.c 3 (.slice none 0 0) rfl
     have f3 := hbz.frozen 3
     have y4 := hbz.c 4 (.int .i64 0) rfl
     have f4 := hbz.frozen 4
     have y5 := hbz.c 5 (.int .i64 0) rfl
     have f5 := hbz.frozen 5
     have yz := hbz.lt
     have HKF := hid hKF
     have HSF := hid hSF
     have HB15 := hid hB15
     have HW15 := hid hw15
     clear hbz hw15 hK15 hB15 hKF hSF hS hE6 hs2
     go_wp2_with fail
     rw [← HW15.out]
     refine bodyPost_ret (results_agg agg_state rfl _ _ (w.heap.size + 2) rfl [.int .i64 s2.status, .slice a1' s2.frames.length c1', .slice a2' s2.heap.length c2', .slice a3' s2.outs.length c3', .int .i64 s2.back.kind, .int .i64 s2.back.n] (CellsAt.ofB HB15.out) rfl) rfl ?_
     rw [HS2.out]
     exact ⟨⟨_, rfl, HSF.out⟩, HKF.out⟩
end Go.Proofs.YtjdfceejkneofaaGreat
namespace Go.Proofs.YtjdfceejkneofaaGreat
open Go Go.RowKit
open Go.Lib (hid)
def BytesAt (W : World) (v : Value) (zs : List Int) : Prop :=
 (v = .slice none 0 0 ∧ zs = []) ∨ ∃ a cap, v = .slice (some a) zs.length cap ∧ zs.length ≤ cap ∧ (∀ i, i < zs.length → W.cell? (a.add i) = some (.int .u8 (zs.getD i 0))) ∧ ∀ n ∈ zs, 0 ≤ n ∧ n < 256
theorem BytesAt.form {W : World} {v : Value} {zs : List Int} (h : BytesAt W v zs) : ∃ a cap, v = .slice a zs.length cap := by
 rcases h with ⟨rfl, rfl⟩ | ⟨a, cap, rfl, _⟩
 · exact ⟨none, 0, rfl⟩
 · exact ⟨_, _, rfl⟩
theorem addr_lt {W : World} {a : Addr} {v : Value} (h : W.cell? a = some v) : a.block < W.heap.size := by
 rcases Nat.lt_or_ge a.block W.heap.size with h1 | h1
 · exact h1
 · simp [World.cell?, Array.getElem?_eq_none h1] at h
theorem BytesAt.ext {W W' : World} {v : Value} {zs : List Int} (h : BytesAt W v zs) (hE : Ext W W') : BytesAt W' v zs := by
 rcases h with h | ⟨a, cap, h1, h2, h3, h4⟩
 · exact .inl h
 · exact .inr ⟨a, cap, h1, h2, fun i hi => (World.cell?_of_block (hE.block _ (addr_lt (h3 i hi)) fun x => x)).trans (h3 i hi), h4⟩
namespace M
def loNum (zs : List Int) (k : Nat) : Int := if zs.length = 0 then k else (zs.getD (k % zs.length) 0 * 40 + zs.getD ((k * 7 + 1) % zs.length) 0) % 19999 - 9999
theorem loNum_in (zs : List Int) (k : Nat) (hk : k ≤ 1000) : -9999 ≤ loNum zs k ∧ loNum zs k ≤ 9999 := by
 unfold loNum
 split <;> omega
end M
theorem getD_byte {zs : List Int} (h : ∀ n ∈ zs, 0 ≤ n ∧ n < 256) {i : Nat} (hi : i < zs.length) : 0 ≤ zs.getD i 0 ∧ zs.getD i 0 < 256 := by
 have e : zs.getD i 0 = zs[i] := by simp [List.getD, List.getElem?_eq_getElem hi]
 rw [e]
 exact h _ (List.getElem_mem _)
theorem lo_num (w : World) (v : Value) (zs : List Int) (h : BytesAt w v zs) (hz : zs.length ≤ 1048576) (k : Nat) (hk : k ≤ 1000) :
    Calls Tryz.prog 11 #[v, .int .i64 k] w fun e w' => e = .returned (.int .i64 (M.loNum zs k)) ∧ w = w' := by
 rcases h with ⟨rfl, rfl⟩ | ⟨a, cap, rfl, hcap, hc, hb⟩
 · go_enter Tryz.func11, Tryz.ntmps11
   go_wp2_with fail
   go_ret
   exact ⟨rfl, rfl⟩
 · by_cases h0 : zs.length = 0
   · have HV : Hid (M.loNum zs k = k) := hid (by unfold M.loNum; rw [if_pos h0])
     have h0' : ((zs.length : Int) == 0) = true := by simp [h0]
     clear h0 hc
     go_enter Tryz.func11, Tryz.ntmps11
     go_wp2_with fail
     go_ret
     exact ⟨by rw [HV.out]; rfl, rfl⟩
   · obtain ⟨i, hi⟩ : ∃ i, k % zs.length = i := ⟨_, rfl⟩
     obtain ⟨j, hj⟩ : ∃ j, (k * 7 + 1) % zs.length = j := ⟨_, rfl⟩
     have hil : i < zs.length := by rw [← hi]; exact Nat.mod_lt _ (by omega)
     have hjl : j < zs.length := by rw [← hj]; exact Nat.mod_lt _ (by omega)
     have HV : Hid (M.loNum zs k = (zs.getD i 0 * 40 + zs.getD j 0) % 19999 - 9999) := hid (by unfold M.loNum; rw [if_neg h0, hi, hj])
     have h0' : ((zs.length : Int) == 0) = false := beq_eq_false_iff_ne.2 (by omega)
     have hbi := getD_byte hb hil
     have hbj := getD_byte hb hjl
     have ci := hc i hil
     have cj := hc j hjl
     obtain ⟨x, hx⟩ : ∃ x, zs.getD i 0 = x := ⟨_, rfl⟩
     obtain ⟨y, hy⟩ : ∃ y, zs.getD j 0 = y := ⟨_, rfl⟩
     rw [hx] at hbi ci HV
     rw [hy] at hbj cj HV
     have e1 : (k : Int) % (zs.length : Int) = i := by omega
     have e2 : ((k : Int) * 7 + 1) % (zs.length : Int) = j := by
      have : (((k * 7 + 1) % zs.length : Nat) : Int) = ((k : Int) * 7 + 1) % (zs.length : Int) := by simp
      rw [← this, hj]
     obtain ⟨hx0, hx1⟩ := hbi
     obtain ⟨hy0, hy1⟩ := hbj
     have hln : 0 < zs.length := by omega
     clear hc hb hx hy hi hj h0
     go_enter Tryz.func11, Tryz.ntmps11
     go_wp2_with fail
     go_ret
     exact ⟨by rw [HV.out]; rfl, rfl⟩
def numKind : M.Kind := ⟨1, M.none_⟩
theorem lo_kind (w : World) : Calls Tryz.prog 19 #[] w fun e w' => e = .returned (.agg #[.int .i64 1, .string ⟨#[]⟩]) ∧ Ext w w' := by
 go_enter Tryz.func19, Tryz.ntmps19
 go_wp2_with fail
 refine bodyPost_ret (v := .agg #[.int .i64 1, .string ⟨#[]⟩]) (by simp [results, Tryz.results19, go_sem]) rfl ?_
 exact ⟨rfl, (KX.k (by repeat (first | assumption | constructor)))⟩
theorem lo_gives (w : World) (st : Int) (a1 : Option Addr) (n1 c1 : Nat) (a2 : Option Addr) (n2 c2 : Nat) (a3 : Option Addr) (n3 c3 : Nat) (bk bn n : Int) :
    Calls Tryz.prog 16 #[.agg #[.int .i64 st, .slice a1 n1 c1, .slice a2 n2 c2, .slice a3 n3 c3, .int .i64 bk, .int .i64 bn], .int .i64 n] w fun e w' => e = .returned (.bool (decide (st = 2) && decide (M.Val.mk bk bn = ⟨1, n⟩))) ∧ Ext w w' := by
 by_cases h1 : st = 2
 · subst h1
   by_cases h2 : bk = 1
   · subst h2
     by_cases h3 : bn = n
     · subst h3
       go_enter Tryz.func16, Tryz.ntmps16
       go_wp2_with fail
       go_ret
       exact ⟨ret_bool (by simp), (KX.k (by repeat (first | assumption | constructor)))⟩
     · have e3 : ((bn : Int) == n) = false := beq_eq_false_iff_ne.2 h3
       have H3 := hid h3
       clear h3
       go_enter Tryz.func16, Tryz.ntmps16
       go_wp2_with fail
       go_ret
       exact ⟨ret_bool (by simp [H3.out]), (KX.k (by repeat (first | assumption | constructor)))⟩
   · have e2 : ((bk : Int) == 1) = false := beq_eq_false_iff_ne.2 h2
     have H2 := hid h2
     clear h2
     go_enter Tryz.func16, Tryz.ntmps16
     go_wp2_with fail
     go_ret
     exact ⟨ret_bool (by simp [H2.out]), (KX.k (by repeat (first | assumption | constructor)))⟩
 · have e1 : ((st : Int) == 2) = false := beq_eq_false_iff_ne.2 h1
   have H1 := hid h1
   clear h1
   go_enter Tryz.func16, Tryz.ntmps16
   go_wp2_with fail
   go_ret
   exact ⟨ret_bool (by simp [H1.out]), (KX.k (by repeat (first | assumption | constructor)))⟩
theorem lo_ints (w : World) (I J : Nat → Prop) (va vb : Value) (a b : List Int) (ha : SliceOf 1 IntL w I va a) (hb : SliceOf 1 IntL w J vb b) :
    Calls Tryz.prog 14 #[va, vb] w fun e w' => e = .returned (.bool (decide (a = b))) ∧ Ext w w' := by
 obtain ⟨a1, c1, rfl, -, hla⟩ := ha.form
 obtain ⟨a2, c2, rfl, -, hlb⟩ := hb.form
 by_cases hl : a.length = b.length
 rotate_left
 · have e1 : ((a.length : Int) != b.length) = true := bne_iff_ne.2 (by omega)
   have HV : Hid (decide (a = b) = false) := hid (decide_eq_false fun e => hl (by rw [e]))
   clear hl
   go_enter Tryz.func14, Tryz.ntmps14
   go_wp2_with fail
   go_ret
   exact ⟨ret_bool HV.out.symm, (KX.k (by repeat (first | assumption | constructor)))⟩
 have e1 : ((a.length : Int) != b.length) = false := by simp [hl]
 have HLL := hid hl
 clear hl
 go_enter Tryz.func14, Tryz.ntmps14
 go_wp2_with fail
 go_loopw [5] (fun i wr => ∃ q : Nat, q ≤ a.length ∧ i = .int .i64 q ∧ Ext w wr ∧ Hid (a.take q = b.take q)) (fun i _ => a.length - (intOf i).toNat)
 case atStart => exact ⟨0, Nat.zero_le _, rfl, Kp.refl _ _, hid (by simp)⟩
 case round =>
  obtain ⟨q, hq, rfl, hE, HQ⟩ := hrel
  by_cases hlt : q < a.length
  · have hltb : q < b.length := by have := HLL.out; omega
    obtain ⟨x, hx⟩ := elemF a q hlt
    obtain ⟨y, hy⟩ := elemF b q hltb
    obtain ⟨b1, o1, cs1, rfl, -, rfl, -, hc1⟩ := (ha.ext IntL.stays hE).get hx
    obtain ⟨b2, o2, cs2, rfl, -, rfl, -, hc2⟩ := (hb.ext IntL.stays hE).get hy
    rw [Nat.mul_one] at hc1 hc2
    have g1 := fun d => ((Kp.refl _ wr).drewN d : Ext wr _).cellE hc1.one
    have g2 := fun d => ((Kp.refl _ wr).drewN d : Ext wr _).cellE hc2.one
    have HX := hid hx
    have HY := hid hy
    have HE := hid hE
    have hq2 : (q : Int) < a.length := by omega
    have hq3 : (q : Int) < b.length := by omega
    clear hx hy hc1 hc2 hE
    by_cases hxy : x = y
    · subst hxy
      go_wp2_with fail
      go_quiet (fail)
      go_wp2_with fail
      refine ⟨⟨q + 1, by omega, by go_num, HE.out.trans (KX.k (by repeat (first | assumption | constructor))), hid ?_⟩, by simp [intOf]; omega⟩
      rw [List.take_add_one, List.take_add_one, HQ.out, HX.out, HY.out]
    · have e2 : ((x : Int) != y) = true := bne_iff_ne.2 hxy
      have HV : Hid (decide (a = b) = false) := hid (decide_eq_false fun e => hxy (by
       have h1 := HX.out; rw [e, HY.out] at h1; cases h1; rfl))
      clear hxy
      go_wp2_with fail
      go_quiet (fail)
      go_wp2_with fail
      go_ret
      exact ⟨ret_bool HV.out.symm, HE.out.trans (KX.k (by repeat (first | assumption | constructor)))⟩
  · have HV : Hid (decide (a = b) = true) := hid (decide_eq_true (by
     have h1 := HQ.out
     have h2 := HLL.out
     rwa [List.take_of_length_le (by omega), List.take_of_length_le (by omega)] at h1))
    have HE := hid hE
    clear hE
    go_wp2_with fail
    go_ret
    exact ⟨ret_bool HV.out.symm, HE.out⟩
end Go.Proofs.YtjdfceejkneofaaGreat
namespace Go.Proofs.YtjdfceejkneofaaGreat
open Go Go.RowKit
open Go.Lib (hid)
def LiesAll {α : Type} (R : Lies α) (w : World) (I : Nat → Prop) : List α → List (List Value) → Prop
 | [], [] => True
 | x :: xs, c :: cs => R w I x c ∧ LiesAll R w I xs cs
 | _, _ => False
theorem LiesAll.get {α : Type} {R : Lies α} {w : World} {I : Nat → Prop} : ∀ {xs : List α} {css : List (List Value)}, LiesAll R w I xs css → ∀ (i : Nat) (x : α), xs[i]? = some x → ∃ c, css[i]? = some c ∧ R w I x c
 | [], [], _, i, x, h => by simp at h
 | y :: xs, c :: cs, h, 0, x, hx => by
  simp at hx; subst hx
  exact ⟨c, rfl, h.1⟩
 | y :: xs, c :: cs, h, i + 1, x, hx => by
  obtain ⟨c', h1, h2⟩ := LiesAll.get h.2 i x (by simpa using hx)
  exact ⟨c', by simpa using h1, h2⟩
 | [], _ :: _, h, _, _, _ => h.elim
 | _ :: _, [], h, _, _, _ => h.elim
theorem flatten_at {k : Nat} : ∀ {css : List (List Value)}, (∀ c ∈ css, c.length = k) → ∀ (i : Nat) (c : List Value), css[i]? = some c → ∀ (j : Nat) (u : Value), c[j]? = some u → css.flatten[i * k + j]? = some u
 | [], _, i, c, h, _, _, _ => by simp at h
 | d :: r, hk, 0, c, h, j, u, hu => by
  simp at h; subst h
  rw [List.flatten_cons, List.getElem?_append_left (by have := (List.getElem?_eq_some_iff.1 hu).1; omega)]
  simpa using hu
 | d :: r, hk, i + 1, c, h, j, u, hu => by
  have hd := hk d (by simp)
  rw [List.flatten_cons, List.getElem?_append_right (by rw [hd, Nat.succ_mul]; omega)]
  have := flatten_at (fun c hc => hk c (List.mem_cons_of_mem _ hc)) i c (by simpa using h) j u hu
  rw [hd, show (i + 1) * k + j - k = i * k + j by rw [Nat.succ_mul]; omega]
  exact this
theorem SliceOf.row {α : Type} {k : Nat} {R : Lies α} {w : World} {I : Nat → Prop} {g : Nat} {xs : List α} (css : List (List Value)) {cells : List Value} (hc : CellsAt w g 0 cells) (he : cells = css.flatten) (hk : ∀ c ∈ css, c.length = k)
    (hR : LiesAll R w I xs css) (hI : I g) {cap : Nat} (hcap : xs.length ≤ cap) (hn : xs.length ≤ 4294967296) : SliceOf k R w I (.slice (some ⟨g, 0, none⟩) xs.length cap) xs :=
 ⟨_, cap, rfl, hcap, hn, fun i x hx => by
  obtain ⟨c, hci, hr⟩ := hR.get i x hx
  refine ⟨g, 0, c, rfl, hI, hr, hk c (List.mem_of_getElem? hci), fun j u hj => ?_⟩
  have := hc _ _ (by rw [he]; exact flatten_at hk i c hci j u hj)
  simpa [Nat.add_assoc] using this⟩
theorem SliceOf.css {α : Type} {k : Nat} {R : Lies α} {w : World} {I : Nat → Prop} {v : Value} : ∀ {xs : List α}, SliceOf k R w I v xs → ∃ css : List (List Value), css.length = xs.length ∧ (∀ c ∈ css, c.length = k) ∧ LiesAll R w I xs css ∧
    ∀ (ad : Addr) (n c : Nat), v = .slice (some ad) n c → ∀ (i : Nat) (c : List Value), css[i]? = some c → ∃ b off, ad = ⟨b, off, none⟩ ∧ I b ∧ CellsAt w b (off + i * k) c := by
 intro xs h
 obtain ⟨a, cap, rfl, h1, h2, h3⟩ := h
 have main : ∀ (ys : List α) (s : Nat), (∀ (i : Nat) (x : α), ys[i]? = some x → ∃ b off cs, a = some ⟨b, off, none⟩ ∧ I b ∧ R w I x cs ∧ cs.length = k ∧ CellsAt w b (off + (s + i) * k) cs) →
     ∃ css : List (List Value), css.length = ys.length ∧ (∀ c ∈ css, c.length = k) ∧ LiesAll R w I ys css ∧ ∀ (i : Nat) (c : List Value), css[i]? = some c → ∃ b off, a = some ⟨b, off, none⟩ ∧ I b ∧ CellsAt w b (off + (s + i) * k) c := by
  intro ys
  induction ys with
  | nil => exact fun s _ => ⟨[], rfl, by simp, trivial, fun i c h => by simp at h⟩
  | cons y r ih =>
   intro s h
   obtain ⟨css, e1, e2, e3, e4⟩ := ih (s + 1) (fun i x hx => by
    obtain ⟨b, off, cs, ea, hI, hr, hl, hc⟩ := h (i + 1) x (by simpa using hx)
    exact ⟨b, off, cs, ea, hI, hr, hl, by rw [show s + 1 + i = s + (i + 1) by omega]; exact hc⟩)
   obtain ⟨b, off, cs, ea, hI, hr, hl, hc⟩ := h 0 y rfl
   refine ⟨cs :: css, by simp [e1], fun c hc' => (List.mem_cons.1 hc').elim (fun e => by rw [e]; exact hl) (e2 c), ⟨hr, e3⟩, fun i c hi => ?_⟩
   cases i with
   | zero => simp at hi; subst hi; exact ⟨b, off, ea, hI, hc⟩
   | succ i =>
    obtain ⟨b', off', ea', hI', hc'⟩ := e4 i c (by simpa using hi)
    exact ⟨b', off', ea', hI', by rw [show s + (i + 1) = s + 1 + i by omega]; exact hc'⟩
 obtain ⟨css, e1, e2, e3, e4⟩ := main xs 0 (fun i x hx => by simpa using h3 i x hx)
 refine ⟨css, e1, e2, e3, fun ad n c hv i d hd => ?_⟩
 cases hv
 obtain ⟨b, off, ea, hI, hc⟩ := e4 i d hd
 cases ea
 exact ⟨b, off, rfl, hI, by simpa using hc⟩
theorem LiesAll.snoc {α : Type} {R : Lies α} {w : World} {I : Nat → Prop} {x : α} {c : List Value} : ∀ {xs : List α} {css : List (List Value)}, LiesAll R w I xs css → R w I x c → LiesAll R w I (xs ++ [x]) (css ++ [c])
 | [], [], _, h => ⟨h, trivial⟩
 | _ :: _, _ :: _, h, hx => ⟨h.1, LiesAll.snoc h.2 hx⟩
 | [], _ :: _, h, _ => h.elim
 | _ :: _, [], h, _ => h.elim
theorem LiesAll.keep {α : Type} {R : Lies α} (hR : Stays R) {w w' : World} {I J : Nat → Prop} (hs : Same I w w') (hIJ : ∀ b, I b → J b) : ∀ {xs : List α} {css : List (List Value)}, LiesAll R w I xs css → LiesAll R w' J xs css
 | [], [], _ => trivial
 | _ :: _, _ :: _, h => ⟨hR _ _ _ _ _ _ hs hIJ h.1, LiesAll.keep hR hs hIJ h.2⟩
 | [], _ :: _, h => h.elim
 | _ :: _, [], h => h.elim
theorem SliceOf.inside {α : Type} {k : Nat} {R : Lies α} (hR : ∀ w I x cs, R w I x cs → R w (fun b => I b ∧ b < w.heap.size) x cs) (hk : 0 < k) {w : World} {I : Nat → Prop} {v : Value} {xs : List α} (h : SliceOf k R w I v xs) : SliceOf k R w (fun b => I b ∧ b < w.heap.size) v xs := by
 obtain ⟨a, cap, e, h1, h2, h3⟩ := h
 refine ⟨a, cap, e, h1, h2, fun i x hx => ?_⟩
 obtain ⟨b, off, cs, ea, hI, hr, hl, hc⟩ := h3 i x hx
 have hlt : b < w.heap.size := by
  cases cs with
  | nil => simp at hl; omega
  | cons u r => exact cell_lt (hc 0 u rfl)
 exact ⟨b, off, cs, ea, ⟨hI, hlt⟩, hR _ _ _ _ hr, hl, hc⟩
theorem StateL.inside {w : World} {I : Nat → Prop} {s : M.St} {cs : List Value} (h : StateL w I s cs) : StateL w (fun b => b < w.heap.size) s cs := by
 obtain ⟨vf, vh, vo, e, h1, h2, h3⟩ := h
 have hI : ∀ b, I b ∧ b < w.heap.size → b < w.heap.size := fun b h => h.2
 have keep : ∀ {α : Type} {k : Nat} {R : Lies α} (hS : Stays R) {v : Value} {xs : List α}, SliceOf k R w (fun b => I b ∧ b < w.heap.size) v xs → SliceOf k R w (fun b => b < w.heap.size) v xs := fun hS _ _ h => h.keep hS (fun _ _ _ _ h => h) hI
 refine ⟨vf, vh, vo, e, keep FrL.stays (h1.inside (fun w I x cs h => ?_) (by omega)), keep ObjL.stays (h2.inside (fun w I x cs h => ?_) (by omega)), keep IntL.stays (h3.inside (fun _ _ _ _ h => h) (by omega))⟩
 · obtain ⟨vl, vs, e, a, b⟩ := h
   exact ⟨vl, vs, e, a.inside (fun _ _ _ _ h => h) (by omega), b.inside (fun _ _ _ _ h => h) (by omega)⟩
 · obtain ⟨vf, e, a⟩ := h
   exact ⟨vf, e, a.inside (fun _ _ _ _ h => h) (by omega)⟩
namespace M
def mainN : ByteArray := ⟨#[109, 97, 105, 110]⟩
def runN : ByteArray := ⟨#[114, 117, 110]⟩
def loDo (p : Plan) (n : Int) : St := vmRun p true (vmNew p true 0 mainN runN [n]) 400
end M
theorem lo_do (w : World) (I : Nat → Prop) (v : Value) (p : M.Plan) (hp : SliceOf 2 KeeperL w I v p) (hI : ∀ b, I b → b < w.heap.size) (n : Int) :
    Calls Tryz.prog 12 #[.agg #[v], .int .i64 n] w fun e w' => (∃ cs, e = .returned (.agg cs.toArray) ∧ StateL w' (fun b => w.heap.size ≤ b) (M.loDo p n) cs) ∧ Ext w w' := by
 obtain ⟨a, cap, rfl, hn, hcap⟩ := hp.form
 obtain ⟨w2, hw2⟩ : ∃ w2, w2 = (w.alloc (.cells #[.slice a p.length cap] 40)).alloc (.cells #[.int .i64 0, .slice none 0 0, .slice none 0 0, .slice none 0 0, .int .i64 0, .int .i64 0] 36) := ⟨_, rfl⟩
 have hE2 : Ext w w2 := by rw [hw2]; exact (KX.k (by repeat (first | assumption | constructor)))
 have b2 : Blk w2 w.heap.size 40 #[.slice a p.length cap] := by rw [hw2]; exact (Blk.new _ _ _).ext (KX.k (by repeat (first | assumption | constructor)))
 have b4 : Blk w2 (w.heap.size + 1) 36 #[.int .i64 0, .slice none 0 0, .slice none 0 0, .slice none 0 0, .int .i64 0, .int .i64 0] := by rw [hw2]; exact Blk.newAt _ _ (by simp)
 have hz2 : w2.heap.size = w.heap.size + 2 := by rw [hw2]; simp
 obtain ⟨T, f, hneT, HT⟩ := Cls.ex (fun W' => Ext w2 W') _ (Kp.refl _ _)
 have r0 := fun z => (b2.ext (HT.inn z)).c 0 (.slice a p.length cap) rfl
 have HTH := hid HT
 have HE2 := hid hE2
 have HB4 := hid b4
 have HW2 := hid hw2
 have HP := hid hp
 have HI := hid hI
 clear HT hE2 b2 b4 hw2 hp hI
 go_enter Tryz.func12, Tryz.ntmps12
 go_wp2_with fail
 rw [← HW2.out]
 (refine region_mix f 6 [([0, 1, 2], 3), ([], 4), ([], 5)] [] (HTH.out.out _ ?_) (by kernel_rfl) (by kernel_rfl) (fun _ _ d _ _ h => by cases d <;> exact h) ?_)
 · exact (Kp.refl _ _).drew
 (refine wpMix_cons rfl rfl fun K hK => ?_); (change wpQuiet _ _ _ _ [_, _, _] _); (repeat (go_big_quiet_step (fail))); (refine wpQuiet_nil ?_); (refine hK _ fun K2 hK2 => ?_); clear hK K; (change wpList _ _ _ [_] _ _)
 go_wp2_with fail
 obtain ⟨w3, hw3⟩ : ∃ w3, w3 = (w2.alloc (.cells #[.int .i64 n] 3)).drew := ⟨_, rfl⟩
 have hE3 : Ext w2 w3 := by rw [hw3]; exact (KX.k (by repeat (first | assumption | constructor)))
 have hsl : SliceOf 1 IntL w3 (fun b => b < w3.heap.size) (.slice (some ⟨w.heap.size + 2, 0, none⟩) 1 1) [n] := by
  rw [hw3]
  exact SliceOf.row (R := IntL) (xs := [n]) [[.int .i64 n]] (CellsAt.newD (W := w2) 3 #[.int .i64 n] hz2) rfl (by simp) ⟨rfl, trivial⟩ (by show w.heap.size + 2 < (w2.alloc _).heap.size; simp; omega) (by simp) (by simp)
 have HE3 := hid hE3
 have HSL := hid hsl
 have HW3 := hid hw3
 have hz3 := hE3.size
 clear hE3 hsl hw3
 rw [← HW3.out]
 (refine hK2 _ _ (HTH.out.out _ HE3.out) ?_); clear hK2 K2
 (refine wpMix_cons rfl rfl fun K hK => ?_); (change wpQuiet _ _ _ _ [] _); (refine wpQuiet_nil ?_); (refine hK _ fun K2 hK2 => ?_); clear hK K; (change wpList _ _ _ [_] _ _)
 go_wp2_with fail
 have hvn : Calls Tryz.prog 22 #[.agg #[.slice a p.length cap], .bool true, .int .i64 0, .string ⟨#[109, 97, 105, 110]⟩, .string ⟨#[114, 117, 110]⟩, .slice (some ⟨w.heap.size + 2, 0, none⟩) 1 1] w3 _ := vm_new w3 (fun b => b < w3.heap.size) _ p (HP.out.keep KeeperL.stays (Ext.same (HE2.out.trans HE3.out)) fun b hb => by have := HI.out b hb; omega) (fun _ h => h) true 0 M.mainN M.runN [n] _ _ HSL.out
 have HVN := hid hvn
 clear hvn
 refine HVN.out.mono ?_
 rintro e w4 ⟨⟨cs, rfl, hS⟩, hE4⟩
 have HE4 := hid hE4
 have HS := hid hS
 have hz4 := hE4.size
 obtain ⟨a1, c1, a2, c2, a3, c3, rfl, -, -, -⟩ := hS.form
 clear hE4 hS
 go_wp2_with fail
 (refine hK2 _ _ (HTH.out.out _ (HE3.out.trans HE4.out)) ?_); clear hK2 K2
 (refine wpMix_cons rfl rfl fun K hK => ?_); (change wpQuiet _ _ _ _ [] _); (refine wpQuiet_nil ?_); (refine hK _ fun K2 hK2 => ?_); clear hK K; (change wpList _ _ _ [_] _ _)
 go_wp2_with fail
 have hvr := vm_run w4 (fun b => b < w4.heap.size) _ p (HP.out.keep KeeperL.stays (Ext.same ((HE2.out.trans HE3.out).trans HE4.out)) fun b hb => by have := HI.out b hb; omega) (fun _ h => h) true _ _ (StateL.inside HS.out) 400
 have HVR := hid hvr
 clear hvr
 with_reducible refine HVR.out.mono ?_
 rintro e w5 ⟨⟨cs, rfl, hS⟩, hE5⟩
 obtain ⟨s, hs⟩ : ∃ s, M.loDo p n = s := ⟨_, rfl⟩
 have hs' := hs
 unfold M.loDo at hs'
 rw [hs'] at hS
 clear hs'
 have HSS := hid hs
 have HS5 := hid hS
 obtain ⟨a1, c1, a2, c2, a3, c3, rfl, -, -, -⟩ := hS.form
 have hbz := ((HB4.out.ext HE3.out).ext HE4.out).ext hE5
 have hz5 := hE5.size
 obtain ⟨w15, hw15⟩ : ∃ w15, w15 = (((((w5.setCell ⟨w.heap.size + 1, 0, none⟩ (.int .i64 s.status)).setCell ⟨w.heap.size + 1, 1, none⟩ (.slice a1 s.frames.length c1)).setCell ⟨w.heap.size + 1, 2, none⟩ (.slice a2 s.heap.length c2)).setCell ⟨w.heap.size + 1, 3, none⟩ (.slice a3 s.outs.length c3)).setCell ⟨w.heap.size + 1, 4, none⟩ (.int .i64 s.back.kind)).setCell ⟨w.heap.size + 1, 5, none⟩ (.int .i64 s.back.n) := ⟨_, rfl⟩
 have hK15 : Kp (· = w.heap.size + 1) w5 w15 := by rw [hw15]; exact Kp.set6 (D := (· = w.heap.size + 1)) rfl _ _ _ _ _ _
 have hB15 : Blk w15 (w.heap.size + 1) 36 #[.int .i64 s.status, .slice a1 s.frames.length c1, .slice a2 s.heap.length c2, .slice a3 s.outs.length c3, .int .i64 s.back.kind, .int .i64 s.back.n] := by rw [hw15]; exact hbz.set6 _ _ _ _ _ _
 have hKF : Ext w w15 := (((HE2.out.trans HE3.out).trans HE4.out).trans hE5).own hK15 (fun b e => by omega)
 have hSF := StateL.stays _ _ _ (fun b => w.heap.size ≤ b) _ _ (hK15.same fun b (hb : w4.heap.size ≤ b) e => by omega) (fun b (hb : w4.heap.size ≤ b) => by omega) HS5.out
 have y0 := hbz.c 0 (.int .i64 0) rfl
 have f0 := hbz.frozen 0
 have y1 := hbz.c 1 (.slice none 0 0) rfl
 have f1 := hbz.frozen 1
 have y2 := hbz.c 2 (.slice none 0 0) rfl
 have f2 := hbz.frozen 2
 have y3 := hbz.c 3 (.slice none 0 0) rfl
 have f3 := hbz.frozen 3
 have y4 := hbz.c 4 (.int .i64 0) rfl
 have f4 := hbz.frozen 4
 have y5 := hbz.c 5 (.int .i64 0) rfl
 have f5 := hbz.frozen 5
 have yz := hbz.lt
 have HE5 := hid hE5
 have HKF := hid hKF
 have HSF := hid hSF
 have HB15 := hid hB15
 have HW15 := hid hw15
 clear hbz hw15 hK15 hB15 hKF hSF hS hE5 hs
 go_wp2_with fail
 (refine hK2 _ _ (HTH.out.out _ (HE3.out.trans (HE4.out.trans HE5.out))) ?_); clear hK2 K2
 clear HTH r0
 (refine wpMix_nil rfl fun K hK => ?_); (change wpQuiet _ _ _ _ [] _); (refine wpQuiet_nil ?_); (refine hK _ ?_); clear hK K
 go_wp2_with fail
 rw [← HW15.out]
 refine bodyPost_ret (results_agg agg_state rfl _ _ (w.heap.size + 1) rfl [.int .i64 s.status, .slice a1 s.frames.length c1, .slice a2 s.heap.length c2, .slice a3 s.outs.length c3, .int .i64 s.back.kind, .int .i64 s.back.n] (CellsAt.ofB HB15.out) rfl) rfl ?_
 rw [HSS.out]
 exact ⟨⟨_, rfl, HSF.out⟩, HKF.out⟩
end Go.Proofs.YtjdfceejkneofaaGreat
