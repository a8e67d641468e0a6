/- Walks: hasMethod.; Walks: a call is valid.; Walks: a run is valid.; Slices of the run's own that are made new, or grow.; Plain facts: a run begins as one; what main's run with a number comes to.; Walks: things are copied.; Walks: a machine is made of a run. -/
import Derived.Test.YtjdfceejkneofaaGreatJaf
import Derived.Test.YtjdfceejkneofaaGreatJah
import Derived.Test.YtjdfceejkneofaaGreatJas
set_option maxRecDepth 100000
set_option maxHeartbeats 4000000
set_option linter.unusedSimpArgs false
set_option linter.unusedVariables false
namespace Go.Proofs.YtjdfceejkneofaaGreat
open Go Go.RowKit
open Go.Lib (hid)
theorem lodge_hasMethod (w : World) (l : Lodge) (p : M.Plan) (h : LodgeAt w l p) (m : M.MRef) :
    Calls Tryz.prog 78 #[.pointer (some ⟨l.L, 0, none⟩), .agg #[.int .i64 m.of.keeper, .string m.of.name, .int .i64 m.at_]] w fun e w' =>
     e = .returned (.bool (M.hasMethod p m)) ∧ LodgeAt w' l p ∧ Kp (· = l.D) w w' := by
 have hDw := h.dlt
 have hE0 : Ext w (w.alloc (.cells #[.int .i64 m.of.keeper, .string m.of.name, .int .i64 m.at_] 97)) := (KX.k (by repeat (first | assumption | constructor)))
 have b3 := (Blk.new w 97 #[.int .i64 m.of.keeper, .string m.of.name, .int .i64 m.at_])
 obtain ⟨T, f, hne, HT⟩ := Cls.ex (LC l p (w.alloc (.cells #[.int .i64 m.of.keeper, .string m.of.name, .int .i64 m.at_] 97))) _ (LC.refl (h.ext hE0))
 have q0 := fun s => (b3.kp (HT.inn s).kp (by omega)).c 0 (.int .i64 m.of.keeper) rfl
 have q1 := fun s => (b3.kp (HT.inn s).kp (by omega)).c 1 (.string m.of.name) rfl
 have q2 := fun s => (b3.kp (HT.inn s).kp (by omega)).c 2 (.int .i64 m.at_) rfl
 have HL0 := hid (h.ext hE0)
 have H0 := hid h
 have HTH := hid HT
 have HE0 := hid hE0
 have FIN : Hid (∀ s, LodgeAt (f s) l p ∧ Kp (· = l.D) w (f s)) := hid (fun s => ⟨(HT.inn s).at_, HE0.out.any.trans (HT.inn s).kp⟩)
 clear b3 hDw h hE0 HT
 cases hc : M.canLay p m.of
 · have HV : Hid (M.hasMethod p m = false) := hid (by unfold M.hasMethod; rw [hc]; rfl)
   have HC := hid hc
   clear hc
   go_enter Tryz.func78, Tryz.ntmps78
   go_wp2
   (refine region_in f (HTH.out.out _ ?_) (by kernel_rfl) (by kernel_rfl) ?_); rotate_left; (repeat (go_big_quiet_step ((go_at_call 38; refine (lodge_canLay _ _ _ (HTH.out.inn _).at_ m.of).mono ?_; rintro e w1 ⟨rfl, hL1, hK1⟩; rw [HC.out]; exact ⟨rfl, HTH.out.out w1 ((HTH.out.inn _).step hL1 hK1)⟩)))); (refine wpQuiet_nil ?_); (rintro _ ⟨sW, rfl⟩); rotate_left
   · exact (LC.refl HL0.out).drew
   go_wp2
   go_ret
   exact ⟨ret_bool HV.out.symm, FIN.out sW⟩
 · have HC := hid hc
   clear hc
   by_cases h0 : m.at_ < 0
   · have HV : Hid (M.hasMethod p m = false) := hid (by unfold M.hasMethod; rw [HC.out, decide_eq_false (p := 0 ≤ m.at_) (by omega)]; rfl)
     go_enter Tryz.func78, Tryz.ntmps78
     go_wp2
     have hd : decide (0 ≤ m.at_) = false := decide_eq_false (by omega)
     (refine region_in f (HTH.out.out _ ?_) (by kernel_rfl) (by kernel_rfl) ?_); rotate_left; (repeat (go_big_quiet_step ((go_at_call 38; refine (lodge_canLay _ _ _ (HTH.out.inn _).at_ m.of).mono ?_; rintro e w1 ⟨rfl, hL1, hK1⟩; rw [HC.out]; exact ⟨rfl, HTH.out.out w1 ((HTH.out.inn _).step hL1 hK1)⟩)))); (refine wpQuiet_nil ?_); (rintro _ ⟨sW, rfl⟩); rotate_left
     · exact (LC.refl HL0.out).drew
     go_wp2
     go_ret
     exact ⟨ret_bool HV.out.symm, FIN.out sW⟩
   · obtain ⟨c, hcl⟩ := M.chain_owned (M.canLay_chain HC.out).2
     obtain ⟨cs, hcs, hcall⟩ := class_fixed _ l p HL0.out m.of.keeper m.of.name c hcl
     obtain ⟨a1, c1, a2, c2, rfl⟩ := hcs.form
     have hfl : ∀ W, (Instr.field 50 (.agg #[.string c.name, .string c.super, .slice a1 c.fields.length c1, .slice a2 c.methods.length c2]) 3).run Tryz.prog W = .ok (.slice a2 c.methods.length c2) W := (fun W => by kernel_rfl)
     have HCA := hid hcall
     have h0' : 0 ≤ m.at_ := by omega
     have HV : Hid (M.hasMethod p m = decide (m.at_ < c.methods.length)) := hid (by
      unfold M.hasMethod
      rw [HC.out, decide_eq_true (p := 0 ≤ m.at_) (by omega)]
      have : M.cls p m.of = c := by unfold M.cls; rw [hcl]; rfl
      rw [this]; rfl)
     clear hcl hcs hcall h0
     go_enter Tryz.func78, Tryz.ntmps78
     go_wp2
     have hd : decide (0 ≤ m.at_) = true := decide_eq_true h0'
     (refine region_in f (HTH.out.out _ ?_) (by kernel_rfl) (by kernel_rfl) ?_); rotate_left; (repeat (go_big_quiet_step (first | (go_at_call 38; refine (lodge_canLay _ _ _ (HTH.out.inn _).at_ m.of).mono ?_; rintro e w1 ⟨rfl, hL1, hK1⟩; rw [HC.out]; exact ⟨rfl, HTH.out.out w1 ((HTH.out.inn _).step hL1 hK1)⟩) | (go_at_call 39; refine (HCA.out _ (HTH.out.inn _).kp).mono ?_; rintro e w1 ⟨rfl, hE1⟩; exact ⟨rfl, HTH.out.out w1 ((HTH.out.inn _).ext hE1)⟩)))); (refine wpQuiet_nil ?_); (rintro _ ⟨sW, rfl⟩); rotate_left
     · exact (LC.refl HL0.out).drew
     go_wp2
     go_ret
     exact ⟨ret_bool HV.out.symm, FIN.out sW⟩
theorem lodge_frameOk (w : World) (l : Lodge) (p : M.Plan) (h : LodgeAt w l p) (x : M.Fr) (cs : List Value) (hx : FrL w (· < l.O) x cs) (n : Nat) :
    Calls Tryz.prog 43 #[.pointer (some ⟨l.L, 0, none⟩), .agg cs.toArray, .int .i64 n] w fun e w' => e = .returned (.bool (M.frameOk p x n)) ∧ LC l p w w' := by
 obtain ⟨⟨⟨xk, xn⟩, xa⟩, pc, lo, st⟩ := x
 obtain ⟨vl, vs, rfl, hl, hs⟩ := hx
 obtain ⟨la, lc, rfl, hln, hlc⟩ := hl.form
 obtain ⟨sa, sc, rfl, hsn, hsc⟩ := hs.form
 obtain ⟨w4, hw4⟩ : ∃ w4, w4 = w.alloc (.cells #[.int .i64 xk, .string xn, .int .i64 xa, .int .i64 pc, .slice la lo.length lc, .slice sa st.length sc] 105) := ⟨_, rfl⟩
 have hE4 : Ext w w4 := by rw [hw4]; exact (KX.k (by repeat (first | assumption | constructor)))
 have b4 : Blk w4 w.heap.size 105 #[.int .i64 xk, .string xn, .int .i64 xa, .int .i64 pc, .slice la lo.length lc, .slice sa st.length sc] := by rw [hw4]; exact Blk.new _ _ _
 have hDw := h.dlt
 have hord := h.ord
 have y0 := b4.c 0 (.int .i64 xk) rfl
 have y1 := b4.c 1 (.string xn) rfl
 have y2 := b4.c 2 (.int .i64 xa) rfl
 have yz := b4.lt
 have HL := hid (h.ext hE4)
 have HE4 := hid hE4
 have HB4 := hid b4
 have HW4 := hid hw4
 have HLO := hid (hl.ext ValL.stays hE4)
 have HST := hid (hs.ext ValL.stays hE4)
 have HC4 := hid ((LC.refl h).ext hE4)
 have hFin : ∀ W, LC l p w4 W → LC l p w W := fun _ hx => (LC.refl h).ext hE4 |>.step hx.at_ hx.kp
 have HFIN := hid hFin
 simp only at hl hs
 clear h hE4 b4 hw4 hFin hl hs
 go_enter Tryz.func43, Tryz.ntmps43
 go_wp2_with fail
 rw [← HW4.out]
 refine (lodge_hasMethod _ _ _ HL.out ⟨⟨xk, xn⟩, xa⟩).mono ?_
 rintro e w5 ⟨rfl, hL5, hK5⟩
 have HC5 : Hid (LC l p w4 w5) := hid ((LC.refl HL.out).step hL5 hK5)
 have b5 := HB4.out.kp hK5 (by omega)
 have HB5 := hid b5
 clear hL5 hK5 y0 y1 y2 yz
 have y0 := b5.c 0 (.int .i64 xk) rfl
 have y1 := b5.c 1 (.string xn) rfl
 have y2 := b5.c 2 (.int .i64 xa) rfl
 have yz := b5.lt
 clear b5
 cases hhm : M.hasMethod p ⟨⟨xk, xn⟩, xa⟩
 · have HR : Hid (M.frameOk p ⟨⟨⟨xk, xn⟩, xa⟩, pc, lo, st⟩ n = false) := hid (by unfold M.frameOk; simp only [hhm, Bool.false_and])
   clear hhm
   go_wp2_with fail
   go_ret
   exact ⟨ret_bool HR.out.symm, HFIN.out _ HC5.out⟩
 have HHM := hid hhm
 obtain ⟨m, hm⟩ : ∃ m, M.method p ⟨⟨xk, xn⟩, xa⟩ = m := ⟨_, rfl⟩
 have hcode : m.code.length ≤ 16 := by rw [← hm]; exact (M.mth_is (M.method_ok HL.out.ok hhm).1).code
 have HV : Hid (M.frameOk p ⟨⟨⟨xk, xn⟩, xa⟩, pc, lo, st⟩ n = (decide (0 ≤ pc) && decide (pc < m.code.length) && decide ((lo.length : Int) = m.locals) && decide ((st.length : Int) ≤ m.stack) && lo.all (M.valOk · n) && st.all (M.valOk · n))) := hid (by
  unfold M.frameOk; simp only [hhm, hm, Bool.true_and])
 have hmm := lodge_method' w5 l p HC5.out.at_ ⟨⟨xk, xn⟩, xa⟩ hhm
 rw [hm] at hmm
 have HMM := hid hmm
 clear hhm hm hmm
 go_wp2_with fail
 refine HMM.out.mono ?_
 rintro e w6 ⟨⟨cs, hml, rfl⟩, hE6⟩
 obtain ⟨t2, rfl⟩ := mthCs_form hml
 obtain ⟨w7, hw7⟩ : ∃ w7, w7 = w6.alloc (.cells (mthCs m t2).toArray 60) := ⟨_, rfl⟩
 have hE7 : Ext w6 w7 := by rw [hw7]; exact (KX.k (by repeat (first | assumption | constructor)))
 have b7 : Blk w7 w6.heap.size 60 (mthCs m t2).toArray := by rw [hw7]; exact Blk.new _ _ _
 have b47 := HB5.out.ext (hE6.trans hE7)
 have HC7 : Hid (LC l p w4 w7) := hid (HC5.out.ext (hE6.trans hE7))
 have b46 := HB5.out.ext hE6
 have y3 := b46.c 3 (.int .i64 pc) rfl
 have y4 := b46.c 4 (.slice la lo.length lc) rfl
 have y5 := b46.c 5 (.slice sa st.length sc) rfl
 have yz7 := b46.lt
 have HB47 := hid b47
 have HW7 := hid hw7
 clear hml hE6 hw7 hE7 b7 b47 b46 y0 y1 y2 yz HMM
 simp only [mthCs]
 unfold mthCs at HW7
 have goFalse : ∀ {b : Bool}, M.frameOk p ⟨⟨⟨xk, xn⟩, xa⟩, pc, lo, st⟩ n = b → b = false → M.frameOk p ⟨⟨⟨xk, xn⟩, xa⟩, pc, lo, st⟩ n = false := fun h e => h.trans e
 by_cases hp0 : pc < 0
 · have hp0' : decide (pc < 0) = true := decide_eq_true hp0
   have HR : Hid (M.frameOk p ⟨⟨⟨xk, xn⟩, xa⟩, pc, lo, st⟩ n = false) := hid (by rw [HV.out, decide_eq_false (p := 0 ≤ pc) (by omega)]; simp only [Bool.false_and])
   clear hp0
   go_wp2_with fail
   go_ret
   rw [← HW7.out]
   exact ⟨ret_bool HR.out.symm, HFIN.out _ HC7.out⟩
 have hp0' : decide (pc < 0) = false := decide_eq_false hp0
 by_cases hp1 : (m.code.length : Int) ≤ pc
 · have hp1' : decide ((m.code.length : Int) ≤ pc) = true := decide_eq_true hp1
   have HR : Hid (M.frameOk p ⟨⟨⟨xk, xn⟩, xa⟩, pc, lo, st⟩ n = false) := hid (by rw [HV.out, decide_eq_false (p := pc < m.code.length) (by omega)]; simp only [Bool.false_and, Bool.and_false])
   clear hp0 hp1
   go_wp2_with fail
   go_ret
   rw [← HW7.out]
   exact ⟨ret_bool HR.out.symm, HFIN.out _ HC7.out⟩
 have hp1' : decide ((m.code.length : Int) ≤ pc) = false := decide_eq_false hp1
 have HP : Hid (0 ≤ pc ∧ pc < m.code.length) := hid (by omega)
 clear hp0 hp1
 by_cases hlo : (lo.length : Int) = m.locals
 rotate_left
 · have hlo' : ((lo.length : Int) != m.locals) = true := bne_iff_ne.2 hlo
   have HR : Hid (M.frameOk p ⟨⟨⟨xk, xn⟩, xa⟩, pc, lo, st⟩ n = false) := hid (by rw [HV.out, decide_eq_false (p := (lo.length : Int) = m.locals) hlo]; simp only [Bool.false_and, Bool.and_false])
   clear hlo
   go_wp2_with fail
   go_ret
   rw [← HW7.out]
   exact ⟨ret_bool HR.out.symm, HFIN.out _ HC7.out⟩
 have hlo' : ((lo.length : Int) != m.locals) = false := by simp [hlo]
 have HLEN := hid hlo
 clear hlo
 by_cases hst : m.stack < (st.length : Int)
 · have hst' : decide (m.stack < (st.length : Int)) = true := decide_eq_true hst
   have HR : Hid (M.frameOk p ⟨⟨⟨xk, xn⟩, xa⟩, pc, lo, st⟩ n = false) := hid (by rw [HV.out, decide_eq_false (p := (st.length : Int) ≤ m.stack) (by omega)]; simp only [Bool.false_and, Bool.and_false])
   clear hst
   go_wp2_with fail
   go_ret
   rw [← HW7.out]
   exact ⟨ret_bool HR.out.symm, HFIN.out _ HC7.out⟩
 have hst' : decide (m.stack < (st.length : Int)) = false := decide_eq_false hst
 replace HV : Hid (M.frameOk p ⟨⟨⟨xk, xn⟩, xa⟩, pc, lo, st⟩ n = (lo.all (M.valOk · n) && st.all (M.valOk · n))) := hid (by
  rw [HV.out, decide_eq_true HP.out.1, decide_eq_true HP.out.2, decide_eq_true HLEN.out, decide_eq_true (p := (st.length : Int) ≤ m.stack) (by omega)]
  simp only [Bool.true_and])
 clear hst
 go_wp2_with fail
 rw [← HW7.out]
 refine (values_ok _ (· < l.O) _ lo (SliceOf.lc ValL.stays HLO.out HC7.out) n).mono ?_
 rintro e w8 ⟨rfl, hE8⟩
 have HC8 := hid (HC7.out.ext hE8)
 have b48 := HB47.out.ext hE8
 have x5 := b48.c 5 (.slice sa st.length sc) rfl
 have xz := b48.lt
 clear b48 hE8
 cases hva : lo.all (M.valOk · n)
 · have HR : Hid (M.frameOk p ⟨⟨⟨xk, xn⟩, xa⟩, pc, lo, st⟩ n = false) := hid (by rw [HV.out, hva]; rfl)
   clear hva
   go_wp2_with fail
   go_ret
   exact ⟨ret_bool HR.out.symm, HFIN.out _ HC8.out⟩
 · have HR : Hid (M.frameOk p ⟨⟨⟨xk, xn⟩, xa⟩, pc, lo, st⟩ n = st.all (M.valOk · n)) := hid (by rw [HV.out, hva]; rfl)
   clear hva
   go_wp2_with fail
   refine (values_ok _ (· < l.O) _ st (SliceOf.lc ValL.stays HST.out HC8.out) n).mono ?_
   rintro e w9 ⟨rfl, hE9⟩
   have HC9 := hid (HC8.out.ext hE9)
   clear hE9
   go_wp2_with fail
   go_ret
   exact ⟨ret_bool HR.out.symm, HFIN.out _ HC9.out⟩
theorem CellsAt.six {w : World} {b o : Nat} {x0 x1 x2 x3 x4 x5 : Value} (h : CellsAt w b o [x0, x1, x2, x3, x4, x5]) :
    w.cell? ⟨b, o, none⟩ = some x0 ∧ w.cell? ⟨b, o + 1, none⟩ = some x1 ∧ w.cell? ⟨b, o + 2, none⟩ = some x2 ∧ w.cell? ⟨b, o + 3, none⟩ = some x3 ∧
    w.cell? ⟨b, o + 4, none⟩ = some x4 ∧ w.cell? ⟨b, o + 5, none⟩ = some x5 :=
 ⟨by simpa using h 0 x0 rfl, h 1 x1 rfl, h 2 x2 rfl, h 3 x3 rfl, h 4 x4 rfl, h 5 x5 rfl⟩
theorem M.vmOk_iff {p : M.Plan} {s : M.St} : M.vmOk p s = true ↔ (1 ≤ s.status ∧ s.status ≤ 10) ∧ s.heap.length ≤ 12 ∧ s.outs.length ≤ 40 ∧ s.frames.length ≤ 8 ∧ (decide (0 < s.frames.length) = decide (s.status = 1)) ∧ s.outs.all M.numOk = true ∧
    s.frames.all (M.frameOk p · s.heap.length) = true ∧ M.heapOk p s.heap = true ∧ M.valOk s.back s.heap.length = true := by
 unfold M.vmOk
 simp only [Bool.and_eq_true, decide_eq_true_eq, beq_iff_eq]
 constructor
 · rintro ⟨⟨⟨⟨⟨⟨⟨⟨⟨a, b⟩, c⟩, d⟩, e⟩, f⟩, g⟩, h⟩, i⟩, j⟩
   exact ⟨⟨a, b⟩, c, d, e, f, g, h, i, j⟩
 · rintro ⟨⟨a, b⟩, c, d, e, f, g, h, i, j⟩
   exact ⟨⟨⟨⟨⟨⟨⟨⟨⟨a, b⟩, c⟩, d⟩, e⟩, f⟩, g⟩, h⟩, i⟩, j⟩
theorem lodge_vmOk (w : World) (l : Lodge) (p : M.Plan) (h : LodgeAt w l p) (s : M.St) (cs : List Value) (hs : StateL w (· < l.O) s cs) :
    Calls Tryz.prog 29 #[.pointer (some ⟨l.L, 0, none⟩), .agg cs.toArray] w fun e w' => e = .returned (.bool (M.vmOk p s)) ∧ LC l p w w' := by
 obtain ⟨a1, c1, a2, c2, a3, c3, rfl, h1, h2, h3⟩ := hs.form
 clear hs
 obtain ⟨st, frs, hp, outs, ⟨bk, bn⟩⟩ := s
 simp only at h1 h2 h3 ⊢
 obtain ⟨w3, hw3⟩ : ∃ w3, w3 = w.alloc (.cells #[.int .i64 st, .slice a1 frs.length c1, .slice a2 hp.length c2, .slice a3 outs.length c3, .int .i64 bk, .int .i64 bn] 36) := ⟨_, rfl⟩
 have hE3 : Ext w w3 := by rw [hw3]; exact (KX.k (by repeat (first | assumption | constructor)))
 have b3 : Blk w3 w.heap.size 36 #[.int .i64 st, .slice a1 frs.length c1, .slice a2 hp.length c2, .slice a3 outs.length c3, .int .i64 bk, .int .i64 bn] := by rw [hw3]; exact Blk.new _ _ _
 have hDw := h.dlt
 have hord := h.ord
 obtain ⟨v, hv⟩ : ∃ v, M.vmOk p ⟨st, frs, hp, outs, ⟨bk, bn⟩⟩ = v := ⟨_, rfl⟩
 have HV0 := hid hv
 have HI := hid (M.vmOk_iff (p := p) (s := ⟨st, frs, hp, outs, ⟨bk, bn⟩⟩))
 rw [hv] at HI ⊢
 simp only at HI
 have y0 := b3.c 0 (.int .i64 st) rfl
 have y1 := b3.c 1 (.slice a1 frs.length c1) rfl
 have y2 := b3.c 2 (.slice a2 hp.length c2) rfl
 have y3 := b3.c 3 (.slice a3 outs.length c3) rfl
 have yz := b3.lt
 have HL := hid (h.ext hE3)
 have HB3 := hid b3
 have HW3 := hid hw3
 have H1 := hid (h1.ext FrL.stays hE3)
 have H2 := hid (h2.ext ObjL.stays hE3)
 have H3 := hid (h3.ext IntL.stays hE3)
 have hn1 := h1.form
 have hn2 := h2.form
 have hn3 := h3.form
 obtain ⟨_, _, e1, hl1, hm1⟩ := hn1
 cases e1
 obtain ⟨_, _, e2, hl2, hm2⟩ := hn2
 cases e2
 obtain ⟨_, _, e3, hl3, hm3⟩ := hn3
 cases e3
 have hFin : ∀ W, LC l p w3 W → LC l p w W := fun _ hx => (LC.refl h).ext hE3 |>.step hx.at_ hx.kp
 have HFIN := hid hFin
 clear hv h hE3 b3 hw3 h1 h2 h3 hFin
 go_enter Tryz.func29, Tryz.ntmps29
 by_cases s1 : st < 1
 · have s1' : decide (st < 1) = true := decide_eq_true s1
   have HR : Hid (false = v) := hid (by cases v; rfl; have := HI.out.1 rfl; omega)
   clear s1
   go_wp2_with fail
   go_ret
   rw [← HW3.out]
   exact ⟨ret_bool HR.out, HFIN.out _ (LC.refl HL.out)⟩
 have s1' : decide (st < 1) = false := decide_eq_false s1
 by_cases s2 : 10 < st
 · have s2' : decide (10 < st) = true := decide_eq_true s2
   have HR : Hid (false = v) := hid (by cases v; rfl; have := HI.out.1 rfl; omega)
   clear s1 s2
   go_wp2_with fail
   go_ret
   rw [← HW3.out]
   exact ⟨ret_bool HR.out, HFIN.out _ (LC.refl HL.out)⟩
 have s2' : decide (10 < st) = false := decide_eq_false s2
 by_cases s3 : 12 < hp.length
 · have s3' : decide ((12 : Int) < hp.length) = true := decide_eq_true (by omega)
   have HR : Hid (false = v) := hid (by cases v; rfl; have := HI.out.1 rfl; omega)
   clear s1 s2 s3
   go_wp2_with fail
   go_ret
   rw [← HW3.out]
   exact ⟨ret_bool HR.out, HFIN.out _ (LC.refl HL.out)⟩
 have s3' : decide ((12 : Int) < hp.length) = false := decide_eq_false (by omega)
 by_cases s4 : 40 < outs.length
 · have s4' : decide ((40 : Int) < outs.length) = true := decide_eq_true (by omega)
   have HR : Hid (false = v) := hid (by cases v; rfl; have := HI.out.1 rfl; omega)
   clear s1 s2 s3 s4
   go_wp2_with fail
   go_ret
   rw [← HW3.out]
   exact ⟨ret_bool HR.out, HFIN.out _ (LC.refl HL.out)⟩
 have s4' : decide ((40 : Int) < outs.length) = false := decide_eq_false (by omega)
 by_cases s5 : 8 < frs.length
 · have s5' : decide ((8 : Int) < frs.length) = true := decide_eq_true (by omega)
   have HR : Hid (false = v) := hid (by cases v; rfl; have := HI.out.1 rfl; omega)
   clear s1 s2 s3 s4 s5
   go_wp2_with fail
   go_ret
   rw [← HW3.out]
   exact ⟨ret_bool HR.out, HFIN.out _ (LC.refl HL.out)⟩
 have s5' : decide ((8 : Int) < frs.length) = false := decide_eq_false (by omega)
 have HS : Hid ((1 ≤ st ∧ st ≤ 10) ∧ hp.length ≤ 12 ∧ outs.length ≤ 40 ∧ frs.length ≤ 8) := hid (by omega)
 clear s1 s2 s3 s4 s5
 obtain ⟨b1, hb1⟩ : ∃ b, decide (0 < frs.length) = b := ⟨_, rfl⟩
 obtain ⟨b2, hb2⟩ : ∃ b, decide (st = 1) = b := ⟨_, rfl⟩
 have e36 : decide ((0 : Int) < frs.length) = b1 := by rw [← hb1]; exact decide_eq_decide.2 (by omega)
 have e39 : ((st : Int) == 1) = b2 := by rw [← hb2]; rfl
 by_cases hbb : b1 = b2
 rotate_left
 · have e41 : (b1 == b2) = false := beq_eq_false_iff_ne.2 hbb
   have e42 : decide (0 < frs.length) = b1 := hb1
   have HR : Hid (false = v) := hid (by
    cases v
    · rfl
    · exact absurd (hb1.symm.trans ((HI.out.1 rfl).2.2.2.2.1.trans hb2)) hbb)
   clear hb1 hb2 hbb
   go_wp2_with fail
   go_ret
   rw [← HW3.out]
   exact ⟨ret_bool HR.out, HFIN.out _ (LC.refl HL.out)⟩
 have e41 : (b1 == b2) = true := beq_iff_eq.2 hbb
 have e42 : decide (0 < frs.length) = b1 := hb1
 have HBB : Hid (decide (0 < frs.length) = decide (st = 1)) := hid (by rw [hb1, hb2, hbb])
 clear hb1 hb2 hbb
 go_wp2_with fail
 rw [← HW3.out]
 clear e36 e39 e41 e42 s1' s2' s3' s4' s5'
 go_loopw [44] (fun i wr => ∃ q : Nat, q ≤ outs.length ∧ i = .int .i64 q ∧ Ext w3 wr ∧ Hid ((outs.take q).all M.numOk = true)) (fun i _ => outs.length - (intOf i).toNat)
 case atStart => exact ⟨0, Nat.zero_le _, rfl, Kp.refl _ _, hid (by simp)⟩
 case round =>
  obtain ⟨q, hq, rfl, hE, HQ⟩ := hrel
  by_cases hlt : q < outs.length
  · obtain ⟨x, hx⟩ := elemF outs q hlt
    obtain ⟨b, off, cs, rfl, hI, rfl, -, hc⟩ := (H3.out.ext IntL.stays hE).get hx
    rw [Nat.mul_one] at hc
    have g0 := hc.one
    have gz := cell_lt g0
    have HX := hid hx
    have HE := hid hE
    clear hx hc hE y0 y1 y2 y3
    go_wp2_with fail
    refine (num_ok x _).mono ?_
    rintro e w4 ⟨rfl, rfl⟩
    cases hno : (decide (-9999 ≤ x) && decide (x ≤ 9999))
    · have HR : Hid (false = v) := hid (by
       cases v
       · rfl
       · have h1 := (HI.out.1 rfl).2.2.2.2.2.1
         have h2 := List.all_eq_true.1 h1 x (List.mem_of_getElem? HX.out)
         unfold M.numOk at h2
         rw [hno] at h2; cases h2)
      clear hno
      go_wp2_with fail
      go_ret
      exact ⟨ret_bool HR.out, HFIN.out _ ((LC.refl HL.out).ext HE.out)⟩
    · have HN : Hid (M.numOk x = true) := hid hno
      clear hno
      go_wp2_with fail
      exact ⟨⟨q + 1, by omega, by go_num, HE.out, hid (all_succ HQ.out HX.out HN.out)⟩, by simp [intOf]; omega⟩
  · have HOUT : Hid (outs.all M.numOk = true) := hid (all_end HQ.out (by omega))
    have HE := hid hE
    have x1 := (HB3.out.ext hE).c 1 (.slice a1 frs.length c1) rfl
    have xz1 := (HB3.out.ext hE).lt
    clear hE HQ y0 y1 y2 y3
    go_wp2_with fail
    obtain ⟨wo, rfl⟩ : ∃ wo : World, wo = wr := ⟨_, rfl⟩
    go_loopw [55] (fun i wr => ∃ q : Nat, q ≤ frs.length ∧ i = .int .i64 q ∧ LC l p w3 wr ∧ Hid ((frs.take q).all (M.frameOk p · hp.length) = true)) (fun i _ => frs.length - (intOf i).toNat)
    case atStart => exact ⟨0, Nat.zero_le _, rfl, (LC.refl HL.out).ext HE.out, hid (by simp)⟩
    case round =>
     obtain ⟨q, hq, rfl, hC, HQ⟩ := hrel
     have HC := hid hC
     by_cases hlt : q < frs.length
     · obtain ⟨x, hx⟩ := elemF frs q hlt
       obtain ⟨b, off, cs, rfl, hI, hfr, -, hc⟩ := (SliceOf.lc FrL.stays H1.out hC).get hx
       have hfr' := hfr
       obtain ⟨vl, vs, rfl, hl, hs⟩ := hfr'
       obtain ⟨la, lc, rfl, hln, hlc⟩ := hl.form
       obtain ⟨sa, sc, rfl, hsn, hsc⟩ := hs.form
       obtain ⟨g0, g1, g2, g3, g4, g5⟩ := hc.six
       have gz := cell_lt g0
       obtain ⟨w8, hw8⟩ : ∃ w8, w8 = wr.alloc (.cells #[.int .i64 x.of.of.keeper, .string x.of.of.name, .int .i64 x.of.at_, .int .i64 x.pc, .slice la x.locals.length lc, .slice sa x.stack.length sc] 105) := ⟨_, rfl⟩
       have hE8 : Ext wr w8 := by rw [hw8]; exact (KX.k (by repeat (first | assumption | constructor)))
       have b8 : Blk w8 wr.heap.size 105 #[.int .i64 x.of.of.keeper, .string x.of.of.name, .int .i64 x.of.at_, .int .i64 x.pc, .slice la x.locals.length lc, .slice sa x.stack.length sc] := by rw [hw8]; exact Blk.new _ _ _
       have k0 := b8.c 0 (.int .i64 x.of.of.keeper) rfl
       have k1 := b8.c 1 (.string x.of.of.name) rfl
       have k2 := b8.c 2 (.int .i64 x.of.at_) rfl
       have k3 := b8.c 3 (.int .i64 x.pc) rfl
       have k4 := b8.c 4 (.slice la x.locals.length lc) rfl
       have k5 := b8.c 5 (.slice sa x.stack.length sc) rfl
       have kz := b8.lt
       have b38 := HB3.out.kp hC.kp (by omega)
       have x2 := b38.c 2 (.slice a2 hp.length c2) rfl
       have xz := b38.lt
       have HX := hid hx
       have HFR := hid (FrL.stays _ _ _ _ _ _ (Ext.same hE8) (fun _ h => h) hfr)
       have HC8 := hid (hC.ext hE8)
       have HW8 := hid hw8
       clear hx hc hC hE8 b8 b38 hw8 hfr hl hs x1 xz1
       go_wp2_with fail
       rw [← HW8.out]
       refine (lodge_frameOk _ _ _ HC8.out.at_ x _ HFR.out hp.length).mono ?_
       rintro e w9 ⟨rfl, hC9⟩
       have HC9 : Hid (LC l p w3 w9) := hid (HC8.out.trans hC9)
       clear hC9
       cases hfo : M.frameOk p x hp.length
       · have HR : Hid (false = v) := hid (by
          cases v
          · rfl
          · have h1 := (HI.out.1 rfl).2.2.2.2.2.2.1
            have h2 := List.all_eq_true.1 h1 x (List.mem_of_getElem? HX.out)
            rw [hfo] at h2; cases h2)
         clear hfo
         go_wp2_with fail
         go_ret
         exact ⟨ret_bool HR.out, HFIN.out _ HC9.out⟩
       · have HN := hid hfo
         clear hfo
         go_wp2_with fail
         exact ⟨⟨q + 1, by omega, by go_num, HC9.out, hid (all_succ HQ.out HX.out HN.out)⟩, by simp [intOf]; omega⟩
     · have HFRS : Hid (frs.all (M.frameOk p · hp.length) = true) := hid (all_end HQ.out (by omega))
       have b38 := HB3.out.kp hC.kp (by omega)
       have x2 := b38.c 2 (.slice a2 hp.length c2) rfl
       have xz := b38.lt
       clear hC HQ x1 xz1 b38
       go_wp2_with fail
       refine (lodge_heapOk _ _ _ HC.out.at_ _ hp (SliceOf.lc ObjL.stays H2.out HC.out)).mono ?_
       rintro e w9 ⟨rfl, hC9⟩
       have HC9 : Hid (LC l p w3 w9) := hid (HC.out.trans hC9)
       have b39 := HB3.out.kp HC9.out.kp (by omega)
       have z2 := b39.c 2 (.slice a2 hp.length c2) rfl
       have z4 := b39.c 4 (.int .i64 bk) rfl
       have z5 := b39.c 5 (.int .i64 bn) rfl
       have zz := b39.lt
       clear hC9 x2 xz b39
       cases hho : M.heapOk p hp
       · have HR : Hid (false = v) := hid (by
          cases v
          · rfl
          · have h1 := (HI.out.1 rfl).2.2.2.2.2.2.2.1
            rw [hho] at h1; cases h1)
         clear hho
         go_wp2_with fail
         go_ret
         exact ⟨ret_bool HR.out, HFIN.out _ HC9.out⟩
       · have HHO := hid hho
         clear hho
         go_wp2_with fail
         refine (value_ok _ ⟨bk, bn⟩ hp.length).mono ?_
         rintro e w10 ⟨rfl, hE10⟩
         have HC10 := hid (HC9.out.ext hE10)
         clear hE10
         have HR : Hid (M.valOk ⟨bk, bn⟩ hp.length = v) := hid (by
          have hi := HI.out
          rw [HHO.out, HOUT.out, HFRS.out] at hi
          have hs := HS.out
          have hb := HBB.out
          cases hvo : M.valOk ⟨bk, bn⟩ hp.length
          · cases v
            · rfl
            · have := (hi.1 rfl).2.2.2.2.2.2.2.2
              rw [hvo] at this; cases this
          · exact (hi.2 ⟨hs.1, hs.2.1, hs.2.2.1, hs.2.2.2, hb, rfl, rfl, rfl, hvo⟩).symm)
         go_wp2_with fail
         go_ret
         exact ⟨ret_bool HR.out, HFIN.out _ HC10.out⟩
theorem SliceOf.vals {w : World} {I : Nat → Prop} {v : Value} {xs : List M.Val} (h : SliceOf 2 ValL w I v xs) : Flat w 2 v xs.length (xs.flatMap valCs) := SliceOf.toFlat (enc := valCs) (fun _ _ _ _ h => h) (fun _ => rfl) one_val h
theorem SliceOf.ints {w : World} {I : Nat → Prop} {v : Value} {xs : List Int} (h : SliceOf 1 IntL w I v xs) : Flat w 1 v xs.length (xs.flatMap intCs) := SliceOf.toFlat (enc := intCs) (fun _ _ _ _ h => h) (fun _ => rfl) one_int h
theorem Own.more {w w' : World} {own : Own} {B e k n : Nat} {v : Value} {xs : List Value} (hd : ∀ b, own b ≠ none → B ≤ b ∧ b < w.heap.size) (hrow : w'.ownsRow w.heap.size e k v n xs) (hs : w.heap.size ≤ w'.heap.size) (hB : B ≤ w.heap.size) (r : Nat × Nat) :
    ∃ own1 : Own, (∀ b q, own b = some q → own1 b = some q) ∧ (∀ b, own1 b ≠ none → B ≤ b ∧ b < w'.heap.size) ∧ OwnS w' own1 B r e k v n xs ∧ Agr w.heap.size own own1 ∧ (∀ b q, own1 b = some q → own b = some q ∨ q = r) := by
 cases he : v.ownBlock with
 | none => exact ⟨own, fun _ _ h => h, fun b hb => ⟨(hd b hb).1, Nat.lt_of_lt_of_le (hd b hb).2 hs⟩, ⟨owns_mono hrow hB, fun b hb => by rw [he] at hb; cases hb⟩, Agr.refl _ _, fun _ _ h => .inl h⟩
 | some g =>
  have hg := hrow.lt g he
  have hn : own g = none := by
   cases e2 : own g with
   | none => rfl
   | some q => have := (hd g (by rw [e2]; simp)).2; omega
  refine ⟨own.add g r, fun b q hb => ?_, fun b hb => ?_, ⟨owns_mono hrow hB, fun b hb => ?_⟩, Own.add_agr (.inr hg.1), fun b q hb => ?_⟩
  · rw [Own.add_ne _ (fun e3 => by subst e3; rw [hn] at hb; cases hb)]; exact hb
  · by_cases e3 : b = g
    · subst e3; exact ⟨by omega, hg.2⟩
    · rw [Own.add_ne _ e3] at hb; exact ⟨(hd b hb).1, Nat.lt_of_lt_of_le (hd b hb).2 hs⟩
  · rw [he] at hb; cases hb; exact Own.add_eq _ _ _
  · by_cases e3 : b = g
    · subst e3; rw [Own.add_eq] at hb; cases hb; exact .inr rfl
    · rw [Own.add_ne _ e3] at hb; exact .inl hb
theorem OwnS.app {w w' : World} {own : Own} {B e k n m g' c' : Nat} {r : Nat × Nat} {v : Value} {xs ys : List Value} (h : OwnS w own B r e k v n xs) (hd : ∀ b, own b ≠ none → B ≤ b ∧ b < w.heap.size) (ho : w'.ownsRow B e k (.slice (some ⟨g', 0, none⟩) m c') m ys)
    (hk : Kp (fun b => v.ownBlock = some b) w w') (hg : v.ownBlock = some g' ∨ w.heap.size ≤ g') :
    OwnS w' (own.add g' r) B r e k (.slice (some ⟨g', 0, none⟩) m c') m ys ∧ Agr w.heap.size own (own.add g' r) ∧ (∀ b, own.add g' r b ≠ none → B ≤ b ∧ b < w'.heap.size) ∧ (∀ b q, own.add g' r b = some q → own b = some q ∨ q = r) :=
 ⟨⟨ho, fun b hb => by cases hb; exact Own.add_eq _ _ _⟩, Own.add_agr (hg.imp (h.role _) id), fun b hb => by
  by_cases e3 : b = g'
  · subst e3; exact ho.lt b rfl
  · rw [Own.add_ne _ e3] at hb; exact ⟨(hd b hb).1, Nat.lt_of_lt_of_le (hd b hb).2 hk.size⟩, fun b q hb => by
  by_cases e3 : b = g'
  · subst e3; rw [Own.add_eq] at hb; cases hb; exact .inr rfl
  · rw [Own.add_ne _ e3] at hb; exact .inl hb⟩
theorem OwnS.beside {w w' : World} {own own' : Own} {B e k n e2 k2 n2 : Nat} {r r2 : Nat × Nat} {v v2 : Value} {xs xs2 : List Value} (h : OwnS w own B r e k v n xs) (h2 : OwnS w own B r2 e2 k2 v2 n2 xs2) (hk : Kp (fun b => v.ownBlock = some b) w w') (ha : Agr w.heap.size own own') (hr : r ≠ r2) : OwnS w' own' B r2 e2 k2 v2 n2 xs2 :=
 h2.keep hk ha fun b hb _ e => hr (by have := h.role b e; rw [hb] at this; cases this; rfl)
structure HpOut (w : World) (own : Own) (B : Nat) (v : Value) (os : List GO) : Prop where
 dom : ∀ b, own b ≠ none → B ≤ b ∧ b < w.heap.size
 row : OwnS w own B (2, 0) 146 3 v os.length (os.flatMap objCs)
 obj : ∀ j o, os[j]? = some o → OwnS w own B (7, j) 34 2 o.v o.o.fields.length (o.o.fields.flatMap valCs)
 roles : ∀ b q, own b = some q → q = (2, 0) ∨ ∃ j, q = (7, j)
theorem HpOut.nil (w : World) (B : Nat) : HpOut w (fun _ => none) B (.slice none 0 0) [] :=
 ⟨fun b h => absurd rfl h, OwnS.nil _ _ _ _ _ _, fun j o h => by simp at h, fun b q h => by cases h⟩
theorem HpOut.slice {w : World} {own : Own} {B : Nat} {v : Value} {os : List GO} (h : HpOut w own B v os) {I : Nat → Prop} (hI : ∀ b, B ≤ b → b < w.heap.size → I b) (hl : os.length ≤ 4294967296) (hf : ∀ o ∈ os, o.o.fields.length ≤ 4294967296) : SliceOf 3 ObjL w I v (os.map GO.o) := by
 have hex : ∀ {l : List GO}, (∀ (j : Nat) (o : GO), l[j]? = some o → SliceOf 2 ValL w I o.v o.o.fields) → ∀ o ∈ l, SliceOf 2 ValL w I o.v o.o.fields := fun hl o ho => by
  obtain ⟨j, hj, e⟩ := List.getElem_of_mem ho
  exact hl j o (by rw [List.getElem?_eq_getElem hj, e])
 have hall := hex (l := os) fun j o ho => SliceOf.of_owns valCs (h.obj j o ho).row rfl rfl (fun _ _ => rfl) (fun _ _ => rfl) (fun b h1 h2 => hI b h1 h2) (hf o (List.mem_of_getElem? ho))
 have hs : SliceOf 3 (fun w I (x : GO) cs => SliceOf 2 ValL w I x.v x.o.fields ∧ cs = objCs x) w I v os :=
  SliceOf.of_owns objCs h.row.row rfl rfl (fun _ _ => rfl) (fun o ho => ⟨hall o ho, rfl⟩) (fun b h1 h2 => hI b h1 h2) hl
 obtain ⟨a, c, e, h1, h2, h3⟩ := hs
 refine ⟨a, c, by rw [e, List.length_map], by rw [List.length_map]; exact h1, by rw [List.length_map]; exact h2, fun i x hx => ?_⟩
 rw [List.getElem?_map] at hx
 cases hi : os[i]? with
 | none => rw [hi] at hx; cases hx
 | some o =>
  rw [hi] at hx; cases hx
  obtain ⟨b, off, cs, ea, hIb, ⟨hsl, rfl⟩, hlen, hc⟩ := h3 i o hi
  exact ⟨b, off, _, ea, hIb, ⟨o.v, rfl, hsl⟩, hlen, hc⟩
end Go.Proofs.YtjdfceejkneofaaGreat
namespace Go.Proofs.YtjdfceejkneofaaGreat.M
theorem Runs.link {p : Plan} : Runs p linkSt := ⟨⟨by simp [linkSt, heapOk], by simp [linkSt], by simp [linkSt], by simp [linkSt], by simp [linkSt], by simp [linkSt, valOk, zval]⟩, by simp [linkSt], by simp [linkSt]⟩
theorem Good.one {p : Plan} {q : Ref} (hq : canLay p q = true) : Good p ⟨1, [], [fresh p q], [], zval⟩ := by
 have h0 : Good p ⟨1, [], [], [], zval⟩ := ⟨by simp [heapOk], by simp, by simp, by simp, by simp, by simp [valOk, zval]⟩
 exact h0.grow hq (by simp)
theorem start_runs {p : Plan} (hok : lodOk p = true) {lk : Bool} {k : Int} {n m : ByteArray} {args : List Int} (ha : args.all numOk = true) : Runs p (start p lk k n m args) := by
 unfold start
 split
 · rename_i hf
   split
   · rename_i hc
     obtain ⟨rr, hrr⟩ := call_found hc.1
     have hx := pick_has hrr
     have hlen : (method p (call p k n m).1).args.length = args.length := by
      have := hc.2
      unfold startable at this
      simp only [Bool.and_eq_true, decide_eq_true_eq] at this
      exact this.1
     refine Fine.runs (enter_fine hok (Good.one hf.2) rfl hx ?_ ?_)
     · intro v hv
       rcases List.mem_cons.1 hv with rfl | hv
       · exact valOk_mk _ (by omega) (by simp)
       · obtain ⟨x, hx, rfl⟩ := List.mem_map.1 hv
         exact valOk_numVal _ (List.all_eq_true.1 ha x hx)
     · have := (mth_is (method_ok hok hx).1).args
       simp; omega
   · exact Runs.link
 · exact Runs.link
theorem vmNew_eq {p : Plan} {lk : Bool} {k : Int} {n m : ByteArray} {args : List Int} (hok : lodOk p = true) (hk : has p k = true) (hn : namOk n = true) (hm : namOk m = true) (ha : args.all numOk = true) : vmNew p lk k n m args = start p lk k n m args := by
 unfold vmNew
 rw [hok, hk, hn, hm, ha]; rfl
theorem vmRun_eq {p : Plan} {lk : Bool} {s : St} {f : Nat} (hok : lodOk p = true) (hs : Runs p s) (hf : f ≤ 400) : vmRun p lk s f = steps p lk f s := by
 unfold vmRun
 rw [decide_eq_true (by omega), hok, runs_iff.2 hs]; rfl
theorem steps_add {p : Plan} {lk : Bool} : ∀ (a b : Nat) (s : St), steps p lk (a + b) s = steps p lk b (steps p lk a s)
 | 0, b, s => by rw [Nat.zero_add]; rfl
 | a + 1, b, s => by
  rw [Nat.succ_add]
  by_cases h : s.status = 1
  · show (if s.status = 1 then steps p lk (a + b) (step p lk s) else s) = steps p lk b (if s.status = 1 then steps p lk a (step p lk s) else s)
    rw [if_pos h, if_pos h, steps_add a b]
  · show (if s.status = 1 then _ else s) = steps p lk b (if s.status = 1 then _ else s)
    rw [if_neg h, if_neg h]
    cases b with
    | zero => rfl
    | succ b => show s = (if s.status = 1 then _ else s); rw [if_neg h]
theorem namOk_main : namOk ⟨#[109, 97, 105, 110]⟩ = true := by decide +kernel
theorem namOk_run : namOk ⟨#[114, 117, 110]⟩ = true := by decide +kernel
end Go.Proofs.YtjdfceejkneofaaGreat.M
namespace Go.Proofs.YtjdfceejkneofaaGreat
open Go Go.RowKit
open Go.Lib (hid)
theorem copy_heap (w : World) (I : Nat → Prop) (v : Value) (hs : List M.VObj) (h : SliceOf 3 ObjL w I v hs) (hl : hs.length ≤ 12) :
    Calls Tryz.prog 46 #[v] w fun e w' => (∃ v' own os, e = .returned v' ∧ os.map GO.o = hs ∧ HpOut w' own w.heap.size v' os) ∧ Ext w w' := by
 obtain ⟨a, cap, rfl, hn, hcap⟩ := h.form
 have H := hid h
 clear h
 go_enter Tryz.func46, Tryz.ntmps46
 go_wp2_with fail
 go_loopw [8, 3] (fun i v3 wr => ∃ (q : Nat) (own : Own) (os : List GO), q ≤ hs.length ∧ i = .int .i64 q ∧ Ext w wr ∧ Hid (os.map GO.o = hs.take q) ∧ HpOut wr own w.heap.size v3 os) (fun i _ _ => hs.length - (intOf i).toNat)
 case atStart => exact ⟨0, _, [], Nat.zero_le _, rfl, Kp.refl _ _, hid (by simp), HpOut.nil _ _⟩
 case round =>
  obtain ⟨q, own, os, hq, rfl, hE, HOS, hO⟩ := hrel
  obtain ⟨va, vc, rfl⟩ := hO.row.form
  have hol : os.length = q := by
   have := congrArg List.length HOS.out
   simpa [Nat.min_eq_left hq] using this
  by_cases hlt : q < hs.length
  · obtain ⟨⟨⟨ok, on⟩, ofl⟩, ho⟩ := elemF hs q hlt
    obtain ⟨b, off, cs, rfl, hI, ⟨vf, rfl, hf⟩, -, hc⟩ := (H.out.ext ObjL.stays hE).get ho
    obtain ⟨fa, fc, rfl, hfn, hfc⟩ := hf.form
    obtain ⟨g0, g1, g2⟩ := hc.three
    have gz := cell_lt g0
    obtain ⟨w5, hw5⟩ : ∃ w5, w5 = wr.alloc (.cells #[.int .i64 ok, .string on, .slice fa ofl.length fc] 146) := ⟨_, rfl⟩
    have hE5 : Ext wr w5 := by rw [hw5]; exact (KX.k (by repeat (first | assumption | constructor)))
    have b5 : Blk w5 wr.heap.size 146 #[.int .i64 ok, .string on, .slice fa ofl.length fc] := by rw [hw5]; exact Blk.new _ _ _
    have hz5 : w5.heap.size = wr.heap.size + 1 := by rw [hw5]; simp
    have hv5 : ¬ (Value.slice va os.length vc).ownBlock = some wr.heap.size := fun e => by have := (hO.row.blk e).2; omega
    obtain ⟨T, f, hneT, HT⟩ := Cls.ex (fun W' => Kp (fun b => (Value.slice va os.length vc).ownBlock = some b) w5 W') _ (Kp.refl _ _)
    have r0 := fun z => (b5.kp (HT.inn z) hv5).c 0 (.int .i64 ok) rfl
    have r1 := fun z => (b5.kp (HT.inn z) hv5).c 1 (.string on) rfl
    have r2 := fun z => (b5.kp (HT.inn z) hv5).c 2 (.slice fa ofl.length fc) rfl
    have HTH := hid HT
    have HW5 := hid hw5
    have HO5 : Hid (HpOut w5 own w.heap.size (.slice va os.length vc) os) := hid ⟨fun b hb => ⟨(hO.dom b hb).1, by have := (hO.dom b hb).2; omega⟩, hO.row.ext hE5, fun j o ho => (hO.obj j o ho).ext hE5, hO.roles⟩
    have HF := hid (hf.ext ValL.stays hE5)
    have HE5 := hid (hE.trans hE5)
    have HX := hid ho
    have HOL := hid hol
    have hwr := hE.size
    have hol' : (os.length : Int) = q := by omega
    clear hE hO hE5 b5 hw5 hv5 HT hf hc ho hol
    go_wp2_with fail
    rw [← HW5.out]
    clear g0 g1 g2
    (refine region_mix f 9 [([0, 1, 2, 3, 4], 5), ([6], 7), ([], 8)] [] (HTH.out.out _ ?_) (by kernel_rfl) (by kernel_rfl) (fun _ _ d _ _ h => by cases d <;> exact h) ?_)
    · exact (Kp.refl _ _).drew
    (refine wpMix_cons rfl rfl fun K hK => ?_); (change wpQuiet _ _ _ _ [_, _, _, _, _] _); (repeat (go_big_quiet_step (fail))); (refine wpQuiet_nil ?_); (refine hK _ fun K2 hK2 => ?_); clear hK K; (change wpList _ _ _ [_] _ _)
    go_wp2_with fail
    refine (clone_val _ _ _ _ ((HF.out.ext ValL.stays (Kp.refl _ _).drew).vals) hfc).mono ?_
    rintro e w6 ⟨⟨v6, rfl, hrow6⟩, hE6⟩
    obtain ⟨x6, y6, rfl⟩ := owns_val hrow6
    have HE6 : Hid (Ext w5 w6) := hid (((Kp.refl _ w5).drew : Ext w5 _).trans hE6)
    have HR6 : Hid (w6.ownsRow w5.heap.size 34 2 (Value.slice x6 ofl.length y6) ofl.length (ofl.flatMap valCs)) := hid hrow6
    clear hE6 hrow6
    go_wp2_with fail
    (refine hK2 _ _ (HTH.out.out _ HE6.out.any) ?_); clear hK2 K2
    (refine wpMix_cons rfl rfl fun K hK => ?_); (change wpQuiet _ _ _ _ [_] _); (repeat (go_big_quiet_step (fail))); (refine wpQuiet_nil ?_); (refine hK _ fun K2 hK2 => ?_); clear hK K; (change wpList _ _ _ [_] _ _)
    go_wp2_with fail
    (refine hK2 _ _ (HTH.out.out _ (HE6.out.alloc _).any) ?_); clear hK2 K2
    (refine wpMix_cons rfl rfl fun K hK => ?_); (change wpQuiet _ _ _ _ [] _); (refine wpQuiet_nil ?_); (refine hK _ fun K2 hK2 => ?_); clear hK K; (change wpList _ _ _ [_] _ _)
    obtain ⟨own1, hs1, hd1, hr1, ha1, hq1⟩ := Own.more HO5.out.dom HR6.out HE6.out.size (by omega) (7, os.length)
    have hrow2 : OwnS w6 own1 w.heap.size (2, 0) 146 3 (.slice va os.length vc) os.length (os.flatMap objCs) := (HO5.out.row.ext HE6.out).relabel hs1
    have hobj2 : ∀ j o, os[j]? = some o → OwnS w6 own1 w.heap.size (7, j) 34 2 o.v o.o.fields.length (o.o.fields.flatMap valCs) := fun j o ho => ((HO5.out.obj j o ho).ext HE6.out).relabel hs1
    have hE7 : Ext w6 (w6.alloc (.cells #[.int .i64 ok, .string on, (Value.slice x6 ofl.length y6)] 146)) := (KX.k (by repeat (first | assumption | constructor)))
    have hone : ∀ u ∈ objCs (⟨⟨⟨ok, on⟩, ofl⟩, (Value.slice x6 ofl.length y6)⟩ : GO), u.oneCell' = true := by
     simp [objCs, Value.oneCell']
    refine wpList_append_at elem_obj rfl (.tmp 12) (.tmp 19) rfl w.heap.size (.slice va os.length vc) os.length (os.flatMap objCs) rfl ((hrow2.ext hE7).row) w6.heap.size 1 (objCs (⟨⟨⟨ok, on⟩, ofl⟩, (Value.slice x6 ofl.length y6)⟩ : GO)) rfl rfl (CellsAt.newA _ _ rfl) hone (by omega) (by have := HE6.out.size; simp; omega) ?_
    intro g9 c9 w9 hO9 hKp9 hg9
    change K2 _ _
    have hK49 : Kp (fun b => (Value.slice va os.length vc).ownBlock = some b) w6 w9 := hE7.any.trans hKp9
    (refine hK2 _ _ (HTH.out.out _ (HE6.out.any.trans hK49)) ?_); clear hK2 K2
    obtain ⟨hr2, ha2, hd2, hq2⟩ := OwnS.app hrow2 hd1 hO9 hK49 (hg9.imp id fun e => by simp at e; omega)
    have hres : HpOut w9 (own1.add g9 (2, 0)) w.heap.size (.slice (some ⟨g9, 0, none⟩) (os.length + 1) c9) (os ++ [(⟨⟨⟨ok, on⟩, ofl⟩, (Value.slice x6 ofl.length y6)⟩ : GO)]) := by
     refine ⟨hd2, by simpa using hr2, fun j o ho => ?_, fun b r hb => ?_⟩
     · rcases Nat.lt_trichotomy j os.length with hj | hj | hj
       · rw [List.getElem?_append_left hj] at ho
         exact hrow2.beside (hobj2 j o ho) hK49 ha2 (by simp)
       · subst hj
         simp at ho; subst ho
         exact hrow2.beside hr1 hK49 ha2 (by simp)
       · rw [List.getElem?_eq_none (by simp; omega)] at ho; cases ho
     · rcases hq2 b r hb with h | rfl
       · rcases hq1 b r h with h | rfl
         · exact HO5.out.roles b r h
         · exact .inr ⟨_, rfl⟩
       · exact .inl rfl
    have hE9 : Ext w w9 := (HE5.out.trans HE6.out).own hK49 (fun b e => (hrow2.blk e).1)
    have HRES := hid hres
    have HE9 := hid hE9
    clear hs1 hd1 hr1 ha1 hq1 hrow2 hobj2 hE7 hO9 hKp9 hg9 hK49 hr2 ha2 hd2 hq2 hres hE9 HTH r0 r1 r2
    (refine wpMix_nil rfl fun K hK => ?_); (change wpQuiet _ _ _ _ [] _); (refine wpQuiet_nil ?_); (refine hK _ ?_); clear hK K
    go_wp2_with fail
    refine ⟨⟨q + 1, own1.add g9 (2, 0), os ++ [(⟨⟨⟨ok, on⟩, ofl⟩, (Value.slice x6 ofl.length y6)⟩ : GO)], by omega, by go_num, HE9.out, hid ?_, HRES.out⟩, by simp [intOf]; omega⟩
    rw [List.map_append, HOS.out, List.take_add_one, HX.out]
    rfl
  · have hqe : q = hs.length := by omega
    have HR : Hid (os.map GO.o = hs) := hid (by rw [HOS.out, hqe, List.take_length])
    have HO := hid hO
    have HE := hid hE
    clear hO hE
    go_wp2_with fail
    go_ret
    exact ⟨⟨_, own, os, rfl, HR.out, HO.out⟩, HE.out⟩
theorem HpOut.mono {w : World} {own : Own} {B B' : Nat} {v : Value} {os : List GO} (h : HpOut w own B v os) (hB : B' ≤ B) : HpOut w own B' v os :=
 ⟨fun b hb => ⟨Nat.le_trans hB (h.dom b hb).1, (h.dom b hb).2⟩, ⟨owns_mono h.row.row hB, h.row.role⟩, fun j o ho => ⟨owns_mono (h.obj j o ho).row hB, (h.obj j o ho).role⟩, h.roles⟩
theorem HpOut.kp {D : Nat → Prop} {w w' : World} {own : Own} {B : Nat} {v : Value} {os : List GO} (h : HpOut w own B v os) (hk : Kp D w w') (hD : ∀ b, own b ≠ none → ¬ D b) : HpOut w' own B v os :=
 ⟨fun b hb => ⟨(h.dom b hb).1, Nat.lt_of_lt_of_le (h.dom b hb).2 hk.size⟩, h.row.keep hk (Agr.refl _ _) fun b hb _ => hD b (by rw [hb]; simp), fun j o ho => (h.obj j o ho).keep hk (Agr.refl _ _) fun b hb _ => hD b (by rw [hb]; simp), h.roles⟩
theorem M.Good.part {p : M.Plan} {s : M.St} (h : M.Good p s) (n : Nat) : M.Good p { s with frames := s.frames.take n } :=
 ⟨h.heap, fun f hf => h.frames f (List.mem_of_mem_take hf), by have := h.nf; simp; omega, h.outs, h.outsOk, h.back⟩
theorem MachAt.start {w : World} {l : Lodge} {p : M.Plan} {own : Own} {B mb : Nat} {lk : Bool} {st : Int} {os : List GO} {outs : List Int} {back : M.Val} {vh vo : Value} (hL : LodgeAt w l p) (hB : l.L < B) (hO : HpOut w own B vh os) (hmb : own mb = none)
    (hlow : B ≤ mb) (hblk : Blk w mb 86 (machCs l lk ⟨st, [], os, outs, back, .slice none 0 0, vh, vo⟩)) (hvo : w.ownsRow B 3 1 vo outs.length (outs.flatMap intCs)) (hne : ∀ b, vo.ownBlock = some b → own b = none ∧ b ≠ mb)
    (hG : M.Good p ⟨st, [], os.map GO.o, outs, back⟩) : ∃ own', MachAt w l p own' B mb lk ⟨st, [], os, outs, back, .slice none 0 0, vh, vo⟩ := by
 have h1 : ∀ b q, own b = some q → (own.add mb (0, 0)) b = some q := fun b q hb => by
  rw [Own.add_ne _ (fun e => by subst e; rw [hmb] at hb; cases hb)]; exact hb
 have hd1 : ∀ b, own.add mb (0, 0) b ≠ none → B ≤ b ∧ b < w.heap.size := fun b hb => by
  by_cases e : b = mb
  · subst e; exact ⟨hlow, hblk.lt⟩
  · rw [Own.add_ne _ e] at hb; exact hO.dom b hb
 have hnone : ∀ i : Nat, ∀ c : GC, ([] : List GC)[i]? = some c → CallAt w l p own B i c := fun i c hc => by simp at hc
 cases he : vo.ownBlock with
 | none =>
  exact ⟨own.add mb (0, 0), hL, hB, hblk, Own.add_eq _ _ _, hlow, OwnS.nil _ _ _ _ _ _, fun i c hc => by simp at hc, hO.row.relabel h1, fun j o ho => (hO.obj j o ho).relabel h1, ⟨hvo, fun b hb => by rw [he] at hb; cases hb⟩, hd1, hG⟩
 | some g =>
  obtain ⟨n1, n2⟩ := hne g he
  have hg := hvo.lt g he
  have h2 : ∀ b q, (own.add mb (0, 0)) b = some q → ((own.add mb (0, 0)).add g (3, 0)) b = some q := fun b q hb => by
   rw [Own.add_ne _ (fun e => by subst e; rw [Own.add_ne _ n2, n1] at hb; cases hb)]; exact hb
  refine ⟨(own.add mb (0, 0)).add g (3, 0), hL, hB, hblk, h2 _ _ (Own.add_eq _ _ _), hlow, OwnS.nil _ _ _ _ _ _, fun i c hc => by simp at hc, (hO.row.relabel h1).relabel h2, fun j o ho => ((hO.obj j o ho).relabel h1).relabel h2, ⟨hvo, fun b hb => ?_⟩, fun b hb => ?_, hG⟩
  · rw [he] at hb; cases hb; exact Own.add_eq _ _ _
  · by_cases e : b = g
    · subst e; exact hg
    · rw [Own.add_ne _ e] at hb; exact hd1 b hb
theorem new_machine (w : World) (l : Lodge) (p : M.Plan) (h : LodgeAt w l p) (lk : Bool) (s : M.St) (cs : List Value) (hs : StateL w (· < l.O) s cs) (hv : M.vmOk p s = true) :
    Calls Tryz.prog 30 #[.pointer (some ⟨l.L, 0, none⟩), .bool lk, .agg cs.toArray] w fun e w' => (∃ mb own g, e = .returned (.pointer (some ⟨mb, 0, none⟩)) ∧ MachAt w' l p own w.heap.size mb lk g ∧ g.st = s) ∧ Ext w w' := by
 obtain ⟨a1, c1, a2, c2, a3, c3, rfl, h1, h2, h3⟩ := hs.form
 have hR := M.runs_iff.1 hv
 clear hs hv
 obtain ⟨st, frs, hp, outs, ⟨bk, bn⟩⟩ := s
 simp only at h1 h2 h3 ⊢
 have hn1 := h1.form
 have hn2 := h2.form
 have hn3 := h3.form
 obtain ⟨_, _, e1, hl1, hm1⟩ := hn1
 cases e1
 obtain ⟨_, _, e2, hl2, hm2⟩ := hn2
 cases e2
 obtain ⟨_, _, e3, hl3, hm3⟩ := hn3
 cases e3
 have hhp : hp.length ≤ 12 := (M.heapOk_iff.1 hR.good.heap).1
 obtain ⟨w1, hw1⟩ : ∃ w1, w1 = (w.alloc (.cells #[.int .i64 st, .slice a1 frs.length c1, .slice a2 hp.length c2, .slice a3 outs.length c3, .int .i64 bk, .int .i64 bn] 36)).alloc (.cells #[.pointer (some ⟨l.L, 0, none⟩), .bool lk, .int .i64 st, .slice none 0 0, .slice none 0 0, .slice none 0 0, .int .i64 bk, .int .i64 bn] 86) := ⟨_, rfl⟩
 have hE1 : Ext w w1 := by rw [hw1]; exact (KX.k (by repeat (first | assumption | constructor)))
 have b5 : Blk w1 w.heap.size 36 #[.int .i64 st, .slice a1 frs.length c1, .slice a2 hp.length c2, .slice a3 outs.length c3, .int .i64 bk, .int .i64 bn] := by rw [hw1]; exact (Blk.new _ _ _).ext (KX.k (by repeat (first | assumption | constructor)))
 have b7 : Blk w1 (w.heap.size + 1) 86 #[.pointer (some ⟨l.L, 0, none⟩), .bool lk, .int .i64 st, .slice none 0 0, .slice none 0 0, .slice none 0 0, .int .i64 bk, .int .i64 bn] := by rw [hw1]; exact Blk.newAt _ _ (by simp)
 have hz1 : w1.heap.size = w.heap.size + 2 := by rw [hw1]; simp
 have hLw := h.lt
 have HL := hid h
 have HR := hid hR
 have HE1 := hid hE1
 have HB5 := hid b5
 have HB7 := hid b7
 have HW1 := hid hw1
 have H1 := hid h1
 have H2 := hid h2
 have H3 := hid h3
 clear h hR hE1 b5 b7 hw1 h1 h2 h3
 go_enter Tryz.func30, Tryz.ntmps30
 go_wp2_with fail
 rw [← HW1.out]
 refine (copy_heap _ (· < l.O) _ hp (H2.out.ext ObjL.stays HE1.out) hhp).mono ?_
 rintro e w2 ⟨⟨vh, own1, os, rfl, hos, hO⟩, hE2⟩
 obtain ⟨ah, ch, rfl⟩ := hO.row.form
 have b52 := HB5.out.ext hE2
 have b72 := HB7.out.ext hE2
 obtain ⟨w3, hw3⟩ : ∃ w3, w3 = w2.setCell ⟨w.heap.size + 1, 4, none⟩ (Value.slice ah os.length ch) := ⟨_, rfl⟩
 have hK3 : Kp (· = w.heap.size + 1) w2 w3 := by rw [hw3]; exact (Kp.refl (· = w.heap.size + 1) w2).setCell (p := ⟨w.heap.size + 1, 4, none⟩) (fun _ => rfl) _
 have b73 : Blk w3 (w.heap.size + 1) 86 #[.pointer (some ⟨l.L, 0, none⟩), .bool lk, .int .i64 st, .slice none 0 0, (Value.slice ah os.length ch), .slice none 0 0, .int .i64 bk, .int .i64 bn] := by rw [hw3]; exact b72.set_ 4 _
 have b53 := b52.kp hK3 (by omega)
 have y4 := b72.c 4 (.slice none 0 0) rfl
 have yf := b72.frozen 4
 have yz := b72.lt
 have x3 := b52.c 3 (.slice a3 outs.length c3) rfl
 have xz := b52.lt
 have HE3 : Hid (Ext w w3) := hid ((HE1.out.trans hE2).own hK3 (fun b e => by omega))
 have HO3 : Hid (HpOut w3 own1 w1.heap.size (Value.slice ah os.length ch) os) := hid (hO.kp hK3 (fun b hb e => by have := (hO.dom b hb).1; omega))
 have HOS := hid hos
 have HW3 := hid hw3
 have HB73 := hid b73
 have HB53 := hid b53
 have hz3 : w2.heap.size ≤ w3.heap.size := hK3.size
 have hz2 := hE2.size
 clear hos hO hE2 b52 b72 hw3 hK3 b73 b53
 go_wp2_with fail
 rw [← HW3.out]
 clear y4 yf yz x3 xz
 refine (clone_int _ _ _ _ ((H3.out.ext IntL.stays HE3.out).ints) hm3).mono ?_
 rintro e w4 ⟨⟨vo, rfl, hvo⟩, hE4⟩
 obtain ⟨ao, co, rfl⟩ := owns_val hvo
 have b74 := HB73.out.ext hE4
 have b54 := HB53.out.ext hE4
 obtain ⟨w5, hw5⟩ : ∃ w5, w5 = w4.setCell ⟨w.heap.size + 1, 5, none⟩ (Value.slice ao outs.length co) := ⟨_, rfl⟩
 have hK5 : Kp (· = w.heap.size + 1) w4 w5 := by rw [hw5]; exact (Kp.refl (· = w.heap.size + 1) w4).setCell (p := ⟨w.heap.size + 1, 5, none⟩) (fun _ => rfl) _
 have b75 : Blk w5 (w.heap.size + 1) 86 #[.pointer (some ⟨l.L, 0, none⟩), .bool lk, .int .i64 st, .slice none 0 0, (Value.slice ah os.length ch), (Value.slice ao outs.length co), .int .i64 bk, .int .i64 bn] := by rw [hw5]; exact b74.set_ 5 _
 have hE5 : Ext w w5 := (HE3.out.trans hE4).own hK5 (fun b e => by omega)
 have hO5 : HpOut w5 own1 w.heap.size (Value.slice ah os.length ch) os := ((HO3.out.kp (D := fun _ => False) hE4 fun _ _ x => x).kp hK5 (fun b hb e => by have := (HO3.out.dom b hb).1; omega)).mono (by omega)
 have hvo5 : w5.ownsRow w.heap.size 3 1 (Value.slice ao outs.length co) outs.length (outs.flatMap intCs) := owns_mono (owns_kp hvo hK5 (fun q hq hb e => by have := hvo.lt q hq; omega)) (by omega)
 have hM : ∃ own', MachAt w5 l p own' w.heap.size (w.heap.size + 1) lk ⟨st, [], os, outs, ⟨bk, bn⟩, .slice none 0 0, (Value.slice ah os.length ch), (Value.slice ao outs.length co)⟩ := by
  refine MachAt.start (HL.out.ext hE5) hLw hO5 ?_ (by omega) b75 hvo5 (fun b hb => ?_) ?_
  · cases e : own1 (w.heap.size + 1) with
    | none => rfl
    | some r => have := (HO3.out.dom _ (by rw [e]; simp)).1; omega
  · have h1 := (hvo.lt b hb).1
    refine ⟨?_, by omega⟩
    cases e : own1 b with
    | none => rfl
    | some r => have := (HO3.out.dom _ (by rw [e]; simp)).2; omega
  · rw [HOS.out]
    have := HR.out.good.part 0
    simpa using this
 have y5 := b74.c 5 (.slice none 0 0) rfl
 have yf := b74.frozen 5
 have yz := b74.lt
 have x1 := b54.c 1 (.slice a1 frs.length c1) rfl
 have xz := b54.lt
 have HM := hid hM
 have HE5 := hid hE5
 have HW5 := hid hw5
 clear b74 b54 hw5 hK5 b75 hE5 hO5 hvo5 hM hvo hE4
 go_wp2_with fail
 rw [← HW5.out]
 clear y5 yf yz x1 xz
 go_loopw [34] (fun i wr => ∃ (q : Nat) (own : Own) (g : Gh), q ≤ frs.length ∧ i = .int .i64 q ∧ Ext w wr ∧ MachAt wr l p own w.heap.size (w.heap.size + 1) lk g ∧ g.st = ⟨st, frs.take q, hp, outs, ⟨bk, bn⟩⟩) (fun i _ => frs.length - (intOf i).toNat)
 case atStart =>
  obtain ⟨own', hM⟩ := HM.out
  exact ⟨0, own', _, Nat.zero_le _, rfl, HE5.out, hM, by simp [Gh.st, HOS.out]⟩
 case round =>
  obtain ⟨q, own, g, hq, rfl, hE, hM, hst⟩ := hrel
  by_cases hlt : q < frs.length
  · obtain ⟨⟨⟨⟨xk, xn⟩, xa⟩, pc, lo, sk⟩, hx⟩ := elemF frs q hlt
    have hfo := M.frameOk_iff.1 (HR.out.good.frames _ (List.mem_of_getElem? hx))
    have HFO := hid hfo
    obtain ⟨b, off, cs, rfl, hI, ⟨vl, vs, rfl, hlo, hsk⟩, -, hc⟩ := (H1.out.ext FrL.stays hE).get hx
    obtain ⟨la, lc, rfl, hln, hlc⟩ := hlo.form
    obtain ⟨sa, sc, rfl, hsn, hsc⟩ := hsk.form
    simp only at hlo hsk hln hlc hsn hsc hc
    obtain ⟨g0, g1, g2, g3, g4, g5⟩ := hc.six
    have gz := cell_lt g0
    obtain ⟨w9, hw9⟩ : ∃ w9, w9 = wr.alloc (.cells #[.int .i64 xk, .string xn, .int .i64 xa, .int .i64 pc, .slice la lo.length lc, .slice sa sk.length sc] 105) := ⟨_, rfl⟩
    have hE9 : Ext wr w9 := by rw [hw9]; exact (KX.k (by repeat (first | assumption | constructor)))
    have b9 : Blk w9 wr.heap.size 105 #[.int .i64 xk, .string xn, .int .i64 xa, .int .i64 pc, .slice la lo.length lc, .slice sa sk.length sc] := by rw [hw9]; exact Blk.new _ _ _
    have hz9 : w9.heap.size = wr.heap.size + 1 := by rw [hw9]; simp
    have y0 := b9.c 0 (.int .i64 xk) rfl
    have y1 := b9.c 1 (.string xn) rfl
    have y2 := b9.c 2 (.int .i64 xa) rfl
    have yz := b9.lt
    obtain ⟨m, hm⟩ : ∃ m, M.method p ⟨⟨xk, xn⟩, xa⟩ = m := ⟨_, rfl⟩
    have hmm := lodge_method' w9 l p (hM.lod.ext hE9) ⟨⟨xk, xn⟩, xa⟩ hfo.1
    rw [hm] at hmm
    have hgl : g.cs.length = q := by
     have := congrArg (fun s => s.frames.length) hst
     simpa [Gh.st, Nat.min_eq_left hq] using this
    have hcv : ∀ b, g.vc.ownBlock = some b → b < wr.heap.size := fun b e => (hM.calls.blk e).2
    have HMM := hid hmm
    have HM := hid hm
    have HM9 := hid (hM.ext hE9)
    have HE9 := hid (hE.trans hE9)
    have HB9 := hid b9
    have HW9 := hid hw9
    have HLO := hid (hlo.ext ValL.stays hE9)
    have HSK := hid (hsk.ext ValL.stays hE9)
    have HST := hid hst
    have HX := hid hx
    have HGL := hid hgl
    have hwr := hE.size
    clear hfo hlo hsk hc hE9 b9 hw9 hmm hm hst hx hgl hE hM
    go_wp2_with fail
    rw [← HW9.out]
    clear g0 g1 g2 g3 g4 g5
    refine HMM.out.mono ?_
    rintro e w6 ⟨⟨cs, hml, rfl⟩, hE6⟩
    obtain ⟨t2, rfl⟩ := mthCs_form hml
    obtain ⟨w10, hw10⟩ : ∃ w10, w10 = w6.alloc (.cells (mthCs m t2).toArray 60) := ⟨_, rfl⟩
    have hE10 : Ext w6 w10 := by rw [hw10]; exact (KX.k (by repeat (first | assumption | constructor)))
    have b10 : Blk w10 w6.heap.size 60 (mthCs m t2).toArray := by rw [hw10]; exact Blk.new _ _ _
    have hz10 : w10.heap.size = w6.heap.size + 1 := by rw [hw10]; simp
    have b910 := HB9.out.ext (hE6.trans hE10)
    have hM10 := HM9.out.ext (hE6.trans hE10)
    have hz6 := hE6.size
    obtain ⟨va, vc, hvc⟩ := hM10.calls.form
    have hvm : ¬ g.vc.ownBlock = some (w.heap.size + 1) := fun e => by have := hM10.calls.role _ e; rw [hM10.role] at this; cases this
    have hvw : ∀ b, wr.heap.size ≤ b → ¬ g.vc.ownBlock = some b := fun b hb e => by have := hcv b e; omega
    obtain ⟨T, f, hneT, HT⟩ := Cls.ex (fun W' => Kp (fun b => g.vc.ownBlock = some b) w10 W') _ (Kp.refl _ _)
    have rm3 := fun z => (hM10.blk.kp (HT.inn z) hvm).c 3 (.slice va g.cs.length vc) (by rw [← hvc]; rfl)
    have r90 := fun z => (b910.kp (HT.inn z) (hvw _ (Nat.le_refl _))).c 0 (.int .i64 xk) rfl
    have r91 := fun z => (b910.kp (HT.inn z) (hvw _ (Nat.le_refl _))).c 1 (.string xn) rfl
    have r92 := fun z => (b910.kp (HT.inn z) (hvw _ (Nat.le_refl _))).c 2 (.int .i64 xa) rfl
    have r93 := fun z => (b910.kp (HT.inn z) (hvw _ (Nat.le_refl _))).c 3 (.int .i64 pc) rfl
    have r94 := fun z => (b910.kp (HT.inn z) (hvw _ (Nat.le_refl _))).c 4 (.slice la lo.length lc) rfl
    have r95 := fun z => (b910.kp (HT.inn z) (hvw _ (Nat.le_refl _))).c 5 (.slice sa sk.length sc) rfl
    have h6r : wr.heap.size ≤ w6.heap.size := by omega
    have r70 := fun z => (b10.kp (HT.inn z) (hvw _ h6r)).c 0 (.string m.name) rfl
    have r71 := fun z => (b10.kp (HT.inn z) (hvw _ h6r)).c 1 (.slice t2.a1 m.args.length t2.c1) rfl
    have r72 := fun z => (b10.kp (HT.inn z) (hvw _ h6r)).c 2 (.int .i64 m.ret.kind) rfl
    have r73 := fun z => (b10.kp (HT.inn z) (hvw _ h6r)).c 3 (.string m.ret.name) rfl
    have r74 := fun z => (b10.kp (HT.inn z) (hvw _ h6r)).c 4 (.int .i64 m.locals) rfl
    have r75 := fun z => (b10.kp (HT.inn z) (hvw _ h6r)).c 5 (.int .i64 m.stack) rfl
    have r76 := fun z => (b10.kp (HT.inn z) (hvw _ h6r)).c 6 (.slice t2.a2 m.code.length t2.c2) rfl
    have r77 := fun z => (b10.kp (HT.inn z) (hvw _ h6r)).c 7 (.slice t2.a3 m.maps.length t2.c3) rfl
    have HTH := hid HT
    have HVC := hid hvc
    have HVM := hid hvm
    have HM10 := hid hM10
    have HE10 := hid (HE9.out.trans (hE6.trans hE10))
    have HML : Hid (MethodL w10 (· < l.O) m (mthCs m t2)) := hid (Stays.ext MethodL.stays hE10 hml)
    have HLO1 := hid (HLO.out.ext ValL.stays (hE6.trans hE10))
    have HSK1 := hid (HSK.out.ext ValL.stays (hE6.trans hE10))
    have HW10 := hid hw10
    clear HT hvc hvm hvw hM10 hml hw10 b10 b910 hE10 hE6 HMM y0 y1 y2 yz HLO HSK
    simp only [mthCs]
    unfold mthCs at HW10
    go_wp2_with fail
    rw [← HW10.out]
    (refine region_mix f 23 [([0, 1, 2, 3, 4, 5, 6, 7, 8, 9, 10, 11, 13, 14, 16, 17], 12), ([], 15), ([18, 19], 20), ([], 21), ([], 22)] [] (HTH.out.out _ ?_) (by kernel_rfl) (by kernel_rfl) (fun _ _ d _ _ h => by cases d <;> exact h) ?_)
    · exact (Kp.refl _ _).drew
    (refine wpMix_cons rfl rfl fun K hK => ?_); (change wpQuiet _ _ _ _ [_, _, _, _, _, _, _, _, _, _, _, _, _, _, _, _] _); (repeat (go_big_quiet_step (fail))); (refine wpQuiet_nil ?_); (refine hK _ fun K2 hK2 => ?_); clear hK K; (change wpList _ _ _ [_] _ _)
    go_wp2_with fail
    refine (clone_val _ _ _ _ ((HLO1.out.ext ValL.stays (Kp.refl _ _).drew).vals) hlc).mono ?_
    rintro e w11 ⟨⟨v11, rfl, hrow11⟩, hE11⟩
    obtain ⟨x11, y11, rfl⟩ := owns_val hrow11
    have HE11 : Hid (Ext w10 w11) := hid (((Kp.refl _ w10).drew : Ext w10 _).trans hE11)
    have HR11 : Hid (w11.ownsRow w10.heap.size 34 2 (Value.slice x11 lo.length y11) lo.length (lo.flatMap valCs)) := hid hrow11
    clear hE11 hrow11
    go_wp2_with fail
    (refine hK2 _ _ (HTH.out.out _ HE11.out.any) ?_); clear hK2 K2
    (refine wpMix_cons rfl rfl fun K hK => ?_); (change wpQuiet _ _ _ _ [] _); (refine wpQuiet_nil ?_); (refine hK _ fun K2 hK2 => ?_); clear hK K; (change wpList _ _ _ [_] _ _)
    go_wp2_with fail
    refine (clone_val _ _ _ _ ((HSK1.out.ext ValL.stays HE11.out).vals) hsc).mono ?_
    rintro e w12 ⟨⟨v12, rfl, hrow12⟩, hE12⟩
    obtain ⟨x12, y12, rfl⟩ := owns_val hrow12
    have HE12 := hid hE12
    have HR12 := hid hrow12
    clear hE12 hrow12
    go_wp2_with fail
    (refine hK2 _ _ (HTH.out.out _ (HE11.out.trans HE12.out).any) ?_); clear hK2 K2
    (refine wpMix_cons rfl rfl fun K hK => ?_); (change wpQuiet _ _ _ _ [_, _] _); (repeat (go_big_quiet_step (fail))); (refine wpQuiet_nil ?_); (refine hK _ fun K2 hK2 => ?_); clear hK K; (change wpList _ _ _ [_] _ _)
    go_wp2_with fail
    (refine hK2 _ _ (HTH.out.out _ ((HE11.out.trans HE12.out).alloc _).any) ?_); clear hK2 K2
    (refine wpMix_cons rfl rfl fun K hK => ?_); (change wpQuiet _ _ _ _ [] _); (refine wpQuiet_nil ?_); (refine hK _ fun K2 hK2 => ?_); clear hK K; (change wpList _ _ _ [_] _ _)
    go_wp2_with fail
    (refine hK2 _ _ (HTH.out.out _ (((HE11.out.trans HE12.out).alloc _).alloc _).any) ?_); clear hK2 K2
    (refine wpMix_cons rfl rfl fun K hK => ?_); (change wpQuiet _ _ _ _ [] _); (refine wpQuiet_nil ?_); (refine hK _ fun K2 hK2 => ?_); clear hK K; (change wpList _ _ _ [_] _ _)
    obtain ⟨wB, hwB⟩ : ∃ wB, wB = (w12.alloc (.cells #[.int .i64 xk, .string xn, .int .i64 xa, .string m.name, .slice t2.a1 m.args.length t2.c1, .int .i64 m.ret.kind, .string m.ret.name, .int .i64 m.locals, .int .i64 m.stack, .slice t2.a2 m.code.length t2.c2, .slice t2.a3 m.maps.length t2.c3, .int .i64 pc, (Value.slice x11 lo.length y11), (Value.slice x12 sk.length y12), .int .i64 m.stack] 117)).alloc (.cells #[.pointer (some ⟨w12.heap.size, 0, none⟩)] 112) := ⟨_, rfl⟩
    rw [← hwB]
    have hEB : Ext w12 wB := by rw [hwB]; exact (KX.k (by repeat (first | assumption | constructor)))
    have bB : Blk wB w12.heap.size 117 #[.int .i64 xk, .string xn, .int .i64 xa, .string m.name, .slice t2.a1 m.args.length t2.c1, .int .i64 m.ret.kind, .string m.ret.name, .int .i64 m.locals, .int .i64 m.stack, .slice t2.a2 m.code.length t2.c2, .slice t2.a3 m.maps.length t2.c3, .int .i64 pc, (Value.slice x11 lo.length y11), (Value.slice x12 sk.length y12), .int .i64 m.stack] := by rw [hwB]; exact (Blk.newAt (W := w12) (g := w12.heap.size) _ _ rfl).ext (KX.k (by repeat (first | assumption | constructor)))
    have bS : CellsAt wB (w12.heap.size + 1) 0 [.pointer (some ⟨w12.heap.size, 0, none⟩)] := by rw [hwB]; exact CellsAt.newA _ _ (by simp)
    have hzB : wB.heap.size = w12.heap.size + 2 := by rw [hwB]; simp
    have hw0r : w.heap.size ≤ wr.heap.size := hwr
    have hz11 := HE11.out.size
    have hz12 := HE12.out.size
    obtain ⟨own1, hs1, hd1, hr1, ha1, -⟩ := Own.more HM10.out.dom HR11.out HE11.out.size (by omega) (5, g.cs.length)
    obtain ⟨own2, hs2, hd2, hr2, ha2, -⟩ := Own.more hd1 HR12.out HE12.out.size (by omega) (6, g.cs.length)
    have hn2 : ∀ b, w12.heap.size ≤ b → own2 b = none := fun b hb => by
     cases e : own2 b with
     | none => rfl
     | some q => have := (hd2 b (by rw [e]; simp)).2; omega
    have hs3 : ∀ b q, own2 b = some q → (own2.add w12.heap.size (4, g.cs.length)) b = some q := fun b q hb => by
     rw [Own.add_ne _ (fun e => by rw [e, hn2 _ (Nat.le_refl _)] at hb; cases hb)]; exact hb
    have hd3 : ∀ b, own2.add w12.heap.size (4, g.cs.length) b ≠ none → w.heap.size ≤ b ∧ b < wB.heap.size := fun b hb => by
     by_cases e : b = w12.heap.size
     · subst e; omega
     · rw [Own.add_ne _ e] at hb
       have := hd2 b hb; omega
    have hMB := (HM10.out.ext ((HE11.out.trans HE12.out).trans hEB)).relabel (fun b q hb => hs3 _ _ (hs2 _ _ (hs1 _ _ hb))) hd3
    have hCA : CallAt wB l p (own2.add w12.heap.size (4, g.cs.length)) w.heap.size g.cs.length (⟨⟨⟨⟨xk, xn⟩, xa⟩, pc, lo, sk⟩, w12.heap.size, t2, (Value.slice x11 lo.length y11), (Value.slice x12 sk.length y12)⟩ : GC) := by
     refine ⟨?_, Own.add_eq _ _ _, by show w.heap.size ≤ w12.heap.size; omega, ?_, ((hr1.ext (HE12.out.trans hEB)).relabel hs2).relabel hs3, (hr2.ext hEB).relabel hs3⟩
     · unfold callCs
       simp only [HM.out]
       exact bB
     · simp only [HM.out]
       exact Stays.ext MethodL.stays ((HE11.out.trans HE12.out).trans hEB) HML.out
    have HMB := hid hMB
    have HCA := hid hCA
    have HEB : Hid (Ext w10 wB) := hid ((HE11.out.trans HE12.out).trans hEB)
    have hcs8 : g.cs.length < 8 := by have h1 : frs.length ≤ 8 := HR.out.good.nf; have h2 := HGL.out; omega
    clear hwB bB hMB hCA hs1 hd1 hr1 ha1 hs2 hd2 hr2 ha2 hn2 hs3 hd3 hEB
    refine wpList_append_at elem_call rfl (.tmp 46) (.tmp 63) rfl w.heap.size (.slice va g.cs.length vc) g.cs.length (g.cs.flatMap ptrCs) rfl (by rw [← HVC.out]; exact HMB.out.calls.row) (w12.heap.size + 1) 1 [.pointer (some ⟨w12.heap.size, 0, none⟩)] rfl rfl bS (by simp [Value.oneCell']) (by omega) (by omega) ?_
    intro gg c9 w15 hO15 hK15 hg15
    change K2 _ _
    rw [← HVC.out] at hK15 hg15
    (refine hK2 _ _ (HTH.out.out _ (HEB.out.any.trans hK15)) ?_); clear hK2 K2
    have hmbk := HMB.out.blk.kp hK15 HVM.out
    have q3 := hmbk.c 3 (.slice va g.cs.length vc) (by rw [← HVC.out]; rfl)
    have f3 := hmbk.frozen 3
    have qz := hmbk.lt
    have hstn : ({ g with cs := g.cs ++ [(⟨⟨⟨⟨xk, xn⟩, xa⟩, pc, lo, sk⟩, w12.heap.size, t2, (Value.slice x11 lo.length y11), (Value.slice x12 sk.length y12)⟩ : GC)], vc := .slice (some ⟨gg, 0, none⟩) (g.cs.length + 1) c9 } : Gh).st = ⟨st, frs.take (q + 1), hp, outs, ⟨bk, bn⟩⟩ := by
     have h1 := HST.out
     simp only [Gh.st, M.St.mk.injEq] at h1 ⊢
     obtain ⟨e1, e2, e3, e4, e5⟩ := h1
     refine ⟨e1, ?_, e3, e4, e5⟩
     rw [List.map_append, e2, List.take_add_one, HX.out]
     rfl
    obtain ⟨hKM, own', hag, hMM⟩ := HMB.out.addCall (⟨⟨⟨⟨xk, xn⟩, xa⟩, pc, lo, sk⟩, w12.heap.size, t2, (Value.slice x11 lo.length y11), (Value.slice x12 sk.length y12)⟩ : GC) HCA.out gg c9 hO15 hK15 (by
     rcases hg15 with e | e
     · exact .inl e
     · right; omega) (by rw [hstn]; exact HR.out.good.part (q + 1))
    have hEF : Ext w (w15.setCell ⟨w.heap.size + 1, 3, none⟩ (.slice (some ⟨gg, 0, none⟩) (g.cs.length + 1) c9)) :=
     ((HE10.out.trans HEB.out).own hK15 (fun b e => (HMB.out.calls.blk e).1)).own ((Kp.refl (· = w.heap.size + 1) w15).setCell (p := ⟨w.heap.size + 1, 3, none⟩) (fun _ => rfl) _) (fun b e => by omega)
    have HEF := hid hEF
    have HMMF := hid hMM
    have HSTN := hid hstn
    clear hKM hag hMM hstn hmbk hO15 hK15 hg15 bS HTH rm3 r90 r91 r92 r93 r94 r95 r70 r71 r72 r73 r74 r75 r76 r77
    (refine wpMix_nil rfl fun K hK => ?_); (change wpQuiet _ _ _ _ [] _); (refine wpQuiet_nil ?_); (refine hK _ ?_); clear hK K
    go_wp2_with fail
    exact ⟨⟨q + 1, own', _, by omega, by go_num, HEF.out, HMMF.out, HSTN.out⟩, by simp [intOf]; omega⟩
  · have hqe : q = frs.length := by omega
    have HF : Hid (g.st = ⟨st, frs, hp, outs, ⟨bk, bn⟩⟩) := hid (by rw [hst, hqe, List.take_length])
    have HE := hid hE
    have HMM := hid hM
    clear hE hM hst
    go_wp2_with fail
    go_ret
    exact ⟨⟨_, own, g, rfl, HMM.out, HF.out⟩, HE.out⟩
end Go.Proofs.YtjdfceejkneofaaGreat
