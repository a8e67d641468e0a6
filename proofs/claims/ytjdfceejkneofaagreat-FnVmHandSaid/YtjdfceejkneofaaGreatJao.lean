/- Walks: the machine's create.; Walks: the machine's instructions num, null, go, zero, out.; Walks: the machine's instructions zero, out, nil (printed by gen_m7.py).; Walks: the machine's instruction out (printed by gen_m8.py).; Walks: popObject, and the instruction nil. -/
import Derived.Test.YtjdfceejkneofaaGreatJan
set_option maxRecDepth 100000
set_option maxHeartbeats 4000000
set_option linter.unusedSimpArgs false
set_option linter.unusedVariables false
namespace Go.Proofs.YtjdfceejkneofaaGreat
open Go Go.RowKit
open Go.Lib (hid)
theorem elem_obj : Elem 31 146 3 := elem_of (z := .agg #[.int .i64 0, .string ⟨#[]⟩, .slice none 0 0]) (bytes := 48) Tryz.underlying31 (by kernel_rfl) rfl (by decide) (by decide)
theorem OwnS.relabel {w : World} {own own1 : Own} {B : Nat} {r : Nat × Nat} {e k : Nat} {v : Value} {n : Nat} {xs : List Value} (h : OwnS w own B r e k v n xs) (hs : ∀ b r, own b = some r → own1 b = some r) : OwnS w own1 B r e k v n xs :=
 ⟨h.row, fun q hq => hs q r (h.role q hq)⟩
theorem CallAt.relabel {w : World} {l : Lodge} {p : M.Plan} {own own1 : Own} {B i : Nat} {c : GC} (h : CallAt w l p own B i c) (hs : ∀ b r, own b = some r → own1 b = some r) : CallAt w l p own1 B i c :=
 ⟨h.blk, hs _ _ h.role, h.low, h.ml, h.loc.relabel hs, h.stk.relabel hs⟩
theorem MachAt.relabel {w : World} {l : Lodge} {p : M.Plan} {own own1 : Own} {B mb : Nat} {lk : Bool} {g : Gh} (h : MachAt w l p own B mb lk g) (hs : ∀ b r, own b = some r → own1 b = some r) (hd : ∀ b, own1 b ≠ none → B ≤ b ∧ b < w.heap.size) : MachAt w l p own1 B mb lk g :=
 ⟨h.lod, h.hB, h.blk, hs _ _ h.role, h.low, h.calls.relabel hs, fun i c hc => (h.call i c hc).relabel hs, h.heap.relabel hs, fun j o ho => (h.obj j o ho).relabel hs, h.outs.relabel hs, hd, h.good⟩
theorem MachAt.addObj {w w' : World} {l : Lodge} {p : M.Plan} {own : Own} {B mb : Nat} {lk : Bool} {g : Gh} (h : MachAt w l p own B mb lk g) (o : M.VObj) (fv : Value) (hrow : OwnS w own B (7, g.os.length) 34 2 fv o.fields.length (o.fields.flatMap valCs))
    (g' c' : Nat) (ho : w'.ownsRow B 146 3 (.slice (some ⟨g', 0, none⟩) (g.os.length + 1) c') (g.os.length + 1) (g.os.flatMap objCs ++ [.int .i64 o.of.keeper, .string o.of.name, fv])) (hk : Kp (fun b => g.vh.ownBlock = some b) w w') (hg : g.vh.ownBlock = some g' ∨ w.heap.size ≤ g')
    (hG : M.Good p ({ g with os := g.os ++ [⟨o, fv⟩], vh := .slice (some ⟨g', 0, none⟩) (g.os.length + 1) c' } : Gh).st) :
    Kp (MO l own) w (w'.setCell ⟨mb, 4, none⟩ (.slice (some ⟨g', 0, none⟩) (g.os.length + 1) c')) ∧ ∃ own', Agr w.heap.size own own' ∧ MachAt (w'.setCell ⟨mb, 4, none⟩ (.slice (some ⟨g', 0, none⟩) (g.os.length + 1) c')) l p own' B mb lk { g with os := g.os ++ [⟨o, fv⟩], vh := .slice (some ⟨g', 0, none⟩) (g.os.length + 1) c' } := by
 have hk2 : Kp (· = mb) w' (w'.setCell ⟨mb, 4, none⟩ (.slice (some ⟨g', 0, none⟩) (g.os.length + 1) c')) := (Kp.refl (· = mb) w').setCell (p := ⟨mb, 4, none⟩) (fun _ => rfl) _
 obtain ⟨W, hW⟩ : ∃ W, W = w'.setCell ⟨mb, 4, none⟩ (.slice (some ⟨g', 0, none⟩) (g.os.length + 1) c') := ⟨_, rfl⟩
 have hmb : g.vh.ownBlock ≠ some mb := fun e => by have := h.heap.role _ e; rw [h.role] at this; cases this
 have hbW : Blk W mb 86 (machCs l lk { g with os := g.os ++ [⟨o, fv⟩], vh := .slice (some ⟨g', 0, none⟩) (g.os.length + 1) c' }) := by rw [hW]; exact (h.blk.kp hk hmb).set_ 4 _
 have hgm : g' ≠ mb := fun e => by
  subst e
  rcases hg with x | x
  · exact hmb x
  · have := h.blk.lt; omega
 have hoW : W.ownsRow B 146 3 (.slice (some ⟨g', 0, none⟩) (g.os.length + 1) c') (g.os.length + 1) (g.os.flatMap objCs ++ [.int .i64 o.of.keeper, .string o.of.name, fv]) := by
  rw [hW]; exact owns_kp ho hk2 (fun q hq _ e => hgm (by cases hq; exact e))
 rw [← hW] at hk2 ⊢
 clear hW
 have hkp : Kp (PO own fun q => q = (0, 0) ∨ q = (2, 0)) w W := (hk.weak fun b _ e => ⟨_, h.heap.role b e, .inr rfl⟩).trans (hk2.weak fun b _ e => ⟨_, by rw [e]; exact h.role, .inl rfl⟩)
 have ha : Agr w.heap.size own (own.add g' (2, 0)) := Own.add_agr (by
  rcases hg with x | x
  · exact .inl (h.heap.role _ x)
  · exact .inr (by omega))
 have hd : ∀ b, own.add g' (2, 0) b ≠ none → B ≤ b ∧ b < W.heap.size := fun b hb => by
  by_cases e : b = g'
  · subst e; exact hoW.lt b rfl
  · rw [Own.add_ne _ e] at hb; exact h.domE hkp.size b hb
 refine ⟨hkp.weak fun b _ e => e.mo, _, ha, h.lodPO hkp, h.hB, hbW, (ha _ h.blk.lt).trans h.role, h.low, h.calls.kpo hkp ha (by simp), fun i c hc => (h.call i c hc).kpo hkp ha (by simp) h.lowPO, ⟨?_, fun q hq => ?_⟩, ?_, h.outs.kpo hkp ha (by simp), hd, hG⟩
 · simpa [objCs] using hoW
 · cases hq; exact Own.add_eq _ _ _
 · intro j q hq
   simp only at hq
   rcases Nat.lt_trichotomy j g.os.length with hj | hj | hj
   · rw [List.getElem?_append_left hj] at hq
     exact (h.obj j q hq).kpo hkp ha (by simp)
   · subst hj
     simp at hq; subst hq
     exact hrow.kpo hkp ha (by simp)
   · rw [List.getElem?_eq_none (by simp; omega)] at hq; cases hq
theorem mach_create (w : World) (l : Lodge) (p : M.Plan) (own : Own) (B mb : Nat) (lk : Bool) (g : Gh) (h : MachAt w l p own B mb lk g) (r : M.Ref) (hr : M.canLay p r = true) (hlen : g.os.length < 12) :
    Calls Tryz.prog 70 #[.pointer (some ⟨mb, 0, none⟩), .agg #[.int .i64 r.keeper, .string r.name]] w (MEnd w l p own B mb lk (.agg #[.int .i64 2, .int .i64 g.os.length]) (M.create p r g.st).2) := by
 obtain ⟨rk, rn⟩ := r
 obtain ⟨w0, hw0⟩ : ∃ w0, w0 = ((w.alloc (.cells #[.int .i64 rk, .string rn] 76)).alloc (.cells #[.int .i64 0, .int .i64 0] 34)).alloc (.cells #[.int .i64 rk, .string rn, .slice none 0 0] 146) := ⟨_, rfl⟩
 have hE0 : Ext w w0 := by rw [hw0]; exact (KX.k (by repeat (first | assumption | constructor)))
 have b3 : Blk w0 w.heap.size 76 #[.int .i64 rk, .string rn] := by rw [hw0]; exact (Blk.new _ _ _).ext (KX.k (by repeat (first | assumption | constructor)))
 have b4 : Blk w0 (w.heap.size + 1) 34 #[.int .i64 0, .int .i64 0] := by rw [hw0]; exact (Blk.newAt (W := w.alloc (.cells #[.int .i64 rk, .string rn] 76)) (g := w.heap.size + 1) _ _ (by simp)).ext (KX.k (by repeat (first | assumption | constructor)))
 have b5 : Blk w0 (w.heap.size + 2) 146 #[.int .i64 rk, .string rn, .slice none 0 0] := by rw [hw0]; exact Blk.newAt _ _ (by simp)
 have hLw := h.lod.lt
 have hDw := h.lod.dlt
 have HA := hid (h.ext hE0)
 have HE0 := hid hE0
 have HB3 := hid b3
 have HB4 := hid b4
 have HB5 := hid b5
 have HW0 := hid hw0
 have H := hid h
 clear h hE0 b3 b4 b5 hw0
 go_enter Tryz.func70, Tryz.ntmps70
 go_wp2_with fail
 rw [← HW0.out]
 obtain ⟨T, f, hneT, HT⟩ := Cls.ex (fun W' => LC l p w0 W') _ (LC.refl HA.out.lod)
 have hDD : ¬ w.heap.size = l.D := by omega
 have rm := fun z => (HA.out.lod' (HT.inn z).kp (HT.inn z).at_).blk.c 0 (.pointer (some ⟨l.L, 0, none⟩)) rfl
 have r30 := fun z => (HB3.out.kp (HT.inn z).kp hDD).c 0 (.int .i64 rk) rfl
 have r31 := fun z => (HB3.out.kp (HT.inn z).kp hDD).c 1 (.string rn) rfl
 have HTH := hid HT
 clear HT
 (refine region_mix f 8 [([0, 1, 2, 3, 4, 7], 5)] [6] (HTH.out.out _ ?_) (by kernel_rfl) (by kernel_rfl) (fun _ _ d _ _ h => by cases d <;> exact h) ?_)
 · exact (LC.refl HA.out.lod).drew
 (refine wpMix_cons rfl rfl fun K hK => ?_); (change wpQuiet _ _ _ _ [_, _, _, _, _, _] _); (repeat (go_big_quiet_step (fail))); (refine wpQuiet_nil ?_); (refine hK _ fun K2 hK2 => ?_); clear hK K; (change wpList _ _ _ [_] _ _)
 go_wp2_with fail
 refine (lodge_layout _ _ _ (HA.out.lod.ext (Kp.refl _ _).drew) ⟨rk, rn⟩).mono ?_
 rintro e w3 ⟨⟨v, rfl, hs⟩, hL3, hK3⟩
 obtain ⟨fa, fcap, rfl, hn, hcap⟩ := hs.form
 have HC3 : Hid (LC l p w0 w3) := hid ((LC.refl HA.out.lod).drew.step hL3 hK3)
 have HS := hid hs
 clear hs hL3 hK3
 go_wp2_with fail
 (refine hK2 _ _ (HTH.out.out _ HC3.out) ?_); clear hK2 K2
 clear HTH rm r30 r31
 (refine wpMix_nil rfl fun K hK => ?_); (change wpQuiet _ _ _ _ [_] _); (repeat (go_big_quiet_step (fail))); (refine wpQuiet_nil ?_); (refine hK _ ?_); clear hK K; (simp only [List.drop_succ_cons, List.drop_zero, List.drop_nil, wpList])
 have hz3 := HC3.out.kp.size
 have hwz : w.heap.size + 3 ≤ w0.heap.size := by have := HB5.out.lt; omega
 have HB53 : Hid (Blk w3 (w.heap.size + 2) 146 #[.int .i64 rk, .string rn, .slice none 0 0]) := hid (HB5.out.kp HC3.out.kp (by omega))
 have HFR : Hid (M.fresh p ⟨rk, rn⟩ = ⟨⟨rk, rn⟩, (M.layout p ⟨rk, rn⟩).map fun f => if f.kind.kind = 1 then M.numVal 0 else M.nullVal⟩) := hid rfl
 have hlay : (M.layout p ⟨rk, rn⟩).length ≤ 1000 := by
  have h1 := layout_small H.out.lod.ok (M.chain p ⟨rk, rn⟩).reverse
  have h2 := M.chain_len p ⟨rk, rn⟩
  unfold M.layout
  rw [if_pos hr]
  rw [List.length_reverse] at h1
  omega
 obtain ⟨fs, hfs⟩ : ∃ fs, M.layout p ⟨rk, rn⟩ = fs := ⟨_, rfl⟩
 rw [hfs] at HS HFR hlay
 simp only [hfs]
 clear hfs
 go_wp2_with fail
 go_loopw [17] (fun i wr => ∃ (q : Nat) (fv : Value), q ≤ fs.length ∧ i = .int .i64 q ∧ Kp (· = w.heap.size + 2) w3 wr ∧ Blk wr (w.heap.size + 2) 146 #[.int .i64 rk, .string rn, fv] ∧
     wr.ownsRow w3.heap.size 34 2 fv q (((fs.take q).map fun f => if f.kind.kind = 1 then M.numVal 0 else M.nullVal).flatMap valCs)) (fun i _ => fs.length - (intOf i).toNat)
 case atStart => exact ⟨0, .slice none 0 0, Nat.zero_le _, rfl, Kp.refl _ _, HB53.out, World.ownsRow_nil _ _ _ _⟩
 case round =>
  obtain ⟨q, fv, hq, rfl, hK, hB5, hrow⟩ := hrel
  obtain ⟨va, vc, rfl⟩ := owns_val hrow
  by_cases hlt : q < fs.length
  · obtain ⟨⟨⟨xk, xn⟩, xa, kk, kn⟩, hx⟩ := elemF fs q hlt
    obtain ⟨b, off, cs, rfl, hIb, rfl, -, hcc⟩ := HS.out.get hx
    have hIb' : w0.heap.size ≤ b := hIb
    have hcc2 : CellsAt wr b (off + q * 5) _ := fun j v hj => hK.cellK (hcc j v hj) (by omega)
    have g0 := hcc2 0 (.int .i64 xk) rfl
    have g1 := hcc2 1 (.string xn) rfl
    have g2 := hcc2 2 (.int .i64 xa) rfl
    have g3 := hcc2 3 (.int .i64 kk) rfl
    have g4 := hcc2 4 (.string kn) rfl
    rw [Nat.add_zero] at g0
    have gz := cell_lt g0
    have hq2 : (q : Int) < fs.length := by omega
    have hwq : IntKind.i64.wrap ((q : Int) + 1) = q + 1 := IntWalk.i64_in _ (by omega)
    obtain ⟨w4, hw4⟩ : ∃ w4, w4 = wr.alloc (.cells #[.int .i64 xk, .string xn, .int .i64 xa, .int .i64 kk, .string kn] 159) := ⟨_, rfl⟩
    have hE4 : Ext wr w4 := by rw [hw4]; exact (KX.k (by repeat (first | assumption | constructor)))
    have hv5 : ¬ (Value.slice va q vc).ownBlock = some (w.heap.size + 2) := fun e => by have := (hrow.lt _ e).1; omega
    obtain ⟨T, f, hneT, HT⟩ := Cls.ex (fun W' => Kp (fun b => (Value.slice va q vc).ownBlock = some b) w4 W') _ (Kp.refl _ _)
    have r2 := fun z => ((hB5.ext hE4).kp (HT.inn z) hv5).c 2 (.slice va q vc) rfl
    have HTH := hid HT
    have HW4 := hid hw4
    have HB54 := hid (hB5.ext hE4)
    have HV5 := hid hv5
    have HROW := hid (owns_kp (D := fun _ => False) hrow hE4 fun _ _ _ x => x)
    have HK4 : Hid (Kp (· = w.heap.size + 2) w3 w4) := hid (hK.trans hE4.any)
    have HX := hid hx
    have hz34 : w3.heap.size ≤ w4.heap.size := HK4.out.size
    clear HT hw4 hE4 hB5 hv5 hrow hK hx hcc hcc2 hIb
    by_cases hk1 : kk = 1
    · subst hk1
      go_wp2_with fail
      rw [← HW4.out]
      (refine region_mix f 5 [([0, 1], 2), ([], 3), ([], 4)] [] (HTH.out.out _ ?_) (by kernel_rfl) (by kernel_rfl) (fun _ _ d _ _ h => by cases d <;> exact h) ?_)
      · exact (Kp.refl _ _).drew
      (refine wpMix_cons rfl rfl fun K hK => ?_); (change wpQuiet _ _ _ _ [_, _] _); (repeat (go_big_quiet_step (fail))); (refine wpQuiet_nil ?_); (refine hK _ fun K2 hK2 => ?_); clear hK K; (change wpList _ _ _ [_] _ _)
      go_wp2_with fail
      refine (num_val 0 _).mono ?_
      rintro e w5 ⟨rfl, hE5⟩
      have HE5 : Hid (Ext w4 w5) := hid (((Kp.refl _ w4).drew : Ext w4 _).trans hE5)
      clear hE5
      go_wp2_with fail
      (refine hK2 _ _ (HTH.out.out _ HE5.out.any) ?_); clear hK2 K2
      (refine wpMix_cons rfl rfl fun K hK => ?_); (change wpQuiet _ _ _ _ [] _); (refine wpQuiet_nil ?_); (refine hK _ fun K2 hK2 => ?_); clear hK K; (change wpList _ _ _ [_] _ _)
      go_wp2_with fail
      (refine hK2 _ _ (HTH.out.out _ (HE5.out.alloc _).any) ?_); clear hK2 K2
      (refine wpMix_cons rfl rfl fun K hK => ?_); (change wpQuiet _ _ _ _ [] _); (refine wpQuiet_nil ?_); (refine hK _ fun K2 hK2 => ?_); clear hK K; (change wpList _ _ _ [_] _ _)
      refine wpList_append_at elem_val rfl (.tmp 26) (.tmp 28) rfl w3.heap.size (.slice va q vc) q _ rfl (owns_kp (D := fun _ => False) HROW.out (HE5.out.alloc _) fun _ _ _ x => x) w5.heap.size 1 (valCs (M.numVal 0)) rfl rfl (CellsAt.newA _ _ rfl) (one_val _) (by omega) (by have := HE5.out.size; simp; omega) ?_
      intro g9 c9 w9 hO9 hKp9 hg9
      change K2 _ _
      have hK49 : Kp (fun b => (Value.slice va q vc).ownBlock = some b) w4 w9 := (HE5.out.alloc _).any.trans hKp9
      (refine hK2 _ _ (HTH.out.out _ hK49) ?_); clear hK2 K2
      have hb5 := HB54.out.kp hK49 HV5.out
      have x2 := hb5.c 2 (.slice va q vc) rfl
      have f2 := hb5.frozen 2
      have hz := hb5.lt
      have HRES : Hid ((w9.ownsRow w3.heap.size 34 2 (.slice (some ⟨g9, 0, none⟩) (q + 1) c9) (q + 1) (((fs.take (q + 1)).map fun f => if f.kind.kind = 1 then M.numVal 0 else M.nullVal).flatMap valCs)) ∧ Kp (· = w.heap.size + 2) w3 w9 ∧ Blk w9 (w.heap.size + 2) 146 #[.int .i64 rk, .string rn, .slice va q vc] ∧ g9 ≠ w.heap.size + 2) := hid (by
       refine ⟨?_, ?_, hb5, ?_⟩
       · rw [List.take_add_one, HX.out]
         simpa [M.numVal, valCs] using hO9
       · exact (HK4.out.own hK49 (fun b e => HROW.out.lt b e |>.1))
       · rcases hg9 with e | e
         · have := (HROW.out.lt g9 e).1; omega
         · have := HE5.out.size; simp at e; omega)
      clear HTH r2 hb5 hO9 hKp9 hg9 hK49
      (refine wpMix_nil rfl fun K hK => ?_); (change wpQuiet _ _ _ _ [] _); (refine wpQuiet_nil ?_); (refine hK _ ?_); clear hK K
      go_wp2_with fail
      have hst : Kp (· = w.heap.size + 2) w9 (w9.setCell ⟨w.heap.size + 2, 2, none⟩ (.slice (some ⟨g9, 0, none⟩) (q + 1) c9)) := (Kp.refl (· = w.heap.size + 2) w9).setCell (p := ⟨w.heap.size + 2, 2, none⟩) (fun _ => rfl) _
      obtain ⟨q1, q2, q3, q4⟩ := HRES.out
      exact ⟨⟨q + 1, .slice (some ⟨g9, 0, none⟩) (q + 1) c9, by omega, by go_num, q2.trans hst, q3.set_ 2 _, owns_kp q1 hst (fun b hb _ e => q4 (by cases hb; exact e))⟩, by simp [intOf]; omega⟩
    · have hk1' : (kk == 1) = false := beq_eq_false_iff_ne.2 hk1
      have HKK := hid hk1
      clear hk1
      go_wp2_with fail
      rw [← HW4.out]
      (refine region_mix f 5 [([0, 1], 2), ([], 3), ([], 4)] [] (HTH.out.out _ ?_) (by kernel_rfl) (by kernel_rfl) (fun _ _ d _ _ h => by cases d <;> exact h) ?_)
      · exact (Kp.refl _ _).drew
      (refine wpMix_cons rfl rfl fun K hK => ?_); (change wpQuiet _ _ _ _ [_, _] _); (repeat (go_big_quiet_step (fail))); (refine wpQuiet_nil ?_); (refine hK _ fun K2 hK2 => ?_); clear hK K; (change wpList _ _ _ [_] _ _)
      go_wp2_with fail
      refine (null_val _).mono ?_
      rintro e w5 ⟨rfl, hE5⟩
      have HE5 : Hid (Ext w4 w5) := hid (((Kp.refl _ w4).drew : Ext w4 _).trans hE5)
      clear hE5
      go_wp2_with fail
      (refine hK2 _ _ (HTH.out.out _ HE5.out.any) ?_); clear hK2 K2
      (refine wpMix_cons rfl rfl fun K hK => ?_); (change wpQuiet _ _ _ _ [] _); (refine wpQuiet_nil ?_); (refine hK _ fun K2 hK2 => ?_); clear hK K; (change wpList _ _ _ [_] _ _)
      go_wp2_with fail
      (refine hK2 _ _ (HTH.out.out _ (HE5.out.alloc _).any) ?_); clear hK2 K2
      (refine wpMix_cons rfl rfl fun K hK => ?_); (change wpQuiet _ _ _ _ [] _); (refine wpQuiet_nil ?_); (refine hK _ fun K2 hK2 => ?_); clear hK K; (change wpList _ _ _ [_] _ _)
      refine wpList_append_at elem_val rfl (.tmp 32) (.tmp 34) rfl w3.heap.size (.slice va q vc) q _ rfl (owns_kp (D := fun _ => False) HROW.out (HE5.out.alloc _) fun _ _ _ x => x) w5.heap.size 1 (valCs M.nullVal) rfl rfl (CellsAt.newA _ _ rfl) (one_val _) (by omega) (by have := HE5.out.size; simp; omega) ?_
      intro g9 c9 w9 hO9 hKp9 hg9
      change K2 _ _
      have hK49 : Kp (fun b => (Value.slice va q vc).ownBlock = some b) w4 w9 := (HE5.out.alloc _).any.trans hKp9
      (refine hK2 _ _ (HTH.out.out _ hK49) ?_); clear hK2 K2
      have hb5 := HB54.out.kp hK49 HV5.out
      have x2 := hb5.c 2 (.slice va q vc) rfl
      have f2 := hb5.frozen 2
      have hz := hb5.lt
      have HRES : Hid ((w9.ownsRow w3.heap.size 34 2 (.slice (some ⟨g9, 0, none⟩) (q + 1) c9) (q + 1) (((fs.take (q + 1)).map fun f => if f.kind.kind = 1 then M.numVal 0 else M.nullVal).flatMap valCs)) ∧ Kp (· = w.heap.size + 2) w3 w9 ∧ Blk w9 (w.heap.size + 2) 146 #[.int .i64 rk, .string rn, .slice va q vc] ∧ g9 ≠ w.heap.size + 2) := hid (by
       refine ⟨?_, ?_, hb5, ?_⟩
       · rw [List.take_add_one, HX.out]
         simpa [M.nullVal, valCs, HKK.out] using hO9
       · exact (HK4.out.own hK49 (fun b e => HROW.out.lt b e |>.1))
       · rcases hg9 with e | e
         · have := (HROW.out.lt g9 e).1; omega
         · have := HE5.out.size; simp at e; omega)
      clear HTH r2 hb5 hO9 hKp9 hg9 hK49
      (refine wpMix_nil rfl fun K hK => ?_); (change wpQuiet _ _ _ _ [] _); (refine wpQuiet_nil ?_); (refine hK _ ?_); clear hK K
      go_wp2_with fail
      have hst : Kp (· = w.heap.size + 2) w9 (w9.setCell ⟨w.heap.size + 2, 2, none⟩ (.slice (some ⟨g9, 0, none⟩) (q + 1) c9)) := (Kp.refl (· = w.heap.size + 2) w9).setCell (p := ⟨w.heap.size + 2, 2, none⟩) (fun _ => rfl) _
      obtain ⟨q1, q2, q3, q4⟩ := HRES.out
      exact ⟨⟨q + 1, .slice (some ⟨g9, 0, none⟩) (q + 1) c9, by omega, by go_num, q2.trans hst, q3.set_ 2 _, owns_kp q1 hst (fun b hb _ e => q4 (by cases hb; exact e))⟩, by simp [intOf]; omega⟩
  · have hqe : q = fs.length := by omega
    subst hqe
    rw [List.take_length] at hrow
    have hFF : (M.fresh p ⟨rk, rn⟩).fields.length = fs.length ∧ (M.fresh p ⟨rk, rn⟩).of = ⟨rk, rn⟩ := by rw [HFR.out]; simp
    have hKw : Kp (· = l.D) w wr := (HE0.out.any.trans HC3.out.kp).own hK (fun b e => by omega)
    have hLr : LodgeAt wr l p := HC3.out.at_.kp hK (fun b hb e => by omega)
    have hMr := H.out.lod' hKw hLr
    obtain ⟨own1, hs1, hd1, hr1, hn1⟩ : ∃ own1 : Own, (∀ b r, own b = some r → own1 b = some r) ∧ (∀ b, own1 b ≠ none → B ≤ b ∧ b < wr.heap.size) ∧ (∀ b, (Value.slice va fs.length vc).ownBlock = some b → own1 b = some (7, g.os.length)) ∧ (∀ b, b < w3.heap.size → own1 b = own b) := by
     have hB0 : B ≤ w.heap.size := by have := (H.out.dom mb (by rw [H.out.role]; simp)).2; have := H.out.low; omega
     cases e : (Value.slice va fs.length vc).ownBlock with
     | none => exact ⟨own, fun _ _ h => h, hMr.dom, (fun b hb => by cases hb), fun _ _ => rfl⟩
     | some qb =>
      have hqb := hrow.lt qb e
      have hqn : own qb = none := by
       cases e2 : own qb with
       | none => rfl
       | some r => have := (H.out.dom qb (by rw [e2]; simp)).2; omega
      refine ⟨own.add qb (7, g.os.length), fun b r hb => ?_, fun b hb => ?_, (fun b hb => by cases hb; exact Own.add_eq _ _ _), fun b hb => Own.add_ne _ (by omega)⟩
      · rw [Own.add_ne _ (fun e3 => by subst e3; rw [hqn] at hb; cases hb)]; exact hb
      · by_cases e3 : b = qb
        · subst e3; exact ⟨by omega, hqb.2⟩
        · rw [Own.add_ne _ e3] at hb; exact hMr.dom b hb
    have hM1 := hMr.relabel hs1 hd1
    have hB0 : B ≤ w3.heap.size := by have := (H.out.dom mb (by rw [H.out.role]; simp)).2; have := H.out.low; omega
    have hrow1 : OwnS wr own1 B (7, g.os.length) 34 2 (.slice va fs.length vc) (M.fresh p ⟨rk, rn⟩).fields.length ((M.fresh p ⟨rk, rn⟩).fields.flatMap valCs) := by
     rw [hFF.1, HFR.out]
     exact ⟨owns_mono hrow hB0, hr1⟩
    obtain ⟨ha, hcap2, hva⟩ := hM1.heap.form
    have hvm : ¬ g.vh.ownBlock = some mb := fun e => by have := hM1.heap.role _ e; rw [hM1.role] at this; cases this
    have hv5 : ¬ g.vh.ownBlock = some (w.heap.size + 2) := fun e => by have := (H.out.heap.blk e).2; omega
    obtain ⟨T, f, hneT, HT⟩ := Cls.ex (fun W' => Kp (fun b => g.vh.ownBlock = some b) wr W') _ (Kp.refl _ _)
    have rm := fun z => (hM1.blk.kp (HT.inn z) hvm).c 4 (.slice ha g.os.length hcap2) (by rw [← hva]; rfl)
    have r50 := fun z => (hB5.kp (HT.inn z) hv5).c 0 (.int .i64 rk) rfl
    have r51 := fun z => (hB5.kp (HT.inn z) hv5).c 1 (.string rn) rfl
    have r52 := fun z => (hB5.kp (HT.inn z) hv5).c 2 (.slice va fs.length vc) rfl
    have HTH := hid HT
    have HM1 := hid hM1
    have HR1 := hid hrow1
    have HN1 := hid hn1
    have HVA := hid hva
    have HKW := hid hKw
    have HB4r : Hid (Blk wr (w.heap.size + 1) 34 #[.int .i64 0, .int .i64 0]) := hid ((HB4.out.kp HC3.out.kp (by omega)).kp hK (by omega))
    have HVM := hid hvm
    have HFF := hid hFF
    have hzr := hK.size
    clear HT hM1 hrow1 hn1 hva hKw hLr hMr hs1 hd1 hr1 hK hB5 hrow hvm hv5 hFF
    go_wp2_with fail
    (refine region_mix f 8 [([0, 1, 2, 3, 4, 5], 6), ([], 7)] [] (HTH.out.out _ ?_) (by kernel_rfl) (by kernel_rfl) (fun _ _ d _ _ h => by cases d <;> exact h) ?_)
    · exact (Kp.refl _ _).drew
    (refine wpMix_cons rfl rfl fun K hK => ?_); (change wpQuiet _ _ _ _ [_, _, _, _, _, _] _); (repeat (go_big_quiet_step (fail))); (refine wpQuiet_nil ?_); (refine hK _ fun K2 hK2 => ?_); clear hK K; (change wpList _ _ _ [_] _ _)
    go_wp2_with fail
    (refine hK2 _ _ (HTH.out.out _ (KX.k (by repeat (first | assumption | constructor)))) ?_); clear hK2 K2
    (refine wpMix_cons rfl rfl fun K hK => ?_); (change wpQuiet _ _ _ _ [] _); (refine wpQuiet_nil ?_); (refine hK _ fun K2 hK2 => ?_); clear hK K; (change wpList _ _ _ [_] _ _)
    refine wpList_append_at elem_obj rfl (.tmp 42) (.tmp 44) rfl B (.slice ha g.os.length hcap2) g.os.length (g.os.flatMap objCs) rfl (by rw [← HVA.out]; exact owns_kp (D := fun _ => False) HM1.out.heap.row (KX.k (by repeat (first | assumption | constructor))) fun _ _ _ x => x) wr.heap.size 1 [.int .i64 rk, .string rn, .slice va fs.length vc] rfl rfl (CellsAt.newD _ _ rfl) (by simp [Value.oneCell']) (by omega) (by simp; omega) ?_
    intro g9 c9 w9 hO9 hKp9 hg9
    change K2 _ _
    rw [← HVA.out] at hKp9 hg9
    have hK49 : Kp (fun b => g.vh.ownBlock = some b) wr w9 := ((KX.k (by repeat (first | assumption | constructor))) : Ext wr _).any.trans hKp9
    (refine hK2 _ _ (HTH.out.out _ hK49) ?_); clear hK2 K2
    have hmb := HM1.out.blk.kp hK49 HVM.out
    have x4 := hmb.c 4 (.slice ha g.os.length hcap2) (by rw [← HVA.out]; rfl)
    have f4 := hmb.frozen 4
    have hz := hmb.lt
    have hs : ({ g with os := g.os ++ [⟨M.fresh p ⟨rk, rn⟩, .slice va fs.length vc⟩], vh := .slice (some ⟨g9, 0, none⟩) (g.os.length + 1) c9 } : Gh).st = (M.create p ⟨rk, rn⟩ g.st).2 := by simp [Gh.st, M.create]
    obtain ⟨hKM, own', hag, hMM⟩ := HM1.out.addObj (M.fresh p ⟨rk, rn⟩) (.slice va fs.length vc) HR1.out g9 c9 (by rw [HFF.out.2]; exact hO9) hK49 (by
     rcases hg9 with e | e
     · exact .inl e
     · right; simp at e; omega) (by rw [hs]; exact H.out.good.grow hr (by simpa [Gh.st] using hlen))
    have hn4 : own' (w.heap.size + 1) = none := by
     rw [hag _ (by omega), HN1.out _ (by omega)]
     cases e : own (w.heap.size + 1) with
     | none => rfl
     | some r => have := (H.out.dom _ (by rw [e]; simp)).2; omega
    obtain ⟨W, hW⟩ : ∃ W, W = w9.setCell ⟨mb, 4, none⟩ (.slice (some ⟨g9, 0, none⟩) (g.os.length + 1) c9) := ⟨_, rfl⟩
    rw [← hW] at hKM hMM
    have y4 := hMM.blk.c 4 (.slice (some ⟨g9, 0, none⟩) (g.os.length + 1) c9) rfl
    have HW := hid hW
    have HKM := hid hKM
    have HMM := hid hMM
    have HAG := hid hag
    have HN4 := hid hn4
    have hn1' : own1 (w.heap.size + 1) = none := by
     rw [HN1.out _ (by omega)]
     cases e : own (w.heap.size + 1) with
     | none => rfl
     | some r => have := (H.out.dom _ (by rw [e]; simp)).2; omega
    have hB4W := HB4r.out.kp hKM (fun e => by
     rcases e with e | e
     · omega
     · exact e hn1')
    have hB49 := HB4r.out.kp hK49 (fun e => by have := (H.out.heap.blk e).2; omega)
    have z0 := hB49.c 0 (.int .i64 0) rfl
    have z1 := hB49.c 1 (.int .i64 0) rfl
    have zf0 := hB49.frozen 0
    have zf1 := hB49.frozen 1
    have zz := hB49.lt
    have hmw := H.out.blk.lt
    have hne1 : ¬ mb = w.heap.size + 1 := by omega
    have hne2 : ¬ w.heap.size + 1 = mb := by omega
    have HB4W := hid hB4W
    have HS := hid hs
    have hwl : IntKind.i64.wrap ((g.os.length : Int) + 1 - 1) = g.os.length := by rw [IntWalk.i64_in _ (by omega)]; omega
    clear hKM hMM hag hn4 hn1' hB4W hB49 y4 hO9 hKp9 hg9 hK49 hmb HTH rm r50 r51 r52 hs hW
    (refine wpMix_nil rfl fun K hK => ?_); (change wpQuiet _ _ _ _ [] _); (refine wpQuiet_nil ?_); (refine hK _ ?_); clear hK K
    go_wp2_with fail
    rw [← HW.out]
    have hst : Kp (· = w.heap.size + 1) W ((W.setCell ⟨w.heap.size + 1, 0, none⟩ (.int .i64 2)).setCell ⟨w.heap.size + 1, 1, none⟩ (.int .i64 g.os.length)) := ((Kp.refl (· = w.heap.size + 1) W).setCell (p := ⟨w.heap.size + 1, 0, none⟩) (fun _ => rfl) _).setCell (p := ⟨w.heap.size + 1, 1, none⟩) (fun _ => rfl) _
    refine bodyPost_ret (results_agg agg_val rfl _ _ (w.heap.size + 1) rfl [.int .i64 2, .int .i64 g.os.length] (CellsAt.ofB (HB4W.out.set2 _ _)) rfl) rfl ?_
    have hLW := HMM.out.lod.kp hst (fun b hb e => by omega)
    have hfin := HMM.out.keep hst (Agr.refl _ _) (HMM.out.domE hst.size) hLW (fun b hb e => by subst e; exact hb HN4.out) (fun b hb e => by have := HMM.out.lod.ord; omega)
    refine MEnd.mk' ?_ (fun b hb => ?_) hfin HS.out
    · refine Kp.own (D' := (· = w.heap.size + 1)) ?_ hst (fun b e => by omega)
      exact (HKW.out.weak fun b _ e => .inl e).mo (HKM.out) (fun b hb => HN1.out b (by omega))
    · rw [HAG.out b (by omega), HN1.out b (by omega)]
end Go.Proofs.YtjdfceejkneofaaGreat
namespace Go.Proofs.YtjdfceejkneofaaGreat
open Go Go.RowKit
open Go.Lib (hid)
section
variable {w w' : World} {l : Lodge} {p : M.Plan} {own : Own} {B mb : Nat} {lk : Bool} {g : Gh} {r : List GC} {c : GC}
theorem MachAt.fresh (h : MachAt w l p own B mb lk g) {b : Nat} (hb : w.heap.size ≤ b) : ¬ MO l own b := by
 rintro (e | e)
 · have := h.lod.dlt; omega
 · have := (h.dom b e).2; omega
def Gh.stk (g : Gh) (r : List GC) (c : GC) (st : List M.Val) (vs : Value) : Gh := { g with cs := r ++ [{ c with f := { c.f with stack := st }, vs := vs }] }
theorem Gh.stk_st (st : List M.Val) (vs : Value) : (g.stk r c st vs).st = { g.st with frames := r.map GC.f ++ [{ c.f with stack := st }] } := by simp [Gh.stk, Gh.st]
theorem Gh.popAll (hcs : g.cs = r ++ [c]) {n : Nat} {st vs : List M.Val} (hst : c.f.stack = st ++ vs) (hn : vs.length = n) (vs' : Value) : M.popAll n g.st = some (vs, (g.stk r c st vs').st) := by
 unfold M.popAll
 have e1 : c.f.stack.length - n = st.length := by rw [hst]; simp; omega
 rw [Gh.top hcs, M.onTop_of (Gh.fr hcs), if_neg (by rw [hst]; simp; omega), e1, Gh.stk_st, hst]
 simp
theorem Gh.popAll_no (hcs : g.cs = r ++ [c]) {n : Nat} (hn : c.f.stack.length < n) : M.popAll n g.st = none := by
 unfold M.popAll
 rw [Gh.top hcs, if_pos hn]
theorem Gh.pop (hcs : g.cs = r ++ [c]) {st : List M.Val} {v : M.Val} (hst : c.f.stack = st ++ [v]) (vs' : Value) : M.pop g.st = some (v, (g.stk r c st vs').st) := by
 unfold M.pop; rw [Gh.popAll hcs (n := 1) hst rfl vs']; rfl
theorem Gh.pop_no (hcs : g.cs = r ++ [c]) (hst : c.f.stack = []) : M.pop g.st = none := by
 unfold M.pop; rw [Gh.popAll_no hcs (by rw [hst]; simp)]; rfl
theorem MachAt.popped (h : MachAt w l p own B mb lk g) (hcs : g.cs = r ++ [c]) {a : Option Addr} {n k : Nat} {st : List M.Val} (hv : c.vs = .slice a (st.length + n) k) (hst : ∃ vs, c.f.stack = st ++ vs ∧ vs.length = n) (hn : 0 < n) (hb : Blk w' c.cb 117 ((callCs p c).setIfInBounds 13 (.slice a st.length k))) (hk : Kp (· = c.cb) w w') :
    Kp (MO l own) w w' ∧ MachAt w' l p own B mb lk (g.stk r c st (.slice a st.length k)) := by
 obtain ⟨vs, hst, hn'⟩ := hst
 have hc := h.at_ hcs
 have hlen : c.f.stack.length = st.length + n := by rw [hst]; simp [hn']
 have hrow := hc.stk.row
 rw [hv, hlen] at hrow
 obtain ⟨q, kk, e, -⟩ := owns_form hrow (by omega)
 cases e
 have hrow2 := owns_take hrow (j := st.length) (by omega)
 rw [hst, flat_take (enc := valCs) (k := 2) (fun _ => rfl)] at hrow2
 have hcbq : c.vs.ownBlock ≠ some c.cb := fun e => by have := hc.stk.role _ e; rw [hc.role] at this; cases this
 have hfr := M.frameOk_iff.1 (h.frm hcs)
 obtain ⟨h1, own', h2, h3⟩ := h.setStack hcs st (.slice (some ⟨q, 0, none⟩) st.length k) hb (owns_kp hrow2 hk (fun g hg _ e => hcbq (by rw [hv]; subst e; exact hg))) (fun x hx => .inl (by rw [hv]; exact hx)) (hk.weak fun b _ e => .inl e) (by
  rw [show ({ g with cs := r ++ [{ c with f := { c.f with stack := st }, vs := .slice (some ⟨q, 0, none⟩) st.length k }] } : Gh).st = { g.st with frames := r.map GC.f ++ [{ c.f with stack := st }] } from by simp [Gh.st]]
  refine h.good.turn (Gh.fr hcs) (M.frameOk_iff.2 ⟨hfr.1, hfr.2.1, hfr.2.2.1, hfr.2.2.2.1, ?_, hfr.2.2.2.2.2.1, fun u hu => hfr.2.2.2.2.2.2 u (by rw [hst]; simp [hu])⟩)
  have := hfr.2.2.2.2.1
  simp only; omega)
 refine ⟨h1, ?_⟩
 have hkp : Kp (PO own (· = (4, r.length))) w w' := hk.weak fun b _ e => ⟨_, by rw [e]; exact hc.role, rfl⟩
 have ha := Agr.refl w.heap.size own
 refine h.setTop hcs rfl (hkp.weak fun b _ ⟨q, e1, e2⟩ => ⟨q, e1, .inl e2⟩) ha (h.domE hk.size) ⟨hb, hc.role, hc.low, Stays.kp MethodL.stays hkp (fun b hb => h.lowPO b hb) hc.ml, hc.loc.kpo hkp ha (by simp), ⟨?_, fun x hx => hc.stk.role x (by rw [hv]; exact hx)⟩⟩ h3.good
 exact owns_kp hrow2 hk (fun g hg _ e => hcbq (by rw [hv]; subst e; exact hg))
end
theorem mach_pop (w : World) (l : Lodge) (p : M.Plan) (own : Own) (B mb : Nat) (lk : Bool) (g : Gh) (h : MachAt w l p own B mb lk g) (r : List GC) (c : GC) (hcs : g.cs = r ++ [c]) (st : List M.Val) (v : M.Val) (hst : c.f.stack = st ++ [v]) :
    Calls Tryz.prog 82 #[.pointer (some ⟨c.cb, 13, none⟩)] w fun e w' => e = .returned (.tuple #[.agg #[.int .i64 v.kind, .int .i64 v.n], .bool true]) ∧ Kp (MO l own) w w' ∧ ∃ vs', MachAt w' l p own B mb lk (g.stk r c st vs') := by
 have hc := h.at_ hcs
 have hfr := M.frameOk_iff.1 (h.frm hcs)
 have hms := (h.mi hcs).stack
 have hsl := hfr.2.2.2.2.1
 have hlen : c.f.stack.length = st.length + 1 := by rw [hst]; simp
 refine (pop_some w c.cb 13 B _ _ c.vs st.length st v hc.blk rfl (by rw [← hst, ← hlen]; exact hc.stk.row) rfl (by omega) (fun e => by have := hc.stk.role _ e; rw [hc.role] at this; cases this)).mono ?_
 rintro e w' ⟨rfl, ⟨a, k, hv, hb⟩, hK⟩
 obtain ⟨h1, h2⟩ := h.popped hcs hv ⟨[v], hst, rfl⟩ (by omega) hb hK
 exact ⟨rfl, h1, _, h2⟩
theorem mach_pop_no (w : World) (l : Lodge) (p : M.Plan) (own : Own) (B mb : Nat) (lk : Bool) (g : Gh) (h : MachAt w l p own B mb lk g) (r : List GC) (c : GC) (hcs : g.cs = r ++ [c]) (hst : c.f.stack = []) :
    Calls Tryz.prog 82 #[.pointer (some ⟨c.cb, 13, none⟩)] w fun e w' => e = .returned (.tuple #[.agg #[.int .i64 0, .int .i64 0], .bool false]) ∧ Ext w w' := by
 have hc := h.at_ hcs
 obtain ⟨a, k, e⟩ := hc.stk.form
 rw [hst] at e
 exact pop_none w c.cb 13 _ _ c.vs hc.blk rfl ⟨a, k, e⟩
theorem mach_popAll (w : World) (l : Lodge) (p : M.Plan) (own : Own) (B mb : Nat) (lk : Bool) (g : Gh) (h : MachAt w l p own B mb lk g) (r : List GC) (c : GC) (hcs : g.cs = r ++ [c]) (st vs : List M.Val) (n : Nat) (hst : c.f.stack = st ++ vs) (hn : vs.length = n) (hn0 : 0 < n) :
    Calls Tryz.prog 84 #[.pointer (some ⟨c.cb, 13, none⟩), .int .i64 n] w fun e w' => ∃ v', e = .returned (.tuple #[v', .bool true]) ∧ w'.ownsRow w.heap.size 34 2 v' n (vs.flatMap valCs) ∧ Kp (MO l own) w w' ∧ ∃ vs', MachAt w' l p own B mb lk (g.stk r c st vs') := by
 have hc := h.at_ hcs
 have hfr := M.frameOk_iff.1 (h.frm hcs)
 have hms := (h.mi hcs).stack
 have hsl := hfr.2.2.2.2.1
 have hlen : c.f.stack.length = st.length + n := by rw [hst]; simp [hn]
 refine (popAll_some w c.cb 13 B _ _ c.vs c.f.stack.length c.f.stack hc.blk rfl hc.stk.row rfl n (by omega) hn0 (by omega) (fun e => by have := hc.stk.role _ e; rw [hc.role] at this; cases this)).mono ?_
 rintro e w' ⟨v', rfl, hrow, ⟨a, k, hv, hb⟩, hK⟩
 rw [hlen] at hv
 rw [hlen, Nat.add_sub_cancel] at hb
 have e1 : c.f.stack.drop (c.f.stack.length - n) = vs := by rw [hlen, Nat.add_sub_cancel, hst, List.drop_left]
 rw [e1] at hrow
 obtain ⟨h1, h2⟩ := h.popped hcs hv ⟨vs, hst, hn⟩ hn0 hb hK
 exact ⟨v', rfl, hrow, h1, _, h2⟩
theorem mach_popAll_no (w : World) (l : Lodge) (p : M.Plan) (own : Own) (B mb : Nat) (lk : Bool) (g : Gh) (h : MachAt w l p own B mb lk g) (r : List GC) (c : GC) (hcs : g.cs = r ++ [c]) (n : Nat) (hn : c.f.stack.length < n) (hn2 : n ≤ 1000) :
    Calls Tryz.prog 84 #[.pointer (some ⟨c.cb, 13, none⟩), .int .i64 n] w fun e w' => e = .returned (.tuple #[.slice none 0 0, .bool false]) ∧ w = w' := by
 have hc := h.at_ hcs
 exact popAll_none w c.cb 13 _ _ c.vs _ hc.blk rfl hc.stk.form n hn hn2
theorem do_num (w : World) (l : Lodge) (p : M.Plan) (own : Own) (B mb : Nat) (lk : Bool) (g : Gh) (h : MachAt w l p own B mb lk g) (r : List GC) (c : GC) (hcs : g.cs = r ++ [c]) (hst : g.status = 1) (i : M.Ins) (hi : M.insIn (M.method p c.f.of) i = true) (hop : i.op = 1) :
    Calls Tryz.prog 50 #[.pointer (some ⟨mb, 0, none⟩), .agg #[.int .i64 i.op, .int .i64 i.a, .string i.name, .string i.member]] w (MEnd w l p own B mb lk (.int .i64 (M.doIns p lk i g.st).1) (M.doIns p lk i g.st).2) := by
 have HV : Hid (M.doIns p lk i g.st = M.push p (M.numVal i.a) g.st) := hid (by unfold M.doIns; rw [if_pos hop])
 have hna := (M.ins_a hi).2.2.2.1 hop
 have H := hid h
 have HCS := hid hcs
 clear h hcs hop
 go_enter Tryz.func50, Tryz.ntmps50
 go_wp2_with fail
 refine (num_val i.a _).mono ?_
 rintro e w1 ⟨rfl, hE1⟩
 have HE1 : Hid (Ext w w1) := hid (((KX.k (by repeat (first | assumption | constructor))) : Ext w _).trans hE1)
 clear hE1
 go_wp2_with fail
 refine (mach_put _ _ _ _ _ _ _ _ (H.out.ext HE1.out) r c HCS.out hst (M.numVal i.a) (M.valOk_numVal _ hna)).mono ?_
 rintro e w2 hEnd
 have HZ := hid (MEnd.behind HE1.out hEnd)
 obtain ⟨rfl, -⟩ := hEnd
 rw [← HV.out] at HZ ⊢
 go_wp2_with fail
 go_ret
 exact HZ.out
theorem do_null (w : World) (l : Lodge) (p : M.Plan) (own : Own) (B mb : Nat) (lk : Bool) (g : Gh) (h : MachAt w l p own B mb lk g) (r : List GC) (c : GC) (hcs : g.cs = r ++ [c]) (hst : g.status = 1) (i : M.Ins) (hop : i.op = 5) :
    Calls Tryz.prog 54 #[.pointer (some ⟨mb, 0, none⟩), .agg #[.int .i64 i.op, .int .i64 i.a, .string i.name, .string i.member]] w (MEnd w l p own B mb lk (.int .i64 (M.doIns p lk i g.st).1) (M.doIns p lk i g.st).2) := by
 have HV : Hid (M.doIns p lk i g.st = M.push p M.nullVal g.st) := hid (by unfold M.doIns; rw [hop]; rfl)
 have H := hid h
 have HCS := hid hcs
 clear h hcs hop
 go_enter Tryz.func54, Tryz.ntmps54
 go_wp2_with fail
 refine (null_val _).mono ?_
 rintro e w1 ⟨rfl, hE1⟩
 have HE1 : Hid (Ext w w1) := hid (((KX.k (by repeat (first | assumption | constructor))) : Ext w _).trans hE1)
 clear hE1
 go_wp2_with fail
 refine (mach_put _ _ _ _ _ _ _ _ (H.out.ext HE1.out) r c HCS.out hst M.nullVal (M.valOk_null _)).mono ?_
 rintro e w2 hEnd
 have HZ := hid (MEnd.behind HE1.out hEnd)
 obtain ⟨rfl, -⟩ := hEnd
 rw [← HV.out] at HZ ⊢
 go_wp2_with fail
 go_ret
 exact HZ.out
theorem do_go (w : World) (l : Lodge) (p : M.Plan) (own : Own) (B mb : Nat) (lk : Bool) (g : Gh) (h : MachAt w l p own B mb lk g) (r : List GC) (c : GC) (hcs : g.cs = r ++ [c]) (hst : g.status = 1) (i : M.Ins) (hi : M.insIn (M.method p c.f.of) i = true) (hop : i.op = 13) :
    Calls Tryz.prog 62 #[.pointer (some ⟨mb, 0, none⟩), .agg #[.int .i64 i.op, .int .i64 i.a, .string i.name, .string i.member]] w (MEnd w l p own B mb lk (.int .i64 (M.doIns p lk i g.st).1) (M.doIns p lk i g.st).2) := by
 have HV : Hid (M.doIns p lk i g.st = M.jump p i.a g.st) := hid (by unfold M.doIns; rw [hop]; rfl)
 have ha := ((M.ins_a hi).2.2.1 (.inr (.inr hop))).1
 have hE : Ext w (w.alloc (.cells #[.int .i64 i.op, .int .i64 i.a, .string i.name, .string i.member] 28)) := (KX.k (by repeat (first | assumption | constructor)))
 have HE := hid hE
 have H := hid h
 have HCS := hid hcs
 clear h hcs hop hE
 go_enter Tryz.func62, Tryz.ntmps62
 go_wp2_with fail
 refine (mach_jump _ _ _ _ _ _ _ _ (H.out.ext HE.out) r c HCS.out hst i.a ha).mono ?_
 rintro e w2 hEnd
 have HZ := hid (MEnd.behind HE.out hEnd)
 obtain ⟨rfl, -⟩ := hEnd
 rw [← HV.out] at HZ ⊢
 go_wp2_with fail
 go_ret
 exact HZ.out
end Go.Proofs.YtjdfceejkneofaaGreat
namespace Go.Proofs.YtjdfceejkneofaaGreat
open Go Go.RowKit
open Go.Lib (hid)
theorem do_zero (w : World) (l : Lodge) (p : M.Plan) (own : Own) (B mb : Nat) (lk : Bool) (g : Gh) (h : MachAt w l p own B mb lk g) (r : List GC) (c : GC) (hcs : g.cs = r ++ [c]) (hst : g.status = 1) (i : M.Ins) (hi : M.insIn (M.method p c.f.of) i = true) (hop : i.op = 11) :
    Calls Tryz.prog 60 #[.pointer (some ⟨mb, 0, none⟩), .agg #[.int .i64 i.op, .int .i64 i.a, .string i.name, .string i.member]] w (MEnd w l p own B mb lk (.int .i64 (M.doIns p lk i g.st).1) (M.doIns p lk i g.st).2) := by
 have HI := hid (M.ins_a hi)
 obtain ⟨w0, hw0⟩ : ∃ w0, w0 = w.alloc (.cells #[.int .i64 i.op, .int .i64 i.a, .string i.name, .string i.member] 28) := ⟨_, rfl⟩
 have hE0 : Ext w w0 := by rw [hw0]; exact (KX.k (by repeat (first | assumption | constructor)))
 have b3 : Blk w0 w.heap.size 28 #[.int .i64 i.op, .int .i64 i.a, .string i.name, .string i.member] := by rw [hw0]; exact Blk.new _ _ _
 have HNO := hid (h.fresh (Nat.le_refl _))
 have HA := hid (h.ext hE0)
 have HE0 := hid hE0
 have HB3 := hid b3
 have HW0 := hid hw0
 have HCS := hid hcs
 have hwz := b3.lt
 clear h hE0 b3 hw0 hcs hi
 rcases List.eq_nil_or_concat c.f.stack with hs | ⟨st, v, hs⟩
 · have HV : Hid (M.doIns p lk i g.st = (10, g.st)) := hid (by unfold M.doIns; rw [hop]; simp only [Gh.pop_no HCS.out hs]; rfl)
   have HS := hid hs
   clear hs hop
   go_enter Tryz.func60, Tryz.ntmps60
   go_wp2_with fail
   rw [← HW0.out]
   refine (mach_top _ _ _ _ _ _ _ _ HA.out r c HCS.out).mono ?_
   rintro e w1 ⟨rfl, hE1⟩
   have HA1 := hid (HA.out.ext hE1)
   have HE1 : Hid (Ext w w1) := hid (HE0.out.trans hE1)
   clear hE1
   go_wp2_with fail
   refine (mach_pop_no _ _ _ _ _ _ _ _ HA1.out r c HCS.out HS.out).mono ?_
   rintro e w2 ⟨rfl, hE2⟩
   have HA2 := hid (HA1.out.ext hE2)
   have HE2 : Hid (Ext w w2) := hid (HE1.out.trans hE2)
   clear hE2
   go_wp2_with fail
   go_ret
   rw [HV.out]
   exact MEnd.mk' (HE2.out.alloc _).any (Agr.refl _ _) (HA2.out.ext (KX.k (by repeat (first | assumption | constructor)))) rfl
 · rw [List.concat_eq_append] at hs
   have hvk := (M.frameOk_iff.1 (HA.out.frm HCS.out)).2.2.2.2.2.2 v (by rw [hs]; simp)
   have HVK : Hid (M.valOk v g.os.length = true) := hid (by simpa [Gh.st] using hvk)
   have HV : Hid (∀ vs', M.doIns p lk i g.st = if v.kind = 1 then (if v.n = 0 then M.jump p i.a (g.stk r c st vs').st else M.next p (g.stk r c st vs').st) else (10, (g.stk r c st vs').st)) := hid (fun vs' => by unfold M.doIns; rw [hop]; simp only [Gh.pop HCS.out hs vs']; rfl)
   have HS := hid hs
   have HOP := hid hop
   clear hs hop hvk
   obtain ⟨vk, vn⟩ := v
   simp only at HV
   go_enter Tryz.func60, Tryz.ntmps60
   go_wp2_with fail
   rw [← HW0.out]
   refine (mach_top _ _ _ _ _ _ _ _ HA.out r c HCS.out).mono ?_
   rintro e w1 ⟨rfl, hE1⟩
   have HA1 := hid (HA.out.ext hE1)
   have HE1 := hid hE1
   clear hE1
   go_wp2_with fail
   refine (mach_pop _ _ _ _ _ _ _ _ HA1.out r c HCS.out st ⟨vk, vn⟩ HS.out).mono ?_
   rintro e w2 ⟨rfl, hK2, vs', hM2⟩
   replace HV := hid (HV.out vs')
   obtain ⟨w3, hw3⟩ : ∃ w3, w3 = w2.alloc (.cells #[.int .i64 vk, .int .i64 vn] 34) := ⟨_, rfl⟩
   have hE3 : Ext w2 w3 := by rw [hw3]; exact (KX.k (by repeat (first | assumption | constructor)))
   have b5 : Blk w3 w2.heap.size 34 #[.int .i64 vk, .int .i64 vn] := by rw [hw3]; exact Blk.new _ _ _
   have HM3 := hid (hM2.ext hE3)
   have HK3 : Hid (Kp (MO l own) w w3) := hid (((HE0.out.trans HE1.out).any.trans hK2).trans hE3.any)
   have hB33 := (HB3.out.ext HE1.out).kp hK2 HNO.out
   have y1 := hB33.c 1 (.int .i64 i.a) rfl
   have yz := hB33.lt
   have HW3 := hid hw3
   have HB5 := hid b5
   have HN5 := hid (hM2.fresh (Nat.le_refl _))
   clear hE3 b5 hK2 hM2 hB33 hw3
   by_cases hk : vk = 1
   · subst hk
     by_cases hn : vn = 0
     · subst hn
       replace HV := hid (HV.out.trans (if_pos rfl))
       replace HV := hid (HV.out.trans (if_pos rfl))
       go_wp2_with fail
       rw [← HW3.out]
       refine (mach_jump _ _ _ _ _ _ _ _ HM3.out r _ rfl hst i.a (HI.out.2.2.1 (.inl HOP.out)).1).mono ?_
       rintro e w4 hEnd
       have HZ := hid (MEnd.after HK3.out (Agr.refl _ _) hEnd)
       obtain ⟨rfl, -⟩ := hEnd
       rw [← HV.out] at HZ ⊢
       go_wp2_with fail
       go_ret
       exact HZ.out
     · have hn' : (vn == 0) = false := beq_eq_false_iff_ne.2 hn
       replace HV := hid (HV.out.trans (if_pos rfl))
       replace HV := hid (HV.out.trans (if_neg hn))
       clear hn
       go_wp2_with fail
       rw [← HW3.out]
       refine (mach_next _ _ _ _ _ _ _ _ HM3.out r _ rfl hst).mono ?_
       rintro e w4 hEnd
       have HZ := hid (MEnd.after HK3.out (Agr.refl _ _) hEnd)
       obtain ⟨rfl, -⟩ := hEnd
       rw [← HV.out] at HZ ⊢
       go_wp2_with fail
       go_ret
       exact HZ.out
   · have hk' : (vk != 1) = true := bne_iff_ne.2 hk
     replace HV := hid (HV.out.trans (if_neg hk))
     clear hk
     go_wp2_with fail
     go_ret
     rw [HV.out, ← HW3.out]
     exact MEnd.mk' HK3.out (Agr.refl _ _) HM3.out rfl
theorem MachAt.addOut {w w' : World} {l : Lodge} {p : M.Plan} {own : Own} {B mb : Nat} {lk : Bool} {g : Gh} (h : MachAt w l p own B mb lk g) (n : Int)
    (g' c' : Nat) (ho : w'.ownsRow B 3 1 (.slice (some ⟨g', 0, none⟩) (g.outs.length + 1) c') (g.outs.length + 1) (g.outs.flatMap intCs ++ [.int .i64 n])) (hk : Kp (fun b => g.vo.ownBlock = some b) w w') (hg : g.vo.ownBlock = some g' ∨ w.heap.size ≤ g')
    (hG : M.Good p ({ g with outs := g.outs ++ [n], vo := .slice (some ⟨g', 0, none⟩) (g.outs.length + 1) c' } : Gh).st) :
    Kp (MO l own) w (w'.setCell ⟨mb, 5, none⟩ (.slice (some ⟨g', 0, none⟩) (g.outs.length + 1) c')) ∧ ∃ own', Agr w.heap.size own own' ∧ MachAt (w'.setCell ⟨mb, 5, none⟩ (.slice (some ⟨g', 0, none⟩) (g.outs.length + 1) c')) l p own' B mb lk { g with outs := g.outs ++ [n], vo := .slice (some ⟨g', 0, none⟩) (g.outs.length + 1) c' } := by
 have hk2 : Kp (· = mb) w' (w'.setCell ⟨mb, 5, none⟩ (.slice (some ⟨g', 0, none⟩) (g.outs.length + 1) c')) := (Kp.refl (· = mb) w').setCell (p := ⟨mb, 5, none⟩) (fun _ => rfl) _
 obtain ⟨W, hW⟩ : ∃ W, W = w'.setCell ⟨mb, 5, none⟩ (.slice (some ⟨g', 0, none⟩) (g.outs.length + 1) c') := ⟨_, rfl⟩
 have hmb : g.vo.ownBlock ≠ some mb := fun e => by have := h.outs.role _ e; rw [h.role] at this; cases this
 have hbW : Blk W mb 86 (machCs l lk { g with outs := g.outs ++ [n], vo := .slice (some ⟨g', 0, none⟩) (g.outs.length + 1) c' }) := by rw [hW]; exact (h.blk.kp hk hmb).set_ 5 _
 have hgm : g' ≠ mb := fun e => by
  subst e
  rcases hg with x | x
  · exact hmb x
  · have := h.blk.lt; omega
 have hoW : W.ownsRow B 3 1 (.slice (some ⟨g', 0, none⟩) (g.outs.length + 1) c') (g.outs.length + 1) (g.outs.flatMap intCs ++ [.int .i64 n]) := by
  rw [hW]; exact owns_kp ho hk2 (fun q hq _ e => hgm (by cases hq; exact e))
 rw [← hW] at hk2 ⊢
 clear hW
 have hkp : Kp (PO own fun q => q = (0, 0) ∨ q = (3, 0)) w W := (hk.weak fun b _ e => ⟨_, h.outs.role b e, .inr rfl⟩).trans (hk2.weak fun b _ e => ⟨_, by rw [e]; exact h.role, .inl rfl⟩)
 have ha : Agr w.heap.size own (own.add g' (3, 0)) := Own.add_agr (by
  rcases hg with x | x
  · exact .inl (h.outs.role _ x)
  · exact .inr (by omega))
 have hd : ∀ b, own.add g' (3, 0) b ≠ none → B ≤ b ∧ b < W.heap.size := fun b hb => by
  by_cases e : b = g'
  · subst e; exact hoW.lt b rfl
  · rw [Own.add_ne _ e] at hb; exact h.domE hkp.size b hb
 refine ⟨hkp.weak fun b _ e => e.mo, _, ha, h.lodPO hkp, h.hB, hbW, (ha _ h.blk.lt).trans h.role, h.low, h.calls.kpo hkp ha (by simp), fun i c hc => (h.call i c hc).kpo hkp ha (by simp) h.lowPO, h.heap.kpo hkp ha (by simp), fun j o ho => (h.obj j o ho).kpo hkp ha (by simp), ⟨?_, fun q hq => ?_⟩, hd, hG⟩
 · simpa [intCs] using hoW
 · cases hq; exact Own.add_eq _ _ _
theorem do_out (w : World) (l : Lodge) (p : M.Plan) (own : Own) (B mb : Nat) (lk : Bool) (g : Gh) (h : MachAt w l p own B mb lk g) (r : List GC) (c : GC) (hcs : g.cs = r ++ [c]) (hst : g.status = 1) (i : M.Ins) (hi : M.insIn (M.method p c.f.of) i = true) (hop : i.op = 14) :
    Calls Tryz.prog 63 #[.pointer (some ⟨mb, 0, none⟩), .agg #[.int .i64 i.op, .int .i64 i.a, .string i.name, .string i.member]] w (MEnd w l p own B mb lk (.int .i64 (M.doIns p lk i g.st).1) (M.doIns p lk i g.st).2) := by
 have HI := hid (M.ins_a hi)
 obtain ⟨w0, hw0⟩ : ∃ w0, w0 = w.alloc (.cells #[.int .i64 i.op, .int .i64 i.a, .string i.name, .string i.member] 28) := ⟨_, rfl⟩
 have hE0 : Ext w w0 := by rw [hw0]; exact (KX.k (by repeat (first | assumption | constructor)))
 have b3 : Blk w0 w.heap.size 28 #[.int .i64 i.op, .int .i64 i.a, .string i.name, .string i.member] := by rw [hw0]; exact Blk.new _ _ _
 have HNO := hid (h.fresh (Nat.le_refl _))
 have HA := hid (h.ext hE0)
 have HE0 := hid hE0
 have HB3 := hid b3
 have HW0 := hid hw0
 have HCS := hid hcs
 have hwz := b3.lt
 clear h hE0 b3 hw0 hcs hi
 rcases List.eq_nil_or_concat c.f.stack with hs | ⟨st, v, hs⟩
 · have HV : Hid (M.doIns p lk i g.st = (10, g.st)) := hid (by unfold M.doIns; rw [hop]; simp only [Gh.pop_no HCS.out hs]; rfl)
   have HS := hid hs
   clear hs hop
   go_enter Tryz.func63, Tryz.ntmps63
   go_wp2_with fail
   rw [← HW0.out]
   refine (mach_top _ _ _ _ _ _ _ _ HA.out r c HCS.out).mono ?_
   rintro e w1 ⟨rfl, hE1⟩
   have HA1 := hid (HA.out.ext hE1)
   have HE1 : Hid (Ext w w1) := hid (HE0.out.trans hE1)
   clear hE1
   go_wp2_with fail
   refine (mach_pop_no _ _ _ _ _ _ _ _ HA1.out r c HCS.out HS.out).mono ?_
   rintro e w2 ⟨rfl, hE2⟩
   have HA2 := hid (HA1.out.ext hE2)
   have HE2 : Hid (Ext w w2) := hid (HE1.out.trans hE2)
   clear hE2
   go_wp2_with fail
   go_ret
   rw [HV.out]
   exact MEnd.mk' (HE2.out.alloc _).any (Agr.refl _ _) (HA2.out.ext (KX.k (by repeat (first | assumption | constructor)))) rfl
 · rw [List.concat_eq_append] at hs
   have hvk := (M.frameOk_iff.1 (HA.out.frm HCS.out)).2.2.2.2.2.2 v (by rw [hs]; simp)
   have HVK : Hid (M.valOk v g.os.length = true) := hid (by simpa [Gh.st] using hvk)
   have HV : Hid (∀ vs', M.doIns p lk i g.st = if v.kind = 1 then M.next p (if (g.stk r c st vs').st.outs.length < 40 then { (g.stk r c st vs').st with outs := (g.stk r c st vs').st.outs ++ [v.n] } else (g.stk r c st vs').st) else (10, (g.stk r c st vs').st)) := hid (fun vs' => by unfold M.doIns; rw [hop]; simp only [Gh.pop HCS.out hs vs']; rfl)
   have HS := hid hs
   have HOP := hid hop
   clear hs hop hvk
   obtain ⟨vk, vn⟩ := v
   simp only at HV
   go_enter Tryz.func63, Tryz.ntmps63
   go_wp2_with fail
   rw [← HW0.out]
   refine (mach_top _ _ _ _ _ _ _ _ HA.out r c HCS.out).mono ?_
   rintro e w1 ⟨rfl, hE1⟩
   have HA1 := hid (HA.out.ext hE1)
   have HE1 := hid hE1
   clear hE1
   go_wp2_with fail
   refine (mach_pop _ _ _ _ _ _ _ _ HA1.out r c HCS.out st ⟨vk, vn⟩ HS.out).mono ?_
   rintro e w2 ⟨rfl, hK2, vs', hM2⟩
   replace HV := hid (HV.out vs')
   obtain ⟨w3, hw3⟩ : ∃ w3, w3 = w2.alloc (.cells #[.int .i64 vk, .int .i64 vn] 34) := ⟨_, rfl⟩
   have hE3 : Ext w2 w3 := by rw [hw3]; exact (KX.k (by repeat (first | assumption | constructor)))
   have b5 : Blk w3 w2.heap.size 34 #[.int .i64 vk, .int .i64 vn] := by rw [hw3]; exact Blk.new _ _ _
   have HM3 := hid (hM2.ext hE3)
   have HK3 : Hid (Kp (MO l own) w w3) := hid (((HE0.out.trans HE1.out).any.trans hK2).trans hE3.any)
   have hB33 := (HB3.out.ext HE1.out).kp hK2 HNO.out
   have y1 := hB33.c 1 (.int .i64 i.a) rfl
   have yz := hB33.lt
   have HW3 := hid hw3
   have HB5 := hid b5
   have HN5 := hid (hM2.fresh (Nat.le_refl _))
   obtain ⟨oa, oc, hvo⟩ := hM2.outs.form
   have m5 := hM2.blk.c 5 (.slice oa g.outs.length oc) (by rw [show (Value.slice oa g.outs.length oc) = g.vo from hvo.symm]; rfl)
   have mz := hM2.blk.lt
   have HVO : Hid (g.vo = .slice oa g.outs.length oc) := hid hvo
   clear hE3 b5 hK2 hM2 hB33 hw3 hvo
   by_cases hk : vk = 1
   · subst hk
     replace HV := hid (HV.out.trans (if_pos rfl))
     have hna := M.valOk_num HVK.out rfl
     simp only at hna
     by_cases hl : g.outs.length < 40
     · have hl' : (g.outs.length : Int) < 40 := by omega
       replace HV : Hid (M.doIns p lk i g.st = M.next p { (g.stk r c st vs').st with outs := (g.stk r c st vs').st.outs ++ [vn] }) := hid (HV.out.trans (by rw [if_pos (show (g.stk r c st vs').st.outs.length < 40 from hl)]))
       have hvm : ¬ g.vo.ownBlock = some mb := fun e => by have := HM3.out.outs.role _ e; rw [HM3.out.role] at this; cases this
       have hv5 : ¬ g.vo.ownBlock = some w2.heap.size := fun e => HN5.out (.inr (by rw [HM3.out.outs.role _ e]; simp))
       obtain ⟨T, f, hneT, HT⟩ := Cls.ex (fun W' => Kp (fun b => g.vo.ownBlock = some b) w3 W') _ (Kp.refl _ _)
       have rm := fun z => (HM3.out.blk.kp (HT.inn z) hvm).c 5 (.slice oa g.outs.length oc) (by rw [← HVO.out]; rfl)
       have r51 := fun z => (HB5.out.kp (HT.inn z) hv5).c 1 (.int .i64 vn) rfl
       have HTH := hid HT
       have HVM := hid hvm
       have hmB := HM3.out.low
       have hmz := HM3.out.blk.lt
       clear HT hvm hv5 hl
       go_wp2_with fail
       rw [← HW3.out]
       (refine region_mix f 9 [([0, 1, 2, 3, 4, 5, 6], 7), ([], 8)] [] (HTH.out.out _ ?_) (by kernel_rfl) (by kernel_rfl) (fun _ _ d _ _ h => by cases d <;> exact h) ?_)
       · exact (Kp.refl _ _).drew
       (refine wpMix_cons rfl rfl fun K hK => ?_); (change wpQuiet _ _ _ _ [_, _, _, _, _, _, _] _); (repeat (go_big_quiet_step (fail))); (refine wpQuiet_nil ?_); (refine hK _ fun K2 hK2 => ?_); clear hK K; (change wpList _ _ _ [_] _ _)
       go_wp2_with fail
       (refine hK2 _ _ (HTH.out.out _ (KX.k (by repeat (first | assumption | constructor)))) ?_); clear hK2 K2
       (refine wpMix_cons rfl rfl fun K hK => ?_); (change wpQuiet _ _ _ _ [] _); (refine wpQuiet_nil ?_); (refine hK _ fun K2 hK2 => ?_); clear hK K; (change wpList _ _ _ [_] _ _)
       refine wpList_append_at elem_int rfl (.tmp 32) (.tmp 35) rfl B (.slice oa g.outs.length oc) g.outs.length (g.outs.flatMap intCs) rfl (by rw [← HVO.out]; exact owns_kp (D := fun _ => False) HM3.out.outs.row (KX.k (by repeat (first | assumption | constructor))) fun _ _ _ x => x) w3.heap.size 1 [.int .i64 vn] rfl rfl (CellsAt.newD _ _ rfl) (by simp [Value.oneCell']) (by omega) (by simp; omega) ?_
       intro g9 c9 w9 hO9 hKp9 hg9
       change K2 _ _
       rw [← HVO.out] at hKp9 hg9
       have hK49 : Kp (fun b => g.vo.ownBlock = some b) w3 w9 := ((KX.k (by repeat (first | assumption | constructor))) : Ext w3 _).any.trans hKp9
       (refine hK2 _ _ (HTH.out.out _ hK49) ?_); clear hK2 K2
       have hmb := HM3.out.blk.kp hK49 HVM.out
       have x5 := hmb.c 5 (.slice oa g.outs.length oc) (by rw [← HVO.out]; rfl)
       have f5 := hmb.frozen 5
       have hz := hmb.lt
       have hG3 := HM3.out.good
       obtain ⟨hKM, own', hag, hMM⟩ := HM3.out.addOut vn g9 c9 hO9 hK49 (by
        rcases hg9 with e | e
        · exact .inl e
        · right; simp at e; omega) ⟨hG3.heap, hG3.frames, hG3.nf, by simp [Gh.st, Gh.stk]; omega, (fun n hn => by
          simp only [Gh.st, Gh.stk, List.mem_append, List.mem_singleton] at hn
          rcases hn with hn | rfl
          · exact hG3.outsOk n hn
          · unfold M.numOk; simp; omega), hG3.back⟩
       obtain ⟨W, hW⟩ : ∃ W, W = w9.setCell ⟨mb, 5, none⟩ (.slice (some ⟨g9, 0, none⟩) (g.outs.length + 1) c9) := ⟨_, rfl⟩
       have HX : Hid (Kp (MO l own) w W ∧ Agr w.heap.size own own') := hid (by
        rw [hW]
        exact ⟨HK3.out.mo hKM (Agr.refl _ _), fun b hb => hag b (by have := HK3.out.size; omega)⟩)
       have HW := hid hW
       have HMM : Hid (MachAt W l p own' B mb lk { (g.stk r c st vs') with outs := g.outs ++ [vn], vo := .slice (some ⟨g9, 0, none⟩) (g.outs.length + 1) c9 }) := hid (by rw [hW]; exact hMM)
       clear hKM hag hMM hW hO9 hKp9 hg9 hK49 hmb HTH rm r51 hG3 m5 mz
       (refine wpMix_nil rfl fun K hK => ?_); (change wpQuiet _ _ _ _ [] _); (refine wpQuiet_nil ?_); (refine hK _ ?_); clear hK K
       go_wp2_with fail
       rw [← HW.out]
       refine (mach_next _ _ _ _ _ _ _ _ HMM.out r _ rfl hst).mono ?_
       rintro e w4 hEnd
       have HZ := hid (MEnd.after HX.out.1 HX.out.2 hEnd)
       obtain ⟨rfl, -⟩ := hEnd
       replace HZ : Hid (MEnd w l p own B mb lk (.int .i64 (M.doIns p lk i g.st).1) (M.doIns p lk i g.st).2 _ w4) := hid (by rw [HV.out]; exact HZ.out)
       clear x5 f5 hz
       go_wp2_with fail
       go_ret
       have hz := HZ.out
       rw [HV.out] at hz ⊢
       exact hz
     · have hl' : ¬ (g.outs.length : Int) < 40 := by omega
       replace HV : Hid (M.doIns p lk i g.st = M.next p (g.stk r c st vs').st) := hid (HV.out.trans (by rw [if_neg (show ¬ (g.stk r c st vs').st.outs.length < 40 from hl)]))
       clear hl
       go_wp2_with fail
       rw [← HW3.out]
       refine (mach_next _ _ _ _ _ _ _ _ HM3.out r _ rfl hst).mono ?_
       rintro e w4 hEnd
       have HZ := hid (MEnd.after HK3.out (Agr.refl _ _) hEnd)
       obtain ⟨rfl, -⟩ := hEnd
       rw [← HV.out] at HZ ⊢
       go_wp2_with fail
       go_ret
       exact HZ.out
   · have hk' : (vk != 1) = true := bne_iff_ne.2 hk
     replace HV := hid (HV.out.trans (if_neg hk))
     clear hk
     go_wp2_with fail
     go_ret
     rw [HV.out, ← HW3.out]
     exact MEnd.mk' HK3.out (Agr.refl _ _) HM3.out rfl
theorem mach_popObject_no (w : World) (l : Lodge) (p : M.Plan) (own : Own) (B mb : Nat) (lk : Bool) (g : Gh) (h : MachAt w l p own B mb lk g) (r : List GC) (c : GC) (hcs : g.cs = r ++ [c]) (hs : c.f.stack = []) :
    Calls Tryz.prog 93 #[.pointer (some ⟨mb, 0, none⟩)] w fun e w' => e = .returned (.tuple #[.agg #[.int .i64 0, .int .i64 0], .bool false]) ∧ Ext w w' := by
 obtain ⟨w0, hw0⟩ : ∃ w0, w0 = w.alloc (.cells #[.int .i64 0, .int .i64 0] 34) := ⟨_, rfl⟩
 have hE0 : Ext w w0 := by rw [hw0]; exact (KX.k (by repeat (first | assumption | constructor)))
 have b2 : Blk w0 w.heap.size 34 #[.int .i64 0, .int .i64 0] := by rw [hw0]; exact Blk.new _ _ _
 have HA := hid (h.ext hE0)
 have HE0 := hid hE0
 have HB2 := hid b2
 have HW0 := hid hw0
 have HCS := hid hcs
 have hwz := b2.lt
 have HS := hid hs
 clear h hE0 b2 hw0 hcs hs
 go_enter Tryz.func93, Tryz.ntmps93
 go_wp2_with fail
 rw [← HW0.out]
 refine (mach_top _ _ _ _ _ _ _ _ HA.out r c HCS.out).mono ?_
 rintro e w1 ⟨rfl, hE1⟩
 have HA1 := hid (HA.out.ext hE1)
 have HE1 := hid hE1
 clear hE1
 go_wp2_with fail
 refine (mach_pop_no _ _ _ _ _ _ _ _ HA1.out r c HCS.out HS.out).mono ?_
 rintro e w2 ⟨rfl, hE2⟩
 obtain ⟨w3, hw3⟩ : ∃ w3, w3 = w2.alloc (.cells #[.int .i64 0, .int .i64 0] 34) := ⟨_, rfl⟩
 have hE3 : Ext w0 w3 := by rw [hw3]; exact (HE1.out.trans hE2).alloc _
 have hz23 : w.heap.size < w2.heap.size := by have := hE2.size; have := HE1.out.size; omega
 have b4 : Blk w3 w2.heap.size 34 #[.int .i64 0, .int .i64 0] := by rw [hw3]; exact Blk.new _ _ _
 have hn4 : ¬ w2.heap.size = w.heap.size := by omega
 obtain ⟨T, f, hneT, HT⟩ := Cls.ex (fun W' => Kp (· = w.heap.size) w3 W') _ (Kp.refl _ _)
 have r40 := fun z => (b4.kp (HT.inn z) hn4).c 0 (.int .i64 0) rfl
 have r41 := fun z => (b4.kp (HT.inn z) hn4).c 1 (.int .i64 0) rfl
 have HTH := hid HT
 have HW3 := hid hw3
 have hb2 := HB2.out.ext hE3
 have x0 := hb2.c 0 (.int .i64 0) rfl
 have x1 := hb2.c 1 (.int .i64 0) rfl
 have f0 := hb2.frozen 0
 have f1 := hb2.frozen 1
 have hz := hb2.lt
 have HB23 := hid hb2
 have HE3 := hid hE3
 clear hE3 b4 hE2 hw3 HT hb2
 go_wp2_with fail
 rw [← HW3.out]
 (refine region_mix f 13 [([0, 1, 2, 3, 4, 5, 6, 7, 8, 9, 10, 11], 12)] [] (HTH.out.out _ ?_) (by kernel_rfl) (by kernel_rfl) (fun _ _ d _ _ h => by cases d <;> exact h) ?_)
 · exact (Kp.refl _ _).drew
 (refine wpMix_cons rfl rfl fun K hK => ?_); (change wpQuiet _ _ _ _ [_, _, _, _, _, _, _, _, _, _, _, _] _); (repeat (go_big_quiet_step (fail))); (refine wpQuiet_nil ?_); (refine hK _ fun K2 hK2 => ?_); clear hK K; (change wpList _ _ _ [_] _ _)
 go_wp2_with fail
 have hst : Kp (· = w.heap.size) w3 ((w3.drew.setCell ⟨w.heap.size, 0, none⟩ (.int .i64 0)).setCell ⟨w.heap.size, 1, none⟩ (.int .i64 0)) := (((Kp.refl (· = w.heap.size) w3).drew).setCell (p := ⟨w.heap.size, 0, none⟩) (fun _ => rfl) _).setCell (p := ⟨w.heap.size, 1, none⟩) (fun _ => rfl) _
 (refine hK2 _ _ (HTH.out.out _ hst) ?_); clear hK2 K2
 (refine wpMix_nil rfl fun K hK => ?_); (change wpQuiet _ _ _ _ [] _); (refine wpQuiet_nil ?_); (refine hK _ ?_); clear hK K
 go_wp2_with fail
 refine bodyPost_ret (results_agg2 agg_val rfl _ _ w.heap.size rfl [.int .i64 0, .int .i64 0] (CellsAt.ofB ((HB23.out.ext (Kp.refl _ _).drew).set2 _ _)) rfl) rfl ?_
 exact ⟨rfl, (HE0.out.trans HE3.out).own hst (fun b e => by omega)⟩
theorem mach_popObject (w : World) (l : Lodge) (p : M.Plan) (own : Own) (B mb : Nat) (lk : Bool) (g : Gh) (h : MachAt w l p own B mb lk g) (r : List GC) (c : GC) (hcs : g.cs = r ++ [c]) (st : List M.Val) (v : M.Val) (hs : c.f.stack = st ++ [v]) :
    Calls Tryz.prog 93 #[.pointer (some ⟨mb, 0, none⟩)] w fun e w' => e = .returned (.tuple #[.agg #[.int .i64 v.kind, .int .i64 v.n], .bool (decide (v.kind = 2 ∨ v.kind = 3))]) ∧ Kp (MO l own) w w' ∧ ∃ vs', MachAt w' l p own B mb lk (g.stk r c st vs') := by
 obtain ⟨vk, vn⟩ := v
 obtain ⟨w0, hw0⟩ : ∃ w0, w0 = w.alloc (.cells #[.int .i64 0, .int .i64 0] 34) := ⟨_, rfl⟩
 have hE0 : Ext w w0 := by rw [hw0]; exact (KX.k (by repeat (first | assumption | constructor)))
 have b2 : Blk w0 w.heap.size 34 #[.int .i64 0, .int .i64 0] := by rw [hw0]; exact Blk.new _ _ _
 have HNO := hid (h.fresh (Nat.le_refl _))
 have hLw := h.lod.lt
 have HA := hid (h.ext hE0)
 have HE0 := hid hE0
 have HB2 := hid b2
 have HW0 := hid hw0
 have HCS := hid hcs
 have hwz := b2.lt
 have HS := hid hs
 clear h hE0 b2 hw0 hcs hs
 go_enter Tryz.func93, Tryz.ntmps93
 go_wp2_with fail
 rw [← HW0.out]
 refine (mach_top _ _ _ _ _ _ _ _ HA.out r c HCS.out).mono ?_
 rintro e w1 ⟨rfl, hE1⟩
 have HA1 := hid (HA.out.ext hE1)
 have HE1 := hid hE1
 clear hE1
 go_wp2_with fail
 refine (mach_pop _ _ _ _ _ _ _ _ HA1.out r c HCS.out st ⟨vk, vn⟩ HS.out).mono ?_
 rintro e w2 ⟨rfl, hK2, vs', hM2⟩
 obtain ⟨w3, hw3⟩ : ∃ w3, w3 = w2.alloc (.cells #[.int .i64 vk, .int .i64 vn] 34) := ⟨_, rfl⟩
 have hE3 : Ext w2 w3 := by rw [hw3]; exact (KX.k (by repeat (first | assumption | constructor)))
 have hz23 : w.heap.size < w2.heap.size := by have := hK2.size; have := HE1.out.size; omega
 have b4 : Blk w3 w2.heap.size 34 #[.int .i64 vk, .int .i64 vn] := by rw [hw3]; exact Blk.new _ _ _
 have hn4 : ¬ w2.heap.size = w.heap.size := by omega
 obtain ⟨T, f, hneT, HT⟩ := Cls.ex (fun W' => Kp (· = w.heap.size) w3 W') _ (Kp.refl _ _)
 have r40 := fun z => (b4.kp (HT.inn z) hn4).c 0 (.int .i64 vk) rfl
 have r41 := fun z => (b4.kp (HT.inn z) hn4).c 1 (.int .i64 vn) rfl
 have HTH := hid HT
 have HW3 := hid hw3
 have hb2 := ((HB2.out.ext HE1.out).kp hK2 HNO.out).ext hE3
 have x0 := hb2.c 0 (.int .i64 0) rfl
 have x1 := hb2.c 1 (.int .i64 0) rfl
 have f0 := hb2.frozen 0
 have f1 := hb2.frozen 1
 have hz := hb2.lt
 have HB23 := hid hb2
 have HK3 : Hid (Kp (MO l own) w w3) := hid (((HE0.out.trans HE1.out).any.trans hK2).trans hE3.any)
 have HM3 := hid (hM2.ext hE3)
 have hst : Kp (· = w.heap.size) w3 ((w3.drew.setCell ⟨w.heap.size, 0, none⟩ (.int .i64 vk)).setCell ⟨w.heap.size, 1, none⟩ (.int .i64 vn)) := (((Kp.refl (· = w.heap.size) w3).drew).setCell (p := ⟨w.heap.size, 0, none⟩) (fun _ => rfl) _).setCell (p := ⟨w.heap.size, 1, none⟩) (fun _ => rfl) _
 have HST := hid hst
 have HFIN : Hid (Kp (MO l own) w ((w3.drew.setCell ⟨w.heap.size, 0, none⟩ (.int .i64 vk)).setCell ⟨w.heap.size, 1, none⟩ (.int .i64 vn)) ∧ ∃ vs', MachAt ((w3.drew.setCell ⟨w.heap.size, 0, none⟩ (.int .i64 vk)).setCell ⟨w.heap.size, 1, none⟩ (.int .i64 vn)) l p own B mb lk (g.stk r c st vs')) := hid (by
  refine ⟨HK3.out.own hst (fun b e => by omega), vs', HM3.out.keep hst (Agr.refl _ _) (HM3.out.domE hst.size) (HM3.out.lod.kp hst (fun b hb e => by omega)) (fun b hb e => by subst e; exact HNO.out (.inr hb)) (fun b hb e => by have := HM3.out.lod.ord; omega)⟩)
 clear hE3 b4 hK2 hM2 hw3 HT hb2 hst
 by_cases h2 : vk = 2
 · subst h2
   go_wp2_with fail
   rw [← HW3.out]
   (refine region_mix f 13 [([0, 1, 2, 3, 4, 5, 6, 7, 8, 9, 10, 11], 12)] [] (HTH.out.out _ ?_) (by kernel_rfl) (by kernel_rfl) (fun _ _ d _ _ h => by cases d <;> exact h) ?_)
   · exact (Kp.refl _ _).drew
   (refine wpMix_cons rfl rfl fun K hK => ?_); (change wpQuiet _ _ _ _ [_, _, _, _, _, _, _, _, _, _, _, _] _); (repeat (go_big_quiet_step (fail))); (refine wpQuiet_nil ?_); (refine hK _ fun K2 hK2 => ?_); clear hK K; (change wpList _ _ _ [_] _ _)
   go_wp2_with fail
   (refine hK2 _ _ (HTH.out.out _ HST.out) ?_); clear hK2 K2
   (refine wpMix_nil rfl fun K hK => ?_); (change wpQuiet _ _ _ _ [] _); (refine wpQuiet_nil ?_); (refine hK _ ?_); clear hK K
   go_wp2_with fail
   refine bodyPost_ret (results_agg2 agg_val rfl _ _ w.heap.size rfl [.int .i64 2, .int .i64 vn] (CellsAt.ofB ((HB23.out.ext (Kp.refl _ _).drew).set2 _ _)) rfl) rfl ?_
   exact ⟨rfl, HFIN.out⟩
 by_cases h3 : vk = 3
 · subst h3
   clear h2
   go_wp2_with fail
   rw [← HW3.out]
   (refine region_mix f 13 [([0, 1, 2, 3, 4, 5, 6, 7, 8, 9, 10, 11], 12)] [] (HTH.out.out _ ?_) (by kernel_rfl) (by kernel_rfl) (fun _ _ d _ _ h => by cases d <;> exact h) ?_)
   · exact (Kp.refl _ _).drew
   (refine wpMix_cons rfl rfl fun K hK => ?_); (change wpQuiet _ _ _ _ [_, _, _, _, _, _, _, _, _, _, _, _] _); (repeat (go_big_quiet_step (fail))); (refine wpQuiet_nil ?_); (refine hK _ fun K2 hK2 => ?_); clear hK K; (change wpList _ _ _ [_] _ _)
   go_wp2_with fail
   (refine hK2 _ _ (HTH.out.out _ HST.out) ?_); clear hK2 K2
   (refine wpMix_nil rfl fun K hK => ?_); (change wpQuiet _ _ _ _ [] _); (refine wpQuiet_nil ?_); (refine hK _ ?_); clear hK K
   go_wp2_with fail
   refine bodyPost_ret (results_agg2 agg_val rfl _ _ w.heap.size rfl [.int .i64 3, .int .i64 vn] (CellsAt.ofB ((HB23.out.ext (Kp.refl _ _).drew).set2 _ _)) rfl) rfl ?_
   exact ⟨rfl, HFIN.out⟩
 · have h2' : (vk == 2) = false := beq_eq_false_iff_ne.2 h2
   have h3' : (vk == 3) = false := beq_eq_false_iff_ne.2 h3
   have HD : Hid (decide (vk = 2 ∨ vk = 3) = false) := hid (decide_eq_false (by omega))
   clear h2 h3
   go_wp2_with fail
   rw [← HW3.out]
   (refine region_mix f 13 [([0, 1, 2, 3, 4, 5, 6, 7, 8, 9, 10, 11], 12)] [] (HTH.out.out _ ?_) (by kernel_rfl) (by kernel_rfl) (fun _ _ d _ _ h => by cases d <;> exact h) ?_)
   · exact (Kp.refl _ _).drew
   (refine wpMix_cons rfl rfl fun K hK => ?_); (change wpQuiet _ _ _ _ [_, _, _, _, _, _, _, _, _, _, _, _] _); (repeat (go_big_quiet_step (fail))); (refine wpQuiet_nil ?_); (refine hK _ fun K2 hK2 => ?_); clear hK K; (change wpList _ _ _ [_] _ _)
   go_wp2_with fail
   (refine hK2 _ _ (HTH.out.out _ HST.out) ?_); clear hK2 K2
   (refine wpMix_nil rfl fun K hK => ?_); (change wpQuiet _ _ _ _ [] _); (refine wpQuiet_nil ?_); (refine hK _ ?_); clear hK K
   go_wp2_with fail
   refine bodyPost_ret (results_agg2 agg_val rfl _ _ w.heap.size rfl [.int .i64 vk, .int .i64 vn] (CellsAt.ofB ((HB23.out.ext (Kp.refl _ _).drew).set2 _ _)) rfl) rfl ?_
   exact ⟨by rw [HD.out]; rfl, HFIN.out⟩
end Go.Proofs.YtjdfceejkneofaaGreat
