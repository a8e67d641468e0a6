/- Walks: the machine's enter. -/
import Derived.Test.YtjdfceejkneofaaGreatJaq
import Derived.Test.YtjdfceejkneofaaGreatJan
set_option maxRecDepth 100000
set_option maxHeartbeats 4000000
set_option linter.unusedSimpArgs false
set_option linter.unusedVariables false
namespace Go.Proofs.YtjdfceejkneofaaGreat
open Go Go.RowKit
open Go.Lib (hid)
theorem elem_kind : Elem 57 55 2 := elem_of (z := .agg #[.int .i64 0, .string ⟨#[]⟩]) (bytes := 24) Tryz.underlying57 (by kernel_rfl) rfl (by decide) (by decide)
theorem elem_call : Elem 84 112 1 := elem_of (z := .pointer none) (bytes := 8) Tryz.underlying84 (by kernel_rfl) rfl (by decide) (by decide)
theorem made_vals {n : Nat} (h : n ≤ 6) : (madeCells (Value.agg #[.int .i64 0, .int .i64 0]).cells (n * 2)).toList = (List.replicate n M.zval).flatMap valCs := by
 have : n = 0 ∨ n = 1 ∨ n = 2 ∨ n = 3 ∨ n = 4 ∨ n = 5 ∨ n = 6 := by omega
 rcases this with rfl | rfl | rfl | rfl | rfl | rfl | rfl <;> (show _ = _; kernel_rfl)
theorem MachAt.addCall {w w' : World} {l : Lodge} {p : M.Plan} {own : Own} {B mb : Nat} {lk : Bool} {g : Gh} (h : MachAt w l p own B mb lk g) (c : GC) (hc : CallAt w l p own B g.cs.length c)
    (g' c' : Nat) (ho : w'.ownsRow B 112 1 (.slice (some ⟨g', 0, none⟩) (g.cs.length + 1) c') (g.cs.length + 1) (g.cs.flatMap ptrCs ++ ptrCs c)) (hk : Kp (fun b => g.vc.ownBlock = some b) w w') (hg : g.vc.ownBlock = some g' ∨ w.heap.size ≤ g')
    (hG : M.Good p ({ g with cs := g.cs ++ [c], vc := .slice (some ⟨g', 0, none⟩) (g.cs.length + 1) c' } : Gh).st) :
    Kp (MO l own) w (w'.setCell ⟨mb, 3, none⟩ (.slice (some ⟨g', 0, none⟩) (g.cs.length + 1) c')) ∧ ∃ own', Agr w.heap.size own own' ∧ MachAt (w'.setCell ⟨mb, 3, none⟩ (.slice (some ⟨g', 0, none⟩) (g.cs.length + 1) c')) l p own' B mb lk { g with cs := g.cs ++ [c], vc := .slice (some ⟨g', 0, none⟩) (g.cs.length + 1) c' } := by
 have hk2 : Kp (· = mb) w' (w'.setCell ⟨mb, 3, none⟩ (.slice (some ⟨g', 0, none⟩) (g.cs.length + 1) c')) := (Kp.refl (· = mb) w').setCell (p := ⟨mb, 3, none⟩) (fun _ => rfl) _
 obtain ⟨W, hW⟩ : ∃ W, W = w'.setCell ⟨mb, 3, none⟩ (.slice (some ⟨g', 0, none⟩) (g.cs.length + 1) c') := ⟨_, rfl⟩
 have hmb : g.vc.ownBlock ≠ some mb := fun e => by have := h.calls.role _ e; rw [h.role] at this; cases this
 have hbW : Blk W mb 86 (machCs l lk { g with cs := g.cs ++ [c], vc := .slice (some ⟨g', 0, none⟩) (g.cs.length + 1) c' }) := by rw [hW]; exact (h.blk.kp hk hmb).set_ 3 _
 have hgm : g' ≠ mb := fun e => by
  subst e
  rcases hg with x | x
  · exact hmb x
  · have := h.blk.lt; omega
 have hoW : W.ownsRow B 112 1 (.slice (some ⟨g', 0, none⟩) (g.cs.length + 1) c') (g.cs.length + 1) (g.cs.flatMap ptrCs ++ ptrCs c) := by
  rw [hW]; exact owns_kp ho hk2 (fun q hq _ e => hgm (by cases hq; exact e))
 rw [← hW] at hk2 ⊢
 clear hW
 have hkp : Kp (PO own fun q => q = (0, 0) ∨ q = (1, 0)) w W := (hk.weak fun b _ e => ⟨_, h.calls.role b e, .inr rfl⟩).trans (hk2.weak fun b _ e => ⟨_, by rw [e]; exact h.role, .inl rfl⟩)
 have ha : Agr w.heap.size own (own.add g' (1, 0)) := Own.add_agr (by
  rcases hg with x | x
  · exact .inl (h.calls.role _ x)
  · exact .inr (by omega))
 have hd : ∀ b, own.add g' (1, 0) b ≠ none → B ≤ b ∧ b < W.heap.size := fun b hb => by
  by_cases e : b = g'
  · subst e; exact hoW.lt b rfl
  · rw [Own.add_ne _ e] at hb; exact h.domE hkp.size b hb
 refine ⟨hkp.weak fun b _ e => e.mo, _, ha, h.lodPO hkp, h.hB, hbW, (ha _ h.blk.lt).trans h.role, h.low, ⟨?_, fun q hq => ?_⟩, ?_, h.heap.kpo hkp ha (by simp), fun j o ho => (h.obj j o ho).kpo hkp ha (by simp), h.outs.kpo hkp ha (by simp), hd, hG⟩
 · simpa using hoW
 · cases hq; exact Own.add_eq _ _ _
 · intro i c1 hc1
   simp only at hc1
   rcases Nat.lt_trichotomy i g.cs.length with hj | hj | hj
   · rw [List.getElem?_append_left hj] at hc1
     exact (h.call i c1 hc1).kpo hkp ha (by simp) h.lowPO
   · subst hj
     simp at hc1; subst hc1
     exact hc.kpo hkp ha (by simp) h.lowPO
   · rw [List.getElem?_eq_none (by simp; omega)] at hc1; cases hc1
theorem mach_enter (w : World) (l : Lodge) (p : M.Plan) (own : Own) (B mb : Nat) (lk : Bool) (g : Gh) (h : MachAt w l p own B mb lk g) (hst : g.status = 1) (x : M.MRef) (hx : M.hasMethod p x = true) (S : Nat) (vv : Value) (vs : List M.Val)
    (hrow : w.ownsRow S 34 2 vv vs.length (vs.flatMap valCs)) (hno : ∀ q, vv.ownBlock = some q → ¬ MO l own q) (hvs : ∀ v ∈ vs, M.valOk v g.os.length = true) (hvl : vs.length = (M.method p x).args.length + 1) :
    Calls Tryz.prog 72 #[.pointer (some ⟨mb, 0, none⟩), .agg #[.int .i64 x.of.keeper, .string x.of.name, .int .i64 x.at_], vv] w (MEnd w l p own B mb lk (.int .i64 (M.enter p lk x vs g.st).1) (M.enter p lk x vs g.st).2) := by
 obtain ⟨⟨xk, xn⟩, xa⟩ := x
 obtain ⟨vb, vc, rfl, -⟩ := owns_form hrow (by omega)
 have hmi : M.MthIs (M.method p ⟨⟨xk, xn⟩, xa⟩) := M.mth_is (M.method_ok h.lod.ok hx).1
 have hVL : (vs.length : Int) ≤ (M.method p ⟨⟨xk, xn⟩, xa⟩).locals := by have := hmi.args; omega
 have HFINE := hid (M.enter_fine (lk := lk) (vs := vs) h.lod.ok h.good hst hx (by simpa [Gh.st] using hvs) hVL)
 obtain ⟨m, hm⟩ : ∃ m, M.method p ⟨⟨xk, xn⟩, xa⟩ = m := ⟨_, rfl⟩
 obtain ⟨w0, hw0⟩ : ∃ w0, w0 = w.alloc (.cells #[.int .i64 xk, .string xn, .int .i64 xa] 97) := ⟨_, rfl⟩
 have hE0 : Ext w w0 := by rw [hw0]; exact (KX.k (by repeat (first | assumption | constructor)))
 have b4 : Blk w0 w.heap.size 97 #[.int .i64 xk, .string xn, .int .i64 xa] := by rw [hw0]; exact Blk.new _ _ _
 have HV : Hid (M.enter p lk ⟨⟨xk, xn⟩, xa⟩ vs g.st = if 8 ≤ g.cs.length then (7, g.st) else if lk && !M.right p ⟨⟨xk, xn⟩, xa⟩ then (5, g.st)
  else if M.hasTypes p xk g.st.heap vs (⟨2, xn⟩ :: m.args) then (1, { g.st with frames := g.st.frames ++ [⟨⟨⟨xk, xn⟩, xa⟩, 0, vs ++ List.replicate (m.locals.toNat - vs.length) M.zval, []⟩] }) else (10, g.st)) := hid (by
  unfold M.enter; rw [hm]; simp [Gh.st])
 obtain ⟨ca, cc, hvc⟩ := h.calls.form
 have m3 := h.blk.c 3 (.slice ca g.cs.length cc) (by rw [← hvc]; rfl)
 have mz := h.blk.lt
 have hcs8 : g.cs.length ≤ 8 := by have := h.good.nf; simpa [Gh.st] using this
 have HFRE : Hid (∀ b, w.heap.size ≤ b → ¬ MO l own b) := hid (fun b hb => h.fresh hb)
 have HA := hid (h.ext hE0)
 have H := hid h
 have HE0 := hid hE0
 have HB4 := hid b4
 have HW0 := hid hw0
 have HROW := hid hrow
 have HNO := hid hno
 have HX := hid hx
 have HM := hid hm
 have HVS := hid hvs
 have HVC := hid hvc
 rw [hm] at hmi hvl
 have hLw := h.lod.lt
 have hDw := h.lod.dlt
 have HMI := hid hmi
 have HVL := hid hvl
 have hwz := b4.lt
 clear h hE0 b4 hw0 hrow hno hx hm hvs hvc hmi hvl hVL
 by_cases h8 : 8 ≤ g.cs.length
 · replace HV : Hid (M.enter p lk ⟨⟨xk, xn⟩, xa⟩ vs g.st = (7, g.st)) := hid (HV.out.trans (if_pos h8))
   have h8' : (8 : Int) ≤ g.cs.length := by omega
   go_enter Tryz.func72, Tryz.ntmps72
   go_wp2_with fail
   go_ret
   rw [HV.out, ← HW0.out]
   exact MEnd.mk' HE0.out.any (Agr.refl _ _) HA.out rfl
 replace HV := hid (HV.out.trans (if_neg h8))
 have h8' : ((8 : Int) ≤ g.cs.length) = False := eq_false (by omega)
 clear h8
 obtain ⟨T, f, hneT, HT⟩ := Cls.ex (fun W' => LC l p w0 W') w0 (LC.refl HA.out.lod)
 have rm0 := fun z => (HA.out.lod' (HT.inn z).kp (HT.inn z).at_).blk.c 0 (.pointer (some ⟨l.L, 0, none⟩)) rfl
 have rm1 := fun z => (HA.out.lod' (HT.inn z).kp (HT.inn z).at_).blk.c 1 (.bool lk) rfl
 have r40 := fun z => (HB4.out.kp (HT.inn z).kp (by omega)).c 0 (.int .i64 xk) rfl
 have r41 := fun z => (HB4.out.kp (HT.inn z).kp (by omega)).c 1 (.string xn) rfl
 have r42 := fun z => (HB4.out.kp (HT.inn z).kp (by omega)).c 2 (.int .i64 xa) rfl
 have HTH := hid HT
 clear HT
 go_enter Tryz.func72, Tryz.ntmps72
 go_wp2_with fail
 rw [← HW0.out]
 rename_i K hK
 have tail0 : ∀ (w1 : World) (a22 a23 a24 a25 a26 a27 a28 a29 : Value), LC l p w0 w1 → M.enter p lk ⟨⟨xk, xn⟩, xa⟩ vs g.st = (5, g.st) → K { tmps := #[.pointer (some ⟨mb, 0, none⟩), .agg #[.int .i64 xk, .string xn, .int .i64 xa], .slice (some ⟨vb, 0, none⟩) vs.length vc, undef, .pointer (some ⟨w.heap.size, 0, none⟩), undef, .int .i64 0, undef, undef, undef, undef, undef, .pointer (some ⟨mb, 0, none⟩), .pointer (some ⟨mb, 0, none⟩), .pointer (some ⟨mb, 3, none⟩), .slice ca g.cs.length cc, .int .i64 g.cs.length, .bool false, .pointer (some ⟨mb, 0, none⟩), .pointer (some ⟨mb, 0, none⟩), .pointer (some ⟨mb, 1, none⟩), .bool lk, a22, a23, a24, a25, a26, a27, a28, a29, .bool true, undef, undef, undef, undef, undef, undef, undef, undef, undef, undef, undef, undef, undef, undef, undef, undef, undef, undef, undef, undef, undef, undef, undef, undef, undef, undef, undef, undef, undef, undef, undef, undef, undef, undef, undef, undef, undef, undef, undef, undef, undef, undef, undef, undef, undef, undef, undef, undef, undef, undef, undef, undef, undef, undef, undef, undef, undef, undef, undef, undef, undef, undef, undef], defers := [] } w1 := by
  intro w1 a22 a23 a24 a25 a26 a27 a28 a29 hC1 hv
  refine hK _ _ ?_
  clear hK HTH rm0 rm1 r40 r41 r42
  go_wp2_with fail
  go_ret
  rw [hv]
  exact MEnd.mk' (HE0.out.any.trans hC1.mo) (Agr.refl _ _) (HA.out.lod' hC1.kp hC1.at_) rfl
 have tail : ∀ (w1 : World) (a22 a23 a24 a25 a26 a27 a28 a29 : Value), LC l p w0 w1 → M.enter p lk ⟨⟨xk, xn⟩, xa⟩ vs g.st = (if M.hasTypes p xk g.st.heap vs (⟨2, xn⟩ :: m.args) then (1, { g.st with frames := g.st.frames ++ [⟨⟨⟨xk, xn⟩, xa⟩, 0, vs ++ List.replicate (m.locals.toNat - vs.length) M.zval, []⟩] }) else (10, g.st)) →
     K { tmps := #[.pointer (some ⟨mb, 0, none⟩), .agg #[.int .i64 xk, .string xn, .int .i64 xa], .slice (some ⟨vb, 0, none⟩) vs.length vc, undef, .pointer (some ⟨w.heap.size, 0, none⟩), undef, .int .i64 0, undef, undef, undef, undef, undef, .pointer (some ⟨mb, 0, none⟩), .pointer (some ⟨mb, 0, none⟩), .pointer (some ⟨mb, 3, none⟩), .slice ca g.cs.length cc, .int .i64 g.cs.length, .bool false, .pointer (some ⟨mb, 0, none⟩), .pointer (some ⟨mb, 0, none⟩), .pointer (some ⟨mb, 1, none⟩), .bool lk, a22, a23, a24, a25, a26, a27, a28, a29, .bool false, undef, undef, undef, undef, undef, undef, undef, undef, undef, undef, undef, undef, undef, undef, undef, undef, undef, undef, undef, undef, undef, undef, undef, undef, undef, undef, undef, undef, undef, undef, undef, undef, undef, undef, undef, undef, undef, undef, undef, undef, undef, undef, undef, undef, undef, undef, undef, undef, undef, undef, undef, undef, undef, undef, undef, undef, undef, undef, undef, undef, undef, undef, undef], defers := [] } w1 := by
  intro w1 a22 a23 a24 a25 a26 a27 a28 a29 hC1 hv
  refine hK _ _ ?_
  clear hK HTH rm0 rm1 r40 r41 r42
  replace HV := hid hv
  have HM1 := hid (HA.out.lod' hC1.kp hC1.at_)
  have HB41 := hid (HB4.out.kp hC1.kp (by omega))
  have HC1 := hid hC1
  have hz01 := hC1.kp.size
  clear hv hC1
  go_wp2_with fail
  obtain ⟨T, f, hneT, HT⟩ := Cls.ex (fun W' => Ext w1 W') _ (Kp.refl _ _)
  have rm0 := fun z => (HM1.out.ext (HT.inn z)).blk.c 0 (.pointer (some ⟨l.L, 0, none⟩)) rfl
  have r40 := fun z => (HB41.out.ext (HT.inn z)).c 0 (.int .i64 xk) rfl
  have r41 := fun z => (HB41.out.ext (HT.inn z)).c 1 (.string xn) rfl
  have r42 := fun z => (HB41.out.ext (HT.inn z)).c 2 (.int .i64 xa) rfl
  have HTH := hid HT
  clear HT
  rename_i K hK
  have tail2 : ∀ (b7 : Nat) (w8 : World) (t : MSl), Ext w1 w8 → Blk w8 b7 60 (mthCs m t).toArray → w1.heap.size ≤ b7 → MethodL w8 (· < l.O) m (mthCs m t) → K { tmps := #[.pointer (some ⟨mb, 0, none⟩), .agg #[.int .i64 xk, .string xn, .int .i64 xa], .slice (some ⟨vb, 0, none⟩) vs.length vc, undef, .pointer (some ⟨w.heap.size, 0, none⟩), undef, .int .i64 0, .pointer (some ⟨b7, 0, none⟩), undef, undef, undef, undef, .pointer (some ⟨mb, 0, none⟩), .pointer (some ⟨mb, 0, none⟩), .pointer (some ⟨mb, 3, none⟩), .slice ca g.cs.length cc, .int .i64 g.cs.length, .bool false, .pointer (some ⟨mb, 0, none⟩), .pointer (some ⟨mb, 0, none⟩), .pointer (some ⟨mb, 1, none⟩), .bool lk, a22, a23, a24, a25, a26, a27, a28, a29, .bool false, .pointer (some ⟨mb, 0, none⟩), .pointer (some ⟨mb, 0, none⟩), .pointer (some ⟨mb, 0, none⟩), .pointer (some ⟨l.L, 0, none⟩), .agg #[.int .i64 xk, .string xn, .int .i64 xa], .agg #[.string m.name, .slice t.a1 m.args.length t.c1, .int .i64 m.ret.kind, .string m.ret.name, .int .i64 m.locals, .int .i64 m.stack, .slice t.a2 m.code.length t.c2, .slice t.a3 m.maps.length t.c3], undef, undef, undef, undef, undef, undef, undef, undef, undef, undef, undef, undef, undef, undef, undef, undef, undef, undef, undef, undef, undef, undef, undef, undef, undef, undef, undef, undef, undef, undef, undef, undef, undef, undef, undef, undef, undef, undef, undef, undef, undef, undef, undef, undef, undef, undef, undef, undef, undef, undef, undef, undef, undef, undef, undef, undef, undef], defers := [] } w8 := by
   clear HTH rm0 r40 r41 r42
   intro b7 w8 t hE8 hB8 hb7 hml
   refine hK _ _ ?_
   clear hK
   obtain ⟨a1, c1, a2, c2, a3, c3⟩ := t
   have HM8 := hid (HM1.out.ext hE8)
   have HK8 : Hid (Kp (MO l own) w w8) := hid ((HE0.out.any.trans HC1.out.mo).trans hE8.any)
   have HB48 := hid (HB41.out.ext hE8)
   have HB8 := hid hB8
   have HML := hid hml
   have hsl : SliceOf 2 KindL w8 (· < l.O) (.slice a1 m.args.length c1) m.args := MethodL.args hml
   have x1 := HB48.out.c 1 (.string xn) rfl
   have xz := HB48.out.lt
   have y1 := hB8.c 1 (.slice a1 m.args.length c1) rfl
   have yz := hB8.lt
   have HSL := hid hsl
   have HTY : Hid (∀ (q : Nat) (k : M.Kind), (M.Kind.mk 2 xn :: m.args)[q]? = some k → True) := hid (fun _ _ _ => trivial)
   have hz8 := hE8.size
   clear hE8 hB8 hml HTY
   refine wp_seq_k fun K hK => ?_
   have tail3 : ∀ (v8 a41 : Value) (w9 : World), Ext w8 w9 → w9.ownsRow w8.heap.size 55 2 v8 (m.args.length + 1) ((M.Kind.mk 2 xn :: m.args).flatMap fun k => [.int .i64 k.kind, .string k.name]) → K { tmps := #[.pointer (some ⟨mb, 0, none⟩), .agg #[.int .i64 xk, .string xn, .int .i64 xa], .slice (some ⟨vb, 0, none⟩) vs.length vc, undef, .pointer (some ⟨w.heap.size, 0, none⟩), undef, .int .i64 0, .pointer (some ⟨b7, 0, none⟩), v8, undef, undef, undef, .pointer (some ⟨mb, 0, none⟩), .pointer (some ⟨mb, 0, none⟩), .pointer (some ⟨mb, 3, none⟩), .slice ca g.cs.length cc, .int .i64 g.cs.length, .bool false, .pointer (some ⟨mb, 0, none⟩), .pointer (some ⟨mb, 0, none⟩), .pointer (some ⟨mb, 1, none⟩), .bool lk, a22, a23, a24, a25, a26, a27, a28, a29, .bool false, .pointer (some ⟨mb, 0, none⟩), .pointer (some ⟨mb, 0, none⟩), .pointer (some ⟨mb, 0, none⟩), .pointer (some ⟨l.L, 0, none⟩), .agg #[.int .i64 xk, .string xn, .int .i64 xa], .agg #[.string m.name, .slice a1 m.args.length c1, .int .i64 m.ret.kind, .string m.ret.name, .int .i64 m.locals, .int .i64 m.stack, .slice a2 m.code.length c2, .slice a3 m.maps.length c3], .pointer (some ⟨w.heap.size, 0, none⟩), .pointer (some ⟨w.heap.size, 1, none⟩), .string xn, .agg #[.int .i64 2, .string xn], a41, .pointer (some ⟨b7, 1, none⟩), .slice a1 m.args.length c1, v8, undef, undef, undef, undef, undef, undef, undef, undef, undef, undef, undef, undef, undef, undef, undef, undef, undef, undef, undef, undef, undef, undef, undef, undef, undef, undef, undef, undef, undef, undef, undef, undef, undef, undef, undef, undef, undef, undef, undef, undef, undef, undef, undef, undef, undef, undef, undef, undef, undef], defers := [] } w9 := by
    clear x1 xz y1 yz hsl
    intro v8 a41 w9 hE9 hrow9
    refine hK _ _ ?_
    clear hK
    have hz9 := hE9.size
    have HM9 := hid (HM8.out.ext hE9)
    have HK9 : Hid (Kp (MO l own) w w9) := hid (HK8.out.trans hE9.any)
    have HB49 := hid (HB48.out.ext hE9)
    have HB79 := hid (HB8.out.ext hE9)
    have HML9 := hid (Stays.ext MethodL.stays hE9 HML.out)
    have HR9 := hid hrow9
    obtain ⟨tb, tc, rfl, -⟩ := owns_form hrow9 (by omega)
    have hvr : w9.ownsRow S 34 2 (.slice (some ⟨vb, 0, none⟩) vs.length vc) vs.length (vs.flatMap valCs) := owns_kp HROW.out HK9.out (fun q hq _ e => HNO.out q hq e)
    have HVR := hid hvr
    obtain ⟨ha, hcap, hva⟩ := HM9.out.heap.form
    have HHR := hid HM9.out.heapR
    have HVA := hid hva
    have hargs3 := HMI.out.args3
    clear hE9 hrow9 hvr hva
    go_wp2_with fail
    go_loopw [47] (fun i wr => ∃ q : Nat, q ≤ vs.length ∧ i = .int .i64 q ∧ Ext w9 wr ∧ Hid (M.hasTypes p xk g.st.heap vs (⟨2, xn⟩ :: m.args) = M.hasTypes p xk g.st.heap (vs.drop q) ((M.Kind.mk 2 xn :: m.args).drop q))) (fun i _ => vs.length - (intOf i).toNat)
    case atStart => exact ⟨0, Nat.zero_le _, rfl, Kp.refl _ _, hid rfl⟩
    case round =>
     obtain ⟨q, hq, rfl, hE, HT9⟩ := hrel
     by_cases hlt : q < vs.length
     · obtain ⟨⟨vk, vn⟩, hv⟩ := elemF vs q hlt
       obtain ⟨⟨kk, kn⟩, hk⟩ := elemF (M.Kind.mk 2 xn :: m.args) q (by have := HVL.out; simp; omega)
       have HOK : Hid (M.valOk ⟨vk, vn⟩ g.os.length = true) := hid (HVS.out _ (List.mem_of_getElem? hv))
       have hcv := (owns_at (enc := valCs) (k := 2) (fun _ => rfl) HVR.out hv).ext hE
       have hct := owns_at (enc := fun k : M.Kind => [.int .i64 k.kind, .string k.name]) (k := 2) (fun _ => rfl) (l := M.Kind.mk 2 xn :: m.args) HR9.out hk
       have g0 := hcv.two.1
       have g1 := hcv.two.2
       have gz := cell_lt g0
       have HTS : Hid (M.hasTypes p xk g.st.heap vs (⟨2, xn⟩ :: m.args) = (M.hasType p xk g.st.heap ⟨vk, vn⟩ ⟨kk, kn⟩ && M.hasTypes p xk g.st.heap (vs.drop (q + 1)) ((M.Kind.mk 2 xn :: m.args).drop (q + 1)))) := hid (by rw [HT9.out, drop_get hv, drop_get hk]; rfl)
       obtain ⟨W4, hW4⟩ : ∃ W4, W4 = wr.alloc (.cells #[.int .i64 vk, .int .i64 vn] 34) := ⟨_, rfl⟩
       have hE4 : Ext wr W4 := by rw [hW4]; exact (KX.k (by repeat (first | assumption | constructor)))
       have b10 : Blk W4 wr.heap.size 34 #[.int .i64 vk, .int .i64 vn] := by rw [hW4]; exact Blk.new _ _ _
       have hE94 := hE.trans hE4
       obtain ⟨T, f, hneT, HT⟩ := Cls.ex (fun W' => Ext W4 W') _ (Kp.refl _ _)
       have rm0 := fun z => (HM9.out.ext (hE94.trans (HT.inn z))).blk.c 0 (.pointer (some ⟨l.L, 0, none⟩)) rfl
       have rm4 := fun z => (HM9.out.ext (hE94.trans (HT.inn z))).blk.c 4 (.slice ha g.os.length hcap) (by rw [← HVA.out]; rfl)
       have r40 := fun z => (HB49.out.ext (hE94.trans (HT.inn z))).c 0 (.int .i64 xk) rfl
       have r100 := fun z => (b10.ext (HT.inn z)).c 0 (.int .i64 vk) rfl
       have r101 := fun z => (b10.ext (HT.inn z)).c 1 (.int .i64 vn) rfl
       have rt0 := fun z => (CellsAt.ext hct (hE94.trans (HT.inn z))).two.1
       have rt1 := fun z => (CellsAt.ext hct (hE94.trans (HT.inn z))).two.2
       have hht := fun W (hW : Ext W4 W) => lodge_hasType W l p (HM9.out.lod.ext (hE94.trans hW)) xk (.slice ha g.os.length hcap) g.st.heap (by rw [← HVA.out]; exact HHR.out.ext (hE94.trans hW)) ⟨vk, vn⟩ (fun e => by have := M.valOk_ref HOK.out e; simpa [Gh.st] using this) ⟨kk, kn⟩
       have HHT := hid hht
       have HTH := hid HT
       have HW4 := hid hW4
       have HE94 := hid hE94
       have hqt : (q : Int) < m.args.length + 1 := by have := HVL.out; omega
       have hqv : (q : Int) < vs.length := by omega
       have hwq : IntKind.i64.wrap ((q : Int) + 1) = q + 1 := IntWalk.i64_in _ (by omega)
       clear HT hht hcv hct hv hk hW4 hE4 b10 hE94
       go_wp2_with fail
       rw [← HW4.out]
       (refine region_mix f 18 [([0, 1, 2, 3, 4, 5, 6, 7, 8, 9, 10, 11, 12, 13, 14, 15], 16)] [17] (HTH.out.out _ ?_) (by kernel_rfl) (by kernel_rfl) (fun _ _ d _ _ h => by cases d <;> exact h) ?_)
       · exact (Kp.refl _ _).drew
       (refine wpMix_cons rfl rfl fun K hK => ?_); (change wpQuiet _ _ _ _ [_, _, _, _, _, _, _, _, _, _, _, _, _, _, _, _] _); (repeat (go_big_quiet_step (fail))); (refine wpQuiet_nil ?_); (refine hK _ fun K2 hK2 => ?_); clear hK K; (change wpList _ _ _ [_] _ _)
       go_wp2_with fail
       refine (HHT.out _ (Kp.refl _ _).drew).mono ?_
       rintro e w5 ⟨rfl, hE5⟩
       have HE5 : Hid (Ext W4 w5) := hid (((Kp.refl _ W4).drew : Ext W4 _).trans hE5)
       clear hE5
       cases hty : M.hasType p xk g.st.heap ⟨vk, vn⟩ ⟨kk, kn⟩
       · replace HV : Hid (M.enter p lk ⟨⟨xk, xn⟩, xa⟩ vs g.st = (10, g.st)) := hid (by rw [HV.out, HTS.out, hty]; rfl)
         clear hty
         go_wp2_with fail
         (refine hK2 _ _ (HTH.out.out _ HE5.out) ?_); clear hK2 K2
         (refine wpMix_nil rfl fun K hK => ?_); (change wpQuiet _ _ _ _ [_] _); (repeat (go_big_quiet_step (fail))); (refine wpQuiet_nil ?_); (refine hK _ ?_); clear hK K; (simp only [List.drop_succ_cons, List.drop_zero, List.drop_nil, wpList])
         go_wp2_with fail
         go_ret
         rw [HV.out]
         exact MEnd.mk' (HK9.out.trans (HE94.out.trans HE5.out).any) (Agr.refl _ _) (HM9.out.ext (HE94.out.trans HE5.out)) rfl
       · have HT2 : Hid (M.hasTypes p xk g.st.heap vs (⟨2, xn⟩ :: m.args) = M.hasTypes p xk g.st.heap (vs.drop (q + 1)) ((M.Kind.mk 2 xn :: m.args).drop (q + 1))) := hid (by rw [HTS.out, hty]; rfl)
         clear hty
         go_wp2_with fail
         (refine hK2 _ _ (HTH.out.out _ HE5.out) ?_); clear hK2 K2
         (refine wpMix_nil rfl fun K hK => ?_); (change wpQuiet _ _ _ _ [_] _); (repeat (go_big_quiet_step (fail))); (refine wpQuiet_nil ?_); (refine hK _ ?_); clear hK K; (simp only [List.drop_succ_cons, List.drop_zero, List.drop_nil, wpList])
         go_wp2_with fail
         exact ⟨⟨q + 1, by omega, by simp, HE94.out.trans HE5.out, HT2⟩, by simp [intOf]; omega⟩
     · have hqe : q = vs.length := by omega
       replace HV : Hid (M.enter p lk ⟨⟨xk, xn⟩, xa⟩ vs g.st = (1, { g.st with frames := g.st.frames ++ [⟨⟨⟨xk, xn⟩, xa⟩, 0, vs ++ List.replicate (m.locals.toNat - vs.length) M.zval, []⟩] })) := hid (by
        rw [HV.out, HT9.out, hqe, List.drop_length]; rfl)
       obtain ⟨n, hn⟩ : ∃ n : Nat, m.locals = n := ⟨m.locals.toNat, by have := HMI.out.args; omega⟩
       have hn6 : n ≤ 6 := by have := HMI.out.locals; omega
       have hvn : vs.length ≤ n := by have := HMI.out.args; have := HVL.out; omega
       obtain ⟨MC, hMC⟩ : ∃ MC, MC = madeCells (Value.agg #[.int .i64 0, .int .i64 0]).cells (n * 2) := ⟨_, rfl⟩
       have hmcl : MC.toList = (List.replicate n M.zval).flatMap valCs := by rw [hMC]; exact made_vals hn6
       have hmk : ∀ W : World, (Instr.makeSlice 103 (.int .i64 n) (.int .i64 n)).run Tryz.prog W = .ok (.slice (some ⟨W.heap.size, 0, none⟩) n n) (W.alloc (.cells MC 34)) := fun W => by
        obtain ⟨i, z, bytes, ht, hi, hz, hsz, hby, hzs, hk, hb⟩ := elem_val
        have hz2 : z = .agg #[.int .i64 0, .int .i64 0] := by
         have e : (Tryz.prog.info? 34).map (·.zero) = some (some (.agg #[.int .i64 0, .int .i64 0])) := by kernel_rfl
         rw [hi] at e
         simp only [Option.map_some, Option.some.injEq] at e
         rw [hz] at e; cases e; rfl
        have := run_makeSlice (P := Tryz.prog) W 103 34 i z ht hi hz .i64 .i64 n n (by omega) (Int.le_refl _) (by rw [hsz]; simp; omega) (by
         have : (i.bytes : Int) * n ≤ 4096 * 6 := Int.mul_le_mul (by omega) (by omega) (by omega) (by omega)
         omega) (by omega)
        rw [hsz, hz2] at this
        simpa [hMC] using this
       have HE := hid hE
       have y4 := (HB79.out.ext hE).c 4 (.int .i64 n) (by rw [← hn]; rfl)
       have yz := (HB79.out.ext hE).lt
       have HN := hid hn
       have HMC := hid hmcl
       have hrowM : (wr.alloc (.cells MC 34)).ownsRow wr.heap.size 34 2 (.slice (some ⟨wr.heap.size, 0, none⟩) n n) n ((List.replicate n M.zval).flatMap valCs) := by
        rw [← hmcl]
        exact World.ownsRow_lit wr MC n (Nat.le_refl _) (by unfold maxLen; omega) (by
         have := congrArg List.length hmcl
         rw [flat_len (k := 2) (fun _ => rfl), List.length_replicate] at this
         simpa using this)
       have HROWM := hid hrowM
       have HFL := hid (owns_flat (owns_kp (D := fun _ => False) HVR.out (hE.alloc (.cells MC 34)) fun _ _ _ x => x) (flat_one one_val vs))
       clear hE hn hMC hmcl hrowM
       go_wp2_with (refine wpList_copyk elem_val _ rfl (.tmp 74) (.tmp 75) rfl wr.heap.size wr.heap.size n n vs.length vc _ _ rfl HROWM.out ⟨vb, 0, none⟩ rfl HFL.out hvn ?_)
       intro w10 hown10 hK10
       have hE10 : Ext wr w10 := ((KX.k (by repeat (first | assumption | constructor))) : Ext wr (wr.alloc (.cells MC 34))).own hK10 (fun b e => by omega)
       have hloc : w10.ownsRow wr.heap.size 34 2 (.slice (some ⟨wr.heap.size, 0, none⟩) n n) n ((vs ++ List.replicate (n - vs.length) M.zval).flatMap valCs) := by
        rw [List.flatMap_append]
        have e1 : ((List.replicate n M.zval).flatMap valCs).drop (vs.length * 2) = (List.replicate (n - vs.length) M.zval).flatMap valCs := by
         have e2 : List.replicate n M.zval = List.replicate vs.length M.zval ++ List.replicate (n - vs.length) M.zval := by rw [List.replicate_append_replicate]; congr 1; omega
         rw [e2, List.flatMap_append, List.drop_left' (by rw [flat_len (k := 2) (fun _ => rfl)]; simp)]
        rw [e1] at hown10
        exact hown10
       have HE10 := hid hE10
       have hM10 := HM9.out.ext (HE.out.trans hE10)
       have HM10 := hid hM10
       have HK10 : Hid (Kp (MO l own) w w10) := hid (HK9.out.trans (HE.out.trans hE10).any)
       have HLOC := hid hloc
       have hz10 : wr.heap.size < w10.heap.size := by have := (hloc.lt wr.heap.size rfl).2; exact this
       have hwr9 := HE.out.size
       have hvm : ¬ g.vc.ownBlock = some mb := fun e => by have := hM10.calls.role _ e; rw [hM10.role] at this; cases this
       have hvw : ∀ b, w.heap.size ≤ b → ¬ g.vc.ownBlock = some b := fun b hb e => by have := (H.out.calls.blk e).2; omega
       obtain ⟨T, f, hneT, HT⟩ := Cls.ex (fun W' => Kp (fun b => g.vc.ownBlock = some b) w10 W') _ (Kp.refl _ _)
       have hB7 := HB79.out.ext (HE.out.trans hE10)
       have hB4 := HB49.out.ext (HE.out.trans hE10)
       have hb7w : w.heap.size ≤ b7 := by omega
       have rm3 := fun z => (hM10.blk.kp (HT.inn z) hvm).c 3 (.slice ca g.cs.length cc) (by rw [← HVC.out]; rfl)
       have r40 := fun z => (hB4.kp (HT.inn z) (hvw _ (Nat.le_refl _))).c 0 (.int .i64 xk) rfl
       have r41 := fun z => (hB4.kp (HT.inn z) (hvw _ (Nat.le_refl _))).c 1 (.string xn) rfl
       have r42 := fun z => (hB4.kp (HT.inn z) (hvw _ (Nat.le_refl _))).c 2 (.int .i64 xa) rfl
       have r70 := fun z => (hB7.kp (HT.inn z) (hvw _ hb7w)).c 0 (.string m.name) rfl
       have r71 := fun z => (hB7.kp (HT.inn z) (hvw _ hb7w)).c 1 (.slice a1 m.args.length c1) rfl
       have r72 := fun z => (hB7.kp (HT.inn z) (hvw _ hb7w)).c 2 (.int .i64 m.ret.kind) rfl
       have r73 := fun z => (hB7.kp (HT.inn z) (hvw _ hb7w)).c 3 (.string m.ret.name) rfl
       have r74 := fun z => (hB7.kp (HT.inn z) (hvw _ hb7w)).c 4 (.int .i64 m.locals) rfl
       have r75 := fun z => (hB7.kp (HT.inn z) (hvw _ hb7w)).c 5 (.int .i64 m.stack) rfl
       have r76 := fun z => (hB7.kp (HT.inn z) (hvw _ hb7w)).c 6 (.slice a2 m.code.length c2) rfl
       have r77 := fun z => (hB7.kp (HT.inn z) (hvw _ hb7w)).c 7 (.slice a3 m.maps.length c3) rfl
       have HTH := hid HT
       have HVM := hid hvm
       clear hown10 hK10 hE10 hloc hM10 HT hB7 hB4 hvm y4 yz hmk
       go_wp2_with fail
       (refine region_mix f 15 [([0, 1, 2, 3, 4, 5, 6, 7, 8, 9, 10, 11], 12), ([], 13), ([], 14)] [] (HTH.out.out _ ?_) (by kernel_rfl) (by kernel_rfl) (fun _ _ d _ _ h => by cases d <;> exact h) ?_)
       · exact (Kp.refl _ _).drew
       (refine wpMix_cons rfl rfl fun K hK => ?_); (change wpQuiet _ _ _ _ [_, _, _, _, _, _, _, _, _, _, _, _] _); (repeat (go_big_quiet_step (fail))); (refine wpQuiet_nil ?_); (refine hK _ fun K2 hK2 => ?_); clear hK K; (change wpList _ _ _ [_] _ _)
       go_wp2_with fail
       (refine hK2 _ _ (HTH.out.out _ (KX.k (by repeat (first | assumption | constructor)))) ?_); clear hK2 K2
       (refine wpMix_cons rfl rfl fun K hK => ?_); (change wpQuiet _ _ _ _ [] _); (refine wpQuiet_nil ?_); (refine hK _ fun K2 hK2 => ?_); clear hK K; (change wpList _ _ _ [_] _ _)
       go_wp2_with fail
       (refine hK2 _ _ (HTH.out.out _ (KX.k (by repeat (first | assumption | constructor)))) ?_); clear hK2 K2
       (refine wpMix_cons rfl rfl fun K hK => ?_); (change wpQuiet _ _ _ _ [] _); (refine wpQuiet_nil ?_); (refine hK _ fun K2 hK2 => ?_); clear hK K; (change wpList _ _ _ [_] _ _)
       obtain ⟨wB, hwB⟩ : ∃ wB, wB = ((w10.alloc (.cells #[.int .i64 xk, .string xn, .int .i64 xa, .string m.name, .slice a1 m.args.length c1, .int .i64 m.ret.kind, .string m.ret.name, .int .i64 m.locals, .int .i64 m.stack, .slice a2 m.code.length c2, .slice a3 m.maps.length c3, .int .i64 0, .slice (some ⟨wr.heap.size, 0, none⟩) n n, .slice none 0 0, .int .i64 m.stack] 117)).alloc (.cells #[.pointer (some ⟨w10.heap.size, 0, none⟩)] 112)).drew := ⟨_, rfl⟩
       rw [← hwB]
       have hEB : Ext w10 wB := by rw [hwB]; exact (KX.k (by repeat (first | assumption | constructor)))
       have bB : Blk wB w10.heap.size 117 #[.int .i64 xk, .string xn, .int .i64 xa, .string m.name, .slice a1 m.args.length c1, .int .i64 m.ret.kind, .string m.ret.name, .int .i64 m.locals, .int .i64 m.stack, .slice a2 m.code.length c2, .slice a3 m.maps.length c3, .int .i64 0, .slice (some ⟨wr.heap.size, 0, none⟩) n n, .slice none 0 0, .int .i64 m.stack] := by rw [hwB]; exact (Blk.newAt (W := w10) (g := w10.heap.size) _ _ rfl).ext (KX.k (by repeat (first | assumption | constructor)))
       have bS : CellsAt wB (w10.heap.size + 1) 0 [.pointer (some ⟨w10.heap.size, 0, none⟩)] := by rw [hwB]; exact CellsAt.newD _ _ (by simp)
       have hzB : wB.heap.size = w10.heap.size + 2 := by
        rw [hwB]
        show ((w10.alloc _).alloc _).heap.size = _
        simp
       have hMB := HM10.out.ext hEB
       have hBw : B ≤ w.heap.size := by have := (H.out.dom mb (by rw [H.out.role]; simp)).2; have := H.out.low; omega
       have hon : ∀ b, w.heap.size ≤ b → own b = none := fun b hb => by
        cases e : own b with
        | none => rfl
        | some q => have := (H.out.dom b (by rw [e]; simp)).2; omega
       obtain ⟨own1, hown1⟩ : ∃ own1, own1 = (own.add w10.heap.size (4, g.cs.length)).add wr.heap.size (5, g.cs.length) := ⟨_, rfl⟩
       have hwrw : w.heap.size ≤ wr.heap.size := by omega
       have o1 : ∀ b r, own b = some r → own1 b = some r := fun b r hb => by
        have h1 : b ≠ w10.heap.size := fun e => by rw [e, hon _ (by omega)] at hb; cases hb
        have h2 : b ≠ wr.heap.size := fun e => by rw [e, hon _ (by omega)] at hb; cases hb
        rw [hown1, Own.add_ne _ h2, Own.add_ne _ h1]; exact hb
       have o2 : own1 wr.heap.size = some (5, g.cs.length) := by rw [hown1]; exact Own.add_eq _ _ _
       have o3 : own1 w10.heap.size = some (4, g.cs.length) := by rw [hown1, Own.add_ne _ (by omega)]; exact Own.add_eq _ _ _
       have o4 : ∀ b, b < w.heap.size → own1 b = own b := fun b hb => by rw [hown1, Own.add_ne _ (by omega), Own.add_ne _ (by omega)]
       have o5 : ∀ b, own1 b ≠ none → B ≤ b ∧ b < wB.heap.size := fun b hb => by
        by_cases e1 : b = wr.heap.size
        · subst e1; omega
        · by_cases e2 : b = w10.heap.size
          · subst e2; omega
          · rw [hown1, Own.add_ne _ e1, Own.add_ne _ e2] at hb
            exact hMB.dom b hb
       have hMR := hMB.relabel o1 o5
       have hCA : CallAt wB l p own1 B g.cs.length (⟨⟨⟨⟨xk, xn⟩, xa⟩, 0, vs ++ List.replicate (m.locals.toNat - vs.length) M.zval, []⟩, w10.heap.size, ⟨a1, c1, a2, c2, a3, c3⟩, .slice (some ⟨wr.heap.size, 0, none⟩) n n, .slice none 0 0⟩ : GC) := by
        refine ⟨?_, o3, by show B ≤ w10.heap.size; omega, ?_, ⟨?_, fun q hq => ?_⟩, OwnS.nil _ _ _ _ _ _⟩
        · unfold callCs
          simp only [HM.out]
          exact bB
        · simp only [HM.out]
          exact Stays.ext MethodL.stays ((HE.out.trans HE10.out).trans hEB) HML9.out
        · have h1 := owns_mono (base' := B) (owns_kp (D := fun _ => False) HLOC.out hEB fun _ _ _ x => x) (by omega)
          have e1 : (vs ++ List.replicate (m.locals.toNat - vs.length) M.zval).length = n := by rw [HN.out]; simp; omega
          show World.ownsRow _ B _ 2 _ (vs ++ List.replicate (m.locals.toNat - vs.length) M.zval).length _
          rw [e1, HN.out]
          simpa using h1
        · cases hq; exact o2
       have HMR := hid hMR
       have HCA := hid hCA
       have HO4 := hid o4
       have HKB : Hid (Kp (MO l own) w wB) := hid (HK10.out.trans hEB.any)
       have HBS := hid bS
       have HEB := hid hEB
       clear hwB bB hMB hMR hCA o1 o2 o3 o4 o5 hown1 bS
       refine wpList_append_at elem_call rfl (.tmp 81) (.tmp 90) rfl B (.slice ca g.cs.length cc) g.cs.length (g.cs.flatMap ptrCs) rfl (by rw [← HVC.out]; exact HMR.out.calls.row) (w10.heap.size + 1) 1 [.pointer (some ⟨w10.heap.size, 0, none⟩)] rfl rfl HBS.out (by simp [Value.oneCell']) (by omega) (by omega) ?_
       intro g9 c9 w12 hO12 hK12 hg9
       change K2 _ _
       rw [← HVC.out] at hK12 hg9
       (refine hK2 _ _ (HTH.out.out _ (HEB.out.any.trans hK12)) ?_); clear hK2 K2
       have hmbk := HMR.out.blk.kp hK12 HVM.out
       have q3 := hmbk.c 3 (.slice ca g.cs.length cc) (by rw [← HVC.out]; rfl)
       have f3 := hmbk.frozen 3
       have qz := hmbk.lt
       have hFI := HFINE.out.2.2.1
       rw [HV.out] at hFI
       have hs : ({ g with cs := g.cs ++ [(⟨⟨⟨⟨xk, xn⟩, xa⟩, 0, vs ++ List.replicate (m.locals.toNat - vs.length) M.zval, []⟩, w10.heap.size, ⟨a1, c1, a2, c2, a3, c3⟩, .slice (some ⟨wr.heap.size, 0, none⟩) n n, .slice none 0 0⟩ : GC)], vc := .slice (some ⟨g9, 0, none⟩) (g.cs.length + 1) c9 } : Gh).st = { g.st with frames := g.st.frames ++ [⟨⟨⟨xk, xn⟩, xa⟩, 0, vs ++ List.replicate (m.locals.toNat - vs.length) M.zval, []⟩] } := by simp [Gh.st]
       obtain ⟨hKM, own', hag, hMM⟩ := HMR.out.addCall (⟨⟨⟨⟨xk, xn⟩, xa⟩, 0, vs ++ List.replicate (m.locals.toNat - vs.length) M.zval, []⟩, w10.heap.size, ⟨a1, c1, a2, c2, a3, c3⟩, .slice (some ⟨wr.heap.size, 0, none⟩) n n, .slice none 0 0⟩ : GC) HCA.out g9 c9 hO12 hK12 (by
        rcases hg9 with e | e
        · exact .inl e
        · right; omega) (by rw [hs]; exact hFI)
       have HFIN : Hid (MEnd w l p own B mb lk (.int .i64 1) { g.st with frames := g.st.frames ++ [⟨⟨⟨xk, xn⟩, xa⟩, 0, vs ++ List.replicate (m.locals.toNat - vs.length) M.zval, []⟩] } (.returned (.int .i64 1)) (w12.setCell ⟨mb, 3, none⟩ (.slice (some ⟨g9, 0, none⟩) (g.cs.length + 1) c9))) :=
        hid (MEnd.mk' (HKB.out.mo hKM (fun b hb => HO4.out b hb)) (fun b hb => (hag b (by omega)).trans (HO4.out b hb)) hMM hs)
       clear hKM hag hMM hs hFI hmbk hO12 hK12 hg9 HTH rm3 r40 r41 r42 r70 r71 r72 r73 r74 r75 r76 r77
       (refine wpMix_nil rfl fun K hK => ?_); (change wpQuiet _ _ _ _ [] _); (refine wpQuiet_nil ?_); (refine hK _ ?_); clear hK K
       go_wp2_with fail
       go_ret
       rw [HV.out]
       exact HFIN.out
   have TAIL3 := hid tail3
   clear tail3 hK
   cases a1 with
   | none =>
    have hnil : m.args = [] := by
     cases hma : m.args with
     | nil => rfl
     | cons k r =>
      rw [hma] at hsl
      obtain ⟨_, _, _, e, _⟩ := hsl.get (i := 0) (x := k) rfl
      cases e
    have hown : (w8.alloc (.cells #[.int .i64 2, .string xn] 55)).ownsRow w8.heap.size 55 2 (.slice (some ⟨w8.heap.size, 0, none⟩) 1 1) (m.args.length + 1) ((M.Kind.mk 2 xn :: m.args).flatMap fun k => [.int .i64 k.kind, .string k.name]) := by
     rw [hnil]
     exact World.ownsRow_lit w8 #[.int .i64 2, .string xn] 1 (Nat.le_refl _) (by unfold maxLen; omega) rfl
    have hT := TAIL3.out (.slice (some ⟨w8.heap.size, 0, none⟩) 1 1) (.slice (some ⟨w8.heap.size, 0, none⟩) 1 1) _ ((KX.k (by repeat (first | assumption | constructor))) : Ext w8 (w8.alloc (.cells #[.int .i64 2, .string xn] 55))) hown
    simp only [hnil, List.length_nil] at hT
    have HT' := hid hT
    clear hT hown
    go_wp2_with fail
    exact HT'.out
   | some ad =>
    have hflat := SliceOf.toFlat (R := KindL) (enc := fun k => [.int .i64 k.kind, .string k.name]) (fun _ _ _ _ e => e) (fun _ => rfl) (by simp [Value.oneCell']) hsl
    have HFL := hid hflat
    clear hsl hflat
    have hn3 : 1 + m.args.length ≤ 8589934592 := by have := HMI.out.args3; omega
    have hown : (w8.alloc (.cells #[.int .i64 2, .string xn] 55)).ownsRow w8.heap.size 55 2 (.slice (some ⟨w8.heap.size, 0, none⟩) 1 1) 1 [.int .i64 2, .string xn] := World.ownsRow_lit w8 _ 1 (Nat.le_refl _) (by unfold maxLen; omega) rfl
    have HOWN := hid hown
    clear hown
    go_wp2_with (at_builtin; refine wpList_append_flat elem_kind _ rfl (.tmp 41) (.tmp 43) rfl w8.heap.size _ 1 [.int .i64 2, .string xn] rfl HOWN.out ad m.args.length c1 _ rfl (HFL.out.ext (KX.k (by repeat (first | assumption | constructor)))) hn3 (by simp) ?_)
    intro v' w9 hown9 hK9
    have HO9 := hid hown9
    have HE9 : Hid (Ext w8 w9) := hid (((KX.k (by repeat (first | assumption | constructor))) : Ext w8 (w8.alloc (.cells #[.int .i64 2, .string xn] 55))).own hK9 (fun b e => by simp only [Value.ownBlock, Option.some.injEq] at e; omega))
    clear hown9 hK9
    go_wp2_with fail
    exact TAIL3.out _ _ _ HE9.out (by rw [Nat.add_comm]; exact HO9.out)
  clear hK
  have TAIL2 := hid tail2
  clear tail2
  (refine region_tree f 7 (.two [0, 1, 2, 3, 4] 5 6 (.one [] 6 (.fin [])) (.one [] 5 (.fin []))) (HTH.out.out _ ?_) (by kernel_rfl) (by kernel_rfl) (fun _ _ d _ _ h => by cases d <;> exact h) ?_)
  · exact (Kp.refl _ _).drew
  (refine wpT_two rfl rfl rfl fun K hK => ?_); (change wpQuiet _ _ _ _ [_, _, _, _, _] _); (repeat (go_big_quiet_step (fail))); (refine wpQuiet_nil ?_); ((refine hK _ (fun K2 hK2 => ?_) (fun K2 hK2 => ?_)) <;> (clear hK K; (change wpList _ _ _ [_] _ _)))
  · go_wp2_with fail
    have hmm := lodge_method' w1.drew l p (HM1.out.lod.ext (Kp.refl _ _).drew) ⟨⟨xk, xn⟩, xa⟩ HX.out
    rw [HM.out] at hmm
    refine hmm.mono ?_
    rintro e w8 ⟨⟨cs, hml, rfl⟩, hE8⟩
    obtain ⟨t2, rfl⟩ := mthCs_form hml
    have HE8 : Hid (Ext w1 w8) := hid (((Kp.refl _ _).drew).trans hE8)
    have HML := hid hml
    clear hml hE8 hmm
    simp only [mthCs]
    go_wp2_with fail
    (refine hK2 _ _ (HTH.out.out _ HE8.out) ?_); clear hK2 K2
    (refine wpT_one rfl rfl fun K hK => ?_); (change wpQuiet _ _ _ _ [] _); (refine wpQuiet_nil ?_); (refine hK _ fun K2 hK2 => ?_); clear hK K; (change wpList _ _ _ [_] _ _)
    go_wp2_with fail
    (refine hK2 _ _ (HTH.out.out _ (HE8.out.alloc _)) ?_); clear hK2 K2
    clear HTH rm0 r40 r41 r42
    (refine wpT_fin rfl fun K hK => ?_); (change wpQuiet _ _ _ _ [] _); (refine wpQuiet_nil ?_); (refine hK _ ?_); clear hK K
    go_wp2_with fail
    exact TAIL2.out _ _ t2 (HE8.out.alloc _) (Blk.new _ _ _) HE8.out.size (Stays.ext MethodL.stays ((KX.k (by repeat (first | assumption | constructor))) : Ext w8 _) HML.out)
  · go_wp2_with fail
    (refine hK2 _ _ (HTH.out.out _ (((Kp.refl _ _).drew).alloc _)) ?_); clear hK2 K2
    (refine wpT_one rfl rfl fun K hK => ?_); (change wpQuiet _ _ _ _ [] _); (refine wpQuiet_nil ?_); (refine hK _ fun K2 hK2 => ?_); clear hK K; (change wpList _ _ _ [_] _ _)
    go_wp2_with fail
    have b5 : Blk (w1.alloc (.cells #[.string ⟨#[]⟩, .slice none 0 0, .int .i64 0, .string ⟨#[]⟩, .int .i64 0, .int .i64 0, .slice none 0 0, .slice none 0 0] 60)).drew w1.heap.size 60 #[.string ⟨#[]⟩, .slice none 0 0, .int .i64 0, .string ⟨#[]⟩, .int .i64 0, .int .i64 0, .slice none 0 0, .slice none 0 0] := (Blk.new _ _ _).ext (Kp.refl _ _).drew
    have hmm := lodge_method' ((w1.alloc (.cells #[.string ⟨#[]⟩, .slice none 0 0, .int .i64 0, .string ⟨#[]⟩, .int .i64 0, .int .i64 0, .slice none 0 0, .slice none 0 0] 60)).drew) l p (HM1.out.lod.ext ((Kp.refl _ _).alloc _).drew) ⟨⟨xk, xn⟩, xa⟩ HX.out
    rw [HM.out] at hmm
    refine hmm.mono ?_
    rintro e w8 ⟨⟨cs, hml, rfl⟩, hE8⟩
    obtain ⟨t2, rfl⟩ := mthCs_form hml
    have HE8 : Hid (Ext w1 w8) := hid ((((Kp.refl _ w1).alloc _).drew).trans hE8)
    have b53 := b5.ext hE8
    have y0 := b53.c 0 (.string ⟨#[]⟩) rfl
    have y1 := b53.c 1 (.slice none 0 0) rfl
    have y2 := b53.c 2 (.int .i64 0) rfl
    have y3 := b53.c 3 (.string ⟨#[]⟩) rfl
    have y4 := b53.c 4 (.int .i64 0) rfl
    have y5 := b53.c 5 (.int .i64 0) rfl
    have y6 := b53.c 6 (.slice none 0 0) rfl
    have y7 := b53.c 7 (.slice none 0 0) rfl
    have g0 := b53.frozen 0
    have g1 := b53.frozen 1
    have g2 := b53.frozen 2
    have g3 := b53.frozen 3
    have g4 := b53.frozen 4
    have g5 := b53.frozen 5
    have g6 := b53.frozen 6
    have g7 := b53.frozen 7
    have z5 := b53.lt
    obtain ⟨w9, hw9⟩ : ∃ w9, w9 = ((((((((w8.setCell ⟨w1.heap.size, 0, none⟩ (.string m.name)).setCell ⟨w1.heap.size, 1, none⟩ (.slice t2.a1 m.args.length t2.c1)).setCell ⟨w1.heap.size, 2, none⟩ (.int .i64 m.ret.kind)).setCell ⟨w1.heap.size, 3, none⟩ (.string m.ret.name)).setCell ⟨w1.heap.size, 4, none⟩ (.int .i64 m.locals)).setCell ⟨w1.heap.size, 5, none⟩ (.int .i64 m.stack)).setCell ⟨w1.heap.size, 6, none⟩ (.slice t2.a2 m.code.length t2.c2)).setCell ⟨w1.heap.size, 7, none⟩ (.slice t2.a3 m.maps.length t2.c3)) := ⟨_, rfl⟩
    have hK9 : Kp (· = w1.heap.size) w8 w9 := by rw [hw9]; exact Kp.set8 (D := (· = w1.heap.size)) rfl _ _ _ _ _ _ _ _
    have b9 : Blk w9 w1.heap.size 60 (mthCs m t2).toArray := by rw [hw9]; exact b53.set8 _ _ _ _ _ _ _ _
    have hz7 := HM1.out.lod.lt
    have hord7 := HM1.out.lod.ord
    have HE9 : Hid (Ext w1 w9) := hid (HE8.out.own hK9 (fun k e => by omega))
    have HML := hid (Stays.kp MethodL.stays hK9 (fun b hb e => by omega) hml)
    have HB9 := hid b9
    have HW9 := hid hw9
    clear b5 b53 hml hE8 hw9 hK9 b9 hmm
    simp only [mthCs]
    go_wp2_with fail
    (refine hK2 _ _ (HTH.out.out _ HE8.out) ?_); clear hK2 K2
    clear HTH rm0 r40 r41 r42
    (refine wpT_fin rfl fun K hK => ?_); (change wpQuiet _ _ _ _ [] _); (refine wpQuiet_nil ?_); (refine hK _ ?_); clear hK K
    go_wp2_with fail
    rw [← HW9.out]
    exact TAIL2.out _ _ t2 HE9.out HB9.out (Nat.le_refl _) HML.out
 clear hK
 have TAIL := hid tail
 have TAIL0 := hid tail0
 clear tail tail0
 cases lk
 · replace HV : Hid (M.enter p false ⟨⟨xk, xn⟩, xa⟩ vs g.st = if M.hasTypes p xk g.st.heap vs (⟨2, xn⟩ :: m.args) then (1, { g.st with frames := g.st.frames ++ [⟨⟨⟨xk, xn⟩, xa⟩, 0, vs ++ List.replicate (m.locals.toNat - vs.length) M.zval, []⟩] }) else (10, g.st)) := hid HV.out
   (refine region_mix f 13 [([0, 1, 2, 3, 4, 5, 6, 7, 8, 9], 10)] [11, 12] (HTH.out.out _ ?_) (by kernel_rfl) (by kernel_rfl) (fun _ _ d _ _ h => by cases d <;> exact h) ?_)
   · exact (LC.refl HA.out.lod).drew
   (refine wpMix_cons rfl rfl fun K hK => ?_); (change wpQuiet _ _ _ _ [_, _, _, _, _, _, _, _, _, _] _); (repeat (go_big_quiet_step (fail))); (refine wpQuiet_nil ?_); (refine hK _ fun K2 hK2 => ?_); clear hK K; (change wpList _ _ _ [_] _ _)
   go_wp2_with fail
   (refine hK2 _ _ (HTH.out.out _ (LC.refl HA.out.lod).drew) ?_); clear hK2 K2
   (refine wpMix_nil rfl fun K hK => ?_); (change wpQuiet _ _ _ _ [_, _] _); (repeat (go_big_quiet_step (fail))); (refine wpQuiet_nil ?_); (refine hK _ ?_); clear hK K; (simp only [List.drop_succ_cons, List.drop_zero, List.drop_nil, wpList])
   go_wp2_with fail
   exact TAIL.out _ _ _ _ _ _ _ _ _ (LC.refl HA.out.lod).drew HV.out
 · (refine region_mix f 13 [([0, 1, 2, 3, 4, 5, 6, 7, 8, 9], 10)] [11, 12] (HTH.out.out _ ?_) (by kernel_rfl) (by kernel_rfl) (fun _ _ d _ _ h => by cases d <;> exact h) ?_)
   · exact (LC.refl HA.out.lod).drew
   (refine wpMix_cons rfl rfl fun K hK => ?_); (change wpQuiet _ _ _ _ [_, _, _, _, _, _, _, _, _, _] _); (repeat (go_big_quiet_step (fail))); (refine wpQuiet_nil ?_); (refine hK _ fun K2 hK2 => ?_); clear hK K; (change wpList _ _ _ [_] _ _)
   go_wp2_with fail
   refine (lodge_right _ _ _ (HA.out.lod.ext (Kp.refl _ _).drew) ⟨⟨xk, xn⟩, xa⟩ HX.out).mono ?_
   rintro e w1 ⟨rfl, hK1, hL1⟩
   have HC1 : Hid (LC l p w0 w1) := hid ((LC.refl HA.out.lod).drew.step hL1 hK1)
   clear hK1 hL1
   cases hr : M.right p ⟨⟨xk, xn⟩, xa⟩
   · rw [hr] at HV
     replace HV : Hid (M.enter p true ⟨⟨xk, xn⟩, xa⟩ vs g.st = (5, g.st)) := hid HV.out
     clear hr
     go_wp2_with fail
     (refine hK2 _ _ (HTH.out.out _ HC1.out) ?_); clear hK2 K2
     (refine wpMix_nil rfl fun K hK => ?_); (change wpQuiet _ _ _ _ [_, _] _); (repeat (go_big_quiet_step (fail))); (refine wpQuiet_nil ?_); (refine hK _ ?_); clear hK K; (simp only [List.drop_succ_cons, List.drop_zero, List.drop_nil, wpList])
     go_wp2_with fail
     exact TAIL0.out _ _ _ _ _ _ _ _ _ HC1.out HV.out
   · rw [hr] at HV
     replace HV : Hid (M.enter p true ⟨⟨xk, xn⟩, xa⟩ vs g.st = if M.hasTypes p xk g.st.heap vs (⟨2, xn⟩ :: m.args) then (1, { g.st with frames := g.st.frames ++ [⟨⟨⟨xk, xn⟩, xa⟩, 0, vs ++ List.replicate (m.locals.toNat - vs.length) M.zval, []⟩] }) else (10, g.st)) := hid HV.out
     clear hr
     go_wp2_with fail
     (refine hK2 _ _ (HTH.out.out _ HC1.out) ?_); clear hK2 K2
     (refine wpMix_nil rfl fun K hK => ?_); (change wpQuiet _ _ _ _ [_, _] _); (repeat (go_big_quiet_step (fail))); (refine wpQuiet_nil ?_); (refine hK _ ?_); clear hK K; (simp only [List.drop_succ_cons, List.drop_zero, List.drop_nil, wpList])
     go_wp2_with fail
     exact TAIL.out _ _ _ _ _ _ _ _ _ HC1.out HV.out
end Go.Proofs.YtjdfceejkneofaaGreat
