/- Walks: a run as it stands.; Walks: a run is started. -/
import Derived.Test.YtjdfceejkneofaaGreatJat
set_option maxRecDepth 100000
set_option maxHeartbeats 4000000
set_option linter.unusedSimpArgs false
set_option linter.unusedVariables false
namespace Go.Proofs.YtjdfceejkneofaaGreat
open Go Go.RowKit
open Go.Lib (hid)
theorem elem_frame : Elem 30 105 6 := elem_of (z := .agg #[.int .i64 0, .string ⟨#[]⟩, .int .i64 0, .int .i64 0, .slice none 0 0, .slice none 0 0]) (bytes := 88) Tryz.underlying30 (by kernel_rfl) rfl (by decide) (by decide)
structure GF where
 f : M.Fr
 vl : Value
 vs : Value
def frCs (x : GF) : List Value := [.int .i64 x.f.of.of.keeper, .string x.f.of.of.name, .int .i64 x.f.of.at_, .int .i64 x.f.pc, x.vl, x.vs]
structure FrOut (w : World) (own : Own) (B : Nat) (v : Value) (fs : List GF) : Prop where
 dom : ∀ b, own b ≠ none → B ≤ b ∧ b < w.heap.size
 row : OwnS w own B (8, 0) 105 6 v fs.length (fs.flatMap frCs)
 loc : ∀ j x, fs[j]? = some x → OwnS w own B (9, j) 34 2 x.vl x.f.locals.length (x.f.locals.flatMap valCs)
 stk : ∀ j x, fs[j]? = some x → OwnS w own B (10, j) 34 2 x.vs x.f.stack.length (x.f.stack.flatMap valCs)
theorem FrOut.nil (w : World) (B : Nat) : FrOut w (fun _ => none) B (.slice none 0 0) [] :=
 ⟨fun b h => absurd rfl h, OwnS.nil _ _ _ _ _ _, fun j o h => by simp at h, fun j o h => by simp at h⟩
theorem FrOut.slice {w : World} {own : Own} {B : Nat} {v : Value} {fs : List GF} (h : FrOut w own B v fs) {I : Nat → Prop} (hI : ∀ b, B ≤ b → b < w.heap.size → I b) (hl : fs.length ≤ 4294967296) (hf : ∀ x ∈ fs, x.f.locals.length ≤ 4294967296 ∧ x.f.stack.length ≤ 4294967296) : SliceOf 6 FrL w I v (fs.map GF.f) := by
 have hall : ∀ x ∈ fs, SliceOf 2 ValL w I x.vl x.f.locals ∧ SliceOf 2 ValL w I x.vs x.f.stack := fun x hx => by
  obtain ⟨j, hj, e⟩ := List.getElem_of_mem hx
  have hj' : fs[j]? = some x := by rw [List.getElem?_eq_getElem hj, e]
  exact ⟨SliceOf.of_owns valCs (h.loc j x hj').row rfl rfl (fun _ _ => rfl) (fun _ _ => rfl) (fun b h1 h2 => hI b h1 h2) (hf x hx).1,
   SliceOf.of_owns valCs (h.stk j x hj').row rfl rfl (fun _ _ => rfl) (fun _ _ => rfl) (fun b h1 h2 => hI b h1 h2) (hf x hx).2⟩
 have hs : SliceOf 6 (fun w I (x : GF) cs => (SliceOf 2 ValL w I x.vl x.f.locals ∧ SliceOf 2 ValL w I x.vs x.f.stack) ∧ cs = frCs x) w I v fs :=
  SliceOf.of_owns frCs h.row.row rfl rfl (fun _ _ => rfl) (fun o ho => ⟨hall o ho, rfl⟩) (fun b h1 h2 => hI b h1 h2) hl
 obtain ⟨a, c, e, h1, h2, h3⟩ := hs
 refine ⟨a, c, by rw [e, List.length_map], by rw [List.length_map]; exact h1, by rw [List.length_map]; exact h2, fun i x hx => ?_⟩
 rw [List.getElem?_map] at hx
 cases hi : fs[i]? with
 | none => rw [hi] at hx; cases hx
 | some o =>
  rw [hi] at hx; cases hx
  obtain ⟨b, off, cs, ea, hIb, ⟨hsl, rfl⟩, hlen, hc⟩ := h3 i o hi
  exact ⟨b, off, _, ea, hIb, ⟨o.vl, o.vs, rfl, hsl.1, hsl.2⟩, hlen, hc⟩
theorem FrOut.ext {w w' : World} {own : Own} {B : Nat} {v : Value} {fs : List GF} (h : FrOut w own B v fs) (hE : Ext w w') : FrOut w' own B v fs :=
 ⟨fun b hb => ⟨(h.dom b hb).1, Nat.lt_of_lt_of_le (h.dom b hb).2 hE.size⟩, h.row.ext hE, fun j x hx => (h.loc j x hx).ext hE, fun j x hx => (h.stk j x hx).ext hE⟩
theorem FrOut.kp {D : Nat → Prop} {w w' : World} {own : Own} {B : Nat} {v : Value} {fs : List GF} (h : FrOut w own B v fs) (hk : Kp D w w') (hD : ∀ b, own b ≠ none → ¬ D b) : FrOut w' own B v fs :=
 ⟨fun b hb => ⟨(h.dom b hb).1, Nat.lt_of_lt_of_le (h.dom b hb).2 hk.size⟩, h.row.keep hk (Agr.refl _ _) fun b hb _ => hD b (by rw [hb]; simp),
  fun j o ho => (h.loc j o ho).keep hk (Agr.refl _ _) fun b hb _ => hD b (by rw [hb]; simp), fun j o ho => (h.stk j o ho).keep hk (Agr.refl _ _) fun b hb _ => hD b (by rw [hb]; simp)⟩
theorem MachAt.things {w : World} {l : Lodge} {p : M.Plan} {own : Own} {B mb : Nat} {lk : Bool} {g : Gh} (h : MachAt w l p own B mb lk g) : SliceOf 3 ObjL w (fun _ => True) g.vh g.st.heap := by
 have hh := M.heapOk_iff.1 h.good.heap
 have hlay : ∀ o ∈ g.st.heap, o.fields.length ≤ 4294967296 := fun o ho => by
  rw [(hh.2 o ho).2.1]
  have h1 := layout_small h.lod.ok (M.chain p o.of).reverse
  have h2 := M.chain_len p o.of
  unfold M.layout
  rw [if_pos (hh.2 o ho).1]
  rw [List.length_reverse] at h1
  omega
 have hall : ∀ o ∈ g.os, SliceOf 2 ValL w (fun _ => True) o.v o.o.fields := fun o ho => by
  obtain ⟨j, hj, e⟩ := List.getElem_of_mem ho
  exact SliceOf.of_owns valCs (h.obj j o (by rw [List.getElem?_eq_getElem hj, e])).row rfl rfl (fun _ _ => rfl) (fun _ _ => rfl) (fun b h1 h2 => trivial) (hlay o.o (by simp only [Gh.st]; exact List.mem_map_of_mem ho))
 have hl : g.os.length ≤ 4294967296 := by
  have := hh.1
  simp only [Gh.st, List.length_map] at this
  omega
 have hs : SliceOf 3 (fun w I (x : GO) cs => SliceOf 2 ValL w I x.v x.o.fields ∧ cs = objCs x) w (fun _ => True) g.vh g.os :=
  SliceOf.of_owns objCs h.heap.row rfl rfl (fun _ _ => rfl) (fun o ho => ⟨hall o ho, rfl⟩) (fun b h1 h2 => trivial) hl
 obtain ⟨a, c, e, h1, h2, h3⟩ := hs
 refine ⟨a, c, by rw [e]; simp [Gh.st], by simpa [Gh.st] using h1, by simpa [Gh.st] using h2, fun i x hx => ?_⟩
 simp only [Gh.st] at hx
 rw [List.getElem?_map] at hx
 cases hi : g.os[i]? with
 | none => rw [hi] at hx; cases hx
 | some o =>
  rw [hi] at hx; cases hx
  obtain ⟨b, off, cs, ea, hIb, ⟨hsl, rfl⟩, hlen, hc⟩ := h3 i o hi
  exact ⟨b, off, _, ea, trivial, ⟨o.v, rfl, hsl⟩, hlen, hc⟩
theorem Kp.set6 {D : Nat → Prop} {w : World} {b : Nat} (hD : D b) (v0 v1 v2 v3 v4 v5 : Value) : Kp D w ((((((w.setCell ⟨b, 0, none⟩ v0).setCell ⟨b, 1, none⟩ v1).setCell ⟨b, 2, none⟩ v2).setCell ⟨b, 3, none⟩ v3).setCell ⟨b, 4, none⟩ v4).setCell ⟨b, 5, none⟩ v5) :=
 (Kp.set3 hD v0 v1 v2).trans ((((Kp.refl D _).setCell (p := ⟨b, 3, none⟩) (fun _ => hD) v3).setCell (p := ⟨b, 4, none⟩) (fun _ => hD) v4).setCell (p := ⟨b, 5, none⟩) (fun _ => hD) v5)
theorem Blk.set6 {w : World} {b : Nat} {t : TypeId} {u0 u1 u2 u3 u4 u5 : Value} (h : Blk w b t #[u0, u1, u2, u3, u4, u5]) (v0 v1 v2 v3 v4 v5 : Value) : Blk ((((((w.setCell ⟨b, 0, none⟩ v0).setCell ⟨b, 1, none⟩ v1).setCell ⟨b, 2, none⟩ v2).setCell ⟨b, 3, none⟩ v3).setCell ⟨b, 4, none⟩ v4).setCell ⟨b, 5, none⟩ v5) b t #[v0, v1, v2, v3, v4, v5] :=
 (((((h.set_ 0 v0).set_ 1 v1).set_ 2 v2).set_ 3 v3).set_ 4 v4).set_ 5 v5
theorem mach_state (w : World) (l : Lodge) (p : M.Plan) (own : Own) (B mb : Nat) (lk : Bool) (g : Gh) (h : MachAt w l p own B mb lk g) :
    Calls Tryz.prog 32 #[.pointer (some ⟨mb, 0, none⟩)] w fun e w' => (∃ cs, e = .returned (.agg cs.toArray) ∧ StateL w' (fun b => w.heap.size ≤ b) g.st cs) ∧ Ext w w' := by
 obtain ⟨w1, hw1⟩ : ∃ w1, w1 = w.alloc (.cells #[.int .i64 0, .slice none 0 0, .slice none 0 0, .slice none 0 0, .int .i64 0, .int .i64 0] 36) := ⟨_, rfl⟩
 have hE1 : Ext w w1 := by rw [hw1]; exact (KX.k (by repeat (first | assumption | constructor)))
 have b2 : Blk w1 w.heap.size 36 #[.int .i64 0, .slice none 0 0, .slice none 0 0, .slice none 0 0, .int .i64 0, .int .i64 0] := by rw [hw1]; exact Blk.new _ _ _
 have hz1 : w1.heap.size = w.heap.size + 1 := by rw [hw1]; simp
 obtain ⟨ca, cc, hvc⟩ := h.calls.form
 obtain ⟨ha, hc, hvh⟩ := h.heap.form
 obtain ⟨oa, oc, hvo⟩ := h.outs.form
 have hmb := h.blk.lt
 have hM1 := h.ext hE1
 obtain ⟨T, f, hneT, HT⟩ := Cls.ex (fun W' => Ext w1 W') _ (Kp.refl _ _)
 have r2 := fun z => (hM1.blk.ext (HT.inn z)).c 2 (.int .i64 g.status) rfl
 have r4 := fun z => (hM1.blk.ext (HT.inn z)).c 4 (.slice ha g.os.length hc) (by rw [← hvh]; rfl)
 have r5 := fun z => (hM1.blk.ext (HT.inn z)).c 5 (.slice oa g.outs.length oc) (by rw [← hvo]; rfl)
 have r6 := fun z => (hM1.blk.ext (HT.inn z)).c 6 (.int .i64 g.back.kind) rfl
 have r7 := fun z => (hM1.blk.ext (HT.inn z)).c 7 (.int .i64 g.back.n) rfl
 have HTH := hid HT
 have H := hid h
 have HM1 := hid hM1
 have HB2 := hid b2
 have HE1 := hid hE1
 have HVC := hid hvc
 have HVH := hid hvh
 have HVO := hid hvo
 have HW1 := hid hw1
 clear HT h hM1 b2 hE1 hvc hvh hvo hw1
 go_enter Tryz.func32, Tryz.ntmps32
 go_wp2_with fail
 rw [← HW1.out]
 rename_i K hK
 have hpl : g.st.heap.length ≤ 12 := (M.heapOk_iff.1 H.out.good.heap).1
 have hol : g.outs.length ≤ 40 := H.out.good.outs
 have hfl : g.cs.length ≤ 8 := by have := H.out.good.nf; simpa [Gh.st] using this
 have hcv : ∀ b, g.vc.ownBlock = some b → b < w.heap.size := fun b e => (H.out.calls.blk e).2
 have tail : ∀ (b3 ch co : Nat) (ah ao : Option Addr) (own1 : Own) (os : List GO) (w3 : World), Ext w1 w3 → os.map GO.o = g.st.heap → HpOut w3 own1 w1.heap.size (.slice ah os.length ch) os →
     w3.ownsRow w1.heap.size 3 1 (.slice ao g.outs.length co) g.outs.length (g.outs.flatMap intCs) → Blk w3 b3 36 #[.int .i64 g.status, .slice none 0 0, .slice ah os.length ch, .slice ao g.outs.length co, .int .i64 g.back.kind, .int .i64 g.back.n] → w1.heap.size ≤ b3 → own1 b3 = none → (Value.slice ao g.outs.length co).ownBlock ≠ some b3 →
     K { tmps := #[.pointer (some ⟨mb, 0, none⟩), undef, .pointer (some ⟨w.heap.size, 0, none⟩), .pointer (some ⟨b3, 0, none⟩), undef, undef, .pointer (some ⟨mb, 0, none⟩), .pointer (some ⟨mb, 0, none⟩), .pointer (some ⟨mb, 2, none⟩), .int .i64 g.status, .pointer (some ⟨mb, 0, none⟩), .pointer (some ⟨mb, 0, none⟩), .pointer (some ⟨mb, 4, none⟩), .slice ha g.os.length hc, .slice ah os.length ch, .pointer (some ⟨mb, 0, none⟩), .pointer (some ⟨mb, 0, none⟩), .pointer (some ⟨mb, 5, none⟩), .slice oa g.outs.length oc, .slice ao g.outs.length co, .pointer (some ⟨mb, 0, none⟩), .pointer (some ⟨mb, 0, none⟩), .pointer (some ⟨mb, 6, none⟩), .agg #[.int .i64 g.back.kind, .int .i64 g.back.n], .agg #[.int .i64 g.status, .slice none 0 0, .slice ah os.length ch, .slice ao g.outs.length co, .int .i64 g.back.kind, .int .i64 g.back.n], undef, undef, undef, undef, undef, undef, undef, undef, undef, undef, undef, undef, undef, undef, undef, undef, undef, undef, undef, undef, undef, undef, undef, undef, undef, undef, undef, undef, undef, undef, undef, undef, undef, undef, undef, undef], defers := [] } w3 := by
  intro b3 ch co ah ao own1 os w3 hE3 hos hO hvo hB3 hb3 hn1 hn2
  refine hK _ _ ?_
  clear hK HTH r2 r4 r5 r6 r7
  have m3 := (HM1.out.ext hE3).blk.c 3 (.slice ca g.cs.length cc) (by rw [← HVC.out]; rfl)
  have mz := (HM1.out.ext hE3).blk.lt
  have HE3 := hid hE3
  have HOS := hid hos
  have HO := hid hO
  have HRO := hid hvo
  have HB3 := hid hB3
  have HN1 := hid hn1
  have HN2 := hid hn2
  have hz3 := hE3.size
  have hb3l := hB3.lt
  clear hE3 hos hO hvo hB3 hn1 hn2
  go_wp2_with fail
  clear m3 mz
  go_loopw [30] (fun i wr => ∃ (q : Nat) (own2 : Own) (fs : List GF) (vf : Value), q ≤ g.cs.length ∧ i = .int .i64 q ∧ Kp (· = b3) w3 wr ∧ Blk wr b3 36 #[.int .i64 g.status, vf, .slice ah os.length ch, .slice ao g.outs.length co, .int .i64 g.back.kind, .int .i64 g.back.n] ∧ FrOut wr own2 w3.heap.size vf fs ∧ Hid (fs.map GF.f = (g.cs.map GC.f).take q)) (fun i _ => g.cs.length - (intOf i).toNat)
  case atStart => exact ⟨0, _, [], .slice none 0 0, Nat.zero_le _, rfl, Kp.refl _ _, HB3.out, FrOut.nil _ _, hid (by simp)⟩
  case round =>
   obtain ⟨q, own2, fs, vf, hq, rfl, hKr, hB, hF, HFS⟩ := hrel
   obtain ⟨va, vc, rfl⟩ := hF.row.form
   have hfq : fs.length = q := by
    have := congrArg List.length HFS.out
    simpa [Nat.min_eq_left hq] using this
   have hEw : Ext w wr := (HE1.out.trans HE3.out).own hKr (fun b e => by omega)
   have hzr := hKr.size
   by_cases hlt : q < g.cs.length
   · obtain ⟨c, hcq⟩ := elemF g.cs q hlt
     have hM := H.out.ext hEw
     have hC := hM.call q c hcq
     have hrowc := hM.calls.row
     rw [HVC.out] at hrowc
     obtain ⟨gb, cc', e, -, hgl, -⟩ := owns_form hrowc (by omega)
     cases e
     have g0 := (owns_at (enc := ptrCs) (k := 1) (fun _ => rfl) hrowc hcq).one
     rw [Nat.mul_one] at g0
     obtain ⟨la, lc, hvl⟩ := hC.loc.form
     obtain ⟨sa, sc, hvs⟩ := hC.stk.form
     have hcb : c.cb < w.heap.size := (H.out.call q c hcq).blk.lt
     have hlw : w3.heap.size ≤ wr.heap.size := hzr
     have hvm : ∀ b, b < w3.heap.size → ¬ (Value.slice va fs.length vc).ownBlock = some b := fun b hb e => by have := (hF.row.blk e).1; omega
     obtain ⟨T, f, hneT, HT⟩ := Cls.ex (fun W' => Kp (fun b => (Value.slice va fs.length vc).ownBlock = some b) wr W') _ (Kp.refl _ _)
     have rb1 := fun z => (hB.kp (HT.inn z) (hvm _ hb3l)).c 1 (.slice va fs.length vc) rfl
     have hcb3 : c.cb < w3.heap.size := by omega
     have k0 := fun z => (hC.blk.kp (HT.inn z) (hvm _ hcb3)).c 0 (.int .i64 c.f.of.of.keeper) rfl
     have k1 := fun z => (hC.blk.kp (HT.inn z) (hvm _ hcb3)).c 1 (.string c.f.of.of.name) rfl
     have k2 := fun z => (hC.blk.kp (HT.inn z) (hvm _ hcb3)).c 2 (.int .i64 c.f.of.at_) rfl
     have k11 := fun z => (hC.blk.kp (HT.inn z) (hvm _ hcb3)).c 11 (.int .i64 c.f.pc) rfl
     have k12 := fun z => (hC.blk.kp (HT.inn z) (hvm _ hcb3)).c 12 (.slice la c.f.locals.length lc) (by rw [← hvl]; rfl)
     have k13 := fun z => (hC.blk.kp (HT.inn z) (hvm _ hcb3)).c 13 (.slice sa c.f.stack.length sc) (by rw [← hvs]; rfl)
     have hfo := M.frameOk_iff.1 (H.out.good.frames c.f (by simp only [Gh.st]; exact List.mem_map_of_mem (List.mem_of_getElem? hcq)))
     have hmi := M.mth_is (M.method_ok H.out.lod.ok hfo.1).1
     have hll : c.f.locals.length ≤ 1000 := by have := hmi.locals; have := hfo.2.2.2.1; omega
     have hsl : c.f.stack.length ≤ 1000 := by have := hmi.stack; have := hfo.2.2.2.2.1; omega
     have HFL : Hid (Flat wr 2 (.slice la c.f.locals.length lc) c.f.locals.length (c.f.locals.flatMap valCs)) := hid (by rw [← hvl]; exact owns_flat hC.loc.row (flat_one one_val _))
     have HFSK : Hid (SliceOf 2 ValL wr (fun _ => True) (.slice sa c.f.stack.length sc) c.f.stack) := hid (by rw [← hvs]; exact SliceOf.of_owns valCs hC.stk.row rfl rfl (fun _ _ => rfl) (fun _ _ => rfl) (fun b h1 h2 => trivial) (by omega))
     have HFLK : Hid (SliceOf 2 ValL wr (fun _ => True) (.slice la c.f.locals.length lc) c.f.locals) := hid (by rw [← hvl]; exact SliceOf.of_owns valCs hC.loc.row rfl rfl (fun _ _ => rfl) (fun _ _ => rfl) (fun b h1 h2 => trivial) (by omega))
     have HTH := hid HT
     have HCQ := hid hcq
     have HVM := hid hvm
     have HB := hid hB
     have HF := hid hF
     have HKR := hid hKr
     have HFQ := hid hfq
     have hfq' : (fs.length : Int) = q := by omega
     clear HT hcq hvm hB hF hKr hfq hvl hvs hC hM hEw hfo hmi hrowc
     go_wp2_with fail
     clear g0
     (refine region_mix f 24 [([0, 1, 2, 3, 4, 5, 6, 7, 8, 9, 10, 11, 12, 13, 15, 16, 17, 18, 19], 14), ([], 20), ([21], 22), ([], 23)] [] (HTH.out.out _ ?_) (by kernel_rfl) (by kernel_rfl) (fun _ _ d _ _ h => by cases d <;> exact h) ?_)
     · exact (Kp.refl _ _).drew
     (refine wpMix_cons rfl rfl fun K hK => ?_); (change wpQuiet _ _ _ _ [_, _, _, _, _, _, _, _, _, _, _, _, _, _, _, _, _, _, _] _); (repeat (go_big_quiet_step (fail))); (refine wpQuiet_nil ?_); (refine hK _ fun K2 hK2 => ?_); clear hK K; (change wpList _ _ _ [_] _ _)
     go_wp2_with fail
     refine (clone_val _ _ _ _ ((HFLK.out.ext ValL.stays (Kp.refl _ _).drew).vals) (by omega)).mono ?_
     rintro e w6 ⟨⟨v6, rfl, hrow6⟩, hE6⟩
     obtain ⟨x6, y6, rfl⟩ := owns_val hrow6
     have HE6 : Hid (Ext wr w6) := hid (((Kp.refl _ wr).drew : Ext wr _).trans hE6)
     have HR6 : Hid (w6.ownsRow wr.heap.size 34 2 (.slice x6 c.f.locals.length y6) c.f.locals.length (c.f.locals.flatMap valCs)) := hid hrow6
     clear hE6 hrow6
     go_wp2_with fail
     (refine hK2 _ _ (HTH.out.out _ HE6.out.any) ?_); clear hK2 K2
     (refine wpMix_cons rfl rfl fun K hK => ?_); (change wpQuiet _ _ _ _ [] _); (refine wpQuiet_nil ?_); (refine hK _ fun K2 hK2 => ?_); clear hK K; (change wpList _ _ _ [_] _ _)
     go_wp2_with fail
     refine (clone_val _ _ _ _ ((HFSK.out.ext ValL.stays HE6.out).vals) (by omega)).mono ?_
     rintro e w7 ⟨⟨v7, rfl, hrow7⟩, hE7⟩
     obtain ⟨x7, y7, rfl⟩ := owns_val hrow7
     have HE7 := hid hE7
     have HR7 := hid hrow7
     clear hE7 hrow7
     go_wp2_with fail
     (refine hK2 _ _ (HTH.out.out _ (HE6.out.trans HE7.out).any) ?_); clear hK2 K2
     (refine wpMix_cons rfl rfl fun K hK => ?_); (change wpQuiet _ _ _ _ [_] _); (repeat (go_big_quiet_step (fail))); (refine wpQuiet_nil ?_); (refine hK _ fun K2 hK2 => ?_); clear hK K; (change wpList _ _ _ [_] _ _)
     go_wp2_with fail
     (refine hK2 _ _ (HTH.out.out _ ((HE6.out.trans HE7.out).alloc _).any) ?_); clear hK2 K2
     (refine wpMix_cons rfl rfl fun K hK => ?_); (change wpQuiet _ _ _ _ [] _); (refine wpQuiet_nil ?_); (refine hK _ fun K2 hK2 => ?_); clear hK K; (change wpList _ _ _ [_] _ _)
     have hz6 := HE6.out.size
     have hz7 := HE7.out.size
     obtain ⟨own3, hs3, hd3, hr3, ha3, -⟩ := Own.more HF.out.dom HR6.out HE6.out.size hlw (9, fs.length)
     obtain ⟨own4, hs4, hd4, hr4, ha4, -⟩ := Own.more hd3 HR7.out HE7.out.size (by omega) (10, fs.length)
     have hF7 := HF.out.ext (HE6.out.trans HE7.out)
     have hrl : ∀ b r, own2 b = some r → own4 b = some r := fun b r h => hs4 _ _ (hs3 _ _ h)
     have hrow8 := hF7.row.relabel hrl
     have hE8 : Ext w7 (w7.alloc (.cells #[.int .i64 c.f.of.of.keeper, .string c.f.of.of.name, .int .i64 c.f.of.at_, .int .i64 c.f.pc, .slice x6 c.f.locals.length y6, .slice x7 c.f.stack.length y7] 105)) := (KX.k (by repeat (first | assumption | constructor)))
     refine wpList_append_at elem_frame rfl (.tmp 35) (.tmp 56) rfl w3.heap.size (.slice va fs.length vc) fs.length (fs.flatMap frCs) rfl ((hrow8.ext hE8).row) w7.heap.size 1 (frCs (⟨c.f, .slice x6 c.f.locals.length y6, .slice x7 c.f.stack.length y7⟩ : GF)) rfl rfl (CellsAt.newA _ _ rfl) (by simp [frCs, Value.oneCell']) (by omega) (by simp; omega) ?_
     intro g9 c9 w9 hO9 hKp9 hg9
     change K2 _ _
     have hK79 : Kp (fun b => (Value.slice va fs.length vc).ownBlock = some b) w7 w9 := hE8.any.trans hKp9
     (refine hK2 _ _ (HTH.out.out _ ((HE6.out.trans HE7.out).any.trans hK79)) ?_); clear hK2 K2
     obtain ⟨hr9, ha9, hd9, hq9⟩ := OwnS.app hrow8 hd4 hO9 hK79 (hg9.imp id fun e => by simp at e; omega)
     have hres : FrOut w9 (own4.add g9 (8, 0)) w3.heap.size (.slice (some ⟨g9, 0, none⟩) (fs.length + 1) c9) (fs ++ [(⟨c.f, .slice x6 c.f.locals.length y6, .slice x7 c.f.stack.length y7⟩ : GF)]) := by
      refine ⟨hd9, by simpa using hr9, fun j o ho => ?_, fun j o ho => ?_⟩
      all_goals
       rcases Nat.lt_trichotomy j fs.length with hj | hj | hj
      · rw [List.getElem?_append_left hj] at ho
        exact hrow8.beside ((hF7.loc j o ho).relabel hrl) hK79 ha9 (by simp)
      · subst hj
        simp at ho; subst ho
        exact hrow8.beside ((hr3.ext HE7.out).relabel hs4) hK79 ha9 (by simp)
      · rw [List.getElem?_eq_none (by simp; omega)] at ho; cases ho
      · rw [List.getElem?_append_left hj] at ho
        exact hrow8.beside ((hF7.stk j o ho).relabel hrl) hK79 ha9 (by simp)
      · subst hj
        simp at ho; subst ho
        exact hrow8.beside hr4 hK79 ha9 (by simp)
      · rw [List.getElem?_eq_none (by simp; omega)] at ho; cases ho
     have hKr9 : Kp (· = b3) w3 w9 := (HKR.out.trans (HE6.out.trans HE7.out).any).own hK79 (fun b e => (hrow8.blk e).1)
     have hB9 := (HB.out.ext (HE6.out.trans HE7.out)).kp hK79 (HVM.out _ hb3l)
     have q1 := hB9.c 1 (.slice va fs.length vc) rfl
     have f1 := hB9.frozen 1
     have qz := hB9.lt
     obtain ⟨w10, hw10⟩ : ∃ w10, w10 = w9.setCell ⟨b3, 1, none⟩ (.slice (some ⟨g9, 0, none⟩) (fs.length + 1) c9) := ⟨_, rfl⟩
     have hK10 : Kp (· = b3) w9 w10 := by rw [hw10]; exact (Kp.refl (· = b3) w9).setCell (p := ⟨b3, 1, none⟩) (fun _ => rfl) _
     have hB10 : Blk w10 b3 36 #[.int .i64 g.status, .slice (some ⟨g9, 0, none⟩) (fs.length + 1) c9, .slice ah os.length ch, .slice ao g.outs.length co, .int .i64 g.back.kind, .int .i64 g.back.n] := by rw [hw10]; exact hB9.set_ 1 _
     have hF10 := hres.kp hK10 (fun b hb e => by have := (hres.dom b hb).1; omega)
     have HRES := hid (And.intro (hKr9.trans hK10) (And.intro hB10 hF10))
     have HW10 := hid hw10
     clear hs3 hd3 hr3 ha3 hs4 hd4 hr4 ha4 hF7 hrl hrow8 hE8 hO9 hKp9 hg9 hK79 hr9 ha9 hd9 hq9 hres hKr9 hB9 hw10 hK10 hB10 hF10 HTH rb1 k0 k1 k2 k11 k12 k13
     (refine wpMix_nil rfl fun K hK => ?_); (change wpQuiet _ _ _ _ [] _); (refine wpQuiet_nil ?_); (refine hK _ ?_); clear hK K
     go_wp2_with fail
     rw [← HW10.out]
     refine ⟨⟨q + 1, own4.add g9 (8, 0), fs ++ [(⟨c.f, .slice x6 c.f.locals.length y6, .slice x7 c.f.stack.length y7⟩ : GF)], .slice (some ⟨g9, 0, none⟩) (fs.length + 1) c9, by omega, by go_num, HRES.out.1, HRES.out.2.1, HRES.out.2.2, hid ?_⟩, by simp [intOf]; omega⟩
     rw [List.map_append, HFS.out, List.take_add_one, List.getElem?_map, HCQ.out]
     rfl
   · have hqe : q = g.cs.length := by omega
     have hfs : fs.map GF.f = g.st.frames := by
      rw [HFS.out, hqe]
      exact List.take_of_length_le (by simp)
     have y0 := hB.c 0 (.int .i64 g.status) rfl
     have y1 := hB.c 1 (.slice va fs.length vc) rfl
     have y2 := hB.c 2 (.slice ah os.length ch) rfl
     have y3 := hB.c 3 (.slice ao g.outs.length co) rfl
     have y4 := hB.c 4 (.int .i64 g.back.kind) rfl
     have y5 := hB.c 5 (.int .i64 g.back.n) rfl
     have yz := hB.lt
     have hb2 := (HB2.out.ext HE3.out).kp hKr (by omega)
     have z0 := hb2.c 0 (.int .i64 0) rfl
     have z1 := hb2.c 1 (.slice none 0 0) rfl
     have z2 := hb2.c 2 (.slice none 0 0) rfl
     have z3 := hb2.c 3 (.slice none 0 0) rfl
     have z4 := hb2.c 4 (.int .i64 0) rfl
     have z5 := hb2.c 5 (.int .i64 0) rfl
     have zf0 := hb2.frozen 0
     have zf1 := hb2.frozen 1
     have zf2 := hb2.frozen 2
     have zf3 := hb2.frozen 3
     have zf4 := hb2.frozen 4
     have zf5 := hb2.frozen 5
     have zz := hb2.lt
     obtain ⟨w10, hw10⟩ : ∃ w10, w10 = (((((wr.setCell ⟨w.heap.size, 0, none⟩ (.int .i64 g.status)).setCell ⟨w.heap.size, 1, none⟩ (.slice va fs.length vc)).setCell ⟨w.heap.size, 2, none⟩ (.slice ah os.length ch)).setCell ⟨w.heap.size, 3, none⟩ (.slice ao g.outs.length co)).setCell ⟨w.heap.size, 4, none⟩ (.int .i64 g.back.kind)).setCell ⟨w.heap.size, 5, none⟩ (.int .i64 g.back.n) := ⟨_, rfl⟩
     have hK10 : Kp (· = w.heap.size) wr w10 := by rw [hw10]; exact Kp.set6 (D := (· = w.heap.size)) rfl _ _ _ _ _ _
     have hB10 : Blk w10 w.heap.size 36 #[.int .i64 g.status, .slice va fs.length vc, .slice ah os.length ch, .slice ao g.outs.length co, .int .i64 g.back.kind, .int .i64 g.back.n] := by rw [hw10]; exact hb2.set6 _ _ _ _ _ _
     have hE10 : Ext w w10 := hEw.own hK10 (fun b e => by omega)
     have hin : ∀ b, w1.heap.size ≤ b → b < w10.heap.size → w.heap.size ≤ b := fun b hb _ => by omega
     have hin3 : ∀ b, w3.heap.size ≤ b → b < w10.heap.size → w.heap.size ≤ b := fun b hb _ => by omega
     have hS : StateL w10 (fun b => w.heap.size ≤ b) g.st [.int .i64 g.status, .slice va fs.length vc, .slice ah os.length ch, .slice ao g.outs.length co, .int .i64 g.back.kind, .int .i64 g.back.n] := by
      have hfr := (hF.kp hK10 (fun b hb e => by have := (hF.dom b hb).1; omega)).slice hin3 (by omega) (fun x hx => by
       have hx2 : x.f ∈ g.st.frames := by rw [← hfs]; exact List.mem_map_of_mem hx
       have hfo := M.frameOk_iff.1 (H.out.good.frames x.f hx2)
       have hmi := M.mth_is (M.method_ok H.out.lod.ok hfo.1).1
       have := hmi.locals; have := hfo.2.2.2.1; have := hmi.stack; have := hfo.2.2.2.2.1
       omega)
      have hol1 : os.length = g.st.heap.length := by rw [← HOS.out, List.length_map]
      have hhp := ((HO.out.kp hKr (fun b hb e => by subst e; exact hb HN1.out)).kp hK10 (fun b hb e => by have := (HO.out.dom b hb).1; omega)).slice hin (by omega) (fun x hx => by
       have hx2 : x.o ∈ g.st.heap := by rw [← HOS.out]; exact List.mem_map_of_mem hx
       have hh := (M.heapOk_iff.1 H.out.good.heap).2 x.o hx2
       rw [hh.2.1]
       have h1 := layout_small H.out.lod.ok (M.chain p x.o.of).reverse
       have h2 := M.chain_len p x.o.of
       unfold M.layout
       rw [if_pos hh.1]
       rw [List.length_reverse] at h1
       omega)
      have hou := owns_kp (owns_kp HRO.out hKr (fun b hb _ e => HN2.out (by rw [hb, e]))) hK10 (fun b hb h1 e => by omega)
      rw [hfs] at hfr
      rw [HOS.out] at hhp
      exact ⟨_, _, _, rfl, hfr, hhp, SliceOf.of_owns intCs hou rfl rfl (fun _ _ => rfl) (fun _ _ => rfl) hin (by show g.outs.length ≤ _; omega)⟩
     have HS := hid hS
     have HE10 := hid hE10
     have HB10 := hid hB10
     have HW10 := hid hw10
     clear hS hE10 hB10 hw10 hK10 hb2 hin hin3 hF hKr hB hfs HFS hqe hfq
     go_wp2_with fail
     rw [← HW10.out]
     refine bodyPost_ret (results_agg agg_state rfl _ _ w.heap.size rfl [.int .i64 g.status, .slice va fs.length vc, .slice ah os.length ch, .slice ao g.outs.length co, .int .i64 g.back.kind, .int .i64 g.back.n] (CellsAt.ofB HB10.out) rfl) rfl ?_
     exact ⟨⟨_, rfl, HS.out⟩, HE10.out⟩
 have TAIL := hid tail
 clear tail hK
 (refine region_tree f 20 (.two [0, 1, 2, 3, 4, 5, 6, 7, 9, 10, 11, 12, 14, 15, 16, 17] 8 19 (.two [] 13 19 (.one [18] 19 (.fin [])) (.one [] 13 (.fin [18]))) (.one [] 8 (.one [] 13 (.fin [18])))) (HTH.out.out _ ?_) (by kernel_rfl) (by kernel_rfl) (fun _ _ d _ _ h => by cases d <;> exact h) ?_)
 · exact (Kp.refl _ _).drew
 (refine wpT_two rfl rfl rfl fun K hK => ?_); (change wpQuiet _ _ _ _ [_, _, _, _, _, _, _, _, _, _, _, _, _, _, _, _] _); (repeat (go_big_quiet_step (fail))); (refine wpQuiet_nil ?_); ((refine hK _ (fun K2 hK2 => ?_) (fun K2 hK2 => ?_)) <;> (clear hK K; (change wpList _ _ _ [_] _ _)))
 · go_wp2_with fail
   refine (copy_heap _ (fun _ => True) _ g.st.heap (by rw [← HVH.out]; exact (HM1.out.ext (Kp.refl _ _).drew).things) hpl).mono ?_
   rintro e w4 ⟨⟨v4, own1, os, rfl, hos, hO⟩, hE4⟩
   obtain ⟨ah, ch, rfl⟩ := hO.row.form
   have HE4 : Hid (Ext w1 w4) := hid (((Kp.refl _ w1).drew : Ext w1 _).trans hE4)
   have HO := hid hO
   have HOS := hid hos
   have hz4 := HE4.out.size
   clear hE4 hO hos
   go_wp2_with fail
   (refine hK2 _ _ (HTH.out.out _ HE4.out) ?_); clear hK2 K2
   (refine wpT_two rfl rfl rfl fun K hK => ?_); (change wpQuiet _ _ _ _ [] _); (refine wpQuiet_nil ?_); ((refine hK _ (fun K2 hK2 => ?_) (fun K2 hK2 => ?_)) <;> (clear hK K; (change wpList _ _ _ [_] _ _)))
   · go_wp2_with fail
     refine (clone_int _ _ _ _ (by rw [← HVO.out]; exact owns_flat (HM1.out.ext HE4.out).outs.row (flat_one one_int _)) (by omega)).mono ?_
     rintro e w5 ⟨⟨v5, rfl, hvo⟩, hE5⟩
     obtain ⟨ao, co, rfl⟩ := owns_val hvo
     have HE5 := hid hE5
     have HRO := hid hvo
     have hz5 := hE5.size
     clear hE5 hvo
     go_wp2_with fail
     (refine hK2 _ _ (HTH.out.out _ (HE4.out.trans HE5.out)) ?_); clear hK2 K2
     (refine wpT_one rfl rfl fun K hK => ?_); (change wpQuiet _ _ _ _ [_] _); (repeat (go_big_quiet_step (fail))); (refine wpQuiet_nil ?_); (refine hK _ fun K2 hK2 => ?_); clear hK K; (change wpList _ _ _ [_] _ _)
     go_wp2_with fail
     (refine hK2 _ _ (HTH.out.out _ ((HE4.out.trans HE5.out).alloc _)) ?_); clear hK2 K2
     clear HTH r2 r4 r5 r6 r7
     (refine wpT_fin rfl fun K hK => ?_); (change wpQuiet _ _ _ _ [] _); (refine wpQuiet_nil ?_); (refine hK _ ?_); clear hK K
     go_wp2_with fail
     have hEn : ∀ X, Ext w5 (w5.alloc X) := fun X => (Kp.refl _ _).alloc _
     refine TAIL.out w5.heap.size ch co ah ao own1 os _ ((HE4.out.trans HE5.out).alloc _) HOS.out (HO.out.kp (D := fun _ => False) (HE5.out.trans (hEn _)) fun _ _ x => x) (owns_mono (owns_kp (D := fun _ => False) HRO.out (hEn _) fun _ _ _ x => x) hz4) (Blk.new _ _ _) (by omega) ?_ ?_
     · cases e : own1 w5.heap.size with
       | none => rfl
       | some r => have := (HO.out.dom _ (by rw [e]; simp)).2; omega
     · intro e
       have := (HRO.out.lt _ e).2; omega
   · go_wp2_with fail
     (refine hK2 _ _ (HTH.out.out _ (HE4.out.alloc _)) ?_); clear hK2 K2
     obtain ⟨w6, hw6⟩ : ∃ w6, w6 = w4.alloc (.cells #[.int .i64 0, .slice none 0 0, .slice none 0 0, .slice none 0 0, .int .i64 0, .int .i64 0] 36) := ⟨_, rfl⟩
     have hE6 : Ext w4 w6 := by rw [hw6]; exact (KX.k (by repeat (first | assumption | constructor)))
     have b6 : Blk w6 w4.heap.size 36 #[.int .i64 0, .slice none 0 0, .slice none 0 0, .slice none 0 0, .int .i64 0, .int .i64 0] := by rw [hw6]; exact Blk.new _ _ _
     have HE6 := hid hE6
     have HB6 := hid b6
     have HW6 := hid hw6
     have hz6 : w6.heap.size = w4.heap.size + 1 := by rw [hw6]; simp
     clear hE6 b6 hw6
     (refine wpT_one rfl rfl fun K hK => ?_); (change wpQuiet _ _ _ _ [] _); (refine wpQuiet_nil ?_); (refine hK _ fun K2 hK2 => ?_); clear hK K; (change wpList _ _ _ [_] _ _)
     go_wp2_with fail
     rw [← HW6.out]
     refine (clone_int _ _ _ _ (by rw [← HVO.out]; exact owns_flat (HM1.out.ext (HE4.out.trans HE6.out)).outs.row (flat_one one_int _)) (by omega)).mono ?_
     rintro e w5 ⟨⟨v5, rfl, hvo⟩, hE5⟩
     obtain ⟨ao, co, rfl⟩ := owns_val hvo
     have hb5 := HB6.out.ext hE5
     have y0 := hb5.c 0 (.int .i64 0) rfl
     have y1 := hb5.c 1 (.slice none 0 0) rfl
     have y2 := hb5.c 2 (.slice none 0 0) rfl
     have y3 := hb5.c 3 (.slice none 0 0) rfl
     have y4 := hb5.c 4 (.int .i64 0) rfl
     have y5 := hb5.c 5 (.int .i64 0) rfl
     have f0 := hb5.frozen 0
     have f1 := hb5.frozen 1
     have f2 := hb5.frozen 2
     have f3 := hb5.frozen 3
     have f4 := hb5.frozen 4
     have f5 := hb5.frozen 5
     have yz := hb5.lt
     obtain ⟨w9, hw9⟩ : ∃ w9, w9 = (((((w5.setCell ⟨w4.heap.size, 0, none⟩ (.int .i64 g.status)).setCell ⟨w4.heap.size, 1, none⟩ (.slice none 0 0)).setCell ⟨w4.heap.size, 2, none⟩ (.slice ah os.length ch)).setCell ⟨w4.heap.size, 3, none⟩ (.slice ao g.outs.length co)).setCell ⟨w4.heap.size, 4, none⟩ (.int .i64 g.back.kind)).setCell ⟨w4.heap.size, 5, none⟩ (.int .i64 g.back.n) := ⟨_, rfl⟩
     have hK9 : Kp (· = w4.heap.size) w5 w9 := by rw [hw9]; exact Kp.set6 (D := (· = w4.heap.size)) rfl _ _ _ _ _ _
     have b9 : Blk w9 w4.heap.size 36 #[.int .i64 g.status, .slice none 0 0, .slice ah os.length ch, .slice ao g.outs.length co, .int .i64 g.back.kind, .int .i64 g.back.n] := by rw [hw9]; exact hb5.set6 _ _ _ _ _ _
     have HE5 := hid hE5
     have HRO := hid hvo
     have HK9 := hid hK9
     have HB9 := hid b9
     have HW9 := hid hw9
     have hz5 := hE5.size
     clear hE5 hvo hK9 b9 hw9 hb5
     go_wp2_with fail
     (refine hK2 _ _ (HTH.out.out _ ((HE4.out.trans HE6.out).trans HE5.out)) ?_); clear hK2 K2
     clear HTH r2 r4 r5 r6 r7
     (refine wpT_fin rfl fun K hK => ?_); (change wpQuiet _ _ _ _ [_] _); (repeat (go_big_quiet_step (fail))); (refine wpQuiet_nil ?_); (refine hK _ ?_); clear hK K
     go_wp2_with fail
     rw [← HW9.out]
     refine TAIL.out w4.heap.size ch co ah ao own1 os _ (((HE4.out.trans HE6.out).trans HE5.out).own HK9.out (fun b e => by omega)) HOS.out ((HO.out.kp (D := fun _ => False) (HE6.out.trans HE5.out) fun _ _ x => x).kp HK9.out (fun b hb e => by have := (HO.out.dom b hb).2; omega)) (owns_mono (owns_kp HRO.out HK9.out fun b hb h1 e => by have := (HRO.out.lt b hb).1; omega) (by omega)) HB9.out (by omega) ?_ ?_
     · cases e : own1 w4.heap.size with
       | none => rfl
       | some r => have := (HO.out.dom _ (by rw [e]; simp)).2; omega
     · intro e
       have := (HRO.out.lt _ e).1; omega
 · go_wp2_with fail
   (refine hK2 _ _ (HTH.out.out _ (((Kp.refl _ w1).drew).alloc _)) ?_); clear hK2 K2
   obtain ⟨w6, hw6⟩ : ∃ w6, w6 = (w1.alloc (.cells #[.int .i64 0, .slice none 0 0, .slice none 0 0, .slice none 0 0, .int .i64 0, .int .i64 0] 36)).drew := ⟨_, rfl⟩
   have hE6 : Ext w1 w6 := by rw [hw6]; exact (KX.k (by repeat (first | assumption | constructor)))
   have b6 : Blk w6 (w.heap.size + 1) 36 #[.int .i64 0, .slice none 0 0, .slice none 0 0, .slice none 0 0, .int .i64 0, .int .i64 0] := by rw [hw6]; exact (Blk.newAt _ _ hz1).ext (Kp.refl _ _).drew
   have HE6 := hid hE6
   have HB6 := hid b6
   have HW6 := hid hw6
   have hz6 : w6.heap.size = w1.heap.size + 1 := by rw [hw6]; simp
   clear hE6 b6 hw6
   (refine wpT_one rfl rfl fun K hK => ?_); (change wpQuiet _ _ _ _ [] _); (refine wpQuiet_nil ?_); (refine hK _ fun K2 hK2 => ?_); clear hK K; (change wpList _ _ _ [_] _ _)
   go_wp2_with fail
   rw [← HW6.out]
   refine (copy_heap _ (fun _ => True) _ g.st.heap (by rw [← HVH.out]; exact (HM1.out.ext HE6.out).things) hpl).mono ?_
   rintro e w4 ⟨⟨v4, own1, os, rfl, hos, hO⟩, hE4⟩
   obtain ⟨ah, ch, rfl⟩ := hO.row.form
   have HE4 : Hid (Ext w1 w4) := hid (HE6.out.trans hE4)
   have HE64 := hid hE4
   have HO := hid hO
   have HOS := hid hos
   have hz4 := hE4.size
   clear hE4 hO hos
   go_wp2_with fail
   (refine hK2 _ _ (HTH.out.out _ HE4.out) ?_); clear hK2 K2
   · (refine wpT_one rfl rfl fun K hK => ?_); (change wpQuiet _ _ _ _ [] _); (refine wpQuiet_nil ?_); (refine hK _ fun K2 hK2 => ?_); clear hK K; (change wpList _ _ _ [_] _ _)
     go_wp2_with fail
     refine (clone_int _ _ _ _ (by rw [← HVO.out]; exact owns_flat (HM1.out.ext HE4.out).outs.row (flat_one one_int _)) (by omega)).mono ?_
     rintro e w5 ⟨⟨v5, rfl, hvo⟩, hE5⟩
     obtain ⟨ao, co, rfl⟩ := owns_val hvo
     have hb5 := (HB6.out.ext HE64.out).ext hE5
     have y0 := hb5.c 0 (.int .i64 0) rfl
     have y1 := hb5.c 1 (.slice none 0 0) rfl
     have y2 := hb5.c 2 (.slice none 0 0) rfl
     have y3 := hb5.c 3 (.slice none 0 0) rfl
     have y4 := hb5.c 4 (.int .i64 0) rfl
     have y5 := hb5.c 5 (.int .i64 0) rfl
     have f0 := hb5.frozen 0
     have f1 := hb5.frozen 1
     have f2 := hb5.frozen 2
     have f3 := hb5.frozen 3
     have f4 := hb5.frozen 4
     have f5 := hb5.frozen 5
     have yz := hb5.lt
     obtain ⟨w9, hw9⟩ : ∃ w9, w9 = (((((w5.setCell ⟨w.heap.size + 1, 0, none⟩ (.int .i64 g.status)).setCell ⟨w.heap.size + 1, 1, none⟩ (.slice none 0 0)).setCell ⟨w.heap.size + 1, 2, none⟩ (.slice ah os.length ch)).setCell ⟨w.heap.size + 1, 3, none⟩ (.slice ao g.outs.length co)).setCell ⟨w.heap.size + 1, 4, none⟩ (.int .i64 g.back.kind)).setCell ⟨w.heap.size + 1, 5, none⟩ (.int .i64 g.back.n) := ⟨_, rfl⟩
     have hK9 : Kp (· = w.heap.size + 1) w5 w9 := by rw [hw9]; exact Kp.set6 (D := (· = w.heap.size + 1)) rfl _ _ _ _ _ _
     have b9 : Blk w9 (w.heap.size + 1) 36 #[.int .i64 g.status, .slice none 0 0, .slice ah os.length ch, .slice ao g.outs.length co, .int .i64 g.back.kind, .int .i64 g.back.n] := by rw [hw9]; exact hb5.set6 _ _ _ _ _ _
     have HE5 := hid hE5
     have HRO := hid hvo
     have HK9 := hid hK9
     have HB9 := hid b9
     have HW9 := hid hw9
     have hz5 := hE5.size
     clear hE5 hvo hK9 b9 hw9 hb5
     go_wp2_with fail
     (refine hK2 _ _ (HTH.out.out _ (HE4.out.trans HE5.out)) ?_); clear hK2 K2
     clear HTH r2 r4 r5 r6 r7
     (refine wpT_fin rfl fun K hK => ?_); (change wpQuiet _ _ _ _ [_] _); (repeat (go_big_quiet_step (fail))); (refine wpQuiet_nil ?_); (refine hK _ ?_); clear hK K
     go_wp2_with fail
     rw [← HW9.out]
     refine TAIL.out (w.heap.size + 1) ch co ah ao own1 os _ ((HE4.out.trans HE5.out).own HK9.out (fun b e => by omega)) HOS.out (((HO.out.kp (D := fun _ => False) HE5.out fun _ _ x => x).kp HK9.out (fun b hb e => by have := (HO.out.dom b hb).1; omega)).mono (by omega)) (owns_mono (owns_kp HRO.out HK9.out fun b hb h1 e => by have := (HRO.out.lt b hb).1; omega) (by omega)) HB9.out (by omega) ?_ ?_
     · cases e : own1 (w.heap.size + 1) with
       | none => rfl
       | some r => have := (HO.out.dom _ (by rw [e]; simp)).1; omega
     · intro e
       have := (HRO.out.lt _ e).1; omega
theorem Kp.own' {D D' : Nat → Prop} {w a b : World} (h : Kp D w a) (hk : Kp D' a b) (hD : ∀ k, D' k → D k ∨ w.heap.size ≤ k) : Kp D w b :=
 ⟨hk.os.trans h.os, hk.tape.trans h.tape, hk.output.trans h.output, Nat.le_trans h.size hk.size,
  fun k hkw hd => (hk.block k (Nat.lt_of_lt_of_le hkw h.size) (fun x => (hD k x).elim hd fun y => absurd y (Nat.not_le.2 hkw))).trans (h.block k hkw hd)⟩
theorem linkSt_at (w : World) (I : Nat → Prop) : StateL w I M.linkSt [.int .i64 4, .slice none 0 0, .slice none 0 0, .slice none 0 0, .int .i64 0, .int .i64 0] :=
 ⟨_, _, _, rfl, SliceOf.nil _ _ _ _, SliceOf.nil _ _ _ _, SliceOf.nil _ _ _ _⟩
theorem M.Good.empty {p : M.Plan} : M.Good p ⟨1, [], [], [], M.zval⟩ := ⟨by simp [M.heapOk], by simp, by simp, by simp, by simp, by simp [M.valOk, M.zval]⟩
theorem lodge_start (w : World) (l : Lodge) (p : M.Plan) (h : LodgeAt w l p) (lk : Bool) (k : Int) (n m : ByteArray) (args : List Int) (va : Option Addr) (ac : Nat) (hargs : SliceOf 1 IntL w (· < l.O) (.slice va args.length ac) args) (hnum : args.all M.numOk = true) :
    Calls Tryz.prog 35 #[.pointer (some ⟨l.L, 0, none⟩), .bool lk, .int .i64 k, .string n, .string m, .slice va args.length ac] w fun e w' =>
     (∃ cs, e = .returned (.agg cs.toArray) ∧ StateL w' (fun b => w.heap.size ≤ b) (M.start p lk k n m args) cs) ∧ Kp (· = l.D) w w' := by
 obtain ⟨w1, hw1⟩ : ∃ w1, w1 = w.alloc (.cells #[.int .i64 0, .slice none 0 0, .slice none 0 0, .slice none 0 0, .int .i64 0, .int .i64 0] 36) := ⟨_, rfl⟩
 have hE1 : Ext w w1 := by rw [hw1]; exact (KX.k (by repeat (first | assumption | constructor)))
 have b12 : Blk w1 w.heap.size 36 #[.int .i64 0, .slice none 0 0, .slice none 0 0, .slice none 0 0, .int .i64 0, .int .i64 0] := by rw [hw1]; exact Blk.new _ _ _
 have hz1 : w1.heap.size = w.heap.size + 1 := by rw [hw1]; simp
 have hDw := h.dlt
 have hLw := h.lt
 have hord := h.ord
 obtain ⟨F, hF⟩ : ∃ F, M.find p k n = F := ⟨_, rfl⟩
 obtain ⟨⟨fk, fn⟩, cd⟩ := F
 have hfind := lodge_find w1 l p (h.ext hE1) k n
 rw [hF] at hfind
 have HV : Hid (M.start p lk k n m args = if cd = 1 ∧ M.canLay p ⟨fk, fn⟩ = true then
     (if (M.call p k n m).2 = 1 ∧ M.startable (M.method p (M.call p k n m).1) args = true then
      M.end_ (M.enter p lk (M.call p k n m).1 (⟨2, 0⟩ :: args.map M.numVal) ⟨1, [], [M.fresh p ⟨fk, fn⟩], [], M.zval⟩).1 (M.enter p lk (M.call p k n m).1 (⟨2, 0⟩ :: args.map M.numVal) ⟨1, [], [M.fresh p ⟨fk, fn⟩], [], M.zval⟩).2
     else M.linkSt) else M.linkSt) := hid (by unfold M.start; rw [hF])
 have hla : args.length ≤ 4294967296 := by obtain ⟨_, _, e, _, h4⟩ := hargs.form; exact h4
 have HC1 : Hid (LC l p w w1) := hid ((LC.refl h).ext hE1)
 have HFI := hid hfind
 have HB12 := hid b12
 have HW1 := hid hw1
 have HAR := hid hargs
 have HNUM := hid hnum
 clear h hE1 b12 hw1 hF hfind hargs hnum
 go_enter Tryz.func35, Tryz.ntmps35
 go_wp2_with fail
 rw [← HW1.out]
 refine HFI.out.mono ?_
 rintro e w2 ⟨rfl, hE2⟩
 have hz2 := hE2.size
 obtain ⟨w3, hw3⟩ : ∃ w3, w3 = w2.alloc (.cells #[.int .i64 fk, .string fn] 76) := ⟨_, rfl⟩
 have hE3 : Ext w2 w3 := by rw [hw3]; exact (KX.k (by repeat (first | assumption | constructor)))
 have b13 : Blk w3 w2.heap.size 76 #[.int .i64 fk, .string fn] := by rw [hw3]; exact Blk.new _ _ _
 have hz3 : w3.heap.size = w2.heap.size + 1 := by rw [hw3]; simp
 have hbz := HB12.out.ext hE2
 have HBZ := hid hbz
 have HKZ : Hid (Kp (· = l.D) w w2) := hid (HC1.out.kp.trans hE2.any)
 have HC3 : Hid (LC l p w w3) := hid (HC1.out.ext (hE2.trans hE3))
 have HB123 := hid (hbz.ext hE3)
 have HB13 := hid b13
 have HW3 := hid hw3
 clear hE2 hE3 b13 hw3 HFI
 by_cases hcd : cd = 1
 rotate_left
 · have hcd' : (cd != 1) = true := bne_iff_ne.2 hcd
   replace HV : Hid (M.start p lk k n m args = M.linkSt) := hid (by rw [HV.out, if_neg (fun e => hcd e.1)])
   clear hcd
   have y0 := hbz.c 0 (.int .i64 0) rfl
   have f0 := hbz.frozen 0
   have y1 := hbz.c 1 (.slice none 0 0) rfl
   have f1 := hbz.frozen 1
   have y2 := hbz.c 2 (.slice none 0 0) rfl
   have f2 := hbz.frozen 2
   have y3 := hbz.c 3 (.slice none 0 0) rfl
   have f3 := hbz.frozen 3
   have y4 := hbz.c 4 (.int .i64 0) rfl
   have f4 := hbz.frozen 4
   have y5 := hbz.c 5 (.int .i64 0) rfl
   have f5 := hbz.frozen 5
   have yz := hbz.lt
   clear hbz
   go_wp2_with fail
   obtain ⟨w9, hw9⟩ : ∃ w9, w9 = (((((w2.setCell ⟨w.heap.size, 0, none⟩ (.int .i64 4)).setCell ⟨w.heap.size, 1, none⟩ (.slice none 0 0)).setCell ⟨w.heap.size, 2, none⟩ (.slice none 0 0)).setCell ⟨w.heap.size, 3, none⟩ (.slice none 0 0)).setCell ⟨w.heap.size, 4, none⟩ (.int .i64 0)).setCell ⟨w.heap.size, 5, none⟩ (.int .i64 0) := ⟨_, rfl⟩
   have hK9 : Kp (· = w.heap.size) w2 w9 := by rw [hw9]; exact Kp.set6 (D := (· = w.heap.size)) rfl _ _ _ _ _ _
   have hB9 : Blk w9 w.heap.size 36 #[.int .i64 4, .slice none 0 0, .slice none 0 0, .slice none 0 0, .int .i64 0, .int .i64 0] := by rw [hw9]; exact HBZ.out.set6 _ _ _ _ _ _
   rw [← hw9]
   refine bodyPost_ret (results_agg agg_state rfl _ _ w.heap.size rfl [.int .i64 4, .slice none 0 0, .slice none 0 0, .slice none 0 0, .int .i64 0, .int .i64 0] (CellsAt.ofB (hB9.ext ((Kp.refl _ _).alloc _))) rfl) rfl ?_
   rw [HV.out]
   exact ⟨⟨_, rfl, linkSt_at _ _⟩, (HKZ.out.own hK9 (fun b e => by omega)).alloc _⟩
 subst hcd
 clear hbz
 replace HV := hid HV.out
 go_wp2_with fail
 rw [← HW3.out]
 refine (lodge_canLay _ _ _ HC3.out.at_ ⟨fk, fn⟩).mono ?_
 rintro e w4 ⟨rfl, hL4, hK4⟩
 have HC4 : Hid (LC l p w w4) := hid (HC3.out.step hL4 hK4)
 have HB124 := hid (HB123.out.kp hK4 (by omega))
 have HB134 := hid (HB13.out.kp hK4 (by omega))
 have hz4 := hK4.size
 clear hL4 hK4 HB13 HB123
 cases hcl : M.canLay p ⟨fk, fn⟩
 · replace HV : Hid (M.start p lk k n m args = M.linkSt) := hid (by rw [HV.out, if_neg (fun e => by rw [hcl] at e; cases e.2)])
   clear hcl
   have hbz := HB124.out
   have y0 := hbz.c 0 (.int .i64 0) rfl
   have f0 := hbz.frozen 0
   have y1 := hbz.c 1 (.slice none 0 0) rfl
   have f1 := hbz.frozen 1
   have y2 := hbz.c 2 (.slice none 0 0) rfl
   have f2 := hbz.frozen 2
   have y3 := hbz.c 3 (.slice none 0 0) rfl
   have f3 := hbz.frozen 3
   have y4 := hbz.c 4 (.int .i64 0) rfl
   have f4 := hbz.frozen 4
   have y5 := hbz.c 5 (.int .i64 0) rfl
   have f5 := hbz.frozen 5
   have yz := hbz.lt
   clear hbz
   go_wp2_with fail
   obtain ⟨w9, hw9⟩ : ∃ w9, w9 = (((((w4.setCell ⟨w.heap.size, 0, none⟩ (.int .i64 4)).setCell ⟨w.heap.size, 1, none⟩ (.slice none 0 0)).setCell ⟨w.heap.size, 2, none⟩ (.slice none 0 0)).setCell ⟨w.heap.size, 3, none⟩ (.slice none 0 0)).setCell ⟨w.heap.size, 4, none⟩ (.int .i64 0)).setCell ⟨w.heap.size, 5, none⟩ (.int .i64 0) := ⟨_, rfl⟩
   have hK9 : Kp (· = w.heap.size) w4 w9 := by rw [hw9]; exact Kp.set6 (D := (· = w.heap.size)) rfl _ _ _ _ _ _
   have hB9 : Blk w9 w.heap.size 36 #[.int .i64 4, .slice none 0 0, .slice none 0 0, .slice none 0 0, .int .i64 0, .int .i64 0] := by rw [hw9]; exact HB124.out.set6 _ _ _ _ _ _
   rw [← hw9]
   refine bodyPost_ret (results_agg agg_state rfl _ _ w.heap.size rfl [.int .i64 4, .slice none 0 0, .slice none 0 0, .slice none 0 0, .int .i64 0, .int .i64 0] (CellsAt.ofB hB9) rfl) rfl ?_
   rw [HV.out]
   exact ⟨⟨_, rfl, linkSt_at _ _⟩, HC4.out.kp.own hK9 (fun b e => by omega)⟩
 have HCL := hid hcl
 obtain ⟨G, hG⟩ : ∃ G, M.call p k n m = G := ⟨_, rfl⟩
 obtain ⟨⟨⟨v0, v1⟩, v2⟩, c2⟩ := G
 have hcall := lodge_call w4 l p HC4.out.at_ k n m
 rw [hG] at hcall
 simp only [mrefCs] at hcall
 have hhas : c2 = 1 → M.hasMethod p ⟨⟨v0, v1⟩, v2⟩ = true := fun h1 => by
  have h1 : (M.call p k n m).2 = 1 := by rw [hG]; exact h1
  obtain ⟨rr, hrr⟩ := M.call_found h1
  rw [hG] at hrr
  exact M.pick_has hrr
 have HHAS := hid hhas
 have HCALL := hid hcall
 replace HV := hid (HV.out.trans (if_pos (by simp [hcl])))
 rw [hG] at HV
 clear hcl hG hcall hhas
 go_wp2_with fail
 refine HCALL.out.mono ?_
 rintro e w5 ⟨⟨ev, rfl, hev⟩, hL5, hK5⟩
 obtain ⟨w6, hw6⟩ : ∃ w6, w6 = w5.alloc (.cells #[.int .i64 v0, .string v1, .int .i64 v2] 97) := ⟨_, rfl⟩
 have hE6 : Ext w5 w6 := by rw [hw6]; exact (KX.k (by repeat (first | assumption | constructor)))
 have b15 : Blk w6 w5.heap.size 97 #[.int .i64 v0, .string v1, .int .i64 v2] := by rw [hw6]; exact Blk.new _ _ _
 have hz6 : w6.heap.size = w5.heap.size + 1 := by rw [hw6]; simp
 have hz5 := hK5.size
 have hbz := HB124.out.kp hK5 (by omega)
 have HBZ := hid hbz
 have HKZ : Hid (Kp (· = l.D) w w5) := hid (HC4.out.kp.trans hK5)
 have HC6 : Hid (LC l p w w6) := hid ((HC4.out.step hL5 hK5).ext hE6)
 have HB126 := hid (hbz.ext hE6)
 have HB136 := hid ((HB134.out.kp hK5 (by omega)).ext hE6)
 have HB15 := hid b15
 have HW6 := hid hw6
 clear hL5 hK5 hE6 b15 hw6 HCALL HB124 HB134
 rcases hev.weak with ⟨rfl, rfl⟩ | ⟨hc, eb, rfl⟩
 rotate_left
 · replace HV : Hid (M.start p lk k n m args = M.linkSt) := hid (by rw [HV.out, if_neg (fun e => hc e.1)])
   clear hc hev
   have y0 := hbz.c 0 (.int .i64 0) rfl
   have f0 := hbz.frozen 0
   have y1 := hbz.c 1 (.slice none 0 0) rfl
   have f1 := hbz.frozen 1
   have y2 := hbz.c 2 (.slice none 0 0) rfl
   have f2 := hbz.frozen 2
   have y3 := hbz.c 3 (.slice none 0 0) rfl
   have f3 := hbz.frozen 3
   have y4 := hbz.c 4 (.int .i64 0) rfl
   have f4 := hbz.frozen 4
   have y5 := hbz.c 5 (.int .i64 0) rfl
   have f5 := hbz.frozen 5
   have yz := hbz.lt
   clear hbz
   go_wp2_with fail
   obtain ⟨w9, hw9⟩ : ∃ w9, w9 = (((((w5.setCell ⟨w.heap.size, 0, none⟩ (.int .i64 4)).setCell ⟨w.heap.size, 1, none⟩ (.slice none 0 0)).setCell ⟨w.heap.size, 2, none⟩ (.slice none 0 0)).setCell ⟨w.heap.size, 3, none⟩ (.slice none 0 0)).setCell ⟨w.heap.size, 4, none⟩ (.int .i64 0)).setCell ⟨w.heap.size, 5, none⟩ (.int .i64 0) := ⟨_, rfl⟩
   have hK9 : Kp (· = w.heap.size) w5 w9 := by rw [hw9]; exact Kp.set6 (D := (· = w.heap.size)) rfl _ _ _ _ _ _
   have hB9 : Blk w9 w.heap.size 36 #[.int .i64 4, .slice none 0 0, .slice none 0 0, .slice none 0 0, .int .i64 0, .int .i64 0] := by rw [hw9]; exact HBZ.out.set6 _ _ _ _ _ _
   rw [← hw9]
   refine bodyPost_ret (results_agg agg_state rfl _ _ w.heap.size rfl [.int .i64 4, .slice none 0 0, .slice none 0 0, .slice none 0 0, .int .i64 0, .int .i64 0] (CellsAt.ofB (hB9.ext ((Kp.refl _ _).alloc _))) rfl) rfl ?_
   rw [HV.out]
   exact ⟨⟨_, rfl, linkSt_at _ _⟩, (HKZ.out.own hK9 (fun b e => by omega)).alloc _⟩
 clear hev hbz
 have hx := HHAS.out rfl
 obtain ⟨mt, hm⟩ : ∃ mt, M.method p ⟨⟨v0, v1⟩, v2⟩ = mt := ⟨_, rfl⟩
 have hmi : M.MthIs mt := by rw [← hm]; exact M.mth_is (M.method_ok HC6.out.at_.ok hx).1
 have hmm := lodge_method' w6 l p HC6.out.at_ ⟨⟨v0, v1⟩, v2⟩ hx
 rw [hm] at hmm
 have hargs3 := hmi.args3
 have HMI := hid hmi
 have HMM := hid hmm
 have HM := hid hm
 have HX := hid hx
 clear hm hmm hx HHAS hmi
 go_wp2_with fail
 rw [← HW6.out]
 refine HMM.out.mono ?_
 rintro e w7 ⟨⟨cs, hml, rfl⟩, hE7⟩
 have hst := startable_walk w7 (· < l.O) cs mt hml args va ac hla
 obtain ⟨t2, rfl⟩ := mthCs_form hml
 have HST := hid hst
 have HE7 := hid hE7
 clear hst hE7 hml
 simp only [mthCs] at HST ⊢
 go_wp2_with fail
 refine HST.out.mono ?_
 rintro e w8 ⟨rfl, hE8⟩
 have HE8 : Hid (Ext w6 w8) := hid (HE7.out.trans hE8)
 have hz8 := HE8.out.size
 clear hE8 HST HE7
 cases hsb : M.startable mt args
 · replace HV : Hid (M.start p lk k n m args = M.linkSt) := hid (by
    rw [HV.out, if_neg]
    rintro ⟨_, e⟩
    simp only [HM.out, hsb] at e
    cases e)
   clear hsb
   have hbz := HB126.out.ext HE8.out
   have y0 := hbz.c 0 (.int .i64 0) rfl
   have f0 := hbz.frozen 0
   have y1 := hbz.c 1 (.slice none 0 0) rfl
   have f1 := hbz.frozen 1
   have y2 := hbz.c 2 (.slice none 0 0) rfl
   have f2 := hbz.frozen 2
   have y3 := hbz.c 3 (.slice none 0 0) rfl
   have f3 := hbz.frozen 3
   have y4 := hbz.c 4 (.int .i64 0) rfl
   have f4 := hbz.frozen 4
   have y5 := hbz.c 5 (.int .i64 0) rfl
   have f5 := hbz.frozen 5
   have yz := hbz.lt
   have HBZ := hid hbz
   clear hbz
   go_wp2_with fail
   obtain ⟨w9, hw9⟩ : ∃ w9, w9 = (((((w8.setCell ⟨w.heap.size, 0, none⟩ (.int .i64 4)).setCell ⟨w.heap.size, 1, none⟩ (.slice none 0 0)).setCell ⟨w.heap.size, 2, none⟩ (.slice none 0 0)).setCell ⟨w.heap.size, 3, none⟩ (.slice none 0 0)).setCell ⟨w.heap.size, 4, none⟩ (.int .i64 0)).setCell ⟨w.heap.size, 5, none⟩ (.int .i64 0) := ⟨_, rfl⟩
   have hK9 : Kp (· = w.heap.size) w8 w9 := by rw [hw9]; exact Kp.set6 (D := (· = w.heap.size)) rfl _ _ _ _ _ _
   have hB9 : Blk w9 w.heap.size 36 #[.int .i64 4, .slice none 0 0, .slice none 0 0, .slice none 0 0, .int .i64 0, .int .i64 0] := by rw [hw9]; exact HBZ.out.set6 _ _ _ _ _ _
   rw [← hw9]
   refine bodyPost_ret (results_agg agg_state rfl _ _ w.heap.size rfl [.int .i64 4, .slice none 0 0, .slice none 0 0, .slice none 0 0, .int .i64 0, .int .i64 0] (CellsAt.ofB hB9) rfl) rfl ?_
   rw [HV.out]
   exact ⟨⟨_, rfl, linkSt_at _ _⟩, (HC6.out.ext HE8.out).kp.own hK9 (fun b e => by omega)⟩
 replace HV := hid (HV.out.trans (if_pos (by simp [HM.out, hsb])))
 have hlen : mt.args.length = args.length := by
  unfold M.startable at hsb
  simp only [Bool.and_eq_true, decide_eq_true_eq] at hsb
  exact hsb.1
 have HLEN := hid hlen
 have hal3 : args.length ≤ 3 := by omega
 clear hsb hlen hla
 have b13 := HB136.out.ext HE8.out
 have r0 := b13.c 0 (.int .i64 fk) rfl
 have r1 := b13.c 1 (.string fn) rfl
 have rz := b13.lt
 obtain ⟨w9, hw9⟩ : ∃ w9, w9 = w8.alloc (.cells #[.pointer (some ⟨l.L, 0, none⟩), .bool lk, .int .i64 1, .slice none 0 0, .slice none 0 0, .slice none 0 0, .int .i64 0, .int .i64 0] 86) := ⟨_, rfl⟩
 have hE9 : Ext w8 w9 := by rw [hw9]; exact (KX.k (by repeat (first | assumption | constructor)))
 have b17 : Blk w9 w8.heap.size 86 #[.pointer (some ⟨l.L, 0, none⟩), .bool lk, .int .i64 1, .slice none 0 0, .slice none 0 0, .slice none 0 0, .int .i64 0, .int .i64 0] := by rw [hw9]; exact Blk.new _ _ _
 have hz9 : w9.heap.size = w8.heap.size + 1 := by rw [hw9]; simp
 obtain ⟨own9, hM9⟩ : ∃ own', MachAt w9 l p own' w8.heap.size w8.heap.size lk ⟨1, [], [], [], M.zval, .slice none 0 0, .slice none 0 0, .slice none 0 0⟩ :=
  MachAt.start (HC6.out.at_.ext (HE8.out.trans hE9)) (by omega) (HpOut.nil _ _) rfl (Nat.le_refl _) b17 (World.ownsRow_nil _ _ _ _) (fun b hb => by cases hb) M.Good.empty
 have hcr : Calls Tryz.prog 70 #[.pointer (some ⟨w8.heap.size, 0, none⟩), .agg #[.int .i64 fk, .string fn]] w9 (MEnd w9 l p own9 w8.heap.size w8.heap.size lk (.agg #[.int .i64 2, .int .i64 0]) ⟨1, [], [M.fresh p ⟨fk, fn⟩], [], M.zval⟩) :=
  mach_create w9 l p own9 w8.heap.size w8.heap.size lk _ hM9 ⟨fk, fn⟩ HCL.out (by simp)
 have hno9 : ∀ b, b < w8.heap.size → b ≠ l.D → ¬ MO l own9 b := fun b hb hd hm => by
  rcases hm with hm | hm
  · exact hd hm
  · have := (hM9.dom b hm).1; omega
 have HNO9 := hid hno9
 have HD9 : Hid (∀ b, own9 b ≠ none → w8.heap.size ≤ b) := hid (fun b hb => (hM9.dom b hb).1)
 have HCR := hid hcr
 have HE9 := hid hE9
 have HW9 := hid hw9
 clear b13 hE9 b17 hw9 hM9 hcr hno9
 go_wp2_with fail
 rw [← HW9.out]
 refine HCR.out.mono ?_
 rintro e w10 ⟨rfl, hK10, own10, g10, hag, hM10, hg10⟩
 clear r0 r1 rz
 have hz10 := hK10.size
 have HK10 : Hid (Kp (· = l.D) w w10) := hid (((HC6.out.ext HE8.out).kp.trans HE9.out.any).own' hK10 (fun b hb => by
  rcases hb with hb | hb
  · exact .inl hb
  · right
    have := HD9.out b hb
    omega))
 have HAR10 : Hid (SliceOf 1 IntL w10 (· < l.O) (.slice va args.length ac) args) := hid (HAR.out.keep IntL.stays (HK10.out.same fun b hb e => by omega) fun _ h => h)
 have HB12X : Hid (Blk w10 w.heap.size 36 #[.int .i64 0, .slice none 0 0, .slice none 0 0, .slice none 0 0, .int .i64 0, .int .i64 0]) := hid ((HB126.out.ext (HE8.out.trans HE9.out)).kp hK10 (HNO9.out _ (by omega) (by omega)))
 have HB15X : Hid (Blk w10 w5.heap.size 97 #[.int .i64 v0, .string v1, .int .i64 v2]) := hid ((HB15.out.ext (HE8.out.trans HE9.out)).kp hK10 (HNO9.out _ (by omega) (by omega)))
 have HM10 := hid hM10
 have HG10 := hid hg10
 obtain ⟨w11, hw11⟩ : ∃ w11, w11 = w10.alloc (.cells #[.int .i64 2, .int .i64 0] 34) := ⟨_, rfl⟩
 have hE11 : Ext w10 w11 := by rw [hw11]; exact (KX.k (by repeat (first | assumption | constructor)))
 have hrow : w11.ownsRow w10.heap.size 34 2 (.slice (some ⟨w10.heap.size, 0, none⟩) 1 1) 1 (valCs ⟨2, 0⟩) := by
  rw [hw11]; exact World.ownsRow_lit (size := 2) w10 #[.int .i64 2, .int .i64 0] 1 (Nat.le_refl _) (by unfold maxLen; omega) rfl
 have HE11 := hid hE11
 have HROW := hid hrow
 have HW11 := hid hw11
 clear hK10 hag hM10 hg10 hE11 hrow hw11 HNO9 HAR HB126 HB15 HB136
 go_wp2_with fail
 rw [← HW11.out]
 go_loopw [66, 18] (fun i vv wr => ∃ q : Nat, q ≤ args.length ∧ i = .int .i64 q ∧ Ext w10 wr ∧ wr.ownsRow w10.heap.size 34 2 vv (q + 1) ((M.Val.mk 2 0 :: (args.take q).map M.numVal).flatMap valCs)) (fun i _ _ => args.length - (intOf i).toNat)
 case atStart => exact ⟨0, Nat.zero_le _, rfl, HE11.out, by simpa using HROW.out⟩
 case round =>
  obtain ⟨q, hq, rfl, hE, hrow⟩ := hrel
  obtain ⟨vb, vc, rfl, hvb, hvl, hvc⟩ := owns_form hrow (by omega)
  have hzr := hE.size
  by_cases hlt : q < args.length
  · obtain ⟨x, hx⟩ := elemF args q hlt
    obtain ⟨b, off, cs, rfl, hI, rfl, -, hc⟩ := (HAR10.out.ext IntL.stays hE).get hx
    rw [Nat.mul_one] at hc
    have g0 := hc.one
    have gz := cell_lt g0
    have HX := hid hx
    have HE := hid hE
    have HRW := hid hrow
    clear hx hc hE hrow
    go_wp2_with fail
    refine (num_val x _).mono ?_
    rintro e w12 ⟨rfl, hE12⟩
    have HE12 := hid hE12
    have hz12 := hE12.size
    clear hE12
    go_wp2_with (at_builtin; refine wpList_append_one elem_val _ rfl _ _ rfl w10.heap.size _ (q + 1) _ rfl (owns_kp (D := fun _ => False) HRW.out (HE12.out.alloc _) fun _ _ _ x => x) w12.heap.size 1 (valCs (M.numVal x)) rfl rfl ?c1 ?c2 ?c3 ?c4 ?_)
    case c1 => exact CellsAt.newA _ _ rfl
    case c2 => exact one_val _
    case c3 => omega
    case c4 => simp; omega
    intro v' w' hown' hK g1 cp1 hv1 hg1 hl1
    subst hv1
    have HO2 := hid hown'
    have HK2 := hid hK
    clear hown' hK
    go_wp2_with fail
    refine ⟨⟨q + 1, by omega, by go_num, (HE.out.trans (HE12.out.alloc _)).own HK2.out (fun b e => by cases e; exact hvb), ?_⟩, by simp [intOf]; omega⟩
    have := HO2.out
    rw [List.take_add_one, HX.out]
    simpa using this
  · have hqe : q = args.length := by omega
    have hM := HM10.out.ext hE
    have hg1 : g10.os.length = 1 := by
     have := congrArg (fun s => s.heap.length) HG10.out
     simpa [Gh.st] using this
    have hgs : g10.status = 1 := by have := congrArg M.St.status HG10.out; exact this
    have hvs : (M.Val.mk 2 0 :: args.map M.numVal).length = q + 1 := by simp; omega
    have hrow2 : wr.ownsRow w10.heap.size 34 2 (.slice (some ⟨vb, 0, none⟩) (q + 1) vc) (M.Val.mk 2 0 :: args.map M.numVal).length ((M.Val.mk 2 0 :: args.map M.numVal).flatMap valCs) := by
     rw [hvs]
     rw [hqe, List.take_length] at hrow
     rw [hqe]
     exact hrow
    have hent := mach_enter wr l p own10 w8.heap.size w8.heap.size lk g10 hM hgs ⟨⟨v0, v1⟩, v2⟩ HX.out w10.heap.size _ (M.Val.mk 2 0 :: args.map M.numVal) hrow2 (fun b hb hm => by
        have hb2 : b = vb := by cases hb; rfl
        rcases hm with hm | hm
        · omega
        · have := (HM10.out.dom _ hm).2; omega) (fun v hv => by
        rw [hg1]
        rcases List.mem_cons.1 hv with rfl | hv
        · exact M.valOk_mk _ (by omega) (by omega)
        · obtain ⟨x, hx, rfl⟩ := List.mem_map.1 hv
          exact M.valOk_numVal _ (List.all_eq_true.1 HNUM.out x hx)) (by rw [hvs, HM.out, HLEN.out]; omega)
    rw [HG10.out] at hent
    have b15 := HB15X.out.ext hE
    have r0 := b15.c 0 (.int .i64 v0) rfl
    have r1 := b15.c 1 (.string v1) rfl
    have r2 := b15.c 2 (.int .i64 v2) rfl
    have rz := b15.lt
    have HENT := hid hent
    have HE := hid hE
    have HMX := hid hM
    clear hent hE hM hrow hrow2 b15 hvs hg1 hgs hqe
    go_wp2_with fail
    refine HENT.out.mono ?_
    rintro e w12 ⟨rfl, hK12, own12, g12, hag12, hM12, hg12⟩
    have hend := mach_end w12 l p own12 w8.heap.size w8.heap.size lk g12 hM12 (M.enter p lk ⟨⟨v0, v1⟩, v2⟩ (M.Val.mk 2 0 :: args.map M.numVal) ⟨1, [], [M.fresh p ⟨fk, fn⟩], [], M.zval⟩).1
    rw [hg12] at hend
    have HEND := hid hend
    have HK12 := hid hK12
    have HA12 := hid hag12
    have hz12 := hK12.size
    clear hend hK12 hag12 hM12 hg12 r0 r1 r2 rz
    go_wp2_with fail
    refine HEND.out.mono ?_
    rintro e w13 ⟨rfl, hK13, own13, g13, hag13, hM13, hg13⟩
    have HST := hid (mach_state w13 l p own13 w8.heap.size w8.heap.size lk g13 hM13)
    have hz13 := hK13.size
    have hKa : Kp (MO l own10) wr w13 := HK12.out.mo hK13 HA12.out
    have HKA := hid hKa
    have HG13 := hid hg13
    clear hK13 hag13 hM13 hg13 hKa
    go_wp2_with fail
    refine HST.out.mono ?_
    rintro e w14 ⟨⟨cs, rfl, hS⟩, hE14⟩
    have HS := hid hS
    obtain ⟨a1, c1, a2, c2, a3, c3, rfl, -, -, -⟩ := hS.form
    have hno10 : ∀ b, b < w8.heap.size → b ≠ l.D → ¬ MO l own10 b := fun b hb hd hm => by
     rcases hm with hm | hm
     · exact hd hm
     · have := (HM10.out.dom b hm).1; omega
    have hbz := ((HB12X.out.ext HE.out).kp HKA.out (hno10 _ (by omega) (by omega))).ext hE14
    have hz14 := hE14.size
    obtain ⟨w15, hw15⟩ : ∃ w15, w15 = (((((w14.setCell ⟨w.heap.size, 0, none⟩ (.int .i64 g13.st.status)).setCell ⟨w.heap.size, 1, none⟩ (.slice a1 g13.st.frames.length c1)).setCell ⟨w.heap.size, 2, none⟩ (.slice a2 g13.st.heap.length c2)).setCell ⟨w.heap.size, 3, none⟩ (.slice a3 g13.st.outs.length c3)).setCell ⟨w.heap.size, 4, none⟩ (.int .i64 g13.st.back.kind)).setCell ⟨w.heap.size, 5, none⟩ (.int .i64 g13.st.back.n) := ⟨_, rfl⟩
    have hK15 : Kp (· = w.heap.size) w14 w15 := by rw [hw15]; exact Kp.set6 (D := (· = w.heap.size)) rfl _ _ _ _ _ _
    have hB15 : Blk w15 w.heap.size 36 #[.int .i64 g13.st.status, .slice a1 g13.st.frames.length c1, .slice a2 g13.st.heap.length c2, .slice a3 g13.st.outs.length c3, .int .i64 g13.st.back.kind, .int .i64 g13.st.back.n] := by rw [hw15]; exact hbz.set6 _ _ _ _ _ _
    have hKF : Kp (· = l.D) w w15 := ((HK10.out.trans HE.out.any).own' (HKA.out.trans hE14.any) (fun b hb => by
     rcases hb with hb | hb
     · exact .inl hb
     · right; have := (HM10.out.dom b hb).1; omega)).own hK15 (fun b e => by omega)
    have hSF := StateL.stays _ _ _ (fun b => w.heap.size ≤ b) _ _ (hK15.same fun b (hb : w13.heap.size ≤ b) e => by omega) (fun b (hb : w13.heap.size ≤ b) => by omega) HS.out
    have y0 := hbz.c 0 (.int .i64 0) rfl
    have f0 := hbz.frozen 0
    have y1 := hbz.c 1 (.slice none 0 0) rfl
    have f1 := hbz.frozen 1
    have y2 := hbz.c 2 (.slice none 0 0) rfl
    have f2 := hbz.frozen 2
    have y3 := hbz.c 3 (.slice none 0 0) rfl
    have f3 := hbz.frozen 3
    have y4 := hbz.c 4 (.int .i64 0) rfl
    have f4 := hbz.frozen 4
    have y5 := hbz.c 5 (.int .i64 0) rfl
    have f5 := hbz.frozen 5
    have yz := hbz.lt
    have HKF := hid hKF
    have HSF := hid hSF
    have HB15 := hid hB15
    have HW15 := hid hw15
    clear hbz hw15 hK15 hB15 hKF hSF hS hE14 hno10
    go_wp2_with fail
    rw [← HW15.out]
    refine bodyPost_ret (results_agg agg_state rfl _ _ w.heap.size rfl [.int .i64 g13.st.status, .slice a1 g13.st.frames.length c1, .slice a2 g13.st.heap.length c2, .slice a3 g13.st.outs.length c3, .int .i64 g13.st.back.kind, .int .i64 g13.st.back.n] (CellsAt.ofB HB15.out) rfl) rfl ?_
    rw [HV.out]
    have hs := HSF.out
    rw [HG13.out] at hs ⊢
    exact ⟨⟨_, rfl, hs⟩, HKF.out⟩
end Go.Proofs.YtjdfceejkneofaaGreat
