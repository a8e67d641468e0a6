/- Walks: the machine's instruction call (printed by gen_m17.py).; Walks: a step.; Walks: startable.; Walks: values are valid.; How a run lies in memory as a value: things, calls, the state.; Walks: things are valid. -/
import Derived.Test.YtjdfceejkneofaaGreatJar
import Derived.Test.YtjdfceejkneofaaGreatJam
set_option maxRecDepth 100000
set_option maxHeartbeats 4000000
set_option linter.unusedSimpArgs false
set_option linter.unusedVariables false
namespace Go.Proofs.YtjdfceejkneofaaGreat
open Go Go.RowKit
open Go.Lib (hid)
theorem mach_popAllP (w : World) (l : Lodge) (p : M.Plan) (own : Own) (B mb : Nat) (lk : Bool) (g : Gh) (h : MachAt w l p own B mb lk g) (r : List GC) (c : GC) (hcs : g.cs = r ++ [c]) (st vs : List M.Val) (n : Nat) (hst : c.f.stack = st ++ vs) (hn : vs.length = n) (hn0 : 0 < n) :
    Calls Tryz.prog 84 #[.pointer (some ⟨c.cb, 13, none⟩), .int .i64 n] w fun e w' => ∃ v', e = .returned (.tuple #[v', .bool true]) ∧ w'.ownsRow w.heap.size 34 2 v' n (vs.flatMap valCs) ∧ Kp (PO own (R46 r.length)) w w' ∧ ∃ vs', MachAt w' l p own B mb lk (g.stk r c st vs') := by
 have hc := h.at_ hcs
 have hfr := M.frameOk_iff.1 (h.frm hcs)
 have hms := (h.mi hcs).stack
 have hsl := hfr.2.2.2.2.1
 have hlen : c.f.stack.length = st.length + n := by rw [hst]; simp [hn]
 refine (popAll_some w c.cb 13 B _ _ c.vs c.f.stack.length c.f.stack hc.blk rfl hc.stk.row rfl n (by omega) hn0 (by omega) (fun e => by have := hc.stk.role _ e; rw [hc.role] at this; cases this)).mono ?_
 rintro e w' ⟨v', rfl, hrow, ⟨a, k, hv, hb⟩, hK⟩
 rw [hlen] at hv
 rw [hlen, Nat.add_sub_cancel] at hb
 have e1 : c.f.stack.drop (c.f.stack.length - n) = vs := by rw [hlen, Nat.add_sub_cancel, hst, List.drop_left]
 rw [e1] at hrow
 obtain ⟨h1, h2⟩ := h.popped hcs hv ⟨vs, hst, hn⟩ hn0 hb hK
 exact ⟨v', rfl, hrow, h.stackPO hcs (hK.weak fun b _ e => .inl e), _, h2⟩
theorem do_call (w : World) (l : Lodge) (p : M.Plan) (own : Own) (B mb : Nat) (lk : Bool) (g : Gh) (h : MachAt w l p own B mb lk g) (r : List GC) (c : GC) (hcs : g.cs = r ++ [c]) (hst : g.status = 1) (i : M.Ins) (hi : M.insIn (M.method p c.f.of) i = true) (hop : i.op = 9) :
    Calls Tryz.prog 58 #[.pointer (some ⟨mb, 0, none⟩), .agg #[.int .i64 i.op, .int .i64 i.a, .string i.name, .string i.member]] w (MEnd w l p own B mb lk (.int .i64 (M.doIns p lk i g.st).1) (M.doIns p lk i g.st).2) := by
 have HI := hid (M.ins_a hi)
 obtain ⟨w0, hw0⟩ : ∃ w0, w0 = w.alloc (.cells #[.int .i64 i.op, .int .i64 i.a, .string i.name, .string i.member] 28) := ⟨_, rfl⟩
 have hE0 : Ext w w0 := by rw [hw0]; exact (KX.k (by repeat (first | assumption | constructor)))
 have b3 : Blk w0 w.heap.size 28 #[.int .i64 i.op, .int .i64 i.a, .string i.name, .string i.member] := by rw [hw0]; exact Blk.new _ _ _
 have HNO := hid (h.fresh (Nat.le_refl _))
 have HFRE : Hid (∀ b, w.heap.size ≤ b → ¬ MO l own b) := hid (fun b hb => h.fresh hb)
 have hLw0 := h.lod.lt
 have hDL := h.lod.ord.2.2
 have HA0 := hid (h.ext hE0)
 have HE0 := hid hE0
 have HB3 := hid b3
 have HW0 := hid hw0
 have HCS := hid hcs
 have hwz := b3.lt
 clear h hE0 b3 hw0 hcs hi
 obtain ⟨⟨⟨⟨v0, v1⟩, v2⟩, cd⟩, hF⟩ : ∃ F, M.call p c.f.of.of.keeper i.name i.member = F := ⟨_, rfl⟩
 have HV : Hid (M.doIns p lk i g.st = if cd = 1 then (match M.popAll ((M.method p ⟨⟨v0, v1⟩, v2⟩).args.length + 1) g.st with
     | some (vs, s1) => if M.object p (vs.headD M.zval) ⟨v0, v1⟩ s1 = 1 then (match M.pick p (M.ofAt s1.heap (vs.headD M.zval).n) i.member with
         | some x => M.enter p lk x vs s1
         | none => (10, s1)) else (M.object p (vs.headD M.zval) ⟨v0, v1⟩ s1, s1)
     | none => (10, g.st)) else (4, g.st)) := hid (by
  unfold M.doIns; rw [hop]; simp only [Gh.top HCS.out, hF]; rfl)
 have HF := hid hF
 have HOP := hid hop
 clear hop
 go_enter Tryz.func58, Tryz.ntmps58
 go_wp2_with fail
 rw [← HW0.out]
 refine (mach_top _ _ _ _ _ _ _ _ HA0.out r c HCS.out).mono ?_
 rintro e w1 ⟨rfl, hE1⟩
 have HA := hid (HA0.out.ext hE1)
 have HE1 : Hid (Ext w w1) := hid (HE0.out.trans hE1)
 have HB31 := hid (HB3.out.ext hE1)
 have hLw : l.L < w1.heap.size := HA.out.lod.lt
 have hDw : l.D < w1.heap.size := by omega
 have hwz1 : w.heap.size < w1.heap.size := HB31.out.lt
 have hget : ∀ W, LC l p w1 W → Calls Tryz.prog 68 #[.pointer (some ⟨l.L, 0, none⟩), .int .i64 c.f.of.of.keeper, .string i.name, .string i.member] W fun e w' => ∃ ev, e = .returned (.tuple #[.agg #[.int .i64 v0, .string v1, .int .i64 v2], ev]) ∧ ErrV' ev cd ∧ Kp (· = l.D) W w' ∧ LC l p w1 w' := fun W hW => by
  have hl := lodge_call W l p hW.at_ c.f.of.of.keeper i.name i.member
  rw [HF.out] at hl
  refine hl.mono ?_
  rintro e w' ⟨⟨ev, rfl, hev⟩, hL, hK⟩
  exact ⟨ev, rfl, hev.weak, hK, hW.step hL hK⟩
 have HGET := hid hget
 have HC : Hid (LC l p w1 w1.drew) := hid (LC.refl HA.out.lod).drew
 obtain ⟨T, f, hneT, HT⟩ := Cls.ex (fun W' => LC l p w1 W') w1 (LC.refl HA.out.lod)
 have rm0 := fun z => (HA.out.lod' (HT.inn z).kp (HT.inn z).at_).blk.c 0 (.pointer (some ⟨l.L, 0, none⟩)) rfl
 have r32 := fun z => (HB31.out.kp (HT.inn z).kp (by omega)).c 2 (.string i.name) rfl
 have r33 := fun z => (HB31.out.kp (HT.inn z).kp (by omega)).c 3 (.string i.member) rfl
 have HTH := hid HT
 clear HT hget hE1
 go_wp2_with fail
 rename_i K hK
 have tail : ∀ (b6 : Nat) (w7 : World) (ev : Value), LC l p w1 w7 → Blk w7 b6 97 #[.int .i64 v0, .string v1, .int .i64 v2] → w1.heap.size ≤ b6 → ErrV' ev cd → K { tmps := #[.pointer (some ⟨mb, 0, none⟩), .agg #[.int .i64 i.op, .int .i64 i.a, .string i.name, .string i.member], undef, .pointer (some ⟨w.heap.size, 0, none⟩), .int .i64 0, .pointer (some ⟨c.cb, 0, none⟩), .pointer (some ⟨b6, 0, none⟩), ev, undef, undef, undef, undef, undef, .pointer (some ⟨mb, 0, none⟩), .pointer (some ⟨c.cb, 0, none⟩), .tuple #[.agg #[.int .i64 v0, .string v1, .int .i64 v2], ev], .pointer (some ⟨mb, 0, none⟩), .pointer (some ⟨mb, 0, none⟩), .pointer (some ⟨mb, 0, none⟩), .pointer (some ⟨l.L, 0, none⟩), .pointer (some ⟨c.cb, 0, none⟩), .int .i64 c.f.of.of.keeper, .pointer (some ⟨w.heap.size, 2, none⟩), .string i.name, .pointer (some ⟨w.heap.size, 3, none⟩), .string i.member, .tuple #[.agg #[.int .i64 v0, .string v1, .int .i64 v2], ev], .agg #[.int .i64 v0, .string v1, .int .i64 v2], ev, undef, undef, undef, undef, undef, undef, undef, undef, undef, undef, undef, undef, undef, undef, undef, undef, undef, undef, undef, undef, undef, undef, undef, undef, undef, undef, undef, undef, undef, undef, undef, undef, undef, undef, undef, undef, undef, undef, undef, undef, undef, undef, undef, undef, undef, undef, undef, undef, undef, undef, undef, undef, undef, undef, undef, undef, undef], defers := [] } w7 := by
  intro b6 w7 ev hC hB6 hb6 hev
  refine hK _ _ ?_
  clear hK HTH rm0 r32 r33 HC HGET
  have HM7 := hid (HA.out.lod' hC.kp hC.at_)
  have HK7 : Hid (Kp (MO l own) w w7) := hid (HE1.out.any.trans hC.mo)
  have HB6 := hid hB6
  have HB37 := hid (HB31.out.kp hC.kp (by omega))
  have HN6 := hid (HFRE.out b6 (by omega))
  clear hC hB6
  rcases hev with ⟨rfl, rfl⟩ | ⟨hc, eb, rfl⟩
  rotate_left
  · replace HV : Hid (M.doIns p lk i g.st = (4, g.st)) := hid (by rw [HV.out, if_neg hc])
    clear hc
    go_wp2_with fail
    go_ret
    rw [HV.out]
    exact MEnd.mk' HK7.out (Agr.refl _ _) HM7.out rfl
  have hhas : M.hasMethod p ⟨⟨v0, v1⟩, v2⟩ = true := by
   have h1 : (M.call p c.f.of.of.keeper i.name i.member).2 = 1 := by rw [HF.out]
   obtain ⟨rr, hrr⟩ := M.call_found h1
   rw [HF.out] at hrr
   exact M.pick_has hrr
  have HHAS := hid hhas
  have hmi : M.MthIs (M.method p ⟨⟨v0, v1⟩, v2⟩) := M.mth_is (M.method_ok HM7.out.lod.ok hhas).1
  obtain ⟨m, hm⟩ : ∃ m, M.method p ⟨⟨v0, v1⟩, v2⟩ = m := ⟨_, rfl⟩
  have hmm := fun W (hW : LodgeAt W l p) => lodge_method' W l p hW ⟨⟨v0, v1⟩, v2⟩ hhas
  rw [hm] at hmi hmm
  replace HV : Hid (M.doIns p lk i g.st = (match M.popAll (m.args.length + 1) g.st with
   | some (vs, s1) => if M.object p (vs.headD M.zval) ⟨v0, v1⟩ s1 = 1 then (match M.pick p (M.ofAt s1.heap (vs.headD M.zval).n) i.member with
       | some x => M.enter p lk x vs s1
       | none => (10, s1)) else (M.object p (vs.headD M.zval) ⟨v0, v1⟩ s1, s1)
   | none => (10, g.st))) := hid (by rw [HV.out, if_pos rfl, hm])
  have hargs3 := hmi.args3
  have HMM := hid hmm
  have HM := hid hm
  obtain ⟨T, f, hneT, HT⟩ := Cls.ex (fun W' => Kp (PO own (R46 r.length)) w7 W') _ (Kp.refl _ _)
  have no : ∀ b q, own b = some q → ¬ R46 r.length q → ¬ PO own (R46 r.length) b := fun b q hb hq ⟨q', h1, h2⟩ => by rw [hb] at h1; cases h1; exact hq h2
  have noN : ∀ b, ¬ MO l own b → ¬ PO own (R46 r.length) b := fun b hb hp => hb hp.mo
  have rm0 := fun z => (HM7.out.blk.kp (HT.inn z) (no _ _ HM7.out.role (by simp [R46]))).c 0 (.pointer (some ⟨l.L, 0, none⟩)) rfl
  have r60 := fun z => (HB6.out.kp (HT.inn z) (noN _ HN6.out)).c 0 (.int .i64 v0) rfl
  have r61 := fun z => (HB6.out.kp (HT.inn z) (noN _ HN6.out)).c 1 (.string v1) rfl
  have r62 := fun z => (HB6.out.kp (HT.inn z) (noN _ HN6.out)).c 2 (.int .i64 v2) rfl
  have HTH := hid HT
  have hwa : IntKind.i64.wrap ((m.args.length : Int) + 1) = m.args.length + 1 := IntWalk.i64_in _ (by omega)
  clear HT hhas hmi hm hmm no noN
  go_wp2_with fail
  (refine region_mix f 17 [([0, 1, 2, 3, 4, 5, 6, 7], 8), ([9, 10, 11], 12)] [13, 14, 15, 16] (HTH.out.out _ ?_) (by kernel_rfl) (by kernel_rfl) (fun _ _ d _ _ h => by cases d <;> exact h) ?_)
  · exact (Kp.refl _ _).drew
  (refine wpMix_cons rfl rfl fun K hK => ?_); (change wpQuiet _ _ _ _ [_, _, _, _, _, _, _, _] _); (repeat (go_big_quiet_step (fail))); (refine wpQuiet_nil ?_); (refine hK _ fun K2 hK2 => ?_); clear hK K; (change wpList _ _ _ [_] _ _)
  go_wp2_with fail
  refine (HMM.out _ (HM7.out.lod.ext (Kp.refl _ _).drew)).mono ?_
  rintro e w8 ⟨⟨cs, hml, rfl⟩, hE8⟩
  obtain ⟨t, rfl⟩ := mthCs_form hml
  obtain ⟨a1, c1, a2, c2, a3, c3⟩ := t
  have HE8 : Hid (Ext w7 w8) := hid (((Kp.refl _ w7).drew : Ext w7 _).trans hE8)
  have hfl : ∀ W, (Instr.field 60 (.agg (mthCs m ⟨a1, c1, a2, c2, a3, c3⟩).toArray) 1).run Tryz.prog W = .ok (.slice a1 m.args.length c1) W := (fun W => by kernel_rfl)
  simp only [mthCs] at hfl ⊢
  clear hml hE8
  go_wp2_with fail
  (refine hK2 _ _ (HTH.out.out _ HE8.out.any) ?_); clear hK2 K2
  (refine wpMix_cons rfl rfl fun K hK => ?_); (change wpQuiet _ _ _ _ [_, _, _] _); (repeat (go_big_quiet_step (fail))); (refine wpQuiet_nil ?_); (refine hK _ fun K2 hK2 => ?_); clear hK K; (change wpList _ _ _ [_] _ _)
  by_cases hlen : c.f.stack.length < m.args.length + 1
  · replace HV : Hid (M.doIns p lk i g.st = (10, g.st)) := hid (by rw [HV.out, Gh.popAll_no HCS.out hlen])
    have hpn := mach_popAll_no _ _ _ _ _ _ _ _ (HM7.out.ext HE8.out) r c HCS.out (m.args.length + 1) hlen (by omega)
    have HPN := hid hpn
    clear hpn hlen
    go_wp2_with fail
    refine HPN.out.mono ?_
    rintro e w9 ⟨rfl, rfl⟩
    go_wp2_with fail
    (refine hK2 _ _ (HTH.out.out _ HE8.out.any) ?_); clear hK2 K2
    (refine wpMix_nil rfl fun K hK => ?_); (change wpQuiet _ _ _ _ [_, _, _, _] _); (repeat (go_big_quiet_step (fail))); (refine wpQuiet_nil ?_); (refine hK _ ?_); clear hK K
    go_wp2_with fail
    go_ret
    rw [HV.out]
    exact MEnd.mk' (HK7.out.trans HE8.out.any) (Agr.refl _ _) (HM7.out.ext HE8.out) rfl
  · obtain ⟨st, vs, hs, hvl⟩ : ∃ st vs, c.f.stack = st ++ vs ∧ vs.length = m.args.length + 1 :=
     ⟨c.f.stack.take (c.f.stack.length - (m.args.length + 1)), c.f.stack.drop (c.f.stack.length - (m.args.length + 1)), (List.take_append_drop _ _).symm, by rw [List.length_drop]; omega⟩
    have hvk := (M.frameOk_iff.1 (HM7.out.frm HCS.out)).2.2.2.2.2.2
    have HVS : Hid (∀ v ∈ vs, M.valOk v g.os.length = true) := hid (fun v hv => by simpa [Gh.st] using hvk v (by rw [hs]; exact List.mem_append_right _ hv))
    have HV2 : Hid (∀ vs', M.doIns p lk i g.st = if M.object p (vs.headD M.zval) ⟨v0, v1⟩ (g.stk r c st vs').st = 1 then (match M.pick p (M.ofAt g.st.heap (vs.headD M.zval).n) i.member with
        | some x => M.enter p lk x vs (g.stk r c st vs').st
        | none => (10, (g.stk r c st vs').st)) else (M.object p (vs.headD M.zval) ⟨v0, v1⟩ (g.stk r c st vs').st, (g.stk r c st vs').st)) := hid (fun vs' => by rw [HV.out, Gh.popAll HCS.out hs hvl vs']; rfl)
    have hpp := mach_popAllP _ _ _ _ _ _ _ _ (HM7.out.ext HE8.out) r c HCS.out st vs (m.args.length + 1) hs hvl (by omega)
    have HPP := hid hpp
    have HVL := hid hvl
    clear hpp hlen hs hvk HV hvl
    obtain ⟨⟨ok, on⟩, hhd⟩ : ∃ o, vs[0]? = some o := ⟨vs[0]'(by have := HVL.out; omega), List.getElem?_eq_getElem _⟩
    have hhead : vs.headD M.zval = ⟨ok, on⟩ := by
     cases vs with
     | nil => cases hhd
     | cons y r => simpa using hhd
    rw [hhead] at HV2
    simp only at HV2
    have HOK : Hid (M.valOk ⟨ok, on⟩ g.os.length = true) := hid (HVS.out _ (List.mem_of_getElem? hhd))
    have HHD := hid hhd
    clear hhead hhd
    go_wp2_with fail
    refine HPP.out.mono ?_
    rintro e w9 ⟨v', rfl, hrow, hPO, vs', hM9⟩
    have HV := hid (HV2.out vs')
    obtain ⟨gt, gc, rfl, hgb, -⟩ := owns_form hrow (by omega)
    have HK9 : Hid (Kp (MO l own) w w9) := hid ((HK7.out.trans HE8.out.any).trans (hPO.weak fun b _ e => e.mo))
    have HPO : Hid (Kp (PO own (R46 r.length)) w7 w9) := hid (HE8.out.any.trans hPO)
    have HM9 := hid hM9
    have HROW := hid hrow
    clear hrow hPO hM9 HPP HV2
    go_wp2_with fail
    (refine hK2 _ _ (HTH.out.out _ HPO.out) ?_); clear hK2 K2
    clear HTH rm0 r60 r61 r62
    (refine wpMix_nil rfl fun K hK => ?_); (change wpQuiet _ _ _ _ [_, _, _, _] _); (repeat (go_big_quiet_step (fail))); (refine wpQuiet_nil ?_); (refine hK _ ?_); clear hK K
    have hc0 := owns_at (enc := valCs) (k := 2) (fun _ => rfl) HROW.out HHD.out
    have hB69 := HB6.out.kp HPO.out (fun hp => HN6.out hp.mo)
    have hB39 := HB37.out.kp HPO.out (fun hp => HNO.out hp.mo)
    obtain ⟨T, f, hneT, HT⟩ := Cls.ex (fun W' => Ext w9 W') _ (Kp.refl _ _)
    have rg0 := fun z => (CellsAt.ext hc0 (HT.inn z)).two.1
    have rg1 := fun z => (CellsAt.ext hc0 (HT.inn z)).two.2
    simp only [Nat.zero_mul, Nat.zero_add] at rg0 rg1
    have r60 := fun z => (hB69.ext (HT.inn z)).c 0 (.int .i64 v0) rfl
    have r61 := fun z => (hB69.ext (HT.inn z)).c 1 (.string v1) rfl
    have HTH := hid HT
    have HC0 := hid hc0
    have HB39 := hid hB39
    have hn0 : (0 : Int) < m.args.length + 1 := by omega
    clear HT hc0 hB69 hB39
    go_wp2_with fail
    (refine region_mix f 7 [([0, 1, 2, 3, 4, 5], 6)] [] (HTH.out.out _ ?_) (by kernel_rfl) (by kernel_rfl) (fun _ _ d _ _ h => by cases d <;> exact h) ?_)
    · exact (Kp.refl _ _).drew
    (refine wpMix_cons rfl rfl fun K hK => ?_); (change wpQuiet _ _ _ _ [_, _, _, _, _, _] _); (repeat (go_big_quiet_step (fail))); (refine wpQuiet_nil ?_); (refine hK _ fun K2 hK2 => ?_); clear hK K; (change wpList _ _ _ [_] _ _)
    go_wp2_with fail
    refine (mach_object _ _ _ _ _ _ _ _ (HM9.out.ext (Kp.refl _ _).drew) ⟨ok, on⟩ HOK.out ⟨v0, v1⟩).mono ?_
    rintro e w10 ⟨rfl, hE10⟩
    have HE10 : Hid (Ext w9 w10) := hid (((Kp.refl _ w9).drew : Ext w9 _).trans hE10)
    have HM10 := hid (HM9.out.ext HE10.out)
    have HK10 : Hid (Kp (MO l own) w w10) := hid (HK9.out.trans HE10.out.any)
    clear hE10
    obtain ⟨ob, hob⟩ : ∃ ob, M.object p ⟨ok, on⟩ ⟨v0, v1⟩ (g.stk r c st vs').st = ob := ⟨_, rfl⟩
    by_cases ho1 : ob = 1
    rotate_left
    · replace HV : Hid (M.doIns p lk i g.st = (ob, (g.stk r c st vs').st)) := hid (by rw [HV.out, hob, if_neg ho1])
      have ho1' : (ob != 1) = true := bne_iff_ne.2 ho1
      rw [hob]
      clear hob ho1
      go_wp2_with fail
      (refine hK2 _ _ (HTH.out.out _ HE10.out) ?_); clear hK2 K2
      clear HTH rg0 rg1 r60 r61
      (refine wpMix_nil rfl fun K hK => ?_); (change wpQuiet _ _ _ _ [] _); (refine wpQuiet_nil ?_); (refine hK _ ?_); clear hK K
      go_wp2_with fail
      go_ret
      rw [HV.out]
      exact MEnd.mk' HK10.out (Agr.refl _ _) HM10.out rfl
    · subst ho1
      replace HV : Hid (M.doIns p lk i g.st = (match M.pick p (M.ofAt g.st.heap on) i.member with
       | some x => M.enter p lk x vs (g.stk r c st vs').st
       | none => (10, (g.stk r c st vs').st))) := hid (by rw [HV.out, if_pos hob])
      have HOB := hid hob
      obtain ⟨hok2, -⟩ := M.object_one hob
      simp only at hok2
      obtain ⟨hn0', hn1⟩ := M.valOk_ref HOK.out hok2
      simp only at hn0' hn1
      obtain ⟨n, rfl⟩ : ∃ n : Nat, on = n := ⟨on.toNat, by omega⟩
      obtain ⟨go, hgo⟩ : ∃ o, g.os[n]? = some o := ⟨g.os[n]'(by omega), List.getElem?_eq_getElem _⟩
      have HGO : Hid (M.ofAt g.st.heap n = go.o.of) := hid (ofAt_get (by simp [Gh.st, hgo]))
      obtain ⟨rr, hpx⟩ : ∃ rr, M.pick p rr i.member = some ⟨⟨v0, v1⟩, v2⟩ := by
       have h1 : (M.call p c.f.of.of.keeper i.name i.member).2 = 1 := by rw [HF.out]
       obtain ⟨rr, hrr⟩ := M.call_found h1
       rw [HF.out] at hrr
       exact ⟨rr, hrr⟩
      have HPX := hid hpx
      obtain ⟨pk, pn, pa, pb, hpa, hpb⟩ : ∃ pk pn pa pb, ((M.pick p go.o.of i.member).getD zmref = ⟨⟨pk, pn⟩, pa⟩ ∧ (M.pick p go.o.of i.member).isSome = pb) ∧ ((pb = false → M.pick p (M.ofAt g.st.heap n) i.member = none) ∧ (pb = true → M.pick p (M.ofAt g.st.heap n) i.member = some ⟨⟨pk, pn⟩, pa⟩)) := by
       rw [HGO.out]
       cases e : M.pick p go.o.of i.member with
       | none => exact ⟨_, _, _, _, ⟨rfl, rfl⟩, (fun _ => rfl), (fun h => by cases h)⟩
       | some x => exact ⟨x.of.keeper, x.of.name, x.at_, true, ⟨rfl, rfl⟩, (fun h => by cases h), (fun _ => rfl)⟩
      have HPB := hid hpb
      have hpick := fun W (hW : LodgeAt W l p) => lodge_pick W l p hW go.o.of i.member
      rw [hpa.1, hpa.2] at hpick
      have HPICK := hid hpick
      have hrow := HM10.out.heap.row
      obtain ⟨ha, hcap, hva⟩ := HM10.out.heap.form
      rw [hva] at hrow
      obtain ⟨hb, hbc, eb, -⟩ := owns_form hrow (by show 0 < g.os.length; omega)
      cases eb
      have hcc := owns_at (enc := objCs) (k := 3) (fun _ => rfl) hrow (l := g.os) hgo
      have hDw10 : l.D < w.heap.size := by omega
      have hw10 : w.heap.size ≤ w10.heap.size := HK10.out.size
      have hLw10 : l.L < w10.heap.size := by omega
      have hgtw : w.heap.size ≤ gt := by have := HE8.out.size; have := HK7.out.size; omega
      have HGT := hid hgtw
      have HRW : Hid (∀ W, Kp (· = l.D) w10 W → W.ownsRow w8.heap.size 34 2 (.slice (some ⟨gt, 0, none⟩) (m.args.length + 1) gc) vs.length (vs.flatMap valCs)) := hid (fun W hW => by
       rw [show vs.length = m.args.length + 1 from HVL.out]
       exact owns_kp (owns_kp (D := fun _ => False) HROW.out HE10.out fun _ _ _ x => x) hW (fun q hq _ e => by
        have h1 : gt = q := by simpa [Value.ownBlock] using hq
        omega))
      have hnD : ∀ b, B ≤ b → ¬ b = l.D := fun b hb e => by have := HM10.out.hB; have := HM10.out.lod.ord; omega
      obtain ⟨T2, f2, hneT2, HT2⟩ := Cls.ex (fun W' => LC l p w10 W') w10 (LC.refl HM10.out.lod)
      have s0 := fun z => (HM10.out.lod' (HT2.inn z).kp (HT2.inn z).at_).blk.c 0 (.pointer (some ⟨l.L, 0, none⟩)) rfl
      have s4 := fun z => (HM10.out.lod' (HT2.inn z).kp (HT2.inn z).at_).blk.c 4 (.slice (some ⟨hb, 0, none⟩) g.os.length hcap) (by rw [show (Value.slice (some ⟨hb, 0, none⟩) g.os.length hcap) = g.vh from hva.symm]; rfl)
      have hgD : ¬ gt = l.D := by omega
      have sg := fun z => (HT2.inn z).kp.cellK (CellsAt.ext HC0.out HE10.out).two.2 hgD
      simp only [Nat.zero_mul, Nat.zero_add] at sg
      have hhb := (hrow.lt hb rfl).1
      have sh0 := fun z => (HT2.inn z).kp.cellK hcc.three.1 (hnD _ hhb)
      have sh1 := fun z => (HT2.inn z).kp.cellK hcc.three.2.1 (hnD _ hhb)
      have s33 := fun z => ((HB39.out.ext HE10.out).kp (HT2.inn z).kp (by omega)).c 3 (.string i.member) rfl
      have HTH2 := hid HT2
      have hn1' : (n : Int) < g.os.length := hn1
      have hnv : (0 : Int) < m.args.length + 1 := by omega
      clear HT2 hrow hcc hva hgo hpick hpa hpb hpx hok2 hn1 hnD hhb
      rw [hob]
      clear hob
      go_wp2_with fail
      (refine hK2 _ _ (HTH.out.out _ HE10.out) ?_); clear hK2 K2
      clear HTH rg0 rg1 r60 r61
      (refine wpMix_nil rfl fun K hK => ?_); (change wpQuiet _ _ _ _ [] _); (refine wpQuiet_nil ?_); (refine hK _ ?_); clear hK K
      go_wp2_with fail
      (refine region_tree f2 23 (.two [0, 1, 2, 3, 4, 5, 6, 7, 8, 9, 10, 11, 12, 13, 14, 15, 16] 17 21 (.one [18, 19, 20] 21 (.one [] 22 (.fin []))) (.one [] 17 (.one [18, 19, 20] 22 (.fin [])))) (HTH2.out.out _ ?_) (by kernel_rfl) (by kernel_rfl) (fun _ _ d _ _ h => by cases d <;> exact h) ?_)
      · exact (LC.refl HM10.out.lod).drew
      (refine wpT_two rfl rfl rfl fun K hK => ?_); (change wpQuiet _ _ _ _ [_, _, _, _, _, _, _, _, _, _, _, _, _, _, _, _, _] _); (repeat (go_big_quiet_step (fail))); (refine wpQuiet_nil ?_); ((refine hK _ (fun K2 hK2 => ?_) (fun K2 hK2 => ?_)) <;> (clear hK K; (change wpList _ _ _ [_] _ _)))
      · go_wp2_with fail
        refine (HPICK.out _ (HM10.out.lod.ext (Kp.refl _ _).drew)).mono ?_
        rintro e wP ⟨rfl, hLP, hKP⟩
        have HCP : Hid (LC l p w10 wP) := hid ((LC.refl HM10.out.lod).drew.step hLP hKP)
        clear hLP hKP
        go_wp2_with fail
        ((refine hK2 _ _ (HTH2.out.out _ HCP.out) ?_); clear hK2 K2)
        (refine wpT_one rfl rfl fun K hK => ?_); (change wpQuiet _ _ _ _ [_, _, _] _); (repeat (go_big_quiet_step (fail))); (refine wpQuiet_nil ?_); (refine hK _ fun K2 hK2 => ?_); clear hK K; (change wpList _ _ _ [_] _ _)
        go_wp2_with fail
        ((refine hK2 _ _ (HTH2.out.out _ (HCP.out.ext ((Kp.refl _ _).alloc _))) ?_); clear hK2 K2)
        (refine wpT_one rfl rfl fun K hK => ?_); (change wpQuiet _ _ _ _ [] _); (refine wpQuiet_nil ?_); (refine hK _ fun K2 hK2 => ?_); clear hK K; (change wpList _ _ _ [_] _ _)
        go_wp2_with fail
        obtain ⟨w11, hw11⟩ : ∃ w11, w11 = wP.alloc (.cells #[.int .i64 pk, .string pn, .int .i64 pa] 97) := ⟨_, rfl⟩
        rw [← hw11]
        have HC11 : Hid (LC l p w10 w11) := hid (by rw [hw11]; exact HCP.out.ext ((Kp.refl _ _).alloc _))
        have HB11 : Hid (Blk w11 wP.heap.size 97 #[.int .i64 pk, .string pn, .int .i64 pa]) := hid (by rw [hw11]; exact Blk.new _ _ _)
        ((refine hK2 _ _ (HTH2.out.out _ HC11.out) ?_); clear hK2 K2)
        clear HTH2 s0 s4 sg sh0 sh1 s33 hw11
        (refine wpT_fin rfl fun K hK => ?_); (change wpQuiet _ _ _ _ [] _); (refine wpQuiet_nil ?_); (refine hK _ ?_); clear hK K
        cases pb
        · replace HV : Hid (M.doIns p lk i g.st = (10, (g.stk r c st vs').st)) := hid (by rw [HV.out, HPB.out.1 rfl])
          go_wp2_with fail
          go_ret
          rw [HV.out]
          skip
          exact MEnd.mk' (HK10.out.trans HC11.out.mo) (Agr.refl _ _) (HM10.out.lod' HC11.out.kp HC11.out.at_) rfl
        · replace HV : Hid (M.doIns p lk i g.st = M.enter p lk ⟨⟨pk, pn⟩, pa⟩ vs (g.stk r c st vs').st) := hid (by rw [HV.out, HPB.out.2 rfl])
          have HP1 := hid (HPB.out.2 rfl)
          have HP2 : Hid (M.pick p go.o.of i.member = some ⟨⟨pk, pn⟩, pa⟩) := hid (by rw [← HGO.out]; exact HP1.out)
          have e0 := HB11.out.c 0 (.int .i64 pk) rfl
          have e1 := HB11.out.c 1 (.string pn) rfl
          have e2 := HB11.out.c 2 (.int .i64 pa) rfl
          have ez := HB11.out.lt
          go_wp2_with fail
          skip
          refine (mach_enter _ _ _ _ _ _ _ _ (HM10.out.lod' HC11.out.kp HC11.out.at_) hst ⟨⟨pk, pn⟩, pa⟩ (M.pick_has HP1.out) w8.heap.size (.slice (some ⟨gt, 0, none⟩) (m.args.length + 1) gc) vs (HRW.out _ HC11.out.kp) (fun q hq => by
           have h1 : gt = q := by simpa [Value.ownBlock] using hq
           rw [← h1]; exact HFRE.out gt HGT.out) HVS.out (by
           have := M.pick_args HPX.out (M.object_one HOB.out).2 HP1.out
           rw [this, HM.out]; exact HVL.out)).mono ?_
          rintro e w12 hEnd
          have HZ := hid (MEnd.after (HK10.out.trans HC11.out.mo) (Agr.refl _ _) hEnd)
          obtain ⟨rfl, -⟩ := hEnd
          rw [← HV.out] at HZ ⊢
          clear e0 e1 e2 ez
          go_wp2_with fail
          go_ret
          exact HZ.out
      · go_wp2_with fail
        ((refine hK2 _ _ (HTH2.out.out _ ((LC.refl HM10.out.lod).drew.ext ((Kp.refl _ _).alloc _))) ?_); clear hK2 K2)
        (refine wpT_one rfl rfl fun K hK => ?_); (change wpQuiet _ _ _ _ [] _); (refine wpQuiet_nil ?_); (refine hK _ fun K2 hK2 => ?_); clear hK K; (change wpList _ _ _ [_] _ _)
        have HC0' : Hid (LC l p w10 (w10.drew.alloc (.cells #[.int .i64 0, .string ⟨#[]⟩, .int .i64 0] 97))) := hid ((LC.refl HM10.out.lod).drew.ext ((Kp.refl _ _).alloc _))
        have HB0' : Hid (Blk (w10.drew.alloc (.cells #[.int .i64 0, .string ⟨#[]⟩, .int .i64 0] 97)) w10.heap.size 97 #[.int .i64 0, .string ⟨#[]⟩, .int .i64 0]) := hid (Blk.new _ _ _)
        go_wp2_with fail
        refine (HPICK.out _ HC0'.out.at_).mono ?_
        rintro e wP ⟨rfl, hLP, hKP⟩
        have HCP : Hid (LC l p w10 wP) := hid (HC0'.out.step hLP hKP)
        have HBP := hid (HB0'.out.kp hKP (by omega))
        clear hLP hKP
        go_wp2_with fail
        ((refine hK2 _ _ (HTH2.out.out _ HCP.out) ?_); clear hK2 K2)
        (refine wpT_one rfl rfl fun K hK => ?_); (change wpQuiet _ _ _ _ [_, _, _] _); (repeat (go_big_quiet_step (fail))); (refine wpQuiet_nil ?_); (refine hK _ fun K2 hK2 => ?_); clear hK K; (change wpList _ _ _ [_] _ _)
        have y0 := HBP.out.c 0 (.int .i64 0) rfl
        have y1 := HBP.out.c 1 (.string ⟨#[]⟩) rfl
        have y2 := HBP.out.c 2 (.int .i64 0) rfl
        have g0 := HBP.out.frozen 0
        have g1 := HBP.out.frozen 1
        have g2 := HBP.out.frozen 2
        have z6 := HBP.out.lt
        have HC11 := hid (LC.own HCP.out (Kp.set3 (D := (· = w10.heap.size)) rfl (.int .i64 pk) (.string pn) (.int .i64 pa)) (Nat.le_refl _) hLw10)
        have HB11 := hid (HBP.out.set3 (.int .i64 pk) (.string pn) (.int .i64 pa))
        go_wp2_with fail
        ((refine hK2 _ _ (HTH2.out.out _ HC11.out) ?_); clear hK2 K2)
        clear HTH2 s0 s4 sg sh0 sh1 s33 y0 y1 y2 g0 g1 g2 z6
        (refine wpT_fin rfl fun K hK => ?_); (change wpQuiet _ _ _ _ [] _); (refine wpQuiet_nil ?_); (refine hK _ ?_); clear hK K
        cases pb
        · replace HV : Hid (M.doIns p lk i g.st = (10, (g.stk r c st vs').st)) := hid (by rw [HV.out, HPB.out.1 rfl])
          go_wp2_with fail
          go_ret
          rw [HV.out]
          skip
          exact MEnd.mk' (HK10.out.trans HC11.out.mo) (Agr.refl _ _) (HM10.out.lod' HC11.out.kp HC11.out.at_) rfl
        · replace HV : Hid (M.doIns p lk i g.st = M.enter p lk ⟨⟨pk, pn⟩, pa⟩ vs (g.stk r c st vs').st) := hid (by rw [HV.out, HPB.out.2 rfl])
          have HP1 := hid (HPB.out.2 rfl)
          have HP2 : Hid (M.pick p go.o.of i.member = some ⟨⟨pk, pn⟩, pa⟩) := hid (by rw [← HGO.out]; exact HP1.out)
          have e0 := HB11.out.c 0 (.int .i64 pk) rfl
          have e1 := HB11.out.c 1 (.string pn) rfl
          have e2 := HB11.out.c 2 (.int .i64 pa) rfl
          have ez := HB11.out.lt
          go_wp2_with fail
          skip
          refine (mach_enter _ _ _ _ _ _ _ _ (HM10.out.lod' HC11.out.kp HC11.out.at_) hst ⟨⟨pk, pn⟩, pa⟩ (M.pick_has HP1.out) w8.heap.size (.slice (some ⟨gt, 0, none⟩) (m.args.length + 1) gc) vs (HRW.out _ HC11.out.kp) (fun q hq => by
           have h1 : gt = q := by simpa [Value.ownBlock] using hq
           rw [← h1]; exact HFRE.out gt HGT.out) HVS.out (by
           have := M.pick_args HPX.out (M.object_one HOB.out).2 HP1.out
           rw [this, HM.out]; exact HVL.out)).mono ?_
          rintro e w12 hEnd
          have HZ := hid (MEnd.after (HK10.out.trans HC11.out.mo) (Agr.refl _ _) hEnd)
          obtain ⟨rfl, -⟩ := hEnd
          rw [← HV.out] at HZ ⊢
          clear e0 e1 e2 ez
          go_wp2_with fail
          go_ret
          exact HZ.out
 have TAIL := hid tail
 clear tail hK
 (refine region_tree f 16 (.two [0, 1, 2, 3, 4, 6, 7, 8, 9] 5 14 (.two [] 10 14 (.one [11, 12, 13] 14 (.one [] 15 (.fin []))) (.one [] 10 (.one [11, 12, 13] 15 (.fin [])))) (.one [] 5 (.one [] 10 (.one [11, 12, 13] 15 (.fin []))))) (HTH.out.out _ ?_) (by kernel_rfl) (by kernel_rfl) (fun _ _ d _ _ h => by cases d <;> exact h) ?_)
 · exact HC.out
 (refine wpT_two rfl rfl rfl fun K hK => ?_); (change wpQuiet _ _ _ _ [_, _, _, _, _, _, _, _, _] _); (repeat (go_big_quiet_step (fail))); (refine wpQuiet_nil ?_); ((refine hK _ (fun K2 hK2 => ?_) (fun K2 hK2 => ?_)) <;> (clear hK K; (change wpList _ _ _ [_] _ _)))
 · go_wp2_with fail
   refine (call_keeper _ _ c.f.of.of.keeper (((HA.out.lod' HC.out.kp HC.out.at_).at_ HCS.out).blk.c 0 _ rfl)).mono ?_
   rintro e we ⟨rfl, rfl⟩
   go_wp2_with fail
   (refine hK2 _ _ (HTH.out.out _ HC.out) ?_); clear hK2 K2
   (refine wpT_two rfl rfl rfl fun K hK => ?_); (change wpQuiet _ _ _ _ [] _); (refine wpQuiet_nil ?_); ((refine hK _ (fun K2 hK2 => ?_) (fun K2 hK2 => ?_)) <;> (clear hK K; (change wpList _ _ _ [_] _ _)))
   · go_wp2_with fail
     refine (HGET.out _ HC.out).mono ?_
     rintro e wc ⟨ev, rfl, hev, hk, hc⟩
     replace HC := hid hc
     have HEV := hid hev
     clear hk hc hev
     go_wp2_with fail
     (refine hK2 _ _ (HTH.out.out _ HC.out) ?_); clear hK2 K2
     (refine wpT_one rfl rfl fun K hK => ?_); (change wpQuiet _ _ _ _ [_, _, _] _); (repeat (go_big_quiet_step (fail))); (refine wpQuiet_nil ?_); (refine hK _ fun K2 hK2 => ?_); clear hK K; (change wpList _ _ _ [_] _ _)
     go_wp2_with fail
     (refine hK2 _ _ (HTH.out.out _ (HC.out.ext ((Kp.refl _ _).alloc _))) ?_); clear hK2 K2
     (refine wpT_one rfl rfl fun K hK => ?_); (change wpQuiet _ _ _ _ [] _); (refine wpQuiet_nil ?_); (refine hK _ fun K2 hK2 => ?_); clear hK K; (change wpList _ _ _ [_] _ _)
     go_wp2_with fail
     (refine hK2 _ _ (HTH.out.out _ (HC.out.ext ((Kp.refl _ _).alloc _))) ?_); clear hK2 K2
     have hb6 := HC.out.kp.size
     have HB6 := hid (Blk.new (wc) 97 #[.int .i64 v0, .string v1, .int .i64 v2])
     replace HC := hid (HC.out.ext ((Kp.refl _ _).alloc (.cells #[.int .i64 v0, .string v1, .int .i64 v2] 97)))
     clear HTH rm0 r32 r33
     (refine wpT_fin rfl fun K hK => ?_); (change wpQuiet _ _ _ _ [] _); (refine wpQuiet_nil ?_); (refine hK _ ?_); clear hK K
     go_wp2_with fail
     exact TAIL.out _ _ _ HC.out HB6.out hb6 HEV.out
   · go_wp2_with fail
     (refine hK2 _ _ (HTH.out.out _ (HC.out.ext ((Kp.refl _ _).alloc _))) ?_); clear hK2 K2
     have hb6 : w1.heap.size ≤ w1.heap.size := HC.out.kp.size
     have HB6 : Hid (Blk (w1.drew.alloc (.cells #[.int .i64 0, .string ⟨#[]⟩, .int .i64 0] 97)) w1.heap.size 97 #[.int .i64 0, .string ⟨#[]⟩, .int .i64 0]) := hid (Blk.new _ _ _)
     replace HC := hid (HC.out.ext ((Kp.refl _ _).alloc (.cells #[.int .i64 0, .string ⟨#[]⟩, .int .i64 0] 97)))
     (refine wpT_one rfl rfl fun K hK => ?_); (change wpQuiet _ _ _ _ [] _); (refine wpQuiet_nil ?_); (refine hK _ fun K2 hK2 => ?_); clear hK K; (change wpList _ _ _ [_] _ _)
     go_wp2_with fail
     refine (HGET.out _ HC.out).mono ?_
     rintro e wc ⟨ev, rfl, hev, hk, hc⟩
     replace HB6 := hid (HB6.out.kp hk (by omega))
     replace HC := hid hc
     have HEV := hid hev
     clear hk hc hev
     go_wp2_with fail
     (refine hK2 _ _ (HTH.out.out _ HC.out) ?_); clear hK2 K2
     (refine wpT_one rfl rfl fun K hK => ?_); (change wpQuiet _ _ _ _ [_, _, _] _); (repeat (go_big_quiet_step (fail))); (refine wpQuiet_nil ?_); (refine hK _ fun K2 hK2 => ?_); clear hK K; (change wpList _ _ _ [_] _ _)
     have y0 := HB6.out.c 0 (.int .i64 0) rfl
     have y1 := HB6.out.c 1 (.string ⟨#[]⟩) rfl
     have y2 := HB6.out.c 2 (.int .i64 0) rfl
     have g0 := HB6.out.frozen 0
     have g1 := HB6.out.frozen 1
     have g2 := HB6.out.frozen 2
     have z6 := HB6.out.lt
     go_wp2_with fail
     replace HC := hid (LC.own HC.out (Kp.set3 (D := (· = _)) rfl (.int .i64 v0) (.string v1) (.int .i64 v2)) hb6 hLw)
     replace HB6 := hid (HB6.out.set3 (.int .i64 v0) (.string v1) (.int .i64 v2))
     (refine hK2 _ _ (HTH.out.out _ HC.out) ?_); clear hK2 K2
     clear y0 g0 y1 g1 y2 g2 z6
     clear HTH rm0 r32 r33
     (refine wpT_fin rfl fun K hK => ?_); (change wpQuiet _ _ _ _ [] _); (refine wpQuiet_nil ?_); (refine hK _ ?_); clear hK K
     go_wp2_with fail
     exact TAIL.out _ _ _ HC.out HB6.out hb6 HEV.out
 · go_wp2_with fail
   (refine hK2 _ _ (HTH.out.out _ (HC.out.ext ((Kp.refl _ _).alloc _))) ?_); clear hK2 K2
   have hb6 : w1.heap.size ≤ w1.heap.size := HC.out.kp.size
   have HB6 : Hid (Blk (w1.drew.alloc (.cells #[.int .i64 0, .string ⟨#[]⟩, .int .i64 0] 97)) w1.heap.size 97 #[.int .i64 0, .string ⟨#[]⟩, .int .i64 0]) := hid (Blk.new _ _ _)
   replace HC := hid (HC.out.ext ((Kp.refl _ _).alloc (.cells #[.int .i64 0, .string ⟨#[]⟩, .int .i64 0] 97)))
   (refine wpT_one rfl rfl fun K hK => ?_); (change wpQuiet _ _ _ _ [] _); (refine wpQuiet_nil ?_); (refine hK _ fun K2 hK2 => ?_); clear hK K; (change wpList _ _ _ [_] _ _)
   go_wp2_with fail
   refine (call_keeper _ _ c.f.of.of.keeper (((HA.out.lod' HC.out.kp HC.out.at_).at_ HCS.out).blk.c 0 _ rfl)).mono ?_
   rintro e we ⟨rfl, rfl⟩
   go_wp2_with fail
   (refine hK2 _ _ (HTH.out.out _ HC.out) ?_); clear hK2 K2
   (refine wpT_one rfl rfl fun K hK => ?_); (change wpQuiet _ _ _ _ [] _); (refine wpQuiet_nil ?_); (refine hK _ fun K2 hK2 => ?_); clear hK K; (change wpList _ _ _ [_] _ _)
   go_wp2_with fail
   refine (HGET.out _ HC.out).mono ?_
   rintro e wc ⟨ev, rfl, hev, hk, hc⟩
   replace HB6 := hid (HB6.out.kp hk (by omega))
   replace HC := hid hc
   have HEV := hid hev
   clear hk hc hev
   go_wp2_with fail
   (refine hK2 _ _ (HTH.out.out _ HC.out) ?_); clear hK2 K2
   (refine wpT_one rfl rfl fun K hK => ?_); (change wpQuiet _ _ _ _ [_, _, _] _); (repeat (go_big_quiet_step (fail))); (refine wpQuiet_nil ?_); (refine hK _ fun K2 hK2 => ?_); clear hK K; (change wpList _ _ _ [_] _ _)
   have y0 := HB6.out.c 0 (.int .i64 0) rfl
   have y1 := HB6.out.c 1 (.string ⟨#[]⟩) rfl
   have y2 := HB6.out.c 2 (.int .i64 0) rfl
   have g0 := HB6.out.frozen 0
   have g1 := HB6.out.frozen 1
   have g2 := HB6.out.frozen 2
   have z6 := HB6.out.lt
   go_wp2_with fail
   replace HC := hid (LC.own HC.out (Kp.set3 (D := (· = _)) rfl (.int .i64 v0) (.string v1) (.int .i64 v2)) hb6 hLw)
   replace HB6 := hid (HB6.out.set3 (.int .i64 v0) (.string v1) (.int .i64 v2))
   (refine hK2 _ _ (HTH.out.out _ HC.out) ?_); clear hK2 K2
   clear y0 g0 y1 g1 y2 g2 z6
   clear HTH rm0 r32 r33
   (refine wpT_fin rfl fun K hK => ?_); (change wpQuiet _ _ _ _ [] _); (refine wpQuiet_nil ?_); (refine hK _ ?_); clear hK K
   go_wp2_with fail
   exact TAIL.out _ _ _ HC.out HB6.out hb6 HEV.out
def mvFn (n : Nat) : Nat :=
 if n = 1 then 50 else if n = 2 then 51 else if n = 3 then 52 else if n = 4 then 53 else if n = 5 then 54 else if n = 6 then 55 else
 if n = 7 then 56 else if n = 8 then 57 else if n = 9 then 58 else if n = 10 then 59 else if n = 11 then 60 else if n = 12 then 61 else
 if n = 13 then 62 else if n = 14 then 63 else 64
def mvTab (v : Value) : Array Value := #[.nilFunc, .func (.func 50) #[v] #[], .func (.func 51) #[v] #[], .func (.func 52) #[v] #[], .func (.func 53) #[v] #[], .func (.func 54) #[v] #[], .func (.func 55) #[v] #[],
 .func (.func 56) #[v] #[], .func (.func 57) #[v] #[], .func (.func 58) #[v] #[], .func (.func 59) #[v] #[], .func (.func 60) #[v] #[], .func (.func 61) #[v] #[], .func (.func 62) #[v] #[],
 .func (.func 63) #[v] #[], .func (.func 64) #[v] #[]]
theorem mvTab_get (v : Value) {n : Nat} (h1 : 1 ≤ n) (h2 : n ≤ 15) : (mvTab v)[n]? = some (.func (.func (mvFn n)) #[v] #[]) := by
 have : n = 1 ∨ n = 2 ∨ n = 3 ∨ n = 4 ∨ n = 5 ∨ n = 6 ∨ n = 7 ∨ n = 8 ∨ n = 9 ∨ n = 10 ∨ n = 11 ∨ n = 12 ∨ n = 13 ∨ n = 14 ∨ n = 15 := by omega
 rcases this with rfl | rfl | rfl | rfl | rfl | rfl | rfl | rfl | rfl | rfl | rfl | rfl | rfl | rfl | rfl <;> rfl
theorem mv_enter {n : Nat} (h1 : 1 ≤ n) (h2 : n ≤ 15) (args : Array Value) (w : World) : (callFunc (mvFn n) args).run Tryz.prog w = .ok (.enter (mvFn n) args) w := by
 have : n = 1 ∨ n = 2 ∨ n = 3 ∨ n = 4 ∨ n = 5 ∨ n = 6 ∨ n = 7 ∨ n = 8 ∨ n = 9 ∨ n = 10 ∨ n = 11 ∨ n = 12 ∨ n = 13 ∨ n = 14 ∨ n = 15 := by omega
 rcases this with rfl | rfl | rfl | rfl | rfl | rfl | rfl | rfl | rfl | rfl | rfl | rfl | rfl | rfl | rfl
 · exact callFunc_enter Tryz.func50 rfl (by kernel_rfl) args w
 · exact callFunc_enter Tryz.func51 rfl (by kernel_rfl) args w
 · exact callFunc_enter Tryz.func52 rfl (by kernel_rfl) args w
 · exact callFunc_enter Tryz.func53 rfl (by kernel_rfl) args w
 · exact callFunc_enter Tryz.func54 rfl (by kernel_rfl) args w
 · exact callFunc_enter Tryz.func55 rfl (by kernel_rfl) args w
 · exact callFunc_enter Tryz.func56 rfl (by kernel_rfl) args w
 · exact callFunc_enter Tryz.func57 rfl (by kernel_rfl) args w
 · exact callFunc_enter Tryz.func58 rfl (by kernel_rfl) args w
 · exact callFunc_enter Tryz.func59 rfl (by kernel_rfl) args w
 · exact callFunc_enter Tryz.func60 rfl (by kernel_rfl) args w
 · exact callFunc_enter Tryz.func61 rfl (by kernel_rfl) args w
 · exact callFunc_enter Tryz.func62 rfl (by kernel_rfl) args w
 · exact callFunc_enter Tryz.func63 rfl (by kernel_rfl) args w
 · exact callFunc_enter Tryz.func64 rfl (by kernel_rfl) args w
theorem do_ins (w : World) (l : Lodge) (p : M.Plan) (own : Own) (B mb : Nat) (lk : Bool) (g : Gh) (h : MachAt w l p own B mb lk g) (r : List GC) (c : GC) (hcs : g.cs = r ++ [c]) (hst : g.status = 1) (i : M.Ins) (n : Nat) (hn : i.op = n) (hi : M.insIn (M.method p c.f.of) i = true) :
    Calls Tryz.prog (mvFn n) #[.pointer (some ⟨mb, 0, none⟩), .agg #[.int .i64 i.op, .int .i64 i.a, .string i.name, .string i.member]] w (MEnd w l p own B mb lk (.int .i64 (M.doIns p lk i g.st).1) (M.doIns p lk i g.st).2) := by
 obtain ⟨_, _, _, _, h5, _⟩ := M.ins_a hi
 have : n = 1 ∨ n = 2 ∨ n = 3 ∨ n = 4 ∨ n = 5 ∨ n = 6 ∨ n = 7 ∨ n = 8 ∨ n = 9 ∨ n = 10 ∨ n = 11 ∨ n = 12 ∨ n = 13 ∨ n = 14 ∨ n = 15 := by omega
 rcases this with rfl | rfl | rfl | rfl | rfl | rfl | rfl | rfl | rfl | rfl | rfl | rfl | rfl | rfl | rfl
 · exact do_num _ _ _ _ _ _ _ _ h r c hcs hst i hi hn
 · exact do_take _ _ _ _ _ _ _ _ h r c hcs hst i hi hn
 · exact do_put _ _ _ _ _ _ _ _ h r c hcs hst i hi hn
 · exact do_add _ _ _ _ _ _ _ _ h r c hcs hst i hi hn
 · exact do_null _ _ _ _ _ _ _ _ h r c hcs hst i hn
 · exact do_new _ _ _ _ _ _ _ _ h r c hcs hst i hi hn
 · exact do_get _ _ _ _ _ _ _ _ h r c hcs hst i hi hn
 · exact do_set _ _ _ _ _ _ _ _ h r c hcs hst i hi hn
 · exact do_call _ _ _ _ _ _ _ _ h r c hcs hst i hi hn
 · exact do_ret _ _ _ _ _ _ _ _ h r c hcs hst i hi hn
 · exact do_zero _ _ _ _ _ _ _ _ h r c hcs hst i hi hn
 · exact do_isnil _ _ _ _ _ _ _ _ h r c hcs hst i hi hn
 · exact do_go _ _ _ _ _ _ _ _ h r c hcs hst i hi hn
 · exact do_out _ _ _ _ _ _ _ _ h r c hcs hst i hi hn
 · exact do_cast _ _ _ _ _ _ _ _ h r c hcs hst i hi hn
theorem mach_step_end (w : World) (l : Lodge) (p : M.Plan) (own : Own) (B mb : Nat) (lk : Bool) (g : Gh) (h : MachAt w l p own B mb lk g) (hst : g.status ≠ 1) :
    Calls Tryz.prog 31 #[.pointer (some ⟨mb, 0, none⟩)] w (MEnd w l p own B mb lk (.tuple #[]) (M.step p lk g.st)) := by
 have e2 := h.blk.c 2 (.int .i64 g.status) rfl
 have hb1 : ((g.status : Int) != 1) = true := bne_iff_ne.2 hst
 have HH := hid h
 have HST := hid hst
 clear h hst
 go_enter Tryz.func31, Tryz.ntmps31
 go_wp2_with fail
 ((try simp only [Exit.inBlock, Exit.then]); (first | refine bodyPost_ret (results_none rfl _ _ _) rfl ?_ | refine bodyPost_end (results_none rfl _ _ _) rfl ?_))
 have : M.step p lk g.st = g.st := by unfold M.step; rw [if_neg]; exact HST.out
 rw [this]
 exact HH.out.stop (Kp.refl _ _)
theorem mach_step (w : World) (l : Lodge) (p : M.Plan) (own : Own) (B mb : Nat) (lk : Bool) (g : Gh) (h : MachAt w l p own B mb lk g) (r : List GC) (c : GC) (hcs : g.cs = r ++ [c]) (hst : g.status = 1) :
    Calls Tryz.prog 31 #[.pointer (some ⟨mb, 0, none⟩)] w (MEnd w l p own B mb lk (.tuple #[]) (M.step p lk g.st)) := by
 have hmi := h.mi hcs
 have hfr := h.frm hcs
 obtain ⟨n, hn⟩ : ∃ n : Nat, c.f.pc = n := ⟨c.f.pc.toNat, by simp [M.frameOk] at hfr; omega⟩
 have hlt : n < (M.method p c.f.of).code.length := by simp [M.frameOk] at hfr; omega
 obtain ⟨⟨op, ia, nm, mem⟩, hi⟩ := elemF (M.method p c.f.of).code n hlt
 have hins := hmi.ins _ (List.mem_of_getElem? hi)
 obtain ⟨k, rfl⟩ : ∃ k : Nat, op = k := ⟨op.toNat, by have := (M.ins_a hins).2.2.2.2.1; simp only at this; omega⟩
 have hn1 : 1 ≤ k ∧ k ≤ 15 := by have := (M.ins_a hins).2.2.2.2.1; simp only at this; omega
 have HS : Hid (M.step p lk g.st = M.end_ (M.doIns p lk ⟨k, ia, nm, mem⟩ g.st).1 (M.doIns p lk ⟨k, ia, nm, mem⟩ g.st).2) := hid (by
  unfold M.step M.stepped
  rw [if_pos (show g.st.status = 1 from hst), Gh.top hcs, hn]
  simp [hi])
 have e2 := h.blk.c 2 (.int .i64 g.status) rfl
 rw [hst] at e2
 obtain ⟨w0, hw0⟩ : ∃ w0, w0 = w.alloc (.cells (mvTab (.pointer (some ⟨mb, 0, none⟩))) 119) := ⟨_, rfl⟩
 have b2 : Blk w0 w.heap.size 119 (mvTab (.pointer (some ⟨mb, 0, none⟩))) := by rw [hw0]; exact Blk.new _ _ _
 have hE0 : Ext w w0 := by rw [hw0]; exact (KX.k (by repeat (first | assumption | constructor)))
 have HA := hid h
 have HA0 := hid (h.ext hE0)
 have HE0 := hid hE0
 have HB2 := hid b2
 have HW0 := hid hw0
 have HCS := hid hcs
 have HST := hid hst
 have HI := hid hi
 have HINS := hid hins
 have HN := hid hn
 unfold mvTab at hw0
 have HX := hid hw0
 clear h hE0 b2 hw0 hcs hst hi hins hmi hfr hn
 go_enter Tryz.func31, Tryz.ntmps31
 go_wp2_with fail
 rw [← HX.out]
 refine (mach_top _ _ _ _ _ _ _ _ HA0.out r c HCS.out).mono ?_
 rintro e w1 ⟨rfl, hE1⟩
 have hA1 := HA0.out.ext hE1
 have hB1 := HB2.out.ext hE1
 have hz1 : w.heap.size < w1.heap.size := hB1.lt
 have hC1 := hA1.at_ HCS.out
 have cz := hC1.blk.lt
 obtain ⟨b, off, cs, ea, hIb, rfl, -, hcc⟩ := (MethodL.code hC1.ml).get HI.out
 have hz := hcc
 obtain ⟨g0, g1, g2, g3⟩ := hcc.four
 have gz := cell_lt g0
 obtain ⟨T, f, hneT, HT⟩ := Cls.ex (fun W' => Ext w1 W') _ (Kp.refl _ _)
 have d9 := fun z => (hC1.blk.ext (HT.inn z)).c 9 (.slice c.t.a2 (M.method p c.f.of).code.length c.t.c2) rfl
 have d11 := fun z => (hC1.blk.ext (HT.inn z)).c 11 (.int .i64 n) (by rw [← HN.out]; rfl)
 have y0 := fun z => (HT.inn z).cellE g0
 have y1 := fun z => (HT.inn z).cellE g1
 have y2 := fun z => (HT.inn z).cellE g2
 have y3 := fun z => (HT.inn z).cellE g3
 rw [ea] at d9
 have HTH := hid HT
 have HA1 := hid hA1
 have HB1 := hid hB1
 have HE1 : Hid (Ext w w1) := hid (HE0.out.trans hE1)
 have hq8 : (n : Int) < (M.method p c.f.of).code.length := by omega
 clear hA1 hB1 hC1 hE1 hcc hz ea hIb HT g0 g1 g2 g3
 go_wp2_with fail
 (refine region_mix f 12 [([0, 1, 2, 3, 4, 5, 6, 7, 8, 9, 10], 11)] [] (HTH.out.out _ ?_) (by kernel_rfl) (by kernel_rfl) (fun _ _ d _ _ h => by cases d <;> exact h) ?_)
 · exact (Kp.refl _ _).drew
 (refine wpMix_cons rfl rfl fun K hK => ?_); (change wpQuiet _ _ _ _ [_, _, _, _, _, _, _, _, _, _, _] _); (repeat (go_big_quiet_step (fail))); (refine wpQuiet_nil ?_); (refine hK _ fun K2 hK2 => ?_); clear hK K; (change wpList _ _ _ [_] _ _)
 go_wp2_with fail
 (refine hK2 _ _ (HTH.out.out _ ((Kp.refl _ w1).drew.alloc _ : Ext w1 _)) ?_); clear hK2 K2
 obtain ⟨w2, hw2⟩ : ∃ w2, w2 = (w1.alloc (.cells #[.int .i64 k, .int .i64 ia, .string nm, .string mem] 28)).drew := ⟨_, rfl⟩
 have hE2 : Ext w1 w2 := by rw [hw2]; exact ((Kp.refl _ w1).alloc _).drew
 have b4 : Blk w2 w1.heap.size 28 #[.int .i64 k, .int .i64 ia, .string nm, .string mem] := by rw [hw2]; exact (Blk.newAt _ _ rfl).ext (Kp.refl _ _).drew
 have HE2 := hid hE2
 have HB4 := hid b4
 have HW2 := hid hw2
 clear hE2 b4 hw2 HTH d9 d11 y0 y1 y2 y3
 (refine wpMix_nil rfl fun K hK => ?_); (change wpQuiet _ _ _ _ [] _); (refine wpQuiet_nil ?_); (refine hK _ ?_); clear hK K
 go_wp2_with fail
 rw [← HW2.out]
 have HA2 : Hid (MachAt w2 l p own B mb lk g) := hid (HA1.out.ext HE2.out)
 have HB2' : Hid (Blk w2 w.heap.size 119 (mvTab (.pointer (some ⟨mb, 0, none⟩)))) := hid (HB1.out.ext HE2.out)
 have hno : ¬ MO l own w.heap.size := HA.out.fresh (Nat.le_refl _)
 have hno1 : ¬ MO l own w1.heap.size := HA.out.fresh (by omega)
 obtain ⟨T, f, hneT, HT⟩ := Cls.ex (fun W' => Kp (MO l own) w2 W') _ (Kp.refl _ _)
 have r0 := fun z => (HB4.out.kp (HT.inn z) hno1).c 0 (.int .i64 k) rfl
 have r1 := fun z => (HB4.out.kp (HT.inn z) hno1).c 1 (.int .i64 ia) rfl
 have r2 := fun z => (HB4.out.kp (HT.inn z) hno1).c 2 (.string nm) rfl
 have r3 := fun z => (HB4.out.kp (HT.inn z) hno1).c 3 (.string mem) rfl
 have rf := fun z => (HB2'.out.kp (HT.inn z) hno).c k _ (mvTab_get (.pointer (some ⟨mb, 0, none⟩)) hn1.1 hn1.2)
 have hn16 : (k : Int) < 16 := by omega
 have hn0 : (0 : Int) ≤ k := by omega
 have HTH := hid HT
 have hcf := mv_enter hn1.1 hn1.2
 clear HT
 (refine region_mix f 8 [([0, 1, 2, 3, 4, 5], 6), ([], 7)] [] (HTH.out.out _ ?_) (by kernel_rfl) (by kernel_rfl) (fun _ _ d _ _ h => by cases d <;> exact h) ?_)
 · exact (Kp.refl _ _).drew
 (refine wpMix_cons rfl rfl fun K hK => ?_); (change wpQuiet _ _ _ _ [_, _, _, _, _, _] _); (repeat (go_big_quiet_step (fail))); (refine wpQuiet_nil ?_); (refine hK _ fun K2 hK2 => ?_); clear hK K; (change wpList _ _ _ [_] _ _)
 go_wp2_with fail
 refine (do_ins _ _ _ _ _ _ _ _ (HA2.out.ext (Kp.refl _ _).drew) r c HCS.out HST.out ⟨k, ia, nm, mem⟩ k rfl HINS.out).mono ?_
 rintro e w3 hEnd
 obtain ⟨rfl, hK3, own3, g3, hag3, hA3, hg3⟩ := hEnd.behind ((Kp.refl _ w2).drew)
 have HA3 := hid hA3
 have HK3 := hid hK3
 have HAG3 := hid hag3
 have HG3 := hid hg3
 clear hEnd hK3 hA3 hag3 hg3
 go_wp2_with fail
 (refine hK2 _ _ (HTH.out.out _ HK3.out) ?_); clear hK2 K2
 (refine wpMix_cons rfl rfl fun K hK => ?_); (change wpQuiet _ _ _ _ [] _); (refine wpQuiet_nil ?_); (refine hK _ fun K2 hK2 => ?_); clear hK K; (change wpList _ _ _ [_] _ _)
 go_wp2_with fail
 refine (mach_end _ _ _ _ _ _ _ _ HA3.out _).mono ?_
 rintro e w4 hEnd
 rw [HG3.out] at hEnd
 have hE := (hEnd.after HK3.out HAG3.out).behind (HE1.out.trans HE2.out)
 obtain ⟨rfl, hK4, hX⟩ := hE
 have HX4 := hid hX
 have HK4 := hid hK4
 have HKe : Hid (Kp (MO l own) w2 w4) := hid (hEnd.after HK3.out HAG3.out).2.1
 clear hEnd hX hK4
 go_wp2_with fail
 (refine hK2 _ _ (HTH.out.out _ HKe.out) ?_); clear hK2 K2
 (refine wpMix_nil rfl fun K hK => ?_); (change wpQuiet _ _ _ _ [] _); (refine wpQuiet_nil ?_); (refine hK _ ?_); clear hK K; (simp only [List.drop_succ_cons, List.drop_zero, List.drop_nil, wpList])
 ((try simp only [Exit.inBlock, Exit.then]); (first | refine bodyPost_ret (results_none rfl _ _ _) rfl ?_ | refine bodyPost_end (results_none rfl _ _ _) rfl ?_))
 rw [HS.out]
 exact ⟨rfl, HK4.out, HX4.out⟩
theorem startable_walk (w : World) (I : Nat → Prop) (cs : List Value) (m : M.Method) (h : MethodL w I m cs) (args : List Int) (aa : Option Addr) (ac : Nat) (hal : args.length ≤ 4294967296) :
    Calls Tryz.prog 69 #[.agg cs.toArray, .slice aa args.length ac] w fun e w' => e = .returned (.bool (M.startable m args)) ∧ Ext w w' := by
 obtain ⟨va, vc, vm, rfl, h1, h2, h3⟩ := h
 obtain ⟨a, cap, rfl, hn, hcap⟩ := h1.form
 by_cases hl1 : m.args.length = args.length
 · have HL : Hid (M.startable m args = m.args.all fun k => decide (k.kind = 1)) := hid (by unfold M.startable; rw [decide_eq_true hl1]; rfl)
   have hb1 : ((m.args.length : Int) != args.length) = false := by simp [hl1]
   have HL1 := hid hl1
   clear hl1
   obtain ⟨w0, hw0⟩ : ∃ w0, w0 = w.alloc (.cells #[.string m.name, .slice a m.args.length cap, .int .i64 m.ret.kind, .string m.ret.name, .int .i64 m.locals, .int .i64 m.stack, vc, vm] 60) := ⟨_, rfl⟩
   have hE0 : Ext w w0 := by rw [hw0]; exact (KX.k (by repeat (first | assumption | constructor)))
   have HE0 := hid hE0
   have HW0 := hid hw0
   clear hE0 hw0
   go_enter Tryz.func69, Tryz.ntmps69
   go_wp2_with fail
   rw [← HW0.out]
   go_loopw [16] (fun i wr => ∃ k : Nat, k ≤ m.args.length ∧ i = .int .i64 k ∧ Ext w0 wr ∧ Hid ((m.args.take k).all (fun k => decide (k.kind = 1)) = true)) (fun i _ => m.args.length - (intOf i).toNat)
   case atStart => exact ⟨0, Nat.zero_le _, rfl, Kp.refl _ _, hid (by simp)⟩
   case round =>
    obtain ⟨k, hk, rfl, hE, HA⟩ := hrel
    by_cases hlt : k < m.args.length
    · obtain ⟨x, hx⟩ := get_some hlt
      obtain ⟨b, off, cs, rfl, hI, rfl, -, hc⟩ := h1.get hx
      obtain ⟨g0, g1⟩ := ((hc.ext HE0.out).ext hE).two
      have gz := cell_lt g0
      have HX := hid hx
      clear hx hc
      by_cases hk1 : x.kind = 1
      · have e1 : ((x.kind : Int) != 1) = false := by simp [hk1]
        have HT : Hid (decide (x.kind = 1) = true) := hid (by simp [hk1])
        clear hk1
        go_wp2_with fail
        go_roundw
        case rel => exact ⟨k + 1, by omega, by go_num, (KX.k (by repeat (first | assumption | constructor))), hid (all_succ HA.out HX.out HT.out)⟩
        case measure => simp [intOf]; omega
      · have e1 : ((x.kind : Int) != 1) = true := bne_iff_ne.2 hk1
        have HT : Hid (decide (x.kind = 1) = false) := hid (by simp [hk1])
        clear hk1
        go_wp2_with fail
        go_ret
        exact ⟨ret_bool (by rw [HL.out]; exact (all_no HX.out HT.out).symm), HE0.out.trans (KX.k (by repeat (first | assumption | constructor)))⟩
    · go_wp2_with fail
      go_ret
      exact ⟨ret_bool (by rw [HL.out]; exact (all_end HA.out (by omega)).symm), HE0.out.trans (KX.k (by repeat (first | assumption | constructor)))⟩
 · have hb1 : ((m.args.length : Int) != args.length) = true := bne_iff_ne.2 (by omega)
   have HL : Hid (M.startable m args = false) := hid (by unfold M.startable; rw [decide_eq_false hl1]; rfl)
   clear hl1
   go_enter Tryz.func69, Tryz.ntmps69
   go_wp2_with fail
   go_ret
   exact ⟨ret_bool (by rw [HL.out]), (KX.k (by repeat (first | assumption | constructor)))⟩
theorem value_ok (w : World) (v : M.Val) (n : Nat) :
    Calls Tryz.prog 45 #[.agg #[.int .i64 v.kind, .int .i64 v.n], .int .i64 n] w fun e w' => e = .returned (.bool (M.valOk v n)) ∧ Ext w w' := by
 obtain ⟨k, m⟩ := v
 by_cases h0 : k = 0 ∨ k = 3
 · have HL : Hid (M.valOk ⟨k, m⟩ n = decide (m = 0)) := hid (by unfold M.valOk; rw [if_pos h0])
   rcases h0 with rfl | rfl
   all_goals
    go_enter Tryz.func45, Tryz.ntmps45
    go_wp2_with fail
    go_ret
    exact ⟨ret_bool (by rw [HL.out]; by_cases hm : m = 0 <;> simp [hm]), (KX.k (by repeat (first | assumption | constructor)))⟩
 · have e0 : ((k : Int) == 0) = false := beq_eq_false_iff_ne.2 (by omega)
   have e3 : ((k : Int) == 3) = false := beq_eq_false_iff_ne.2 (by omega)
   by_cases h1 : k = 1
   · subst h1
     have HL : Hid (M.valOk ⟨1, m⟩ n = M.numOk m) := hid (by unfold M.valOk; simp)
     clear h0 e0 e3
     go_enter Tryz.func45, Tryz.ntmps45
     go_wp2_with fail
     refine (num_ok m _).mono ?_
     rintro e w1 ⟨rfl, rfl⟩
     go_wp2_with fail
     go_ret
     exact ⟨ret_bool (by rw [HL.out]; rfl), (KX.k (by repeat (first | assumption | constructor)))⟩
   · have e1 : ((k : Int) == 1) = false := beq_eq_false_iff_ne.2 h1
     by_cases h2 : k = 2
     · subst h2
       have HL : Hid (M.valOk ⟨2, m⟩ n = (decide (0 ≤ m) && decide (m < n))) := hid (by unfold M.valOk; simp)
       clear h0 e0 e3 h1 e1
       go_enter Tryz.func45, Tryz.ntmps45
       go_wp2_with fail
       all_goals
        go_ret
        exact ⟨ret_bool (by rw [HL.out]; by_cases x0 : 0 ≤ m <;> by_cases x1 : m < n <;> simp_all <;> omega), (KX.k (by repeat (first | assumption | constructor)))⟩
     · have e2 : ((k : Int) == 2) = false := beq_eq_false_iff_ne.2 h2
       have HL : Hid (M.valOk ⟨k, m⟩ n = false) := hid (by unfold M.valOk; rw [if_neg h0, if_neg h1, if_neg h2])
       clear h0 h1 h2
       go_enter Tryz.func45, Tryz.ntmps45
       go_wp2_with fail
       go_ret
       exact ⟨ret_bool (by rw [HL.out]), (KX.k (by repeat (first | assumption | constructor)))⟩
theorem values_ok (w : World) (I : Nat → Prop) (v : Value) (l : List M.Val) (h : SliceOf 2 ValL w I v l) (n : Nat) :
    Calls Tryz.prog 79 #[v, .int .i64 n] w fun e w' => e = .returned (.bool (l.all (M.valOk · n))) ∧ Ext w w' := by
 obtain ⟨a, cap, rfl, hn, hcap⟩ := h.form
 go_enter Tryz.func79, Tryz.ntmps79
 go_wp2
 go_loopw [9] (fun i wr => ∃ k : Nat, k ≤ l.length ∧ i = .int .i64 k ∧ Ext w wr ∧ Hid ((l.take k).all (M.valOk · n) = true)) (fun i _ => l.length - (intOf i).toNat)
 case atStart => exact ⟨0, Nat.zero_le _, rfl, Kp.refl _ _, hid (by simp)⟩
 case round =>
  obtain ⟨k, hk, rfl, hE, HA⟩ := hrel
  by_cases hlt : k < l.length
  · obtain ⟨x, hx⟩ := get_some hlt
    obtain ⟨b, off, cs, rfl, hI, rfl, -, hc⟩ := h.get hx
    obtain ⟨g0, g1⟩ := (hc.ext hE).two
    have HX := hid hx
    clear hx hc
    cases ht : M.valOk x n
    all_goals
     have HT := hid ht
     clear ht
     go_wp2_with (go_at_call 45; refine (value_ok _ x n).mono ?_; rintro e w1 ⟨rfl, hB⟩; rw [HT.out])
    · go_ret
      exact ⟨ret_bool (all_no HX.out HT.out).symm, (by repeat (first | assumption | exact Kp.refl _ _ | apply Kp.alloc | apply Kp.drew | apply Kp.drewN | refine Kp.trans ?_ (by assumption)))⟩
    · go_roundw
      case rel => exact ⟨k + 1, by omega, by go_num, (by repeat (first | assumption | exact Kp.refl _ _ | apply Kp.alloc | apply Kp.drew | apply Kp.drewN | refine Kp.trans ?_ (by assumption))), hid (all_succ HA.out HX.out HT.out)⟩
      case measure => simp [intOf]; omega
  · go_wp2
    go_ret
    exact ⟨ret_bool (all_end HA.out (by omega)).symm, (KX.k (by repeat (first | assumption | constructor)))⟩
def ObjL : Lies M.VObj := fun w I x cs => ∃ vf, cs = [.int .i64 x.of.keeper, .string x.of.name, vf] ∧ SliceOf 2 ValL w I vf x.fields
def FrL : Lies M.Fr := fun w I x cs => ∃ vl vs, cs = [.int .i64 x.of.of.keeper, .string x.of.of.name, .int .i64 x.of.at_, .int .i64 x.pc, vl, vs] ∧ SliceOf 2 ValL w I vl x.locals ∧ SliceOf 2 ValL w I vs x.stack
theorem ObjL.stays : Stays ObjL := fun _ _ _ _ _ _ hs hI ⟨vf, e, h⟩ => ⟨vf, e, h.keep ValL.stays hs hI⟩
theorem FrL.stays : Stays FrL := fun _ _ _ _ _ _ hs hI ⟨vl, vs, e, h1, h2⟩ => ⟨vl, vs, e, h1.keep ValL.stays hs hI, h2.keep ValL.stays hs hI⟩
def StateL : Lies M.St := fun w I x cs => ∃ vf vh vo, cs = [.int .i64 x.status, vf, vh, vo, .int .i64 x.back.kind, .int .i64 x.back.n] ∧ SliceOf 6 FrL w I vf x.frames ∧ SliceOf 3 ObjL w I vh x.heap ∧ SliceOf 1 IntL w I vo x.outs
theorem StateL.stays : Stays StateL := fun _ _ _ _ _ _ hs hI ⟨vf, vh, vo, e, h1, h2, h3⟩ => ⟨vf, vh, vo, e, h1.keep FrL.stays hs hI, h2.keep ObjL.stays hs hI, h3.keep IntL.stays hs hI⟩
theorem StateL.form {w : World} {I : Nat → Prop} {x : M.St} {cs : List Value} (h : StateL w I x cs) : ∃ a1 c1 a2 c2 a3 c3,
    cs = [.int .i64 x.status, .slice a1 x.frames.length c1, .slice a2 x.heap.length c2, .slice a3 x.outs.length c3, .int .i64 x.back.kind, .int .i64 x.back.n] ∧
    SliceOf 6 FrL w I (.slice a1 x.frames.length c1) x.frames ∧ SliceOf 3 ObjL w I (.slice a2 x.heap.length c2) x.heap ∧ SliceOf 1 IntL w I (.slice a3 x.outs.length c3) x.outs := by
 obtain ⟨_, _, _, rfl, h1, h2, h3⟩ := h
 obtain ⟨a1, c1, rfl, _⟩ := h1.form
 obtain ⟨a2, c2, rfl, _⟩ := h2.form
 obtain ⟨a3, c3, rfl, _⟩ := h3.form
 exact ⟨a1, c1, a2, c2, a3, c3, rfl, h1, h2, h3⟩
theorem LC.same {l : Lodge} {p : M.Plan} {w W : World} (h : LC l p w W) (ho : l.O < l.D) : Same (· < l.O) w W := h.kp.same fun b hb e => by omega
theorem SliceOf.lc {α : Type} {k : Nat} {R : Lies α} (hR : Stays R) {l : Lodge} {p : M.Plan} {w W : World} {v : Value} {xs : List α} (hs : SliceOf k R w (· < l.O) v xs) (h : LC l p w W) : SliceOf k R W (· < l.O) v xs :=
 hs.keep hR (h.same (by have := h.at_.ord; omega)) fun _ x => x
theorem HeapOk.bad {p : M.Plan} {hs : List M.VObj} {q : Nat} {o : M.VObj} (hq : hs[q]? = some o) (h : (M.canLay p o.of && decide (o.fields.length = (M.layout p o.of).length) && o.fields.all (M.valOk · hs.length)) = false) : M.heapOk p hs = false := by
 unfold M.heapOk
 rw [Bool.and_eq_false_iff]
 right
 rw [List.all_eq_false]
 exact ⟨o, List.mem_of_getElem? hq, by rw [h]; simp⟩
theorem lodge_heapOk (w : World) (l : Lodge) (p : M.Plan) (h : LodgeAt w l p) (v : Value) (hs : List M.VObj) (hh : SliceOf 3 ObjL w (· < l.O) v hs) :
    Calls Tryz.prog 44 #[.pointer (some ⟨l.L, 0, none⟩), v] w fun e w' => e = .returned (.bool (M.heapOk p hs)) ∧ LC l p w w' := by
 obtain ⟨a, cap, rfl, hn, hcap⟩ := hh.form
 have hOw := h.dlt
 have hord := h.ord
 by_cases h12 : 12 < hs.length
 · have HV : Hid (M.heapOk p hs = false) := hid (by unfold M.heapOk; rw [decide_eq_false (by omega)]; rfl)
   have h12' : (12 : Int) < hs.length := by omega
   have HL := hid h
   clear h hh h12
   go_enter Tryz.func44, Tryz.ntmps44
   go_wp2_with fail
   go_ret
   exact ⟨ret_bool HV.out.symm, LC.refl HL.out⟩
 · have HV : Hid (M.heapOk p hs = hs.all fun o => M.canLay p o.of && decide (o.fields.length = (M.layout p o.of).length) && o.fields.all (M.valOk · hs.length)) := hid (by unfold M.heapOk; rw [decide_eq_true (by omega)]; rfl)
   have h12' : ((12 : Int) < hs.length) = False := eq_false (by omega)
   have HL := hid h
   have HH := hid hh
   have hlen12 : hs.length ≤ 12 := by omega
   clear h hh h12
   go_enter Tryz.func44, Tryz.ntmps44
   go_wp2_with fail
   go_loopw [12] (fun i wr => ∃ q : Nat, q ≤ hs.length ∧ i = .int .i64 q ∧ LC l p w wr ∧ Hid (((hs.take q).all fun o => M.canLay p o.of && decide (o.fields.length = (M.layout p o.of).length) && o.fields.all (M.valOk · hs.length)) = true)) (fun i _ => hs.length - (intOf i).toNat)
   case atStart => exact ⟨0, Nat.zero_le _, rfl, LC.refl HL.out, hid (by simp)⟩
   case round =>
    obtain ⟨q, hq, rfl, hC, HQ⟩ := hrel
    have HC := hid hC
    by_cases hlt : q < hs.length
    · obtain ⟨⟨⟨ok, on⟩, ofl⟩, ho⟩ := elemF hs q hlt
      obtain ⟨b, off, cs, rfl, hI, ⟨vf, rfl, hf⟩, -, hc⟩ := (SliceOf.lc ObjL.stays HH.out hC).get ho
      obtain ⟨fa, fc, rfl, hfn, hfc⟩ := hf.form
      obtain ⟨g0, g1, g2⟩ := hc.three
      have gz := cell_lt g0
      obtain ⟨w6, hw6⟩ : ∃ w6, w6 = wr.alloc (.cells #[.int .i64 ok, .string on, .slice fa ofl.length fc] 146) := ⟨_, rfl⟩
      have hE6 : Ext wr w6 := by rw [hw6]; exact (KX.k (by repeat (first | assumption | constructor)))
      have b6 : Blk w6 wr.heap.size 146 #[.int .i64 ok, .string on, .slice fa ofl.length fc] := by rw [hw6]; exact Blk.new _ _ _
      have hCz := hC.at_.dlt
      obtain ⟨T, f, hneT, HT⟩ := Cls.ex (fun W' => LC l p w6 W') w6 (LC.refl (hC.at_.ext hE6))
      have r0 := fun z => (b6.kp (HT.inn z).kp (by omega)).c 0 (.int .i64 ok) rfl
      have r1 := fun z => (b6.kp (HT.inn z).kp (by omega)).c 1 (.string on) rfl
      have r2 := fun z => (b6.kp (HT.inn z).kp (by omega)).c 2 (.slice fa ofl.length fc) rfl
      have HTH := hid HT
      have HW6 := hid hw6
      have HB6 := hid b6
      have HL6 := hid (hC.at_.ext hE6)
      have HC6 := hid (hC.ext hE6)
      have HF := hid ((hf.ext ValL.stays hE6))
      have HO := hid ho
      have hFin : ∀ W, LC l p w6 W → LC l p w W := fun _ hx => HC6.out.step hx.at_ hx.kp
      have HFIN := hid hFin
      clear hC hE6 b6 hw6 HT hf hc ho hFin
      go_wp2_with fail
      rw [← HW6.out]
      clear g0 g1 g2
      (refine region_mix f 16 [([0, 1, 2], 3), ([4, 5, 6, 7, 8, 9, 10, 11], 12)] [13, 14, 15] (HTH.out.out _ ?_) (by kernel_rfl) (by kernel_rfl) (fun _ _ d _ _ h => by cases d <;> exact h) ?_)
      · exact (LC.refl HL6.out).drew
      (refine wpMix_cons rfl rfl fun K hK => ?_); (change wpQuiet _ _ _ _ [_, _, _] _); (repeat (go_big_quiet_step (fail))); (refine wpQuiet_nil ?_); (refine hK _ fun K2 hK2 => ?_); clear hK K; (change wpList _ _ _ [_] _ _)
      go_wp2_with fail
      refine (lodge_canLay _ _ _ (HL6.out.ext (Kp.refl _ _).drew) ⟨ok, on⟩).mono ?_
      rintro e w7 ⟨rfl, hL7, hK7⟩
      have HC7 : Hid (LC l p w6 w7) := hid ((LC.refl HL6.out).drew.step hL7 hK7)
      clear hL7 hK7
      cases hcl : M.canLay p ⟨ok, on⟩
      · have HR : Hid (M.heapOk p hs = false) := hid (HeapOk.bad HO.out (by rw [hcl]; rfl))
        clear hcl
        go_wp2_with fail
        (refine hK2 _ _ (HTH.out.out _ HC7.out) ?_); clear hK2 K2
        (refine wpMix_cons rfl rfl fun K hK => ?_); (change wpQuiet _ _ _ _ [_, _, _, _, _, _, _, _] _); (repeat (go_big_quiet_step (fail))); (refine wpQuiet_nil ?_); (refine hK _ fun K2 hK2 => ?_); clear hK K; (change wpList _ _ _ [_] _ _)
        go_wp2_with fail
        (refine hK2 _ _ (HTH.out.out _ HC7.out) ?_); clear hK2 K2
        (refine wpMix_nil rfl fun K hK => ?_); (change wpQuiet _ _ _ _ [_, _, _] _); (repeat (go_big_quiet_step (fail))); (refine wpQuiet_nil ?_); (refine hK _ ?_); clear hK K; (simp only [List.drop_succ_cons, List.drop_zero, List.drop_nil, wpList])
        go_wp2_with fail
        go_ret
        exact ⟨ret_bool HR.out.symm, HFIN.out _ HC7.out⟩
      · have HCL := hid hcl
        clear hcl
        go_wp2_with fail
        (refine hK2 _ _ (HTH.out.out _ HC7.out) ?_); clear hK2 K2
        (refine wpMix_cons rfl rfl fun K hK => ?_); (change wpQuiet _ _ _ _ [_, _, _, _, _, _, _, _] _); (repeat (go_big_quiet_step (fail))); (refine wpQuiet_nil ?_); (refine hK _ fun K2 hK2 => ?_); clear hK K; (change wpList _ _ _ [_] _ _)
        go_wp2_with fail
        refine (lodge_layout _ _ _ HC7.out.at_ ⟨ok, on⟩).mono ?_
        rintro e w8 ⟨⟨v8, rfl, hs8⟩, hL8, hK8⟩
        obtain ⟨a8, c8, rfl, -, hn8⟩ := hs8.form
        have HC8 : Hid (LC l p w6 w8) := hid (HC7.out.step hL8 hK8)
        clear hs8 hL8 hK8
        by_cases hl8 : ofl.length = (M.layout p ⟨ok, on⟩).length
        · have hb8 : ((ofl.length : Int) != (M.layout p ⟨ok, on⟩).length) = false := by simp [hl8]
          have HL8 := hid hl8
          clear hl8
          go_wp2_with fail
          (refine hK2 _ _ (HTH.out.out _ HC8.out) ?_); clear hK2 K2
          (refine wpMix_nil rfl fun K hK => ?_); (change wpQuiet _ _ _ _ [_, _, _] _); (repeat (go_big_quiet_step (fail))); (refine wpQuiet_nil ?_); (refine hK _ ?_); clear hK K; (simp only [List.drop_succ_cons, List.drop_zero, List.drop_nil, wpList])
          have q2 := (HB6.out.kp HC8.out.kp (by omega)).c 2 (.slice fa ofl.length fc) rfl
          have qz := (HB6.out.kp HC8.out.kp (by omega)).lt
          clear r0 r1 r2 HTH
          go_wp2_with fail
          refine (values_ok _ (· < l.O) _ ofl (SliceOf.lc ValL.stays HF.out HC8.out) hs.length).mono ?_
          rintro e w9 ⟨rfl, hE9⟩
          have HC9 := hid (HC8.out.ext hE9)
          clear hE9
          cases hvo : ofl.all (M.valOk · hs.length)
          · have HR : Hid (M.heapOk p hs = false) := hid (HeapOk.bad HO.out (by simp only [hvo, Bool.and_false]))
            clear hvo
            go_wp2_with fail
            go_ret
            exact ⟨ret_bool HR.out.symm, HFIN.out _ HC9.out⟩
          · have HT : Hid ((M.canLay p ⟨ok, on⟩ && decide (ofl.length = (M.layout p ⟨ok, on⟩).length) && ofl.all (M.valOk · hs.length)) = true) := hid (by rw [HCL.out, hvo, decide_eq_true HL8.out]; rfl)
            clear hvo
            go_wp2_with fail
            exact ⟨⟨q + 1, by omega, by go_num, HFIN.out _ HC9.out, hid (all_succ HQ.out HO.out HT.out)⟩, by simp [intOf]; omega⟩
        · have hb8 : ((ofl.length : Int) != (M.layout p ⟨ok, on⟩).length) = true := bne_iff_ne.2 (by omega)
          have HR : Hid (M.heapOk p hs = false) := hid (HeapOk.bad HO.out (by simp only [decide_eq_false hl8, Bool.and_false, Bool.false_and]))
          clear hl8
          go_wp2_with fail
          (refine hK2 _ _ (HTH.out.out _ HC8.out) ?_); clear hK2 K2
          (refine wpMix_nil rfl fun K hK => ?_); (change wpQuiet _ _ _ _ [_, _, _] _); (repeat (go_big_quiet_step (fail))); (refine wpQuiet_nil ?_); (refine hK _ ?_); clear hK K; (simp only [List.drop_succ_cons, List.drop_zero, List.drop_nil, wpList])
          go_wp2_with fail
          go_ret
          exact ⟨ret_bool HR.out.symm, HFIN.out _ HC8.out⟩
    · have HR : Hid (M.heapOk p hs = true) := hid (by rw [HV.out]; exact all_end HQ.out (by omega))
      clear hC
      go_wp2_with fail
      go_ret
      exact ⟨ret_bool HR.out.symm, HC.out⟩
end Go.Proofs.YtjdfceejkneofaaGreat
