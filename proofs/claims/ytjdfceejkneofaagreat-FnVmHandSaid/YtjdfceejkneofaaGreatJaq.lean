/- Walks: the machine's instruction get (printed by gen_m14.py).; Walks: the machine's instruction set (printed by gen_m15.py).; Walks: right, lookClass. -/
import Derived.Test.YtjdfceejkneofaaGreatJap
import Derived.Test.YtjdfceejkneofaaGreatJam
set_option maxRecDepth 100000
set_option maxHeartbeats 4000000
set_option linter.unusedSimpArgs false
set_option linter.unusedVariables false
namespace Go.Proofs.YtjdfceejkneofaaGreat
open Go Go.RowKit
open Go.Lib (hid)
theorem LC.own {l : Lodge} {p : M.Plan} {w W W' : World} {b : Nat} (h : LC l p w W) (hk : Kp (· = b) W W') (hb : w.heap.size ≤ b) (hL : l.L < w.heap.size) : LC l p w W' :=
 ⟨h.kp.own hk (fun k e => by omega), h.at_.kp hk (fun k hk e => by omega)⟩
theorem do_get (w : World) (l : Lodge) (p : M.Plan) (own : Own) (B mb : Nat) (lk : Bool) (g : Gh) (h : MachAt w l p own B mb lk g) (r : List GC) (c : GC) (hcs : g.cs = r ++ [c]) (hst : g.status = 1) (i : M.Ins) (hi : M.insIn (M.method p c.f.of) i = true) (hop : i.op = 7) :
    Calls Tryz.prog 56 #[.pointer (some ⟨mb, 0, none⟩), .agg #[.int .i64 i.op, .int .i64 i.a, .string i.name, .string i.member]] w (MEnd w l p own B mb lk (.int .i64 (M.doIns p lk i g.st).1) (M.doIns p lk i g.st).2) := by
 have HI := hid (M.ins_a hi)
 obtain ⟨w0, hw0⟩ : ∃ w0, w0 = w.alloc (.cells #[.int .i64 i.op, .int .i64 i.a, .string i.name, .string i.member] 28) := ⟨_, rfl⟩
 have hE0 : Ext w w0 := by rw [hw0]; exact (KX.k (by repeat (first | assumption | constructor)))
 have b3 : Blk w0 w.heap.size 28 #[.int .i64 i.op, .int .i64 i.a, .string i.name, .string i.member] := by rw [hw0]; exact Blk.new _ _ _
 have HNO := hid (h.fresh (Nat.le_refl _))
 have HFRE : Hid (∀ b, w.heap.size ≤ b → ¬ MO l own b) := hid (fun b hb => h.fresh hb)
 have hLw0 := h.lod.lt
 have hDL := h.lod.ord.2.2
 have HA0 := hid (h.ext hE0)
 have HE0 := hid hE0
 have HB3 := hid b3
 have HW0 := hid hw0
 have HCS := hid hcs
 have hwz := b3.lt
 clear h hE0 b3 hw0 hcs hi
 obtain ⟨⟨⟨⟨v0, v1⟩, v2, ⟨v3, v4⟩⟩, cd⟩, hF⟩ : ∃ F, M.get p c.f.of.of.keeper i.name i.member = F := ⟨_, rfl⟩
 have HV : Hid (M.doIns p lk i g.st = if cd = 1 then (match M.pop g.st with
     | none => (10, g.st)
     | some (v, s1) => if M.object p v ⟨v0, v1⟩ s1 = 1 then M.push p (((M.fieldsAt s1.heap v.n)[v2.toNat]?).getD M.zval) s1 else (M.object p v ⟨v0, v1⟩ s1, s1)) else (4, g.st)) := hid (by
  unfold M.doIns; rw [hop]; simp only [Gh.top HCS.out, hF]; rfl)
 have HF := hid hF
 have HOP := hid hop
 clear hop
 go_enter Tryz.func56, Tryz.ntmps56
 go_wp2_with fail
 rw [← HW0.out]
 refine (mach_top _ _ _ _ _ _ _ _ HA0.out r c HCS.out).mono ?_
 rintro e w1 ⟨rfl, hE1⟩
 have HA := hid (HA0.out.ext hE1)
 have HE1 : Hid (Ext w w1) := hid (HE0.out.trans hE1)
 have HB31 := hid (HB3.out.ext hE1)
 have hLw : l.L < w1.heap.size := HA.out.lod.lt
 have hDw : l.D < w1.heap.size := by omega
 have hwz1 : w.heap.size < w1.heap.size := HB31.out.lt
 have hget : ∀ W, LC l p w1 W → Calls Tryz.prog 87 #[.pointer (some ⟨l.L, 0, none⟩), .int .i64 c.f.of.of.keeper, .string i.name, .string i.member] W fun e w' => ∃ ev, e = .returned (.tuple #[.agg #[.int .i64 v0, .string v1, .int .i64 v2, .int .i64 v3, .string v4], ev]) ∧ ErrV' ev cd ∧ Kp (· = l.D) W w' ∧ LC l p w1 w' := fun W hW => by
  have hl := lodge_get W l p hW.at_ c.f.of.of.keeper i.name i.member
  rw [HF.out] at hl
  refine hl.mono ?_
  rintro e w' ⟨⟨ev, rfl, hev⟩, hL, hK⟩
  exact ⟨ev, rfl, hev.weak, hK, hW.step hL hK⟩
 have HGET := hid hget
 have HC : Hid (LC l p w1 w1.drew) := hid (LC.refl HA.out.lod).drew
 obtain ⟨T, f, hneT, HT⟩ := Cls.ex (fun W' => LC l p w1 W') w1 (LC.refl HA.out.lod)
 have rm0 := fun z => (HA.out.lod' (HT.inn z).kp (HT.inn z).at_).blk.c 0 (.pointer (some ⟨l.L, 0, none⟩)) rfl
 have r32 := fun z => (HB31.out.kp (HT.inn z).kp (by omega)).c 2 (.string i.name) rfl
 have r33 := fun z => (HB31.out.kp (HT.inn z).kp (by omega)).c 3 (.string i.member) rfl
 have HTH := hid HT
 clear HT hget hE1
 go_wp2_with fail
 rename_i K hK
 have tail : ∀ (b6 : Nat) (w7 : World) (ev : Value), LC l p w1 w7 → Blk w7 b6 159 #[.int .i64 v0, .string v1, .int .i64 v2, .int .i64 v3, .string v4] → w1.heap.size ≤ b6 → ErrV' ev cd → K { tmps := #[.pointer (some ⟨mb, 0, none⟩), .agg #[.int .i64 i.op, .int .i64 i.a, .string i.name, .string i.member], undef, .pointer (some ⟨w.heap.size, 0, none⟩), .int .i64 0, .pointer (some ⟨c.cb, 0, none⟩), .pointer (some ⟨b6, 0, none⟩), ev, undef, undef, undef, .pointer (some ⟨mb, 0, none⟩), .pointer (some ⟨c.cb, 0, none⟩), .tuple #[.agg #[.int .i64 v0, .string v1, .int .i64 v2, .int .i64 v3, .string v4], ev], .pointer (some ⟨mb, 0, none⟩), .pointer (some ⟨mb, 0, none⟩), .pointer (some ⟨mb, 0, none⟩), .pointer (some ⟨l.L, 0, none⟩), .pointer (some ⟨c.cb, 0, none⟩), .int .i64 c.f.of.of.keeper, .pointer (some ⟨w.heap.size, 2, none⟩), .string i.name, .pointer (some ⟨w.heap.size, 3, none⟩), .string i.member, .tuple #[.agg #[.int .i64 v0, .string v1, .int .i64 v2, .int .i64 v3, .string v4], ev], .agg #[.int .i64 v0, .string v1, .int .i64 v2, .int .i64 v3, .string v4], ev, undef, undef, undef, undef, undef, undef, undef, undef, undef, undef, undef, undef, undef, undef, undef, undef, undef, undef, undef, undef, undef, undef, undef, undef, undef, undef, undef, undef, undef, undef, undef, undef, undef, undef], defers := [] } w7 := by
  intro b6 w7 ev hC hB6 hb6 hev
  refine hK _ _ ?_
  clear hK HTH rm0 r32 r33 HC HGET
  have HM7 := hid (HA.out.lod' hC.kp hC.at_)
  have HK7 : Hid (Kp (MO l own) w w7) := hid (HE1.out.any.trans hC.mo)
  have HB6 := hid hB6
  have HB37 := hid (HB31.out.kp hC.kp (by omega))
  have HN6 := hid (HFRE.out b6 (by omega))
  clear hC hB6
  rcases hev with ⟨rfl, rfl⟩ | ⟨hc, eb, rfl⟩
  rotate_left
  · replace HV : Hid (M.doIns p lk i g.st = (4, g.st)) := hid (by rw [HV.out, if_neg hc])
    clear hc
    go_wp2_with fail
    go_ret
    rw [HV.out]
    exact MEnd.mk' HK7.out (Agr.refl _ _) HM7.out rfl
  replace HV : Hid (M.doIns p lk i g.st = (match M.pop g.st with
   | none => (10, g.st)
   | some (v, s1) => if M.object p v ⟨v0, v1⟩ s1 = 1 then M.push p (((M.fieldsAt s1.heap v.n)[v2.toNat]?).getD M.zval) s1 else (M.object p v ⟨v0, v1⟩ s1, s1))) := hid HV.out
  have x0 := HB6.out.c 0 (.int .i64 v0) rfl
  have x1 := HB6.out.c 1 (.string v1) rfl
  have xz := HB6.out.lt
  rcases List.eq_nil_or_concat c.f.stack with hs | ⟨st, v, hs⟩
  · replace HV : Hid (M.doIns p lk i g.st = (10, g.st)) := hid (by rw [HV.out, Gh.pop_no HCS.out hs])
    have HS := hid hs
    clear hs
    go_wp2_with fail
    refine (mach_pop_no _ _ _ _ _ _ _ _ HM7.out r c HCS.out HS.out).mono ?_
    rintro e w8 ⟨rfl, hE8⟩
    have HE8 := hid hE8
    clear hE8
    go_wp2_with fail
    go_ret
    rw [HV.out]
    exact MEnd.mk' (HK7.out.trans (HE8.out.alloc _).any) (Agr.refl _ _) (HM7.out.ext (HE8.out.alloc _)) rfl
  · rw [List.concat_eq_append] at hs
    have hvk := (M.frameOk_iff.1 (HM7.out.frm HCS.out)).2.2.2.2.2.2 v (by rw [hs]; simp)
    have HVK : Hid (M.valOk v g.os.length = true) := hid (by simpa [Gh.st] using hvk)
    have HV2 : Hid (∀ vs', M.doIns p lk i g.st = if M.object p v ⟨v0, v1⟩ (g.stk r c st vs').st = 1 then M.push p (((M.fieldsAt g.st.heap v.n)[v2.toNat]?).getD M.zval) (g.stk r c st vs').st else (M.object p v ⟨v0, v1⟩ (g.stk r c st vs').st, (g.stk r c st vs').st)) := hid (fun vs' => by rw [HV.out, Gh.pop HCS.out hs vs']; rfl)
    have HS := hid hs
    clear hs hvk HV
    obtain ⟨vk, vn⟩ := v
    go_wp2_with fail
    refine (mach_pop _ _ _ _ _ _ _ _ HM7.out r c HCS.out st ⟨vk, vn⟩ HS.out).mono ?_
    rintro e w8 ⟨rfl, hK8, vs', hM8⟩
    have HV := hid (HV2.out vs')
    have hB68 := HB6.out.kp hK8 HN6.out
    have z0 := hB68.c 0 (.int .i64 v0) rfl
    have z1 := hB68.c 1 (.string v1) rfl
    have zz := hB68.lt
    obtain ⟨w9, hw9⟩ : ∃ w9, w9 = w8.alloc (.cells #[.int .i64 vk, .int .i64 vn] 34) := ⟨_, rfl⟩
    have hE9 : Ext w8 w9 := by rw [hw9]; exact (KX.k (by repeat (first | assumption | constructor)))
    have b8 : Blk w9 w8.heap.size 34 #[.int .i64 vk, .int .i64 vn] := by rw [hw9]; exact Blk.new _ _ _
    have HM9 := hid (hM8.ext hE9)
    have HK9 : Hid (Kp (MO l own) w w9) := hid ((HK7.out.trans hK8).trans hE9.any)
    have HB69 := hid (hB68.ext hE9)
    have HB8 := hid b8
    have HW9 := hid hw9
    have HWZ : Hid (w.heap.size ≤ w8.heap.size) := hid (by have := hK8.size; have := HK7.out.size; omega)
    clear hK8 hM8 hB68 hE9 b8 hw9 HV2 x0 x1 xz
    go_wp2_with fail
    rw [← HW9.out]
    refine (mach_object _ _ _ _ _ _ _ _ HM9.out ⟨vk, vn⟩ HVK.out ⟨v0, v1⟩).mono ?_
    rintro e w10 ⟨rfl, hE10⟩
    have HM10 := hid (HM9.out.ext hE10)
    have HK10 : Hid (Kp (MO l own) w w10) := hid (HK9.out.trans hE10.any)
    have HB610 := hid (HB69.out.ext hE10)
    have HB810 := hid (HB8.out.ext hE10)
    clear hE10 z0 z1 zz
    obtain ⟨ob, hob⟩ : ∃ ob, M.object p ⟨vk, vn⟩ ⟨v0, v1⟩ (g.stk r c st vs').st = ob := ⟨_, rfl⟩
    by_cases ho1 : ob = 1
    · subst ho1
      replace HV : Hid (M.doIns p lk i g.st = M.push p (((M.fieldsAt g.st.heap vn)[v2.toNat]?).getD M.zval) (g.stk r c st vs').st) := hid (by rw [HV.out, if_pos hob])
      have hfp := M.field_place (p := p) HM10.out.good (k := c.f.of.of.keeper) (n := i.name) (m := i.member) (by rw [HF.out]) (v := ⟨vk, vn⟩) (by simpa [Gh.st, Gh.stk] using HVK.out) (by rw [HF.out]; exact hob)
      rw [HF.out] at hfp
      simp only at hfp
      obtain ⟨hn0, hn1, ha0, o, ho, -, hfo, hao⟩ := hfp
      obtain ⟨n, rfl⟩ : ∃ n : Nat, vn = n := ⟨vn.toNat, by omega⟩
      obtain ⟨a, rfl⟩ : ∃ a : Nat, v2 = a := ⟨v2.toNat, by omega⟩
      simp only [Int.toNat_natCast] at ho hao
      simp only [Gh.st, Gh.stk, List.getElem?_map, Option.map_eq_some_iff] at ho
      obtain ⟨go, hgo, rfl⟩ := ho
      obtain ⟨u, hu⟩ := elemF go.o.fields a hao
      have huv : (((M.fieldsAt g.st.heap n)[(a : Int).toNat]?).getD M.zval) = u := by
       have : M.fieldsAt g.st.heap n = go.o.fields := hfo
       rw [this, Int.toNat_natCast, hu]; rfl
      rw [huv] at HV
      have HUK : Hid (M.valOk u g.os.length = true) := hid (by
       have h1 := ((M.heapOk_iff.1 HM10.out.good.heap).2 go.o (by simp only [Gh.st, Gh.stk, List.mem_map]; exact ⟨go, List.mem_of_getElem? hgo, rfl⟩)).2.2 u (List.mem_of_getElem? hu)
       simpa [Gh.st, Gh.stk] using h1)
      obtain ⟨ha, hcap, hva⟩ := HM10.out.heap.form
      have hrow := HM10.out.heap.row
      rw [hva] at hrow
      have hnl : n < g.os.length := (List.getElem?_eq_some_iff.1 hgo).1
      obtain ⟨hb, hbc, eb, -⟩ := owns_form hrow (by show 0 < g.os.length; omega)
      cases eb
      have hcc := owns_at (enc := objCs) (k := 3) (fun _ => rfl) hrow (l := g.os) hgo
      have hfr := (HM10.out.obj n go hgo).row
      obtain ⟨fb, fc, hfv, -⟩ := owns_form hfr (by omega)
      rw [hfv] at hfr
      have hfc := owns_at (enc := valCs) (k := 2) (fun _ => rfl) hfr hu
      obtain ⟨T, f, hneT, HT⟩ := Cls.ex (fun W' => Kp (PO own (R46 r.length)) w10 W') _ (Kp.refl _ _)
      obtain ⟨uk, un⟩ := u
      have e1 := hcc.three.2.2
      rw [hfv] at e1
      have no : ∀ b q, own b = some q → ¬ R46 r.length q → ¬ PO own (R46 r.length) b := fun b q hb hq ⟨q', h1, h2⟩ => by rw [hb] at h1; cases h1; exact hq h2
      have noN : ∀ b, own b = none → ¬ PO own (R46 r.length) b := fun b hb ⟨q', h1, _⟩ => by rw [hb] at h1; cases h1
      have ro : ∀ b, ¬ MO l own b → own b = none := fun b hb => by
       cases e : own b with
       | none => rfl
       | some q => exact absurd (.inr (by rw [e]; simp)) hb
      have hn8 : own w8.heap.size = none := ro _ (HFRE.out _ (by have := HK9.out.size; have := HK7.out.size; have := HM9.out.blk.lt; have := HB8.out.lt; have := HWZ.out; omega))
      have hhb : own hb = some (2, 0) := HM10.out.heap.role hb (by rw [hva]; rfl)
      have hfb : own fb = some (7, n) := (HM10.out.obj n go hgo).role fb (by rw [hfv]; rfl)
      have rm4 := fun z => (HM10.out.blk.kp (HT.inn z) (no _ _ HM10.out.role (by simp [R46]))).c 4 (.slice (some ⟨hb, 0, none⟩) g.os.length hcap) (by rw [show (Value.slice (some ⟨hb, 0, none⟩) g.os.length hcap) = g.vh from hva.symm]; rfl)
      have r81 := fun z => (HB810.out.kp (HT.inn z) (noN _ hn8)).c 1 (.int .i64 n) rfl
      have rh2 := fun z => (HT.inn z).cellK e1 (no _ _ hhb (by simp [R46]))
      have r62 := fun z => (HB610.out.kp (HT.inn z) (noN _ (ro _ HN6.out))).c 2 (.int .i64 a) rfl
      have rf0 := fun z => (HT.inn z).cellK hfc.two.1 (no _ _ hfb (by simp [R46]))
      have rf1 := fun z => (HT.inn z).cellK hfc.two.2 (no _ _ hfb (by simp [R46]))
      have HTH := hid HT
      have hnl' : (n : Int) < g.os.length := by omega
      have hal : (a : Int) < go.o.fields.length := by omega
      clear HT hrow hcc hfr hfc e1 hva hgo hu huv hfo hhb hfb hnl hao ha0
      rw [hob]
      clear hob
      go_wp2_with fail
      (refine region_mix f 15 [([0, 1, 2, 3, 4, 5, 6, 7, 8, 9, 10, 11, 12, 13], 14)] [] (HTH.out.out _ ?_) (by kernel_rfl) (by kernel_rfl) (fun _ _ d _ _ h => by cases d <;> exact h) ?_)
      · exact (Kp.refl _ _).drew
      (refine wpMix_cons rfl rfl fun K hK => ?_); (change wpQuiet _ _ _ _ [_, _, _, _, _, _, _, _, _, _, _, _, _, _] _); (repeat (go_big_quiet_step (fail))); (refine wpQuiet_nil ?_); (refine hK _ fun K2 hK2 => ?_); clear hK K; (change wpList _ _ _ [_] _ _)
      go_wp2_with fail
      refine (mach_putP _ _ _ _ _ _ _ _ (HM10.out.ext (Kp.refl _ _).drew) r _ rfl hst ⟨uk, un⟩ HUK.out).mono ?_
      rintro e w11 ⟨hEnd, hPO⟩
      have HPO : Hid (Kp (PO own (R46 r.length)) w10 w11) := hid ((((Kp.refl _ w10).drew : Ext w10 _).any).trans hPO)
      have HZ := hid (MEnd.after (HK10.out.trans ((Kp.refl _ w10).drew : Ext w10 _).any) (Agr.refl _ _) hEnd)
      obtain ⟨rfl, -⟩ := hEnd
      rw [← HV.out] at HZ ⊢
      clear hPO
      go_wp2_with fail
      (refine hK2 _ _ (HTH.out.out _ HPO.out) ?_); clear hK2 K2
      (refine wpMix_nil rfl fun K hK => ?_); (change wpQuiet _ _ _ _ [] _); (refine wpQuiet_nil ?_); (refine hK _ ?_); clear hK K
      go_wp2_with fail
      go_ret
      exact HZ.out
    · replace HV : Hid (M.doIns p lk i g.st = (ob, (g.stk r c st vs').st)) := hid (by rw [HV.out, hob, if_neg ho1])
      have ho1' : (ob != 1) = true := bne_iff_ne.2 ho1
      rw [hob]
      clear hob ho1
      go_wp2_with fail
      go_ret
      rw [HV.out]
      exact MEnd.mk' HK10.out (Agr.refl _ _) HM10.out rfl
 have TAIL := hid tail
 clear tail hK
 (refine region_tree f 16 (.two [0, 1, 2, 3, 4, 6, 7, 8, 9] 5 14 (.two [] 10 14 (.one [11, 12, 13] 14 (.one [] 15 (.fin []))) (.one [] 10 (.one [11, 12, 13] 15 (.fin [])))) (.one [] 5 (.one [] 10 (.one [11, 12, 13] 15 (.fin []))))) (HTH.out.out _ ?_) (by kernel_rfl) (by kernel_rfl) (fun _ _ d _ _ h => by cases d <;> exact h) ?_)
 · exact HC.out
 (refine wpT_two rfl rfl rfl fun K hK => ?_); (change wpQuiet _ _ _ _ [_, _, _, _, _, _, _, _, _] _); (repeat (go_big_quiet_step (fail))); (refine wpQuiet_nil ?_); ((refine hK _ (fun K2 hK2 => ?_) (fun K2 hK2 => ?_)) <;> (clear hK K; (change wpList _ _ _ [_] _ _)))
 · go_wp2_with fail
   refine (call_keeper _ _ c.f.of.of.keeper (((HA.out.lod' HC.out.kp HC.out.at_).at_ HCS.out).blk.c 0 _ rfl)).mono ?_
   rintro e we ⟨rfl, rfl⟩
   go_wp2_with fail
   (refine hK2 _ _ (HTH.out.out _ HC.out) ?_); clear hK2 K2
   (refine wpT_two rfl rfl rfl fun K hK => ?_); (change wpQuiet _ _ _ _ [] _); (refine wpQuiet_nil ?_); ((refine hK _ (fun K2 hK2 => ?_) (fun K2 hK2 => ?_)) <;> (clear hK K; (change wpList _ _ _ [_] _ _)))
   · go_wp2_with fail
     refine (HGET.out _ HC.out).mono ?_
     rintro e wc ⟨ev, rfl, hev, hk, hc⟩
     replace HC := hid hc
     have HEV := hid hev
     clear hk hc hev
     go_wp2_with fail
     (refine hK2 _ _ (HTH.out.out _ HC.out) ?_); clear hK2 K2
     (refine wpT_one rfl rfl fun K hK => ?_); (change wpQuiet _ _ _ _ [_, _, _] _); (repeat (go_big_quiet_step (fail))); (refine wpQuiet_nil ?_); (refine hK _ fun K2 hK2 => ?_); clear hK K; (change wpList _ _ _ [_] _ _)
     go_wp2_with fail
     (refine hK2 _ _ (HTH.out.out _ (HC.out.ext ((Kp.refl _ _).alloc _))) ?_); clear hK2 K2
     (refine wpT_one rfl rfl fun K hK => ?_); (change wpQuiet _ _ _ _ [] _); (refine wpQuiet_nil ?_); (refine hK _ fun K2 hK2 => ?_); clear hK K; (change wpList _ _ _ [_] _ _)
     go_wp2_with fail
     (refine hK2 _ _ (HTH.out.out _ (HC.out.ext ((Kp.refl _ _).alloc _))) ?_); clear hK2 K2
     have hb6 := HC.out.kp.size
     have HB6 := hid (Blk.new (wc) 159 #[.int .i64 v0, .string v1, .int .i64 v2, .int .i64 v3, .string v4])
     replace HC := hid (HC.out.ext ((Kp.refl _ _).alloc (.cells #[.int .i64 v0, .string v1, .int .i64 v2, .int .i64 v3, .string v4] 159)))
     clear HTH rm0 r32 r33
     (refine wpT_fin rfl fun K hK => ?_); (change wpQuiet _ _ _ _ [] _); (refine wpQuiet_nil ?_); (refine hK _ ?_); clear hK K
     go_wp2_with fail
     exact TAIL.out _ _ _ HC.out HB6.out hb6 HEV.out
   · go_wp2_with fail
     (refine hK2 _ _ (HTH.out.out _ (HC.out.ext ((Kp.refl _ _).alloc _))) ?_); clear hK2 K2
     have hb6 : w1.heap.size ≤ w1.heap.size := HC.out.kp.size
     have HB6 : Hid (Blk (w1.drew.alloc (.cells #[.int .i64 0, .string ⟨#[]⟩, .int .i64 0, .int .i64 0, .string ⟨#[]⟩] 159)) w1.heap.size 159 #[.int .i64 0, .string ⟨#[]⟩, .int .i64 0, .int .i64 0, .string ⟨#[]⟩]) := hid (Blk.new _ _ _)
     replace HC := hid (HC.out.ext ((Kp.refl _ _).alloc (.cells #[.int .i64 0, .string ⟨#[]⟩, .int .i64 0, .int .i64 0, .string ⟨#[]⟩] 159)))
     (refine wpT_one rfl rfl fun K hK => ?_); (change wpQuiet _ _ _ _ [] _); (refine wpQuiet_nil ?_); (refine hK _ fun K2 hK2 => ?_); clear hK K; (change wpList _ _ _ [_] _ _)
     go_wp2_with fail
     refine (HGET.out _ HC.out).mono ?_
     rintro e wc ⟨ev, rfl, hev, hk, hc⟩
     replace HB6 := hid (HB6.out.kp hk (by omega))
     replace HC := hid hc
     have HEV := hid hev
     clear hk hc hev
     go_wp2_with fail
     (refine hK2 _ _ (HTH.out.out _ HC.out) ?_); clear hK2 K2
     (refine wpT_one rfl rfl fun K hK => ?_); (change wpQuiet _ _ _ _ [_, _, _] _); (repeat (go_big_quiet_step (fail))); (refine wpQuiet_nil ?_); (refine hK _ fun K2 hK2 => ?_); clear hK K; (change wpList _ _ _ [_] _ _)
     have y0 := HB6.out.c 0 (.int .i64 0) rfl
     have y1 := HB6.out.c 1 (.string ⟨#[]⟩) rfl
     have y2 := HB6.out.c 2 (.int .i64 0) rfl
     have y3 := HB6.out.c 3 (.int .i64 0) rfl
     have y4 := HB6.out.c 4 (.string ⟨#[]⟩) rfl
     have g0 := HB6.out.frozen 0
     have g1 := HB6.out.frozen 1
     have g2 := HB6.out.frozen 2
     have g3 := HB6.out.frozen 3
     have g4 := HB6.out.frozen 4
     have z6 := HB6.out.lt
     go_wp2_with fail
     replace HC := hid (LC.own HC.out (Kp.set5 (D := (· = _)) rfl (.int .i64 v0) (.string v1) (.int .i64 v2) (.int .i64 v3) (.string v4)) hb6 hLw)
     replace HB6 := hid (HB6.out.set5 (.int .i64 v0) (.string v1) (.int .i64 v2) (.int .i64 v3) (.string v4))
     (refine hK2 _ _ (HTH.out.out _ HC.out) ?_); clear hK2 K2
     clear y0 g0 y1 g1 y2 g2 y3 g3 y4 g4 z6
     clear HTH rm0 r32 r33
     (refine wpT_fin rfl fun K hK => ?_); (change wpQuiet _ _ _ _ [] _); (refine wpQuiet_nil ?_); (refine hK _ ?_); clear hK K
     go_wp2_with fail
     exact TAIL.out _ _ _ HC.out HB6.out hb6 HEV.out
 · go_wp2_with fail
   (refine hK2 _ _ (HTH.out.out _ (HC.out.ext ((Kp.refl _ _).alloc _))) ?_); clear hK2 K2
   have hb6 : w1.heap.size ≤ w1.heap.size := HC.out.kp.size
   have HB6 : Hid (Blk (w1.drew.alloc (.cells #[.int .i64 0, .string ⟨#[]⟩, .int .i64 0, .int .i64 0, .string ⟨#[]⟩] 159)) w1.heap.size 159 #[.int .i64 0, .string ⟨#[]⟩, .int .i64 0, .int .i64 0, .string ⟨#[]⟩]) := hid (Blk.new _ _ _)
   replace HC := hid (HC.out.ext ((Kp.refl _ _).alloc (.cells #[.int .i64 0, .string ⟨#[]⟩, .int .i64 0, .int .i64 0, .string ⟨#[]⟩] 159)))
   (refine wpT_one rfl rfl fun K hK => ?_); (change wpQuiet _ _ _ _ [] _); (refine wpQuiet_nil ?_); (refine hK _ fun K2 hK2 => ?_); clear hK K; (change wpList _ _ _ [_] _ _)
   go_wp2_with fail
   refine (call_keeper _ _ c.f.of.of.keeper (((HA.out.lod' HC.out.kp HC.out.at_).at_ HCS.out).blk.c 0 _ rfl)).mono ?_
   rintro e we ⟨rfl, rfl⟩
   go_wp2_with fail
   (refine hK2 _ _ (HTH.out.out _ HC.out) ?_); clear hK2 K2
   (refine wpT_one rfl rfl fun K hK => ?_); (change wpQuiet _ _ _ _ [] _); (refine wpQuiet_nil ?_); (refine hK _ fun K2 hK2 => ?_); clear hK K; (change wpList _ _ _ [_] _ _)
   go_wp2_with fail
   refine (HGET.out _ HC.out).mono ?_
   rintro e wc ⟨ev, rfl, hev, hk, hc⟩
   replace HB6 := hid (HB6.out.kp hk (by omega))
   replace HC := hid hc
   have HEV := hid hev
   clear hk hc hev
   go_wp2_with fail
   (refine hK2 _ _ (HTH.out.out _ HC.out) ?_); clear hK2 K2
   (refine wpT_one rfl rfl fun K hK => ?_); (change wpQuiet _ _ _ _ [_, _, _] _); (repeat (go_big_quiet_step (fail))); (refine wpQuiet_nil ?_); (refine hK _ fun K2 hK2 => ?_); clear hK K; (change wpList _ _ _ [_] _ _)
   have y0 := HB6.out.c 0 (.int .i64 0) rfl
   have y1 := HB6.out.c 1 (.string ⟨#[]⟩) rfl
   have y2 := HB6.out.c 2 (.int .i64 0) rfl
   have y3 := HB6.out.c 3 (.int .i64 0) rfl
   have y4 := HB6.out.c 4 (.string ⟨#[]⟩) rfl
   have g0 := HB6.out.frozen 0
   have g1 := HB6.out.frozen 1
   have g2 := HB6.out.frozen 2
   have g3 := HB6.out.frozen 3
   have g4 := HB6.out.frozen 4
   have z6 := HB6.out.lt
   go_wp2_with fail
   replace HC := hid (LC.own HC.out (Kp.set5 (D := (· = _)) rfl (.int .i64 v0) (.string v1) (.int .i64 v2) (.int .i64 v3) (.string v4)) hb6 hLw)
   replace HB6 := hid (HB6.out.set5 (.int .i64 v0) (.string v1) (.int .i64 v2) (.int .i64 v3) (.string v4))
   (refine hK2 _ _ (HTH.out.out _ HC.out) ?_); clear hK2 K2
   clear y0 g0 y1 g1 y2 g2 y3 g3 y4 g4 z6
   clear HTH rm0 r32 r33
   (refine wpT_fin rfl fun K hK => ?_); (change wpQuiet _ _ _ _ [] _); (refine wpQuiet_nil ?_); (refine hK _ ?_); clear hK K
   go_wp2_with fail
   exact TAIL.out _ _ _ HC.out HB6.out hb6 HEV.out
theorem modify_set {α : Type} {l : List α} {n : Nat} {x : α} (h : l[n]? = some x) (f : α → α) : l.modify n f = l.set n (f x) := by
 apply List.ext_getElem?
 intro j
 rw [List.getElem?_modify, List.getElem?_set]
 by_cases e : n = j
 · subst e
   rw [h]
   have := (List.getElem?_eq_some_iff.1 h).1
   simp [this]
 · simp [e]
theorem set_flat {α : Type} {enc : α → List Value} : ∀ (l : List α) (n : Nat) (x y : α), l[n]? = some x → enc y = enc x → (l.set n y).flatMap enc = l.flatMap enc := by
 intro l
 induction l with
 | nil => intro n x y h; simp at h
 | cons z r ih =>
  intro n x y h e
  cases n with
  | zero => simp at h; subst h; simp [e]
  | succ n => simp at h; simp [ih n x y h e]
def Gh.fld (g : Gh) (n : Nat) (go : GO) (a : Nat) (x : M.Val) : Gh := { g with os := g.os.set n ⟨{ go.o with fields := go.o.fields.set a x }, go.v⟩ }
theorem Gh.fld_st {g : Gh} {n : Nat} {go : GO} (hgo : g.os[n]? = some go) (a : Nat) (x : M.Val) : (g.fld n go a x).st = { g.st with heap := M.setField g.st.heap n a x } := by
 unfold Gh.fld Gh.st M.setField
 simp only [Int.toNat_natCast]
 rw [modify_set (x := go.o) (by simp [hgo])]
 simp [List.map_set]
theorem MachAt.setFld {w : World} {l : Lodge} {p : M.Plan} {own : Own} {B mb : Nat} {lk : Bool} {g : Gh} (h : MachAt w l p own B mb lk g) {n : Nat} {go : GO} (hgo : g.os[n]? = some go) {fb fc : Nat} (hfv : go.v = .slice (some ⟨fb, 0, none⟩) go.o.fields.length fc) (a : Nat) (x : M.Val) (hx : M.valOk x g.os.length = true) :
    Kp (MO l own) w ((w.setCell ⟨fb, a * 2, none⟩ (.int .i64 x.kind)).setCell ⟨fb, a * 2 + 1, none⟩ (.int .i64 x.n)) ∧ MachAt ((w.setCell ⟨fb, a * 2, none⟩ (.int .i64 x.kind)).setCell ⟨fb, a * 2 + 1, none⟩ (.int .i64 x.n)) l p own B mb lk (g.fld n go a x) := by
 have hrow := (h.obj n go hgo).row
 have hro : own fb = some (7, n) := (h.obj n go hgo).role fb (by rw [hfv]; rfl)
 have hk : Kp (· = fb) w ((w.setCell ⟨fb, a * 2, none⟩ (.int .i64 x.kind)).setCell ⟨fb, a * 2 + 1, none⟩ (.int .i64 x.n)) :=
  ((Kp.refl (· = fb) w).setCell (p := ⟨fb, a * 2, none⟩) (fun _ => rfl) _).setCell (p := ⟨fb, a * 2 + 1, none⟩) (fun _ => rfl) _
 have hkp : Kp (PO own (· = (7, n))) w ((w.setCell ⟨fb, a * 2, none⟩ (.int .i64 x.kind)).setCell ⟨fb, a * 2 + 1, none⟩ (.int .i64 x.n)) := hk.weak fun b _ e => ⟨_, by rw [e]; exact hro, rfl⟩
 rw [hfv] at hrow
 have h2 := (hrow.stored (a * 2) (.int .i64 x.kind)).1.stored (a * 2 + 1) (.int .i64 x.n)
 rw [flat_setv] at h2
 have ha := Agr.refl w.heap.size own
 have hG : M.Good p (g.fld n go a x).st := by
  rw [Gh.fld_st hgo]
  exact h.good.set (by simpa [Gh.st] using hx)
 refine ⟨hkp.weak fun b _ e => e.mo, h.lodPO hkp, h.hB, h.blk.kp hk (fun e => ?_), h.role, h.low, h.calls.kpo hkp ha (by simp), fun i c hc => (h.call i c hc).kpo hkp ha (by simp) h.lowPO, ?_, ?_, h.outs.kpo hkp ha (by simp), h.domE hk.size, hG⟩
 · have := h.role; rw [e, hro] at this; cases this
 · have := h.heap.kpo hkp ha (by simp)
   unfold Gh.fld
   simp only [List.length_set]
   rw [set_flat (enc := objCs) g.os n go ⟨{ go.o with fields := go.o.fields.set a x }, go.v⟩ hgo rfl]
   exact this
 · intro j q hq
   unfold Gh.fld at hq
   simp only [List.getElem?_set] at hq
   split at hq
   · rename_i e
     subst e
     split at hq
     · cases hq
       refine ⟨?_, fun b hb => (h.obj n go hgo).role b hb⟩
       show World.ownsRow _ B _ 2 go.v (go.o.fields.set a x).length _
       rw [List.length_set, hfv]
       exact h2.1
     · cases hq
   · rename_i e
     exact (h.obj j q hq).kpo hkp ha (by simp; omega)
theorem do_set (w : World) (l : Lodge) (p : M.Plan) (own : Own) (B mb : Nat) (lk : Bool) (g : Gh) (h : MachAt w l p own B mb lk g) (r : List GC) (c : GC) (hcs : g.cs = r ++ [c]) (hst : g.status = 1) (i : M.Ins) (hi : M.insIn (M.method p c.f.of) i = true) (hop : i.op = 8) :
    Calls Tryz.prog 57 #[.pointer (some ⟨mb, 0, none⟩), .agg #[.int .i64 i.op, .int .i64 i.a, .string i.name, .string i.member]] w (MEnd w l p own B mb lk (.int .i64 (M.doIns p lk i g.st).1) (M.doIns p lk i g.st).2) := by
 have HI := hid (M.ins_a hi)
 obtain ⟨w0, hw0⟩ : ∃ w0, w0 = w.alloc (.cells #[.int .i64 i.op, .int .i64 i.a, .string i.name, .string i.member] 28) := ⟨_, rfl⟩
 have hE0 : Ext w w0 := by rw [hw0]; exact (KX.k (by repeat (first | assumption | constructor)))
 have b3 : Blk w0 w.heap.size 28 #[.int .i64 i.op, .int .i64 i.a, .string i.name, .string i.member] := by rw [hw0]; exact Blk.new _ _ _
 have HNO := hid (h.fresh (Nat.le_refl _))
 have HFRE : Hid (∀ b, w.heap.size ≤ b → ¬ MO l own b) := hid (fun b hb => h.fresh hb)
 have hLw0 := h.lod.lt
 have hDL := h.lod.ord.2.2
 have HA0 := hid (h.ext hE0)
 have HE0 := hid hE0
 have HB3 := hid b3
 have HW0 := hid hw0
 have HCS := hid hcs
 have hwz := b3.lt
 clear h hE0 b3 hw0 hcs hi
 obtain ⟨⟨⟨⟨v0, v1⟩, v2, ⟨v3, v4⟩⟩, cd⟩, hF⟩ : ∃ F, M.get p c.f.of.of.keeper i.name i.member = F := ⟨_, rfl⟩
 have HV : Hid (M.doIns p lk i g.st = if cd = 1 then (match M.popAll 2 g.st with
     | some ([o, v], s1) => if M.hasType p v0 s1.heap v ⟨v3, v4⟩ then (if M.object p o ⟨v0, v1⟩ s1 = 1 then M.next p { s1 with heap := M.setField s1.heap o.n v2 v } else (M.object p o ⟨v0, v1⟩ s1, s1)) else (10, s1)
     | _ => (10, g.st)) else (4, g.st)) := hid (by
  unfold M.doIns; rw [hop]; simp only [Gh.top HCS.out, hF]; rfl)
 have HF := hid hF
 have HOP := hid hop
 clear hop
 go_enter Tryz.func57, Tryz.ntmps57
 go_wp2_with fail
 rw [← HW0.out]
 refine (mach_top _ _ _ _ _ _ _ _ HA0.out r c HCS.out).mono ?_
 rintro e w1 ⟨rfl, hE1⟩
 have HA := hid (HA0.out.ext hE1)
 have HE1 : Hid (Ext w w1) := hid (HE0.out.trans hE1)
 have HB31 := hid (HB3.out.ext hE1)
 have hLw : l.L < w1.heap.size := HA.out.lod.lt
 have hDw : l.D < w1.heap.size := by omega
 have hwz1 : w.heap.size < w1.heap.size := HB31.out.lt
 have hget : ∀ W, LC l p w1 W → Calls Tryz.prog 87 #[.pointer (some ⟨l.L, 0, none⟩), .int .i64 c.f.of.of.keeper, .string i.name, .string i.member] W fun e w' => ∃ ev, e = .returned (.tuple #[.agg #[.int .i64 v0, .string v1, .int .i64 v2, .int .i64 v3, .string v4], ev]) ∧ ErrV' ev cd ∧ Kp (· = l.D) W w' ∧ LC l p w1 w' := fun W hW => by
  have hl := lodge_get W l p hW.at_ c.f.of.of.keeper i.name i.member
  rw [HF.out] at hl
  refine hl.mono ?_
  rintro e w' ⟨⟨ev, rfl, hev⟩, hL, hK⟩
  exact ⟨ev, rfl, hev.weak, hK, hW.step hL hK⟩
 have HGET := hid hget
 have HC : Hid (LC l p w1 w1.drew) := hid (LC.refl HA.out.lod).drew
 obtain ⟨T, f, hneT, HT⟩ := Cls.ex (fun W' => LC l p w1 W') w1 (LC.refl HA.out.lod)
 have rm0 := fun z => (HA.out.lod' (HT.inn z).kp (HT.inn z).at_).blk.c 0 (.pointer (some ⟨l.L, 0, none⟩)) rfl
 have r32 := fun z => (HB31.out.kp (HT.inn z).kp (by omega)).c 2 (.string i.name) rfl
 have r33 := fun z => (HB31.out.kp (HT.inn z).kp (by omega)).c 3 (.string i.member) rfl
 have HTH := hid HT
 clear HT hget hE1
 go_wp2_with fail
 rename_i K hK
 have tail : ∀ (b6 : Nat) (w7 : World) (ev : Value), LC l p w1 w7 → Blk w7 b6 159 #[.int .i64 v0, .string v1, .int .i64 v2, .int .i64 v3, .string v4] → w1.heap.size ≤ b6 → ErrV' ev cd → K { tmps := #[.pointer (some ⟨mb, 0, none⟩), .agg #[.int .i64 i.op, .int .i64 i.a, .string i.name, .string i.member], undef, .pointer (some ⟨w.heap.size, 0, none⟩), .int .i64 0, .pointer (some ⟨c.cb, 0, none⟩), .pointer (some ⟨b6, 0, none⟩), ev, undef, undef, undef, .pointer (some ⟨mb, 0, none⟩), .pointer (some ⟨c.cb, 0, none⟩), .tuple #[.agg #[.int .i64 v0, .string v1, .int .i64 v2, .int .i64 v3, .string v4], ev], .pointer (some ⟨mb, 0, none⟩), .pointer (some ⟨mb, 0, none⟩), .pointer (some ⟨mb, 0, none⟩), .pointer (some ⟨l.L, 0, none⟩), .pointer (some ⟨c.cb, 0, none⟩), .int .i64 c.f.of.of.keeper, .pointer (some ⟨w.heap.size, 2, none⟩), .string i.name, .pointer (some ⟨w.heap.size, 3, none⟩), .string i.member, .tuple #[.agg #[.int .i64 v0, .string v1, .int .i64 v2, .int .i64 v3, .string v4], ev], .agg #[.int .i64 v0, .string v1, .int .i64 v2, .int .i64 v3, .string v4], ev, undef, undef, undef, undef, undef, undef, undef, undef, undef, undef, undef, undef, undef, undef, undef, undef, undef, undef, undef, undef, undef, undef, undef, undef, undef, undef, undef, undef, undef, undef, undef, undef, undef, undef, undef, undef, undef, undef, undef, undef, undef, undef, undef, undef, undef, undef, undef, undef, undef, undef, undef, undef, undef, undef, undef, undef, undef, undef, undef, undef], defers := [] } w7 := by
  intro b6 w7 ev hC hB6 hb6 hev
  refine hK _ _ ?_
  clear hK HTH rm0 r32 r33 HC HGET
  have HM7 := hid (HA.out.lod' hC.kp hC.at_)
  have HK7 : Hid (Kp (MO l own) w w7) := hid (HE1.out.any.trans hC.mo)
  have HB6 := hid hB6
  have HB37 := hid (HB31.out.kp hC.kp (by omega))
  have HN6 := hid (HFRE.out b6 (by omega))
  clear hC hB6
  rcases hev with ⟨rfl, rfl⟩ | ⟨hc, eb, rfl⟩
  rotate_left
  · replace HV : Hid (M.doIns p lk i g.st = (4, g.st)) := hid (by rw [HV.out, if_neg hc])
    clear hc
    go_wp2_with fail
    go_ret
    rw [HV.out]
    exact MEnd.mk' HK7.out (Agr.refl _ _) HM7.out rfl
  replace HV : Hid (M.doIns p lk i g.st = (match M.popAll 2 g.st with
   | some ([o, v], s1) => if M.hasType p v0 s1.heap v ⟨v3, v4⟩ then (if M.object p o ⟨v0, v1⟩ s1 = 1 then M.next p { s1 with heap := M.setField s1.heap o.n v2 v } else (M.object p o ⟨v0, v1⟩ s1, s1)) else (10, s1)
   | _ => (10, g.st))) := hid HV.out
  by_cases hlen : c.f.stack.length < 2
  · replace HV : Hid (M.doIns p lk i g.st = (10, g.st)) := hid (by rw [HV.out, Gh.popAll_no HCS.out hlen])
    obtain ⟨T, f, hneT, HT⟩ := Cls.ex (fun W' => Ext w7 W') _ (Kp.refl _ _)
    have HTH := hid HT
    clear HT
    go_wp2_with fail
    refine (mach_popAll_no _ _ _ _ _ _ _ _ HM7.out r c HCS.out 2 hlen (by omega)).mono ?_
    rintro e w8 ⟨rfl, rfl⟩
    go_wp2_with fail
    (refine region_mix f 22 [([0, 1, 2, 3, 4, 5, 6, 7, 8, 9, 10, 11, 12, 13, 14, 15, 16, 17, 18], 19)] [20, 21] (HTH.out.out _ ?_) (by kernel_rfl) (by kernel_rfl) (fun _ _ d _ _ h => by cases d <;> exact h) ?_)
    · exact (Kp.refl _ _).drew
    (refine wpMix_cons rfl rfl fun K hK => ?_); (change wpQuiet _ _ _ _ [_, _, _, _, _, _, _, _, _, _, _, _, _, _, _, _, _, _, _] _); (repeat (go_big_quiet_step (fail))); (refine wpQuiet_nil ?_); (refine hK _ fun K2 hK2 => ?_); clear hK K; (change wpList _ _ _ [_] _ _)
    go_wp2_with fail
    (refine hK2 _ _ (HTH.out.out _ ((Kp.refl _ w7).drew : Ext w7 _)) ?_); clear hK2 K2
    (refine wpMix_nil rfl fun K hK => ?_); (change wpQuiet _ _ _ _ [_, _] _); (repeat (go_big_quiet_step (fail))); (refine wpQuiet_nil ?_); (refine hK _ ?_); clear hK K; (simp only [List.drop_succ_cons, List.drop_zero, List.drop_nil, wpList])
    go_wp2_with fail
    go_ret
    rw [HV.out]
    exact MEnd.mk' (HK7.out.trans ((Kp.refl _ w7).drew : Ext w7 _).any) (Agr.refl _ _) (HM7.out.ext ((Kp.refl _ _).drew)) rfl
  · obtain ⟨st, oo, vv, hs⟩ : ∃ st a b, c.f.stack = st ++ [a, b] := by
     rcases List.eq_nil_or_concat c.f.stack with e | ⟨s1, b, e⟩
     · rw [e] at hlen; simp at hlen
     · rw [List.concat_eq_append] at e
       rcases List.eq_nil_or_concat s1 with e2 | ⟨s2, a, e2⟩
       · rw [e, e2] at hlen; simp at hlen
       · rw [List.concat_eq_append] at e2
         exact ⟨s2, a, b, by rw [e, e2]; simp⟩
    have hvk := (M.frameOk_iff.1 (HM7.out.frm HCS.out)).2.2.2.2.2.2
    have HOK : Hid (M.valOk oo g.os.length = true) := hid (by simpa [Gh.st] using hvk oo (by rw [hs]; simp))
    have HVK : Hid (M.valOk vv g.os.length = true) := hid (by simpa [Gh.st] using hvk vv (by rw [hs]; simp))
    have HV2 : Hid (∀ vs', M.doIns p lk i g.st = if M.hasType p v0 g.st.heap vv ⟨v3, v4⟩ then (if M.object p oo ⟨v0, v1⟩ (g.stk r c st vs').st = 1 then M.next p { (g.stk r c st vs').st with heap := M.setField g.st.heap oo.n v2 vv } else (M.object p oo ⟨v0, v1⟩ (g.stk r c st vs').st, (g.stk r c st vs').st)) else (10, (g.stk r c st vs').st)) := hid (fun vs' => by rw [HV.out, Gh.popAll HCS.out (n := 2) hs rfl vs']; rfl)
    have HS := hid hs
    clear hs hvk hlen HV
    obtain ⟨ok, on⟩ := oo
    obtain ⟨vk, vn⟩ := vv
    go_wp2_with fail
    refine (mach_popAll _ _ _ _ _ _ _ _ HM7.out r c HCS.out st [⟨ok, on⟩, ⟨vk, vn⟩] 2 HS.out rfl (by omega)).mono ?_
    rintro e w8 ⟨v', rfl, hrow, hK8, vs', hM8⟩
    have HV := hid (HV2.out vs')
    obtain ⟨gt, gc, rfl, hgb, -⟩ := owns_form hrow (by omega)
    have hc0 := owns_at (enc := valCs) (k := 2) (fun _ => rfl) (l := [⟨ok, on⟩, ⟨vk, vn⟩]) hrow (i := 0) (x := ⟨ok, on⟩) rfl
    have hc1 := owns_at (enc := valCs) (k := 2) (fun _ => rfl) (l := [⟨ok, on⟩, ⟨vk, vn⟩]) hrow (i := 1) (x := ⟨vk, vn⟩) rfl
    have hB68 := HB6.out.kp hK8 HN6.out
    have hhr := hM8.heapR
    obtain ⟨ha, hcap, hva⟩ := hM8.heap.form
    obtain ⟨T, f, hneT, HT⟩ := Cls.ex (fun W' => Ext w8 W') _ (Kp.refl _ _)
    have rm0 := fun z => (hM8.ext (HT.inn z)).blk.c 0 (.pointer (some ⟨l.L, 0, none⟩)) rfl
    have rm4 := fun z => (hM8.ext (HT.inn z)).blk.c 4 (.slice ha g.os.length hcap) (by rw [show (Value.slice ha g.os.length hcap) = g.vh from hva.symm]; rfl)
    have r60 := fun z => (hB68.ext (HT.inn z)).c 0 (.int .i64 v0) rfl
    have r63 := fun z => (hB68.ext (HT.inn z)).c 3 (.int .i64 v3) rfl
    have r64 := fun z => (hB68.ext (HT.inn z)).c 4 (.string v4) rfl
    have rg2 := fun z => (CellsAt.ext hc1 (HT.inn z)).two.1
    have rg3 := fun z => (CellsAt.ext hc1 (HT.inn z)).two.2
    simp only [Nat.one_mul] at rg2 rg3
    have hht := fun W (hW : Ext w8 W) => lodge_hasType W l p (hM8.lod.ext hW) v0 (.slice ha g.os.length hcap) g.st.heap (by
     have := hhr.ext hW
     rw [show (Value.slice ha g.os.length hcap) = g.vh from hva.symm]; exact this) ⟨vk, vn⟩ (fun e => by have := M.valOk_ref HVK.out e; simpa [Gh.st] using this) ⟨v3, v4⟩
    have HHT := hid hht
    have HTH := hid HT
    have HM8 := hid hM8
    have HK8 : Hid (Kp (MO l own) w w8) := hid (HK7.out.trans hK8)
    have HB68 := hid hB68
    have HC0 := hid hc0
    have HC1 := hid hc1
    have HVA := hid hva
    clear HT hht hhr hva hrow hK8 hM8 hc0 hc1 hB68 HV2
    go_wp2_with fail
    (refine region_mix f 22 [([0, 1, 2, 3, 4, 5, 6, 7, 8, 9, 10, 11, 12, 13, 14, 15, 16, 17, 18], 19)] [20, 21] (HTH.out.out _ ?_) (by kernel_rfl) (by kernel_rfl) (fun _ _ d _ _ h => by cases d <;> exact h) ?_)
    · exact (Kp.refl _ _).drew
    (refine wpMix_cons rfl rfl fun K hK => ?_); (change wpQuiet _ _ _ _ [_, _, _, _, _, _, _, _, _, _, _, _, _, _, _, _, _, _, _] _); (repeat (go_big_quiet_step (fail))); (refine wpQuiet_nil ?_); (refine hK _ fun K2 hK2 => ?_); clear hK K; (change wpList _ _ _ [_] _ _)
    go_wp2_with fail
    refine (HHT.out _ (Kp.refl _ _).drew).mono ?_
    rintro e w9 ⟨rfl, hE9⟩
    have HE9 : Hid (Ext w8 w9) := hid (((Kp.refl _ w8).drew : Ext w8 _).trans hE9)
    clear hE9
    cases hty : M.hasType p v0 g.st.heap ⟨vk, vn⟩ ⟨v3, v4⟩
    · rw [hty] at HV
      replace HV : Hid (M.doIns p lk i g.st = (10, (g.stk r c st vs').st)) := hid HV.out
      clear hty
      go_wp2_with fail
      (refine hK2 _ _ (HTH.out.out _ HE9.out) ?_); clear hK2 K2
      (refine wpMix_nil rfl fun K hK => ?_); (change wpQuiet _ _ _ _ [_, _] _); (repeat (go_big_quiet_step (fail))); (refine wpQuiet_nil ?_); (refine hK _ ?_); clear hK K; (simp only [List.drop_succ_cons, List.drop_zero, List.drop_nil, wpList])
      go_wp2_with fail
      go_ret
      rw [HV.out]
      exact MEnd.mk' (HK8.out.trans HE9.out.any) (Agr.refl _ _) (HM8.out.ext HE9.out) rfl
    · rw [hty] at HV
      replace HV : Hid (M.doIns p lk i g.st = if M.object p ⟨ok, on⟩ ⟨v0, v1⟩ (g.stk r c st vs').st = 1 then M.next p { (g.stk r c st vs').st with heap := M.setField g.st.heap on v2 ⟨vk, vn⟩ } else (M.object p ⟨ok, on⟩ ⟨v0, v1⟩ (g.stk r c st vs').st, (g.stk r c st vs').st)) := hid HV.out
      clear hty
      go_wp2_with fail
      (refine hK2 _ _ (HTH.out.out _ HE9.out) ?_); clear hK2 K2
      clear HTH rm0 rm4 r60 r63 r64 rg2 rg3
      (refine wpMix_nil rfl fun K hK => ?_); (change wpQuiet _ _ _ _ [_, _] _); (repeat (go_big_quiet_step (fail))); (refine wpQuiet_nil ?_); (refine hK _ ?_); clear hK K; (simp only [List.drop_succ_cons, List.drop_zero, List.drop_nil, wpList])
      have hM9 := HM8.out.ext HE9.out
      obtain ⟨T, f, hneT, HT⟩ := Cls.ex (fun W' => Ext w9 W') _ (Kp.refl _ _)
      have r60 := fun z => ((HB68.out.ext HE9.out).ext (HT.inn z)).c 0 (.int .i64 v0) rfl
      have r61 := fun z => ((HB68.out.ext HE9.out).ext (HT.inn z)).c 1 (.string v1) rfl
      have rg0 := fun z => (CellsAt.ext (CellsAt.ext HC0.out HE9.out) (HT.inn z)).two.1
      have rg1 := fun z => (CellsAt.ext (CellsAt.ext HC0.out HE9.out) (HT.inn z)).two.2
      simp only [Nat.zero_mul, Nat.zero_add] at rg0 rg1
      have HTH := hid HT
      have HM9 := hid hM9
      clear HT hM9
      go_wp2_with fail
      (refine region_mix f 7 [([0, 1, 2, 3, 4, 5], 6)] [] (HTH.out.out _ ?_) (by kernel_rfl) (by kernel_rfl) (fun _ _ d _ _ h => by cases d <;> exact h) ?_)
      · exact (Kp.refl _ _).drew
      (refine wpMix_cons rfl rfl fun K hK => ?_); (change wpQuiet _ _ _ _ [_, _, _, _, _, _] _); (repeat (go_big_quiet_step (fail))); (refine wpQuiet_nil ?_); (refine hK _ fun K2 hK2 => ?_); clear hK K; (change wpList _ _ _ [_] _ _)
      go_wp2_with fail
      refine (mach_object _ _ _ _ _ _ _ _ (HM9.out.ext (Kp.refl _ _).drew) ⟨ok, on⟩ HOK.out ⟨v0, v1⟩).mono ?_
      rintro e w10 ⟨rfl, hE10⟩
      have HE10 : Hid (Ext w9 w10) := hid (((Kp.refl _ w9).drew : Ext w9 _).trans hE10)
      have HM10 := hid (HM9.out.ext HE10.out)
      have HK10 : Hid (Kp (MO l own) w w10) := hid ((HK8.out.trans HE9.out.any).trans HE10.out.any)
      clear hE10
      obtain ⟨ob, hob⟩ : ∃ ob, M.object p ⟨ok, on⟩ ⟨v0, v1⟩ (g.stk r c st vs').st = ob := ⟨_, rfl⟩
      by_cases ho1 : ob = 1
      · subst ho1
        replace HV : Hid (M.doIns p lk i g.st = M.next p { (g.stk r c st vs').st with heap := M.setField g.st.heap on v2 ⟨vk, vn⟩ }) := hid (by rw [HV.out, if_pos hob])
        have hfp := M.field_place (p := p) HM10.out.good (k := c.f.of.of.keeper) (n := i.name) (m := i.member) (by rw [HF.out]) (v := ⟨ok, on⟩) (by simpa [Gh.st, Gh.stk] using HOK.out) (by rw [HF.out]; exact hob)
        rw [HF.out] at hfp
        simp only at hfp
        obtain ⟨hn0, hn1, ha0, o, ho, -, hfo, hao⟩ := hfp
        obtain ⟨n, rfl⟩ : ∃ n : Nat, on = n := ⟨on.toNat, by omega⟩
        obtain ⟨a, rfl⟩ : ∃ a : Nat, v2 = a := ⟨v2.toNat, by omega⟩
        simp only [Int.toNat_natCast] at ho hao
        simp only [Gh.st, Gh.stk, List.getElem?_map, Option.map_eq_some_iff] at ho
        obtain ⟨go, hgo, rfl⟩ := ho
        obtain ⟨u, hu⟩ := elemF go.o.fields a hao
        have hnl : n < g.os.length := (List.getElem?_eq_some_iff.1 hgo).1
        have hrow := HM10.out.heap.row
        rw [show (g.stk r c st vs').vh = .slice ha g.os.length hcap from HVA.out] at hrow
        obtain ⟨hb, hbc, eb, -⟩ := owns_form hrow (by show 0 < g.os.length; omega)
        cases eb
        have hcc := owns_at (enc := objCs) (k := 3) (fun _ => rfl) hrow (l := g.os) hgo
        have hfr := (HM10.out.obj n go hgo).row
        obtain ⟨fb, fc, hfv, -⟩ := owns_form hfr (by omega)
        obtain ⟨cur, hcur⟩ := owns_blk hfr (g := fb) (by rw [hfv]; rfl)
        rw [hfv] at hfr
        have hfc := owns_at (enc := valCs) (k := 2) (fun _ => rfl) hfr hu
        have e1 := hcc.three.2.2
        rw [hfv] at e1
        have HSF := hid ((HM10.out.ext ((Kp.refl _ w10).drew : Ext w10 w10.drew)).setFld (n := n) (go := go) hgo hfv a ⟨vk, vn⟩ HVK.out)
        have HST : Hid (((g.stk r c st vs').fld n go a ⟨vk, vn⟩).st = { (g.stk r c st vs').st with heap := M.setField g.st.heap n a ⟨vk, vn⟩ }) := hid (Gh.fld_st (g := g.stk r c st vs') hgo a ⟨vk, vn⟩)
        obtain ⟨T2, f2, hneT2, HT2⟩ := Cls.ex (fun W' => Ext w10 W') _ (Kp.refl _ _)
        have s4 := fun z => (HM10.out.ext (HT2.inn z)).blk.c 4 (.slice (some ⟨hb, 0, none⟩) g.os.length hcap) (by rw [show (Value.slice (some ⟨hb, 0, none⟩) g.os.length hcap) = g.vh from HVA.out.symm]; rfl)
        have s0 := fun z => (CellsAt.ext (CellsAt.ext (CellsAt.ext HC0.out HE9.out) HE10.out) (HT2.inn z)).two.2
        have s2 := fun z => (CellsAt.ext (CellsAt.ext (CellsAt.ext HC1.out HE9.out) HE10.out) (HT2.inn z)).two.1
        have s3 := fun z => (CellsAt.ext (CellsAt.ext (CellsAt.ext HC1.out HE9.out) HE10.out) (HT2.inn z)).two.2
        simp only [Nat.zero_mul, Nat.zero_add, Nat.one_mul] at s0 s2 s3
        have sh := fun z => (HT2.inn z).cellE e1
        have s62 := fun z => (((HB68.out.ext HE9.out).ext HE10.out).ext (HT2.inn z)).c 2 (.int .i64 a) rfl
        have x0 := hfc.two.1
        have x1 := hfc.two.2
        have g0 := hcur.frozen (a * 2)
        have g1 := hcur.frozen (a * 2 + 1)
        have gz := hcur.lt
        have HTH2 := hid HT2
        have hnl' : (n : Int) < g.os.length := by omega
        have hal : (a : Int) < go.o.fields.length := by omega
        clear HT2 hrow hcc hfr hfc e1 hgo hu hfo hfv hcur hnl hao ha0
        rw [hob]
        clear hob
        go_wp2_with fail
        (refine hK2 _ _ (HTH.out.out _ HE10.out) ?_); clear hK2 K2
        clear HTH r60 r61 rg0 rg1
        (refine wpMix_nil rfl fun K hK => ?_); (change wpQuiet _ _ _ _ [] _); (refine wpQuiet_nil ?_); (refine hK _ ?_); clear hK K
        go_wp2_with fail
        (refine region_mix f2 16 [] [0, 1, 2, 3, 4, 5, 6, 7, 8, 9, 10, 11, 12, 13, 14, 15] (HTH2.out.out _ ?_) (by kernel_rfl) (by kernel_rfl) (fun _ _ d _ _ h => by cases d <;> exact h) ?_)
        · exact (Kp.refl _ _).drew
        (refine wpMix_nil rfl fun K hK => ?_); (change wpQuiet _ _ _ _ [_, _, _, _, _, _, _, _, _, _, _, _, _, _, _, _] _); (repeat (go_big_quiet_step (fail))); (refine wpQuiet_nil ?_); (refine hK _ ?_); clear hK K
        clear HTH2 s4 s0 s2 s3 sh s62
        go_wp2_with fail
        obtain ⟨hKS, hMS⟩ := HSF.out
        refine (mach_next _ _ _ _ _ _ _ _ hMS r _ rfl hst).mono ?_
        rintro e w11 hEnd
        have HZ := hid (MEnd.after ((HK10.out.trans ((Kp.refl _ w10).drew : Ext w10 _).any).trans hKS) (Agr.refl _ _) hEnd)
        obtain ⟨rfl, -⟩ := hEnd
        rw [HST.out, ← HV.out] at HZ
        rw [HST.out, ← HV.out]
        clear hKS hMS x0 x1 g0 g1 gz
        go_wp2_with fail
        go_ret
        exact HZ.out
      · replace HV : Hid (M.doIns p lk i g.st = (ob, (g.stk r c st vs').st)) := hid (by rw [HV.out, hob, if_neg ho1])
        have ho1' : (ob != 1) = true := bne_iff_ne.2 ho1
        rw [hob]
        clear hob ho1
        go_wp2_with fail
        (refine hK2 _ _ (HTH.out.out _ HE10.out) ?_); clear hK2 K2
        clear HTH r60 r61 rg0 rg1
        (refine wpMix_nil rfl fun K hK => ?_); (change wpQuiet _ _ _ _ [] _); (refine wpQuiet_nil ?_); (refine hK _ ?_); clear hK K
        go_wp2_with fail
        go_ret
        rw [HV.out]
        exact MEnd.mk' HK10.out (Agr.refl _ _) HM10.out rfl
 have TAIL := hid tail
 clear tail hK
 (refine region_tree f 16 (.two [0, 1, 2, 3, 4, 6, 7, 8, 9] 5 14 (.two [] 10 14 (.one [11, 12, 13] 14 (.one [] 15 (.fin []))) (.one [] 10 (.one [11, 12, 13] 15 (.fin [])))) (.one [] 5 (.one [] 10 (.one [11, 12, 13] 15 (.fin []))))) (HTH.out.out _ ?_) (by kernel_rfl) (by kernel_rfl) (fun _ _ d _ _ h => by cases d <;> exact h) ?_)
 · exact HC.out
 (refine wpT_two rfl rfl rfl fun K hK => ?_); (change wpQuiet _ _ _ _ [_, _, _, _, _, _, _, _, _] _); (repeat (go_big_quiet_step (fail))); (refine wpQuiet_nil ?_); ((refine hK _ (fun K2 hK2 => ?_) (fun K2 hK2 => ?_)) <;> (clear hK K; (change wpList _ _ _ [_] _ _)))
 · go_wp2_with fail
   refine (call_keeper _ _ c.f.of.of.keeper (((HA.out.lod' HC.out.kp HC.out.at_).at_ HCS.out).blk.c 0 _ rfl)).mono ?_
   rintro e we ⟨rfl, rfl⟩
   go_wp2_with fail
   (refine hK2 _ _ (HTH.out.out _ HC.out) ?_); clear hK2 K2
   (refine wpT_two rfl rfl rfl fun K hK => ?_); (change wpQuiet _ _ _ _ [] _); (refine wpQuiet_nil ?_); ((refine hK _ (fun K2 hK2 => ?_) (fun K2 hK2 => ?_)) <;> (clear hK K; (change wpList _ _ _ [_] _ _)))
   · go_wp2_with fail
     refine (HGET.out _ HC.out).mono ?_
     rintro e wc ⟨ev, rfl, hev, hk, hc⟩
     replace HC := hid hc
     have HEV := hid hev
     clear hk hc hev
     go_wp2_with fail
     (refine hK2 _ _ (HTH.out.out _ HC.out) ?_); clear hK2 K2
     (refine wpT_one rfl rfl fun K hK => ?_); (change wpQuiet _ _ _ _ [_, _, _] _); (repeat (go_big_quiet_step (fail))); (refine wpQuiet_nil ?_); (refine hK _ fun K2 hK2 => ?_); clear hK K; (change wpList _ _ _ [_] _ _)
     go_wp2_with fail
     (refine hK2 _ _ (HTH.out.out _ (HC.out.ext ((Kp.refl _ _).alloc _))) ?_); clear hK2 K2
     (refine wpT_one rfl rfl fun K hK => ?_); (change wpQuiet _ _ _ _ [] _); (refine wpQuiet_nil ?_); (refine hK _ fun K2 hK2 => ?_); clear hK K; (change wpList _ _ _ [_] _ _)
     go_wp2_with fail
     (refine hK2 _ _ (HTH.out.out _ (HC.out.ext ((Kp.refl _ _).alloc _))) ?_); clear hK2 K2
     have hb6 := HC.out.kp.size
     have HB6 := hid (Blk.new (wc) 159 #[.int .i64 v0, .string v1, .int .i64 v2, .int .i64 v3, .string v4])
     replace HC := hid (HC.out.ext ((Kp.refl _ _).alloc (.cells #[.int .i64 v0, .string v1, .int .i64 v2, .int .i64 v3, .string v4] 159)))
     clear HTH rm0 r32 r33
     (refine wpT_fin rfl fun K hK => ?_); (change wpQuiet _ _ _ _ [] _); (refine wpQuiet_nil ?_); (refine hK _ ?_); clear hK K
     go_wp2_with fail
     exact TAIL.out _ _ _ HC.out HB6.out hb6 HEV.out
   · go_wp2_with fail
     (refine hK2 _ _ (HTH.out.out _ (HC.out.ext ((Kp.refl _ _).alloc _))) ?_); clear hK2 K2
     have hb6 : w1.heap.size ≤ w1.heap.size := HC.out.kp.size
     have HB6 : Hid (Blk (w1.drew.alloc (.cells #[.int .i64 0, .string ⟨#[]⟩, .int .i64 0, .int .i64 0, .string ⟨#[]⟩] 159)) w1.heap.size 159 #[.int .i64 0, .string ⟨#[]⟩, .int .i64 0, .int .i64 0, .string ⟨#[]⟩]) := hid (Blk.new _ _ _)
     replace HC := hid (HC.out.ext ((Kp.refl _ _).alloc (.cells #[.int .i64 0, .string ⟨#[]⟩, .int .i64 0, .int .i64 0, .string ⟨#[]⟩] 159)))
     (refine wpT_one rfl rfl fun K hK => ?_); (change wpQuiet _ _ _ _ [] _); (refine wpQuiet_nil ?_); (refine hK _ fun K2 hK2 => ?_); clear hK K; (change wpList _ _ _ [_] _ _)
     go_wp2_with fail
     refine (HGET.out _ HC.out).mono ?_
     rintro e wc ⟨ev, rfl, hev, hk, hc⟩
     replace HB6 := hid (HB6.out.kp hk (by omega))
     replace HC := hid hc
     have HEV := hid hev
     clear hk hc hev
     go_wp2_with fail
     (refine hK2 _ _ (HTH.out.out _ HC.out) ?_); clear hK2 K2
     (refine wpT_one rfl rfl fun K hK => ?_); (change wpQuiet _ _ _ _ [_, _, _] _); (repeat (go_big_quiet_step (fail))); (refine wpQuiet_nil ?_); (refine hK _ fun K2 hK2 => ?_); clear hK K; (change wpList _ _ _ [_] _ _)
     have y0 := HB6.out.c 0 (.int .i64 0) rfl
     have y1 := HB6.out.c 1 (.string ⟨#[]⟩) rfl
     have y2 := HB6.out.c 2 (.int .i64 0) rfl
     have y3 := HB6.out.c 3 (.int .i64 0) rfl
     have y4 := HB6.out.c 4 (.string ⟨#[]⟩) rfl
     have g0 := HB6.out.frozen 0
     have g1 := HB6.out.frozen 1
     have g2 := HB6.out.frozen 2
     have g3 := HB6.out.frozen 3
     have g4 := HB6.out.frozen 4
     have z6 := HB6.out.lt
     go_wp2_with fail
     replace HC := hid (LC.own HC.out (Kp.set5 (D := (· = _)) rfl (.int .i64 v0) (.string v1) (.int .i64 v2) (.int .i64 v3) (.string v4)) hb6 hLw)
     replace HB6 := hid (HB6.out.set5 (.int .i64 v0) (.string v1) (.int .i64 v2) (.int .i64 v3) (.string v4))
     (refine hK2 _ _ (HTH.out.out _ HC.out) ?_); clear hK2 K2
     clear y0 g0 y1 g1 y2 g2 y3 g3 y4 g4 z6
     clear HTH rm0 r32 r33
     (refine wpT_fin rfl fun K hK => ?_); (change wpQuiet _ _ _ _ [] _); (refine wpQuiet_nil ?_); (refine hK _ ?_); clear hK K
     go_wp2_with fail
     exact TAIL.out _ _ _ HC.out HB6.out hb6 HEV.out
 · go_wp2_with fail
   (refine hK2 _ _ (HTH.out.out _ (HC.out.ext ((Kp.refl _ _).alloc _))) ?_); clear hK2 K2
   have hb6 : w1.heap.size ≤ w1.heap.size := HC.out.kp.size
   have HB6 : Hid (Blk (w1.drew.alloc (.cells #[.int .i64 0, .string ⟨#[]⟩, .int .i64 0, .int .i64 0, .string ⟨#[]⟩] 159)) w1.heap.size 159 #[.int .i64 0, .string ⟨#[]⟩, .int .i64 0, .int .i64 0, .string ⟨#[]⟩]) := hid (Blk.new _ _ _)
   replace HC := hid (HC.out.ext ((Kp.refl _ _).alloc (.cells #[.int .i64 0, .string ⟨#[]⟩, .int .i64 0, .int .i64 0, .string ⟨#[]⟩] 159)))
   (refine wpT_one rfl rfl fun K hK => ?_); (change wpQuiet _ _ _ _ [] _); (refine wpQuiet_nil ?_); (refine hK _ fun K2 hK2 => ?_); clear hK K; (change wpList _ _ _ [_] _ _)
   go_wp2_with fail
   refine (call_keeper _ _ c.f.of.of.keeper (((HA.out.lod' HC.out.kp HC.out.at_).at_ HCS.out).blk.c 0 _ rfl)).mono ?_
   rintro e we ⟨rfl, rfl⟩
   go_wp2_with fail
   (refine hK2 _ _ (HTH.out.out _ HC.out) ?_); clear hK2 K2
   (refine wpT_one rfl rfl fun K hK => ?_); (change wpQuiet _ _ _ _ [] _); (refine wpQuiet_nil ?_); (refine hK _ fun K2 hK2 => ?_); clear hK K; (change wpList _ _ _ [_] _ _)
   go_wp2_with fail
   refine (HGET.out _ HC.out).mono ?_
   rintro e wc ⟨ev, rfl, hev, hk, hc⟩
   replace HB6 := hid (HB6.out.kp hk (by omega))
   replace HC := hid hc
   have HEV := hid hev
   clear hk hc hev
   go_wp2_with fail
   (refine hK2 _ _ (HTH.out.out _ HC.out) ?_); clear hK2 K2
   (refine wpT_one rfl rfl fun K hK => ?_); (change wpQuiet _ _ _ _ [_, _, _] _); (repeat (go_big_quiet_step (fail))); (refine wpQuiet_nil ?_); (refine hK _ fun K2 hK2 => ?_); clear hK K; (change wpList _ _ _ [_] _ _)
   have y0 := HB6.out.c 0 (.int .i64 0) rfl
   have y1 := HB6.out.c 1 (.string ⟨#[]⟩) rfl
   have y2 := HB6.out.c 2 (.int .i64 0) rfl
   have y3 := HB6.out.c 3 (.int .i64 0) rfl
   have y4 := HB6.out.c 4 (.string ⟨#[]⟩) rfl
   have g0 := HB6.out.frozen 0
   have g1 := HB6.out.frozen 1
   have g2 := HB6.out.frozen 2
   have g3 := HB6.out.frozen 3
   have g4 := HB6.out.frozen 4
   have z6 := HB6.out.lt
   go_wp2_with fail
   replace HC := hid (LC.own HC.out (Kp.set5 (D := (· = _)) rfl (.int .i64 v0) (.string v1) (.int .i64 v2) (.int .i64 v3) (.string v4)) hb6 hLw)
   replace HB6 := hid (HB6.out.set5 (.int .i64 v0) (.string v1) (.int .i64 v2) (.int .i64 v3) (.string v4))
   (refine hK2 _ _ (HTH.out.out _ HC.out) ?_); clear hK2 K2
   clear y0 g0 y1 g1 y2 g2 y3 g3 y4 g4 z6
   clear HTH rm0 r32 r33
   (refine wpT_fin rfl fun K hK => ?_); (change wpQuiet _ _ _ _ [] _); (refine wpQuiet_nil ?_); (refine hK _ ?_); clear hK K
   go_wp2_with fail
   exact TAIL.out _ _ _ HC.out HB6.out hb6 HEV.out
theorem lodge_right (w : World) (l : Lodge) (p : M.Plan) (h : LodgeAt w l p) (x : M.MRef) (hx : M.hasMethod p x = true) :
    Calls Tryz.prog 40 #[.pointer (some ⟨l.L, 0, none⟩), .agg #[.int .i64 x.of.keeper, .string x.of.name, .int .i64 x.at_]] w fun e w' =>
     e = .returned (.bool (M.right p x)) ∧ Kp (· = l.D) w w' ∧ LodgeAt w' l p := by
 have hE : Ext w (w.alloc (.cells #[.int .i64 x.of.keeper, .string x.of.name, .int .i64 x.at_] 97)) := (KX.k (by repeat (first | assumption | constructor)))
 have HL := hid (h.ext hE)
 have HE := hid hE
 clear h hE
 go_enter Tryz.func40, Tryz.ntmps40
 go_wp2_with fail
 refine (lodge_look _ _ _ HL.out x hx).mono ?_
 rintro e w1 ⟨hK, hL, v, vl, vs, rfl, hkn⟩
 obtain ⟨ks, hkc⟩ := hkn
 obtain ⟨va, vc, rfl⟩ := owns_val hkc.2.1
 have HF := hid (And.intro (HE.out.any.trans hK) hL)
 clear hK hL hkc
 by_cases hr : (M.look p x).2 = 0
 · have HR : Hid (M.right p x = true) := hid (by unfold M.right; rw [hr]; rfl)
   rw [hr]
   clear hr
   go_wp2_with fail
   go_ret
   exact ⟨ret_bool HR.out.symm, HF.out⟩
 · have HR : Hid (M.right p x = false) := hid (by unfold M.right; exact decide_eq_false hr)
   have hr' : ((M.look p x).2 == 0) = false := beq_eq_false_iff_ne.2 hr
   clear hr
   go_wp2_with fail
   go_ret
   exact ⟨ret_bool HR.out.symm, HF.out⟩
theorem all_range_step {f : Nat → Bool} {n : Nat} : (List.range (n + 1)).all f = ((List.range n).all f && f n) := by
 rw [List.range_succ, List.all_append]; simp
theorem lodge_lookClass (w : World) (l : Lodge) (p : M.Plan) (h : LodgeAt w l p) (r : M.Ref) :
    Calls Tryz.prog 25 #[.pointer (some ⟨l.L, 0, none⟩), .agg #[.int .i64 r.keeper, .string r.name]] w fun e w' =>
     e = .returned (.bool (M.lookClass p r)) ∧ Kp (· = l.D) w w' ∧ LodgeAt w' l p := by
 obtain ⟨rk, rn⟩ := r
 obtain ⟨w0, hw0⟩ : ∃ w0, w0 = w.alloc (.cells #[.int .i64 rk, .string rn] 76) := ⟨_, rfl⟩
 have hE0 : Ext w w0 := by rw [hw0]; exact (KX.k (by repeat (first | assumption | constructor)))
 have b3 : Blk w0 w.heap.size 76 #[.int .i64 rk, .string rn] := by rw [hw0]; exact Blk.new _ _ _
 have hDw := h.dlt
 have HL := hid (h.ext hE0)
 have HE0 := hid hE0
 have HB3 := hid b3
 have HW0 := hid hw0
 clear h hE0 b3 hw0
 go_enter Tryz.func25, Tryz.ntmps25
 go_wp2_with fail
 rw [← HW0.out]
 refine (lodge_canLay _ _ _ HL.out ⟨rk, rn⟩).mono ?_
 rintro e w1 ⟨rfl, hL1, hK1⟩
 have hB1 := HB3.out.kp hK1 (by omega)
 have HB1 := hid hB1
 have HL1 := hid hL1
 have HK1 : Hid (Kp (· = l.D) w w1) := hid (HE0.out.any.trans hK1)
 have y0 := hB1.c 0 (.int .i64 rk) rfl
 have y1 := hB1.c 1 (.string rn) rfl
 have yz := hB1.lt
 clear hB1 hL1 hK1
 cases hc : M.canLay p ⟨rk, rn⟩
 · have HR : Hid (M.lookClass p ⟨rk, rn⟩ = false) := hid (by unfold M.lookClass; rw [hc]; rfl)
   clear hc
   go_wp2_with fail
   go_ret
   exact ⟨ret_bool HR.out.symm, HK1.out, HL1.out⟩
 obtain ⟨c, hcls⟩ := M.chain_owned (M.canLay_chain hc).2
 have hcc : M.cls p ⟨rk, rn⟩ = c := by unfold M.cls; rw [hcls]; rfl
 have HR : Hid (M.lookClass p ⟨rk, rn⟩ = (List.range c.methods.length).all fun i => M.right p ⟨⟨rk, rn⟩, i⟩) := hid (by unfold M.lookClass; rw [hc, hcc]; rfl)
 have HHM : Hid (∀ q : Nat, q < c.methods.length → M.hasMethod p ⟨⟨rk, rn⟩, q⟩ = true) := hid (fun q hq => by unfold M.hasMethod; rw [hc, hcc]; simp; omega)
 have HCLS := hid hcls
 clear hc hcc hcls
 go_wp2_with fail
 refine (lodge_class _ _ _ HL1.out rk rn c HCLS.out).mono ?_
 rintro e w2 ⟨⟨cs, hcl, rfl⟩, hE2⟩
 obtain ⟨fa, fc, ma, mc, rfl⟩ := hcl.form
 have hm4 : c.methods.length ≤ 4294967296 := by
  obtain ⟨_, _, he, _, hs⟩ := hcl
  obtain ⟨_, _, _, _, h4⟩ := hs.form
  exact h4
 have hfl : ∀ W, (Instr.field 50 (.agg #[.string c.name, .string c.super, .slice fa c.fields.length fc, .slice ma c.methods.length mc]) 3).run Tryz.prog W = .ok (.slice ma c.methods.length mc) W := (fun W => by kernel_rfl)
 have HB2 := hid (HB1.out.ext hE2)
 have HL2 := hid (HL1.out.ext hE2)
 have HK2 : Hid (Kp (· = l.D) w w2) := hid (HK1.out.trans hE2.any)
 clear hE2 hcl y0 y1 yz
 go_wp2_with fail
 go_loopw [15] (fun i wr => ∃ q : Nat, q ≤ c.methods.length ∧ i = .int .i64 q ∧ Blk wr w.heap.size 76 #[.int .i64 rk, .string rn] ∧ LodgeAt wr l p ∧ Kp (· = l.D) w wr ∧ Hid (((List.range q).all fun i => M.right p ⟨⟨rk, rn⟩, i⟩) = true)) (fun i _ => c.methods.length - (intOf i).toNat)
 case atStart => exact ⟨0, Nat.zero_le _, rfl, HB2.out, HL2.out, HK2.out, hid rfl⟩
 case round =>
  obtain ⟨q, hq, rfl, hB, hL, hK, HQ⟩ := hrel
  by_cases hlt : q < c.methods.length
  · have y0 := hB.c 0 (.int .i64 rk) rfl
    have y1 := hB.c 1 (.string rn) rfl
    have yz := hB.lt
    have HB := hid hB
    have HLr := hid hL
    have HKr := hid hK
    have hq2 : (q : Int) < c.methods.length := by omega
    have hwq : IntKind.i64.wrap ((q : Int) + 1) = q + 1 := IntWalk.i64_in _ (by omega)
    clear hB hL hK
    go_wp2_with fail
    refine (lodge_right _ _ _ HLr.out ⟨⟨rk, rn⟩, q⟩ (HHM.out q hlt)).mono ?_
    rintro e w3 ⟨rfl, hK3, hL3⟩
    have HF := hid (And.intro (HB.out.kp hK3 (by omega)) (And.intro hL3 (HKr.out.trans hK3)))
    clear hK3 hL3
    cases hr : M.right p ⟨⟨rk, rn⟩, q⟩
    · have HR2 : Hid (M.lookClass p ⟨rk, rn⟩ = false) := hid (by
       rw [HR.out, List.all_eq_false]
       exact ⟨q, List.mem_range.2 hlt, by rw [hr]; simp⟩)
      clear hr
      go_wp2_with fail
      go_ret
      exact ⟨ret_bool HR2.out.symm, HF.out.2.2, HF.out.2.1⟩
    · have HQ2 : Hid (((List.range (q + 1)).all fun i => M.right p ⟨⟨rk, rn⟩, i⟩) = true) := hid (by rw [all_range_step, HQ.out, hr]; rfl)
      clear hr
      go_wp2_with fail
      exact ⟨⟨q + 1, by omega, by simp, HF.out.1, HF.out.2.1, HF.out.2.2, HQ2⟩, by simp [intOf]; omega⟩
  · have HR2 : Hid (M.lookClass p ⟨rk, rn⟩ = true) := hid (by
     have e : q = c.methods.length := by omega
     rw [HR.out, ← e]; exact HQ.out)
    have HF := hid (And.intro hK hL)
    clear hB hL hK
    go_wp2_with fail
    go_ret
    exact ⟨ret_bool HR2.out.symm, HF.out⟩
end Go.Proofs.YtjdfceejkneofaaGreat
