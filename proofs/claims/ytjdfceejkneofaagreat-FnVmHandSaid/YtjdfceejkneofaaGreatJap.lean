/- Walks: the machine's instructions nil, cast, new (printed by gen_m10.py).; Walks: the machine's instructions new, put, add (printed by gen_m11.py).; Walks: the machine's instructions take, add (printed by gen_m12.py).; Walks: the machine's instruction ret (printed by gen_m13.py). -/
import Derived.Test.YtjdfceejkneofaaGreatJao
set_option maxRecDepth 100000
set_option maxHeartbeats 4000000
set_option linter.unusedSimpArgs false
set_option linter.unusedVariables false
namespace Go.Proofs.YtjdfceejkneofaaGreat
open Go Go.RowKit
open Go.Lib (hid)
theorem Gh.split {g : Gh} {r : List M.Fr} {f : M.Fr} (h : g.st.frames = r ++ [f]) : ∃ r' c', g.cs = r' ++ [c'] ∧ c'.f = f := by
 rcases List.eq_nil_or_concat g.cs with e | ⟨r', c', e⟩
 · unfold Gh.st at h; rw [e] at h; simp at h
 · rw [List.concat_eq_append] at e
   refine ⟨r', c', e, ?_⟩
   unfold Gh.st at h
   rw [e] at h
   simp only [List.map_append, List.map_cons, List.map_nil] at h
   have := List.append_inj_right' h rfl
   simpa using this
theorem LC.mo {l : Lodge} {p : M.Plan} {own : Own} {w W : World} (h : LC l p w W) : Kp (MO l own) w W := h.kp.weak fun b _ e => .inl e
theorem do_isnil (w : World) (l : Lodge) (p : M.Plan) (own : Own) (B mb : Nat) (lk : Bool) (g : Gh) (h : MachAt w l p own B mb lk g) (r : List GC) (c : GC) (hcs : g.cs = r ++ [c]) (hst : g.status = 1) (i : M.Ins) (hi : M.insIn (M.method p c.f.of) i = true) (hop : i.op = 12) :
    Calls Tryz.prog 61 #[.pointer (some ⟨mb, 0, none⟩), .agg #[.int .i64 i.op, .int .i64 i.a, .string i.name, .string i.member]] w (MEnd w l p own B mb lk (.int .i64 (M.doIns p lk i g.st).1) (M.doIns p lk i g.st).2) := by
 have HI := hid (M.ins_a hi)
 obtain ⟨w0, hw0⟩ : ∃ w0, w0 = w.alloc (.cells #[.int .i64 i.op, .int .i64 i.a, .string i.name, .string i.member] 28) := ⟨_, rfl⟩
 have hE0 : Ext w w0 := by rw [hw0]; exact (KX.k (by repeat (first | assumption | constructor)))
 have b3 : Blk w0 w.heap.size 28 #[.int .i64 i.op, .int .i64 i.a, .string i.name, .string i.member] := by rw [hw0]; exact Blk.new _ _ _
 have HNO := hid (h.fresh (Nat.le_refl _))
 have HA := hid (h.ext hE0)
 have HE0 := hid hE0
 have HB3 := hid b3
 have HW0 := hid hw0
 have HCS := hid hcs
 have hwz := b3.lt
 clear h hE0 b3 hw0 hcs hi
 rcases List.eq_nil_or_concat c.f.stack with hs | ⟨st, v, hs⟩
 · have HV : Hid (M.doIns p lk i g.st = (10, g.st)) := hid (by unfold M.doIns; rw [hop]; simp only [Gh.pop_no HCS.out hs]; rfl)
   have HS := hid hs
   clear hs hop
   go_enter Tryz.func61, Tryz.ntmps61
   go_wp2_with fail
   rw [← HW0.out]
   refine (mach_popObject_no _ _ _ _ _ _ _ _ HA.out r c HCS.out HS.out).mono ?_
   rintro e w2 ⟨rfl, hE2⟩
   have HA2 := hid (HA.out.ext hE2)
   have HE2 : Hid (Ext w w2) := hid (HE0.out.trans hE2)
   clear hE2
   go_wp2_with fail
   go_ret
   rw [HV.out]
   exact MEnd.mk' (HE2.out.alloc _).any (Agr.refl _ _) (HA2.out.ext (KX.k (by repeat (first | assumption | constructor)))) rfl
 · rw [List.concat_eq_append] at hs
   have hvk := (M.frameOk_iff.1 (HA.out.frm HCS.out)).2.2.2.2.2.2 v (by rw [hs]; simp)
   have HVK : Hid (M.valOk v g.os.length = true) := hid (by simpa [Gh.st] using hvk)
   have HV : Hid (∀ vs', M.doIns p lk i g.st = if v.kind = 2 ∨ v.kind = 3 then (if v.kind = 3 then M.jump p i.a (g.stk r c st vs').st else M.next p (g.stk r c st vs').st) else (10, (g.stk r c st vs').st)) := hid (fun vs' => by unfold M.doIns; rw [hop]; simp only [Gh.pop HCS.out hs vs']; rfl)
   have HS := hid hs
   have HOP := hid hop
   clear hs hop hvk
   obtain ⟨vk, vn⟩ := v
   simp only at HV
   go_enter Tryz.func61, Tryz.ntmps61
   go_wp2_with fail
   rw [← HW0.out]
   refine (mach_popObject _ _ _ _ _ _ _ _ HA.out r c HCS.out st ⟨vk, vn⟩ HS.out).mono ?_
   rintro e w2 ⟨rfl, hK2, vs', hM2⟩
   replace HV := hid (HV.out vs')
   obtain ⟨w3, hw3⟩ : ∃ w3, w3 = w2.alloc (.cells #[.int .i64 vk, .int .i64 vn] 34) := ⟨_, rfl⟩
   have hE3 : Ext w2 w3 := by rw [hw3]; exact (KX.k (by repeat (first | assumption | constructor)))
   have b5 : Blk w3 w2.heap.size 34 #[.int .i64 vk, .int .i64 vn] := by rw [hw3]; exact Blk.new _ _ _
   have HM3 := hid (hM2.ext hE3)
   have HK3 : Hid (Kp (MO l own) w w3) := hid ((HE0.out.any.trans hK2).trans hE3.any)
   have hB33 := HB3.out.kp hK2 HNO.out
   have y1 := hB33.c 1 (.int .i64 i.a) rfl
   have y2 := hB33.c 2 (.string i.name) rfl
   have yz := hB33.lt
   have HW3 := hid hw3
   have HB5 := hid b5
   have HN5 := hid (hM2.fresh (Nat.le_refl _))
   clear hE3 b5 hK2 hM2 hB33 hw3
   by_cases hk : vk = 2 ∨ vk = 3
   · have hd : decide (vk = 2 ∨ vk = 3) = true := decide_eq_true hk
     simp only [hd]
     replace HV := hid (HV.out.trans (if_pos hk))
     by_cases hn : vk = 3
     · subst hn
       replace HV := hid (HV.out.trans (if_pos rfl))
       clear hk hd
       go_wp2_with fail
       rw [← HW3.out]
       refine (mach_jump _ _ _ _ _ _ _ _ HM3.out r _ rfl hst i.a (HI.out.2.2.1 (.inr (.inl HOP.out))).1).mono ?_
       rintro e w4 hEnd
       have HZ := hid (MEnd.after HK3.out (Agr.refl _ _) hEnd)
       obtain ⟨rfl, -⟩ := hEnd
       rw [← HV.out] at HZ ⊢
       go_wp2_with fail
       go_ret
       exact HZ.out
     · have hn' : (vk == 3) = false := beq_eq_false_iff_ne.2 hn
       replace HV := hid (HV.out.trans (if_neg hn))
       clear hn hk hd
       go_wp2_with fail
       rw [← HW3.out]
       refine (mach_next _ _ _ _ _ _ _ _ HM3.out r _ rfl hst).mono ?_
       rintro e w4 hEnd
       have HZ := hid (MEnd.after HK3.out (Agr.refl _ _) hEnd)
       obtain ⟨rfl, -⟩ := hEnd
       rw [← HV.out] at HZ ⊢
       go_wp2_with fail
       go_ret
       exact HZ.out
   · have hd : decide (vk = 2 ∨ vk = 3) = false := decide_eq_false hk
     simp only [hd]
     replace HV := hid (HV.out.trans (if_neg hk))
     clear hk hd
     go_wp2_with fail
     go_ret
     rw [HV.out, ← HW3.out]
     exact MEnd.mk' HK3.out (Agr.refl _ _) HM3.out rfl
theorem do_cast (w : World) (l : Lodge) (p : M.Plan) (own : Own) (B mb : Nat) (lk : Bool) (g : Gh) (h : MachAt w l p own B mb lk g) (r : List GC) (c : GC) (hcs : g.cs = r ++ [c]) (hst : g.status = 1) (i : M.Ins) (hi : M.insIn (M.method p c.f.of) i = true) (hop : i.op = 15) :
    Calls Tryz.prog 64 #[.pointer (some ⟨mb, 0, none⟩), .agg #[.int .i64 i.op, .int .i64 i.a, .string i.name, .string i.member]] w (MEnd w l p own B mb lk (.int .i64 (M.doIns p lk i g.st).1) (M.doIns p lk i g.st).2) := by
 have HI := hid (M.ins_a hi)
 obtain ⟨w0, hw0⟩ : ∃ w0, w0 = w.alloc (.cells #[.int .i64 i.op, .int .i64 i.a, .string i.name, .string i.member] 28) := ⟨_, rfl⟩
 have hE0 : Ext w w0 := by rw [hw0]; exact (KX.k (by repeat (first | assumption | constructor)))
 have b3 : Blk w0 w.heap.size 28 #[.int .i64 i.op, .int .i64 i.a, .string i.name, .string i.member] := by rw [hw0]; exact Blk.new _ _ _
 have HNO := hid (h.fresh (Nat.le_refl _))
 have HA := hid (h.ext hE0)
 have HE0 := hid hE0
 have HB3 := hid b3
 have HW0 := hid hw0
 have HCS := hid hcs
 have hwz := b3.lt
 clear h hE0 b3 hw0 hcs hi
 rcases List.eq_nil_or_concat c.f.stack with hs | ⟨st, v, hs⟩
 · have HV : Hid (M.doIns p lk i g.st = (10, g.st)) := hid (by unfold M.doIns; rw [hop]; simp only [Gh.pop_no HCS.out hs]; rfl)
   have HS := hid hs
   clear hs hop
   go_enter Tryz.func64, Tryz.ntmps64
   go_wp2_with fail
   rw [← HW0.out]
   refine (mach_popObject_no _ _ _ _ _ _ _ _ HA.out r c HCS.out HS.out).mono ?_
   rintro e w2 ⟨rfl, hE2⟩
   have HA2 := hid (HA.out.ext hE2)
   have HE2 : Hid (Ext w w2) := hid (HE0.out.trans hE2)
   clear hE2
   go_wp2_with fail
   go_ret
   rw [HV.out]
   exact MEnd.mk' (HE2.out.alloc _).any (Agr.refl _ _) (HA2.out.ext (KX.k (by repeat (first | assumption | constructor)))) rfl
 · rw [List.concat_eq_append] at hs
   have hvk := (M.frameOk_iff.1 (HA.out.frm HCS.out)).2.2.2.2.2.2 v (by rw [hs]; simp)
   have HVK : Hid (M.valOk v g.os.length = true) := hid (by simpa [Gh.st] using hvk)
   have HV : Hid (∀ vs', M.doIns p lk i g.st = if v.kind = 2 ∨ v.kind = 3 then (if v.kind = 3 then M.push p v (g.stk r c st vs').st else if (M.class_ p i.name (g.stk r c st vs').st).2 then (if M.under p (M.ofAt (g.stk r c st vs').st.heap v.n) (M.class_ p i.name (g.stk r c st vs').st).1 then M.push p v (g.stk r c st vs').st else (6, (g.stk r c st vs').st)) else (4, (g.stk r c st vs').st)) else (10, (g.stk r c st vs').st)) := hid (fun vs' => by unfold M.doIns; rw [hop]; simp only [Gh.pop HCS.out hs vs']; rfl)
   have HS := hid hs
   have HOP := hid hop
   clear hs hop hvk
   obtain ⟨vk, vn⟩ := v
   simp only at HV
   go_enter Tryz.func64, Tryz.ntmps64
   go_wp2_with fail
   rw [← HW0.out]
   refine (mach_popObject _ _ _ _ _ _ _ _ HA.out r c HCS.out st ⟨vk, vn⟩ HS.out).mono ?_
   rintro e w2 ⟨rfl, hK2, vs', hM2⟩
   replace HV := hid (HV.out vs')
   obtain ⟨w3, hw3⟩ : ∃ w3, w3 = w2.alloc (.cells #[.int .i64 vk, .int .i64 vn] 34) := ⟨_, rfl⟩
   have hE3 : Ext w2 w3 := by rw [hw3]; exact (KX.k (by repeat (first | assumption | constructor)))
   have b5 : Blk w3 w2.heap.size 34 #[.int .i64 vk, .int .i64 vn] := by rw [hw3]; exact Blk.new _ _ _
   have HM3 := hid (hM2.ext hE3)
   have HK3 : Hid (Kp (MO l own) w w3) := hid ((HE0.out.any.trans hK2).trans hE3.any)
   have hB33 := HB3.out.kp hK2 HNO.out
   have y1 := hB33.c 1 (.int .i64 i.a) rfl
   have y2 := hB33.c 2 (.string i.name) rfl
   have yz := hB33.lt
   have HW3 := hid hw3
   have HB5 := hid b5
   have HN5 := hid (hM2.fresh (Nat.le_refl _))
   clear hE3 b5 hK2 hM2 hB33 hw3
   by_cases hk : vk = 2 ∨ vk = 3
   · have hd : decide (vk = 2 ∨ vk = 3) = true := decide_eq_true hk
     simp only [hd]
     replace HV := hid (HV.out.trans (if_pos hk))
     by_cases hn : vk = 3
     · subst hn
       replace HV := hid (HV.out.trans (if_pos rfl))
       clear hk hd
       go_wp2_with fail
       rw [← HW3.out]
       refine (mach_put _ _ _ _ _ _ _ _ HM3.out r _ rfl hst ⟨3, vn⟩ HVK.out).mono ?_
       rintro e w4 hEnd
       have HZ := hid (MEnd.after HK3.out (Agr.refl _ _) hEnd)
       obtain ⟨rfl, -⟩ := hEnd
       rw [← HV.out] at HZ ⊢
       go_wp2_with fail
       go_ret
       exact HZ.out
     · have hn' : (vk == 3) = false := beq_eq_false_iff_ne.2 hn
       obtain rfl : vk = 2 := by omega
       replace HV := hid (HV.out.trans (if_neg hn))
       clear hn hk hd
       obtain ⟨⟨⟨xk, xn⟩, lb⟩, hF⟩ : ∃ F, M.class_ p i.name (g.stk r c st vs').st = F := ⟨_, rfl⟩
       rw [hF] at HV
       go_wp2_with fail
       rw [← HW3.out]
       have hcl := mach_class _ _ _ _ _ _ _ _ HM3.out r _ rfl i.name
       rw [hF] at hcl
       refine hcl.mono ?_
       rintro e w4 ⟨rfl, hC4⟩
       clear hcl hF y1 y2 yz
       simp only
       have hM4 := HM3.out.lod' hC4.kp hC4.at_
       have hB54 := HB5.out.kp hC4.kp (fun e => HN5.out (.inl e))
       have HM4 := hid hM4
       have HK4 : Hid (Kp (MO l own) w w4) := hid (HK3.out.trans hC4.mo)
       have HB54 := hid hB54
       obtain ⟨w5, hw5⟩ : ∃ w5, w5 = w4.alloc (.cells #[.int .i64 xk, .string xn] 76) := ⟨_, rfl⟩
       have hE5 : Ext w4 w5 := by rw [hw5]; exact (KX.k (by repeat (first | assumption | constructor)))
       have b7 : Blk w5 w4.heap.size 76 #[.int .i64 xk, .string xn] := by rw [hw5]; exact Blk.new _ _ _
       have HB7 := hid b7
       have HM5 := hid (hM4.ext hE5)
       have HK5 : Hid (Kp (MO l own) w w5) := hid (HK4.out.trans hE5.any)
       have HW5 := hid hw5
       have HE5 := hid hE5
       clear hC4 hM4 hB54 hw5 hE5 b7
       cases lb
       · replace HV : Hid (M.doIns p lk i g.st = (4, (g.stk r c st vs').st)) := hid (HV.out.trans rfl)
         go_wp2_with fail
         go_ret
         rw [HV.out, ← HW5.out]
         exact MEnd.mk' HK5.out (Agr.refl _ _) HM5.out rfl
       · replace HV : Hid (M.doIns p lk i g.st = if M.under p (M.ofAt (g.stk r c st vs').st.heap vn) ⟨xk, xn⟩ then M.push p ⟨2, vn⟩ (g.stk r c st vs').st else (6, (g.stk r c st vs').st)) := hid (HV.out.trans rfl)
         obtain ⟨hn0, hn1⟩ := M.valOk_ref HVK.out rfl
         simp only at hn0 hn1
         obtain ⟨n, rfl⟩ : ∃ n : Nat, vn = n := ⟨vn.toNat, by omega⟩
         obtain ⟨o, ho⟩ : ∃ o, g.os[n]? = some o := ⟨g.os[n]'(by omega), List.getElem?_eq_getElem _⟩
         have hof : M.ofAt (g.stk r c st vs').st.heap n = o.o.of := ofAt_get (by simp [Gh.st, Gh.stk, ho])
         rw [hof] at HV
         obtain ⟨ha, hcap, hva⟩ := HM5.out.heap.form
         have hrow := HM5.out.heap.row
         rw [hva] at hrow
         obtain ⟨b, bcap, eb, -⟩ := owns_form hrow (by show 0 < g.os.length; omega)
         cases eb
         have hcc := owns_at (enc := objCs) (k := 3) (fun _ => rfl) hrow (l := g.os) ho
         obtain ⟨T, f, hneT, HT⟩ := Cls.ex (fun W' => Ext w5 W') _ (Kp.refl _ _)
         have rm0 := fun z => (HM5.out.ext (HT.inn z)).blk.c 0 (.pointer (some ⟨l.L, 0, none⟩)) rfl
         have rm4 := fun z => (HM5.out.ext (HT.inn z)).blk.c 4 (.slice (some ⟨b, 0, none⟩) g.os.length hcap) (by rw [show (Value.slice (some ⟨b, 0, none⟩) g.os.length hcap) = g.vh from hva.symm]; rfl)
         have r51 := fun z => ((HB54.out.ext HE5.out).ext (HT.inn z)).c 1 (.int .i64 n) rfl
         have r70 := fun z => (HB7.out.ext (HT.inn z)).c 0 (.int .i64 xk) rfl
         have r71 := fun z => (HB7.out.ext (HT.inn z)).c 1 (.string xn) rfl
         have rh0 := fun z => (CellsAt.ext hcc (HT.inn z)).three.1
         have rh1 := fun z => (CellsAt.ext hcc (HT.inn z)).three.2.1
         have q0 := HB54.out.c 0 (.int .i64 2) rfl
         have HTH := hid HT
         have hn1' : (n : Int) < g.os.length := hn1
         clear HT hva hrow hcc ho hof hn1
         go_wp2_with fail
         rw [← HW5.out]
         (refine region_mix f 16 [([0, 1, 2, 3, 4, 5, 6, 7, 8, 9, 10, 11, 12, 13], 14)] [15] (HTH.out.out _ ?_) (by kernel_rfl) (by kernel_rfl) (fun _ _ d _ _ h => by cases d <;> exact h) ?_)
         · exact (Kp.refl _ _).drew
         (refine wpMix_cons rfl rfl fun K hK => ?_); (change wpQuiet _ _ _ _ [_, _, _, _, _, _, _, _, _, _, _, _, _, _] _); (repeat (go_big_quiet_step (fail))); (refine wpQuiet_nil ?_); (refine hK _ fun K2 hK2 => ?_); clear hK K; (change wpList _ _ _ [_] _ _)
         go_wp2_with fail
         refine (lodge_under _ _ _ (HM5.out.lod.ext (Kp.refl _ _).drew) o.o.of ⟨xk, xn⟩).mono ?_
         rintro e w6 ⟨rfl, hE6⟩
         have HE6 : Hid (Ext w5 w6) := hid (((Kp.refl _ w5).drew : Ext w5 _).trans hE6)
         clear hE6
         have q50 := ((HB54.out.ext HE5.out).ext HE6.out).c 0 (.int .i64 2) rfl
         have q51 := ((HB54.out.ext HE5.out).ext HE6.out).c 1 (.int .i64 n) rfl
         have q5z := cell_lt q50
         cases hu : M.under p o.o.of ⟨xk, xn⟩
         · rw [hu] at HV
           replace HV : Hid (M.doIns p lk i g.st = (6, (g.stk r c st vs').st)) := hid (HV.out.trans rfl)
           clear hu
           go_wp2_with fail
           (refine hK2 _ _ (HTH.out.out _ HE6.out) ?_); clear hK2 K2
           (refine wpMix_nil rfl fun K hK => ?_); (change wpQuiet _ _ _ _ [_] _); (repeat (go_big_quiet_step (fail))); (refine wpQuiet_nil ?_); (refine hK _ ?_); clear hK K; (simp only [List.drop_succ_cons, List.drop_zero, List.drop_nil, wpList])
           go_wp2_with fail
           go_ret
           rw [HV.out]
           exact MEnd.mk' (HK5.out.trans HE6.out.any) (Agr.refl _ _) (HM5.out.ext HE6.out) rfl
         · rw [hu] at HV
           replace HV : Hid (M.doIns p lk i g.st = M.push p ⟨2, n⟩ (g.stk r c st vs').st) := hid (HV.out.trans rfl)
           clear hu
           go_wp2_with fail
           (refine hK2 _ _ (HTH.out.out _ HE6.out) ?_); clear hK2 K2
           clear HTH rm0 rm4 r51 r70 r71 rh0 rh1
           (refine wpMix_nil rfl fun K hK => ?_); (change wpQuiet _ _ _ _ [_] _); (repeat (go_big_quiet_step (fail))); (refine wpQuiet_nil ?_); (refine hK _ ?_); clear hK K; (simp only [List.drop_succ_cons, List.drop_zero, List.drop_nil, wpList])
           go_wp2_with fail
           refine (mach_put _ _ _ _ _ _ _ _ (HM5.out.ext HE6.out) r _ rfl hst ⟨2, n⟩ HVK.out).mono ?_
           rintro e w7 hEnd
           have HZ := hid (MEnd.after (HK5.out.trans HE6.out.any) (Agr.refl _ _) hEnd)
           obtain ⟨rfl, -⟩ := hEnd
           rw [← HV.out] at HZ ⊢
           go_wp2_with fail
           go_ret
           exact HZ.out
   · have hd : decide (vk = 2 ∨ vk = 3) = false := decide_eq_false hk
     simp only [hd]
     replace HV := hid (HV.out.trans (if_neg hk))
     clear hk hd
     go_wp2_with fail
     go_ret
     rw [HV.out, ← HW3.out]
     exact MEnd.mk' HK3.out (Agr.refl _ _) HM3.out rfl
theorem flat_setv : ∀ (l : List M.Val) (q : Nat) (x : M.Val), ((l.flatMap valCs).set (q * 2) (.int .i64 x.kind)).set (q * 2 + 1) (.int .i64 x.n) = (l.set q x).flatMap valCs := by
 intro l
 induction l with
 | nil => intro q x; simp
 | cons y r ih =>
  intro q x
  cases q with
  | zero => simp [valCs]
  | succ q =>
   rw [show (q + 1) * 2 = q * 2 + 1 + 1 from by omega]
   simp only [List.flatMap_cons, List.set_cons_succ, valCs, List.cons_append, List.nil_append]
   rw [ih]
theorem MachAt.setLocal {w : World} {l : Lodge} {p : M.Plan} {own : Own} {B mb : Nat} {lk : Bool} {g : Gh} (h : MachAt w l p own B mb lk g) {r : List GC} {c : GC} (hcs : g.cs = r ++ [c]) {lg lc : Nat} (hv : c.vl = .slice (some ⟨lg, 0, none⟩) c.f.locals.length lc) (q : Nat) (x : M.Val) (hx : M.valOk x g.os.length = true) :
    Kp (MO l own) w ((w.setCell ⟨lg, q * 2, none⟩ (.int .i64 x.kind)).setCell ⟨lg, q * 2 + 1, none⟩ (.int .i64 x.n)) ∧ MachAt ((w.setCell ⟨lg, q * 2, none⟩ (.int .i64 x.kind)).setCell ⟨lg, q * 2 + 1, none⟩ (.int .i64 x.n)) l p own B mb lk { g with cs := r ++ [{ c with f := { c.f with locals := c.f.locals.set q x } }] } := by
 have hc := h.at_ hcs
 have hk : Kp (· = lg) w ((w.setCell ⟨lg, q * 2, none⟩ (.int .i64 x.kind)).setCell ⟨lg, q * 2 + 1, none⟩ (.int .i64 x.n)) :=
  ((Kp.refl (· = lg) w).setCell (p := ⟨lg, q * 2, none⟩) (fun _ => rfl) _).setCell (p := ⟨lg, q * 2 + 1, none⟩) (fun _ => rfl) _
 have hlr : own lg = some (5, r.length) := hc.loc.role lg (by rw [hv]; rfl)
 have hkp : Kp (PO own (· = (5, r.length))) w ((w.setCell ⟨lg, q * 2, none⟩ (.int .i64 x.kind)).setCell ⟨lg, q * 2 + 1, none⟩ (.int .i64 x.n)) := hk.weak fun b _ e => ⟨_, by rw [e]; exact hlr, rfl⟩
 have ha := Agr.refl w.heap.size own
 have hrow := hc.loc.row
 rw [hv] at hrow
 have h2 := (hrow.stored (q * 2) (.int .i64 x.kind)).1.stored (q * 2 + 1) (.int .i64 x.n)
 have e2 : ((c.f.locals.flatMap valCs).set (q * 2) (.int .i64 x.kind)).set (q * 2 + 1) (.int .i64 x.n) = (c.f.locals.set q x).flatMap valCs := flat_setv c.f.locals q x
 rw [e2] at h2
 have hfr := M.frameOk_iff.1 (h.frm hcs)
 refine ⟨hkp.weak fun b _ e => e.mo, h.setTop hcs rfl (hkp.weak fun b _ ⟨q, e1, e2⟩ => ⟨q, e1, .inr (.inl e2)⟩) ha (h.domE hk.size) ⟨hc.blk.kp hk (fun e => ?_), hc.role, hc.low, Stays.kp MethodL.stays hkp (fun b hb => h.lowPO b hb) hc.ml, ⟨?_, hc.loc.role⟩, hc.stk.kpo hkp ha (by simp)⟩ ?_⟩
 · have := hc.role; rw [e, hlr] at this; cases this
 · show World.ownsRow _ B _ 2 c.vl (c.f.locals.set q x).length _
   rw [List.length_set, hv]
   exact h2.1
 · rw [show ({ g with cs := r ++ [{ c with f := { c.f with locals := c.f.locals.set q x } }] } : Gh).st = { g.st with frames := r.map GC.f ++ [{ c.f with locals := c.f.locals.set q x }] } from by simp [Gh.st]]
   refine h.good.turn (Gh.fr hcs) (M.frameOk_iff.2 ⟨hfr.1, hfr.2.1, hfr.2.2.1, by simp; exact hfr.2.2.2.1, hfr.2.2.2.2.1, ?_, hfr.2.2.2.2.2.2⟩)
   intro u hu
   rcases List.mem_or_eq_of_mem_set hu with hu | rfl
   · exact hfr.2.2.2.2.2.1 u hu
   · simpa [Gh.st] using hx
theorem do_new (w : World) (l : Lodge) (p : M.Plan) (own : Own) (B mb : Nat) (lk : Bool) (g : Gh) (h : MachAt w l p own B mb lk g) (r : List GC) (c : GC) (hcs : g.cs = r ++ [c]) (hst : g.status = 1) (i : M.Ins) (hi : M.insIn (M.method p c.f.of) i = true) (hop : i.op = 6) :
    Calls Tryz.prog 55 #[.pointer (some ⟨mb, 0, none⟩), .agg #[.int .i64 i.op, .int .i64 i.a, .string i.name, .string i.member]] w (MEnd w l p own B mb lk (.int .i64 (M.doIns p lk i g.st).1) (M.doIns p lk i g.st).2) := by
 obtain ⟨w0, hw0⟩ : ∃ w0, w0 = w.alloc (.cells #[.int .i64 i.op, .int .i64 i.a, .string i.name, .string i.member] 28) := ⟨_, rfl⟩
 have hE0 : Ext w w0 := by rw [hw0]; exact (KX.k (by repeat (first | assumption | constructor)))
 have HA := hid (h.ext hE0)
 have HE0 := hid hE0
 have HW0 := hid hw0
 have HCS := hid hcs
 have H := hid h
 obtain ⟨⟨⟨xk, xn⟩, lb⟩, hF⟩ : ∃ F, M.class_ p i.name g.st = F := ⟨_, rfl⟩
 have HV : Hid (M.doIns p lk i g.st = if lb = true then (if 12 ≤ g.st.heap.length then (8, g.st) else M.push p (M.create p ⟨xk, xn⟩ g.st).1 (M.create p ⟨xk, xn⟩ g.st).2) else (4, g.st)) := hid (by unfold M.doIns; rw [hop]; simp only [hF]; rfl)
 have HCL : Hid (lb = true → M.canLay p ⟨xk, xn⟩ = true) := hid (fun e => by
  subst e
  unfold M.class_ at hF
  simp only [Prod.mk.injEq, Bool.and_eq_true] at hF
  rw [← hF.1]; exact hF.2.2)
 have hcl := mach_class _ _ _ _ _ _ _ _ HA.out r c hcs i.name
 rw [hF] at hcl
 have HCC := hid hcl
 clear h hE0 hw0 hcs hi hop hF hcl
 go_enter Tryz.func55, Tryz.ntmps55
 go_wp2_with fail
 rw [← HW0.out]
 refine HCC.out.mono ?_
 rintro e w1 ⟨rfl, hC1⟩
 have hM1 := HA.out.lod' hC1.kp hC1.at_
 obtain ⟨w2, hw2⟩ : ∃ w2, w2 = w1.alloc (.cells #[.int .i64 xk, .string xn] 76) := ⟨_, rfl⟩
 have hE2 : Ext w1 w2 := by rw [hw2]; exact (KX.k (by repeat (first | assumption | constructor)))
 obtain ⟨ha, hcap, hva⟩ := hM1.heap.form
 have m4 := hM1.blk.c 4 (.slice ha g.os.length hcap) (by rw [← hva]; rfl)
 have mz := hM1.blk.lt
 have HM2 := hid (hM1.ext hE2)
 have HK2 : Hid (Kp (MO l own) w w2) := hid ((HE0.out.any.trans hC1.mo).trans hE2.any)
 have HW2 := hid hw2
 clear HCC hC1 hM1 hw2 hE2 hva
 have hos : g.st.heap.length = g.os.length := by simp [Gh.st]
 cases lb
 · replace HV : Hid (M.doIns p lk i g.st = (4, g.st)) := hid HV.out
   go_wp2_with fail
   go_ret
   rw [HV.out, ← HW2.out]
   exact MEnd.mk' HK2.out (Agr.refl _ _) HM2.out rfl
 · replace HV : Hid (M.doIns p lk i g.st = if 12 ≤ g.st.heap.length then (8, g.st) else M.push p (M.create p ⟨xk, xn⟩ g.st).1 (M.create p ⟨xk, xn⟩ g.st).2) := hid HV.out
   by_cases h12 : 12 ≤ g.os.length
   · replace HV : Hid (M.doIns p lk i g.st = (8, g.st)) := hid (HV.out.trans (if_pos (by omega)))
     have h12' : decide ((12 : Int) ≤ g.os.length) = true := decide_eq_true (by omega)
     have h12'' : (12 : Int) ≤ g.os.length := by omega
     go_wp2_with fail
     go_ret
     rw [HV.out, ← HW2.out]
     exact MEnd.mk' HK2.out (Agr.refl _ _) HM2.out rfl
   · replace HV : Hid (M.doIns p lk i g.st = M.push p (M.create p ⟨xk, xn⟩ g.st).1 (M.create p ⟨xk, xn⟩ g.st).2) := hid (HV.out.trans (if_neg (by omega)))
     have h12' : ((12 : Int) ≤ g.os.length) = False := eq_false (by omega)
     have hlt : g.os.length < 12 := by omega
     clear h12 hos
     go_wp2_with fail
     rw [← HW2.out]
     refine (mach_create _ _ _ _ _ _ _ _ HM2.out ⟨xk, xn⟩ (HCL.out (by simp)) hlt).mono ?_
     rintro e w3 ⟨rfl, hK3, own3, g3, ha3, hM3, hs3⟩
     obtain ⟨r3, c3, hcs3, -⟩ := Gh.split (g := g3) (r := r.map GC.f) (f := c.f) (by rw [hs3]; exact Gh.fr HCS.out)
     have hst3 : g3.status = 1 := by
      have : g3.st.status = g.st.status := by rw [hs3]; rfl
      exact this.trans hst
     have hln3 : g3.os.length = g.os.length + 1 := by
      have : g3.st.heap.length = g.st.heap.length + 1 := by rw [hs3]; simp [M.create]
      simpa [Gh.st] using this
     have HM3 := hid hM3
     have HK3 : Hid (Kp (MO l own) w w3) := hid (HK2.out.mo hK3 (Agr.refl _ _))
     have HAG : Hid (Agr w.heap.size own own3) := hid (fun b hb => ha3 b (by have := HK2.out.size; omega))
     replace HV : Hid (M.doIns p lk i g.st = M.push p ⟨2, g.os.length⟩ g3.st) := hid (by rw [HV.out, ← hs3]; simp [M.create, Gh.st])
     have HC3 := hid hcs3
     clear hK3 ha3 hM3 hs3 hcs3 m4 mz h12'
     go_wp2_with fail
     refine (mach_put _ _ _ _ _ _ _ _ HM3.out r3 c3 HC3.out hst3 ⟨2, g.os.length⟩ (M.valOk_mk _ (by omega) (by rw [hln3]; omega))).mono ?_
     rintro e w4 hEnd
     have HZ := hid (MEnd.after HK3.out HAG.out hEnd)
     obtain ⟨rfl, -⟩ := hEnd
     rw [← HV.out] at HZ ⊢
     go_wp2_with fail
     go_ret
     exact HZ.out
theorem do_put (w : World) (l : Lodge) (p : M.Plan) (own : Own) (B mb : Nat) (lk : Bool) (g : Gh) (h : MachAt w l p own B mb lk g) (r : List GC) (c : GC) (hcs : g.cs = r ++ [c]) (hst : g.status = 1) (i : M.Ins) (hi : M.insIn (M.method p c.f.of) i = true) (hop : i.op = 3) :
    Calls Tryz.prog 52 #[.pointer (some ⟨mb, 0, none⟩), .agg #[.int .i64 i.op, .int .i64 i.a, .string i.name, .string i.member]] w (MEnd w l p own B mb lk (.int .i64 (M.doIns p lk i g.st).1) (M.doIns p lk i g.st).2) := by
 have HI := hid (M.ins_a hi)
 obtain ⟨w0, hw0⟩ : ∃ w0, w0 = w.alloc (.cells #[.int .i64 i.op, .int .i64 i.a, .string i.name, .string i.member] 28) := ⟨_, rfl⟩
 have hE0 : Ext w w0 := by rw [hw0]; exact (KX.k (by repeat (first | assumption | constructor)))
 have b3 : Blk w0 w.heap.size 28 #[.int .i64 i.op, .int .i64 i.a, .string i.name, .string i.member] := by rw [hw0]; exact Blk.new _ _ _
 have HNO := hid (h.fresh (Nat.le_refl _))
 have HA := hid (h.ext hE0)
 have HE0 := hid hE0
 have HB3 := hid b3
 have HW0 := hid hw0
 have HCS := hid hcs
 have hwz := b3.lt
 clear h hE0 b3 hw0 hcs hi
 rcases List.eq_nil_or_concat c.f.stack with hs | ⟨st, v, hs⟩
 · have HV : Hid (M.doIns p lk i g.st = (10, g.st)) := hid (by unfold M.doIns; rw [hop]; simp only [Gh.pop_no HCS.out hs]; rfl)
   have HS := hid hs
   clear hs hop
   go_enter Tryz.func52, Tryz.ntmps52
   go_wp2_with fail
   rw [← HW0.out]
   refine (mach_top _ _ _ _ _ _ _ _ HA.out r c HCS.out).mono ?_
   rintro e w1 ⟨rfl, hE1⟩
   have HA1 := hid (HA.out.ext hE1)
   have HE1 : Hid (Ext w w1) := hid (HE0.out.trans hE1)
   clear hE1
   go_wp2_with fail
   refine (mach_pop_no _ _ _ _ _ _ _ _ HA1.out r c HCS.out HS.out).mono ?_
   rintro e w2 ⟨rfl, hE2⟩
   have HA2 := hid (HA1.out.ext hE2)
   have HE2 : Hid (Ext w w2) := hid (HE1.out.trans hE2)
   clear hE2
   go_wp2_with fail
   go_ret
   rw [HV.out]
   exact MEnd.mk' (HE2.out.alloc _).any (Agr.refl _ _) (HA2.out.ext (KX.k (by repeat (first | assumption | constructor)))) rfl
 · rw [List.concat_eq_append] at hs
   have hvk := (M.frameOk_iff.1 (HA.out.frm HCS.out)).2.2.2.2.2.2 v (by rw [hs]; simp)
   have HVK : Hid (M.valOk v g.os.length = true) := hid (by simpa [Gh.st] using hvk)
   have HV : Hid (∀ vs', M.doIns p lk i g.st = M.next p ({ (g.stk r c st vs') with cs := r ++ [{ c with f := { c.f with stack := st, locals := c.f.locals.set i.a.toNat v }, vs := vs' }] } : Gh).st) := hid (fun vs' => by unfold M.doIns; rw [hop]; simp only [Gh.pop HCS.out hs vs']; rw [M.onTop_of (s := (g.stk r c st vs').st) (r := r.map GC.f) (t := { c.f with stack := st }) (by simp [Gh.stk, Gh.st])]; simp [Gh.stk, Gh.st])
   have HS := hid hs
   have HOP := hid hop
   clear hs hop hvk
   obtain ⟨vk, vn⟩ := v
   simp only at HV
   go_enter Tryz.func52, Tryz.ntmps52
   go_wp2_with fail
   rw [← HW0.out]
   refine (mach_top _ _ _ _ _ _ _ _ HA.out r c HCS.out).mono ?_
   rintro e w1 ⟨rfl, hE1⟩
   have HA1 := hid (HA.out.ext hE1)
   have HE1 := hid hE1
   clear hE1
   go_wp2_with fail
   refine (mach_pop _ _ _ _ _ _ _ _ HA1.out r c HCS.out st ⟨vk, vn⟩ HS.out).mono ?_
   rintro e w2 ⟨rfl, hK2, vs', hM2⟩
   replace HV := hid (HV.out vs')
   obtain ⟨w3, hw3⟩ : ∃ w3, w3 = w2.alloc (.cells #[.int .i64 vk, .int .i64 vn] 34) := ⟨_, rfl⟩
   have hE3 : Ext w2 w3 := by rw [hw3]; exact (KX.k (by repeat (first | assumption | constructor)))
   have b5 : Blk w3 w2.heap.size 34 #[.int .i64 vk, .int .i64 vn] := by rw [hw3]; exact Blk.new _ _ _
   have HM3 := hid (hM2.ext hE3)
   have HK3 : Hid (Kp (MO l own) w w3) := hid (((HE0.out.trans HE1.out).any.trans hK2).trans hE3.any)
   have hB33 := (HB3.out.ext HE1.out).kp hK2 HNO.out
   have y1 := hB33.c 1 (.int .i64 i.a) rfl
   have yz := hB33.lt
   have HW3 := hid hw3
   have HB5 := hid b5
   have HN5 := hid (hM2.fresh (Nat.le_refl _))
   have HKP := hid hK2
   have HE3 := hid hE3
   clear hE3 b5 hK2 hM2 hB33 hw3
   obtain ⟨ha0, ha1⟩ := HI.out.2.1 (.inr HOP.out)
   obtain ⟨q, hq⟩ : ∃ q : Nat, i.a = q := ⟨i.a.toNat, by omega⟩
   have hqt : i.a.toNat = q := by omega
   have hfr := M.frameOk_iff.1 (HA.out.frm HCS.out)
   have hql : q < c.f.locals.length := by have := hfr.2.2.2.1; omega
   obtain ⟨lg, lc, hvl, -⟩ := owns_form (HM3.out.at_ rfl).loc.row (by show 0 < c.f.locals.length; omega)
   replace hvl : c.vl = .slice (some ⟨lg, 0, none⟩) c.f.locals.length lc := hvl
   have hc3 := HM3.out.at_ rfl
   have hrow := hc3.loc.row
   obtain ⟨u, hu⟩ := elemF c.f.locals q hql
   have hcc : CellsAt w3 lg (q * 2) (valCs u) := owns_at (enc := valCs) (k := 2) (fun _ => rfl) (l := c.f.locals) (by rw [← hvl]; exact hrow) hu
   obtain ⟨cur, hcur⟩ := owns_blk hrow (g := lg) (by show c.vl.ownBlock = some lg; rw [hvl]; rfl)
   obtain ⟨T, f, hneT, HT⟩ := Cls.ex (fun W' => Ext w3 W') _ (Kp.refl _ _)
   have rc := fun z => (hc3.blk.ext (HT.inn z)).c 12 (.slice (some ⟨lg, 0, none⟩) c.f.locals.length lc) (by rw [← hvl]; rfl)
   have r60 := fun z => (HB5.out.ext (HT.inn z)).c 0 (.int .i64 vk) rfl
   have r61 := fun z => (HB5.out.ext (HT.inn z)).c 1 (.int .i64 vn) rfl
   have r31 := fun z => (((HB3.out.ext HE1.out).kp HKP.out HNO.out).ext (HE3.out.trans (HT.inn z))).c 1 (.int .i64 q) (by rw [← hq]; rfl)
   have x0 := hcc.two.1
   have x1 := hcc.two.2
   have f0 := hcur.frozen (q * 2)
   have f1 := hcur.frozen (q * 2 + 1)
   have hz := hcur.lt
   have hq2 : (q : Int) < c.f.locals.length := by omega
   have HSL := hid ((HM3.out.ext ((Kp.refl _ w3).drew : Ext w3 w3.drew)).setLocal rfl hvl q ⟨vk, vn⟩ HVK.out)
   rw [hqt] at HV
   have HTH := hid HT
   have HCUR := hid hcur
   clear HT hvl hc3 hrow hu hcc hcur hq hqt y1 yz hfr
   go_wp2_with fail
   rw [← HW3.out]
   (refine region_mix f 7 [] [0, 1, 2, 3, 4, 5, 6] (HTH.out.out _ ?_) (by kernel_rfl) (by kernel_rfl) (fun _ _ d _ _ h => by cases d <;> exact h) ?_)
   · exact (Kp.refl _ _).drew
   (refine wpMix_nil rfl fun K hK => ?_); (change wpQuiet _ _ _ _ [_, _, _, _, _, _, _] _); (repeat (go_big_quiet_step (fail))); (refine wpQuiet_nil ?_); (refine hK _ ?_); clear hK K
   clear HTH rc r60 r61 r31
   go_wp2_with fail
   obtain ⟨hKS, hMS⟩ := HSL.out
   refine (mach_next _ _ _ _ _ _ _ _ hMS r _ rfl hst).mono ?_
   rintro e w4 hEnd
   have HZ := hid (MEnd.after ((HK3.out.trans ((Kp.refl _ w3).drew : Ext w3 w3.drew).any).trans hKS) (Agr.refl _ _) hEnd)
   obtain ⟨rfl, -⟩ := hEnd
   rw [← HV.out] at HZ ⊢
   go_wp2_with fail
   go_ret
   exact HZ.out
theorem do_take (w : World) (l : Lodge) (p : M.Plan) (own : Own) (B mb : Nat) (lk : Bool) (g : Gh) (h : MachAt w l p own B mb lk g) (r : List GC) (c : GC) (hcs : g.cs = r ++ [c]) (hst : g.status = 1) (i : M.Ins) (hi : M.insIn (M.method p c.f.of) i = true) (hop : i.op = 2) :
    Calls Tryz.prog 51 #[.pointer (some ⟨mb, 0, none⟩), .agg #[.int .i64 i.op, .int .i64 i.a, .string i.name, .string i.member]] w (MEnd w l p own B mb lk (.int .i64 (M.doIns p lk i g.st).1) (M.doIns p lk i g.st).2) := by
 have HI := hid (M.ins_a hi)
 obtain ⟨w0, hw0⟩ : ∃ w0, w0 = w.alloc (.cells #[.int .i64 i.op, .int .i64 i.a, .string i.name, .string i.member] 28) := ⟨_, rfl⟩
 have hE0 : Ext w w0 := by rw [hw0]; exact (KX.k (by repeat (first | assumption | constructor)))
 have b3 : Blk w0 w.heap.size 28 #[.int .i64 i.op, .int .i64 i.a, .string i.name, .string i.member] := by rw [hw0]; exact Blk.new _ _ _
 have hfr := M.frameOk_iff.1 (h.frm hcs)
 obtain ⟨ha0, ha1⟩ := (M.ins_a hi).2.1 (.inl hop)
 obtain ⟨q, hq⟩ : ∃ q : Nat, i.a = q := ⟨i.a.toNat, by omega⟩
 have hqt : i.a.toNat = q := by omega
 have hql : q < c.f.locals.length := by have := hfr.2.2.2.1; omega
 obtain ⟨⟨uk, un⟩, hu⟩ := elemF c.f.locals q hql
 have HUK : Hid (M.valOk ⟨uk, un⟩ g.os.length = true) := hid (by simpa [Gh.st] using hfr.2.2.2.2.2.1 _ (List.mem_of_getElem? hu))
 have HV : Hid (M.doIns p lk i g.st = if uk = 0 then (10, g.st) else M.push p ⟨uk, un⟩ g.st) := hid (by
  unfold M.doIns; rw [hop]; simp only [Gh.top hcs, hqt, hu]; rfl)
 have hA := h.ext hE0
 have hc3 := hA.at_ hcs
 obtain ⟨lg, lc, hvl, -⟩ := owns_form hc3.loc.row (by omega)
 have hrow := hc3.loc.row
 have hcc : CellsAt w0 lg (q * 2) (valCs ⟨uk, un⟩) := owns_at (enc := valCs) (k := 2) (fun _ => rfl) (l := c.f.locals) (by rw [← hvl]; exact hrow) hu
 obtain ⟨T, f, hneT, HT⟩ := Cls.ex (fun W' => Ext w0 W') _ (Kp.refl _ _)
 have rc := fun z => (hc3.blk.ext (HT.inn z)).c 12 (.slice (some ⟨lg, 0, none⟩) c.f.locals.length lc) (by rw [← hvl]; rfl)
 have r31 := fun z => (b3.ext (HT.inn z)).c 1 (.int .i64 q) (by rw [← hq]; rfl)
 have rl0 := fun z => (CellsAt.ext hcc (HT.inn z)).two.1
 have rl1 := fun z => (CellsAt.ext hcc (HT.inn z)).two.2
 have hq2 : (q : Int) < c.f.locals.length := by omega
 have HTH := hid HT
 have HA := hid hA
 have HE0 := hid hE0
 have HW0 := hid hw0
 have HCS := hid hcs
 clear h hE0 b3 hw0 hcs hi hop hA hc3 hvl hrow hu hcc HT hfr hq hqt ha0 ha1
 go_enter Tryz.func51, Tryz.ntmps51
 go_wp2_with fail
 rw [← HW0.out]
 (refine region_tree f 10 (.two [0, 5, 6] 1 9 (.one [2, 3, 4, 7, 8] 9 (.fin [])) (.one [] 1 (.fin [2, 3, 4, 7, 8]))) (HTH.out.out _ ?_) (by kernel_rfl) (by kernel_rfl) (fun _ _ d _ _ h => by cases d <;> exact h) ?_)
 · exact (Kp.refl _ _).drew
 (refine wpT_two rfl rfl rfl fun K hK => ?_); (change wpQuiet _ _ _ _ [_, _, _] _); (repeat (go_big_quiet_step (fail))); (refine wpQuiet_nil ?_); ((refine hK _ (fun K2 hK2 => ?_) (fun K2 hK2 => ?_)) <;> (clear hK K; (change wpList _ _ _ [_] _ _)))
 · go_wp2_with fail
   refine (mach_top _ _ _ _ _ _ _ _ (HA.out.ext (Kp.refl _ _).drew) r c HCS.out).mono ?_
   rintro e w1 ⟨rfl, hE1⟩
   have HE1 : Hid (Ext w0 w1) := hid (((Kp.refl _ w0).drew : Ext w0 _).trans hE1)
   clear hE1
   go_wp2_with fail
   (refine hK2 _ _ (HTH.out.out _ HE1.out) ?_); clear hK2 K2
   (refine wpT_one rfl rfl fun K hK => ?_); (change wpQuiet _ _ _ _ [_, _, _, _, _] _); (repeat (go_big_quiet_step (fail))); (refine wpQuiet_nil ?_); (refine hK _ fun K2 hK2 => ?_); clear hK K; (change wpList _ _ _ [_] _ _)
   go_wp2_with fail
   (refine hK2 _ _ (HTH.out.out _ (HE1.out.alloc _)) ?_); clear hK2 K2
   obtain ⟨w3, hw3⟩ : ∃ w3, w3 = w1.alloc (.cells #[.int .i64 uk, .int .i64 un] 34) := ⟨_, rfl⟩
   have hE3 : Ext w0 w3 := by rw [hw3]; exact HE1.out.alloc _
   have HRR : Hid (Ext w w3) := hid (HE0.out.trans hE3)
   have HAR := hid (HA.out.ext hE3)
   have HW3 := hid hw3
   clear HTH rc r31 rl0 rl1 hw3 hE3
   (refine wpT_fin rfl fun K hK => ?_); (change wpQuiet _ _ _ _ [] _); (refine wpQuiet_nil ?_); (refine hK _ ?_); clear hK K
   by_cases hk0 : uk = 0
   · subst hk0
     replace HV : Hid (M.doIns p lk i g.st = (10, g.st)) := hid (HV.out.trans (if_pos rfl))
     go_wp2_with fail
     go_ret
     rw [HV.out, ← HW3.out]
     exact MEnd.mk' HRR.out.any (Agr.refl _ _) (HAR.out) rfl
   · have hk0' : (uk == 0) = false := beq_eq_false_iff_ne.2 hk0
     replace HV : Hid (M.doIns p lk i g.st = M.push p ⟨uk, un⟩ g.st) := hid (HV.out.trans (if_neg hk0))
     clear hk0
     go_wp2_with fail
     rw [← HW3.out]
     refine (mach_put _ _ _ _ _ _ _ _ HAR.out r c HCS.out hst ⟨uk, un⟩ HUK.out).mono ?_
     rintro e w4 hEnd
     have HZ := hid (MEnd.behind HRR.out hEnd)
     obtain ⟨rfl, -⟩ := hEnd
     rw [← HV.out] at HZ ⊢
     go_wp2_with fail
     go_ret
     exact HZ.out
 · go_wp2_with fail
   (refine hK2 _ _ (HTH.out.out _ (((Kp.refl _ w0).drew).alloc _)) ?_); clear hK2 K2
   (refine wpT_one rfl rfl fun K hK => ?_); (change wpQuiet _ _ _ _ [] _); (refine wpQuiet_nil ?_); (refine hK _ fun K2 hK2 => ?_); clear hK K; (change wpList _ _ _ [_] _ _)
   have b5 : Blk (w0.drew.alloc (.cells #[.int .i64 0, .int .i64 0] 34)) w0.heap.size 34 #[.int .i64 0, .int .i64 0] := Blk.new _ _ _
   have hE5 : Ext w0 (w0.drew.alloc (.cells #[.int .i64 0, .int .i64 0] 34)) := ((Kp.refl _ w0).drew).alloc _
   go_wp2_with fail
   refine (mach_top _ _ _ _ _ _ _ _ (HA.out.ext (((Kp.refl _ w0).drew).alloc _)) r c HCS.out).mono ?_
   rintro e w1 ⟨rfl, hE1⟩
   have HE1 : Hid (Ext w0 w1) := hid (hE5.trans hE1)
   have hb5 := b5.ext hE1
   have x0 := hb5.c 0 (.int .i64 0) rfl
   have x1 := hb5.c 1 (.int .i64 0) rfl
   have f0 := hb5.frozen 0
   have f1 := hb5.frozen 1
   have hz := hb5.lt
   have hst3 : Kp (· = w0.heap.size) w1 ((w1.setCell ⟨w0.heap.size, 0, none⟩ (.int .i64 uk)).setCell ⟨w0.heap.size, 1, none⟩ (.int .i64 un)) := ((Kp.refl (· = w0.heap.size) w1).setCell (p := ⟨w0.heap.size, 0, none⟩) (fun _ => rfl) _).setCell (p := ⟨w0.heap.size, 1, none⟩) (fun _ => rfl) _
   have hb53 := hb5.set2 (.int .i64 uk) (.int .i64 un)
   obtain ⟨w3, hw3⟩ : ∃ w3, w3 = (w1.setCell ⟨w0.heap.size, 0, none⟩ (.int .i64 uk)).setCell ⟨w0.heap.size, 1, none⟩ (.int .i64 un) := ⟨_, rfl⟩
   rw [← hw3] at hst3 hb53
   have hE3 : Ext w0 w3 := HE1.out.own hst3 (fun b e => by omega)
   have HRR : Hid (Ext w w3) := hid (HE0.out.trans hE3)
   have HAR := hid (HA.out.ext hE3)
   have HW3 := hid hw3
   have HB53 := hid hb53
   clear hE1 hb5 hst3 hb53 hw3 hE3 b5 hE5
   go_wp2_with fail
   (refine hK2 _ _ (HTH.out.out _ HE1.out) ?_); clear hK2 K2
   clear HTH
   (refine wpT_fin rfl fun K hK => ?_); (change wpQuiet _ _ _ _ [_, _, _, _, _] _); (repeat (go_big_quiet_step (fail))); (refine wpQuiet_nil ?_); (refine hK _ ?_); clear hK K
   clear rc r31 rl0 rl1
   by_cases hk0 : uk = 0
   · subst hk0
     replace HV : Hid (M.doIns p lk i g.st = (10, g.st)) := hid (HV.out.trans (if_pos rfl))
     go_wp2_with fail
     go_ret
     rw [HV.out, ← HW3.out]
     exact MEnd.mk' HRR.out.any (Agr.refl _ _) (HAR.out) rfl
   · have hk0' : (uk == 0) = false := beq_eq_false_iff_ne.2 hk0
     replace HV : Hid (M.doIns p lk i g.st = M.push p ⟨uk, un⟩ g.st) := hid (HV.out.trans (if_neg hk0))
     clear hk0
     go_wp2_with fail
     rw [← HW3.out]
     refine (mach_put _ _ _ _ _ _ _ _ HAR.out r c HCS.out hst ⟨uk, un⟩ HUK.out).mono ?_
     rintro e w4 hEnd
     have HZ := hid (MEnd.behind HRR.out hEnd)
     obtain ⟨rfl, -⟩ := hEnd
     rw [← HV.out] at HZ ⊢
     go_wp2_with fail
     go_ret
     exact HZ.out
theorem do_add (w : World) (l : Lodge) (p : M.Plan) (own : Own) (B mb : Nat) (lk : Bool) (g : Gh) (h : MachAt w l p own B mb lk g) (r : List GC) (c : GC) (hcs : g.cs = r ++ [c]) (hst : g.status = 1) (i : M.Ins) (hi : M.insIn (M.method p c.f.of) i = true) (hop : i.op = 4) :
    Calls Tryz.prog 53 #[.pointer (some ⟨mb, 0, none⟩), .agg #[.int .i64 i.op, .int .i64 i.a, .string i.name, .string i.member]] w (MEnd w l p own B mb lk (.int .i64 (M.doIns p lk i g.st).1) (M.doIns p lk i g.st).2) := by
 obtain ⟨w0, hw0⟩ : ∃ w0, w0 = w.alloc (.cells #[.int .i64 i.op, .int .i64 i.a, .string i.name, .string i.member] 28) := ⟨_, rfl⟩
 have hE0 : Ext w w0 := by rw [hw0]; exact (KX.k (by repeat (first | assumption | constructor)))
 have HA := hid (h.ext hE0)
 have HE0 := hid hE0
 have HW0 := hid hw0
 have HCS := hid hcs
 clear h hE0 hw0 hcs hi
 by_cases hlen : c.f.stack.length < 2
 · have HV : Hid (M.doIns p lk i g.st = (10, g.st)) := hid (by unfold M.doIns; rw [hop]; simp only [Gh.popAll_no HCS.out hlen]; rfl)
   clear hop
   go_enter Tryz.func53, Tryz.ntmps53
   go_wp2_with fail
   rw [← HW0.out]
   refine (mach_top _ _ _ _ _ _ _ _ HA.out r c HCS.out).mono ?_
   rintro e w1 ⟨rfl, hE1⟩
   have HA1 := hid (HA.out.ext hE1)
   have HE1 : Hid (Ext w w1) := hid (HE0.out.trans hE1)
   clear hE1
   go_wp2_with fail
   refine (mach_popAll_no _ _ _ _ _ _ _ _ HA1.out r c HCS.out 2 hlen (by omega)).mono ?_
   rintro e w2 ⟨rfl, rfl⟩
   go_wp2_with fail
   go_ret
   rw [HV.out]
   exact MEnd.mk' HE1.out.any (Agr.refl _ _) HA1.out rfl
 · obtain ⟨st, a, b, hs⟩ : ∃ st a b, c.f.stack = st ++ [a, b] := by
    rcases List.eq_nil_or_concat c.f.stack with e | ⟨s1, b, e⟩
    · rw [e] at hlen; simp at hlen
    · rw [List.concat_eq_append] at e
      rcases List.eq_nil_or_concat s1 with e2 | ⟨s2, a, e2⟩
      · rw [e, e2] at hlen; simp at hlen
      · rw [List.concat_eq_append] at e2
        exact ⟨s2, a, b, by rw [e, e2]; simp⟩
   have hvk := (M.frameOk_iff.1 (HA.out.frm HCS.out)).2.2.2.2.2.2
   have hva : M.valOk a g.os.length = true := by simpa [Gh.st] using hvk a (by rw [hs]; simp)
   have hvb : M.valOk b g.os.length = true := by simpa [Gh.st] using hvk b (by rw [hs]; simp)
   have HV : Hid (∀ vs', M.doIns p lk i g.st = if a.kind = 1 ∧ b.kind = 1 then (if M.numOk (a.n + b.n) then M.push p (M.numVal (a.n + b.n)) (g.stk r c st vs').st else (9, (g.stk r c st vs').st)) else (10, (g.stk r c st vs').st)) := hid (fun vs' => by unfold M.doIns; rw [hop]; simp only [Gh.popAll HCS.out (n := 2) hs rfl vs']; rfl)
   have HS := hid hs
   clear hs hop hvk hlen
   obtain ⟨ak, an⟩ := a
   obtain ⟨bk, bn⟩ := b
   simp only at HV
   go_enter Tryz.func53, Tryz.ntmps53
   go_wp2_with fail
   rw [← HW0.out]
   refine (mach_top _ _ _ _ _ _ _ _ HA.out r c HCS.out).mono ?_
   rintro e w1 ⟨rfl, hE1⟩
   have HA1 := hid (HA.out.ext hE1)
   have HE1 : Hid (Ext w w1) := hid (HE0.out.trans hE1)
   clear hE1
   go_wp2_with fail
   refine (mach_popAll _ _ _ _ _ _ _ _ HA1.out r c HCS.out st [⟨ak, an⟩, ⟨bk, bn⟩] 2 HS.out rfl (by omega)).mono ?_
   rintro e w2 ⟨v', rfl, hrow, hK2, vs', hM2⟩
   replace HV := hid (HV.out vs')
   obtain ⟨gt, gc, rfl, -⟩ := owns_form hrow (by omega)
   have hc0 := (owns_at (enc := valCs) (k := 2) (fun _ => rfl) (l := [⟨ak, an⟩, ⟨bk, bn⟩]) hrow (i := 0) (x := ⟨ak, an⟩) rfl).two
   have hc1 := (owns_at (enc := valCs) (k := 2) (fun _ => rfl) (l := [⟨ak, an⟩, ⟨bk, bn⟩]) hrow (i := 1) (x := ⟨bk, bn⟩) rfl).two
   simp only [Nat.zero_mul, Nat.one_mul, Nat.zero_add] at hc0 hc1
   obtain ⟨x0, x1⟩ := hc0
   obtain ⟨x2, x3⟩ := hc1
   have HM2 := hid hM2
   have HK2 : Hid (Kp (MO l own) w w2) := hid (HE1.out.any.trans hK2)
   clear hrow hK2 hM2
   by_cases hk : ak = 1 ∧ bk = 1
   · obtain ⟨rfl, rfl⟩ := hk
     have hna := M.valOk_num hva rfl
     have hnb := M.valOk_num hvb rfl
     simp only at hna hnb
     replace HV := hid (HV.out.trans (if_pos ⟨rfl, rfl⟩))
     have hws : IntKind.i64.wrap (an + bn) = an + bn := IntWalk.i64_in _ (by omega)
     obtain ⟨T, f, hneT, HT⟩ := Cls.ex (fun W' => Ext w2 W') _ (Kp.refl _ _)
     have r1 := fun z => (HT.inn z).cellE x1
     have r3 := fun z => (HT.inn z).cellE x3
     have HTH := hid HT
     clear HT
     go_wp2_with fail
     (refine region_mix f 9 [] [0, 1, 2, 3, 4, 5, 6, 7, 8] (HTH.out.out _ ?_) (by kernel_rfl) (by kernel_rfl) (fun _ _ d _ _ h => by cases d <;> exact h) ?_)
     · exact (Kp.refl _ _).drew
     (refine wpMix_nil rfl fun K hK => ?_); (change wpQuiet _ _ _ _ [_, _, _, _, _, _, _, _, _] _); (repeat (go_big_quiet_step (fail))); (refine wpQuiet_nil ?_); (refine hK _ ?_); clear hK K
     clear HTH r1 r3
     go_wp2_with fail
     have hnk := num_ok (an + bn) w2.drew
     rw [show (decide (-9999 ≤ an + bn) && decide (an + bn ≤ 9999)) = M.numOk (an + bn) from rfl] at hnk
     refine hnk.mono ?_
     rintro e w3 ⟨rfl, rfl⟩
     clear hnk
     cases hno : M.numOk (an + bn)
     · rw [hno] at HV
       replace HV : Hid (M.doIns p lk i g.st = (9, (g.stk r c st vs').st)) := hid HV.out
       clear hno
       go_wp2_with fail
       go_ret
       rw [HV.out]
       exact MEnd.mk' (HK2.out.trans ((Kp.refl _ w2).drew : Ext w2 _).any) (Agr.refl _ _) (HM2.out.ext (Kp.refl _ _).drew) rfl
     · have HNO := hid hno
       rw [hno] at HV
       replace HV : Hid (M.doIns p lk i g.st = M.push p (M.numVal (an + bn)) (g.stk r c st vs').st) := hid HV.out
       clear hno
       go_wp2_with fail
       refine (num_val (an + bn) _).mono ?_
       rintro e w3 ⟨rfl, hE3⟩
       have HE3 : Hid (Ext w2 w3) := hid (((Kp.refl _ w2).drew : Ext w2 _).trans hE3)
       clear hE3
       go_wp2_with fail
       refine (mach_put _ _ _ _ _ _ _ _ (HM2.out.ext HE3.out) r _ rfl hst (M.numVal (an + bn)) (M.valOk_numVal _ HNO.out)).mono ?_
       rintro e w4 hEnd
       have HZ := hid (MEnd.after (HK2.out.trans HE3.out.any) (Agr.refl _ _) hEnd)
       obtain ⟨rfl, -⟩ := hEnd
       rw [← HV.out] at HZ ⊢
       go_wp2_with fail
       go_ret
       exact HZ.out
   · replace HV := hid (HV.out.trans (if_neg hk))
     by_cases hka : ak = 1
     · have hkb : (bk != 1) = true := bne_iff_ne.2 (fun e => hk ⟨hka, e⟩)
       subst hka
       clear hk
       go_wp2_with fail
       go_ret
       rw [HV.out]
       exact MEnd.mk' HK2.out (Agr.refl _ _) HM2.out rfl
     · have hka' : (ak != 1) = true := bne_iff_ne.2 hka
       clear hk hka
       go_wp2_with fail
       go_ret
       rw [HV.out]
       exact MEnd.mk' HK2.out (Agr.refl _ _) HM2.out rfl
theorem do_ret (w : World) (l : Lodge) (p : M.Plan) (own : Own) (B mb : Nat) (lk : Bool) (g : Gh) (h : MachAt w l p own B mb lk g) (r : List GC) (c : GC) (hcs : g.cs = r ++ [c]) (hst : g.status = 1) (i : M.Ins) (hi : M.insIn (M.method p c.f.of) i = true) (hop : i.op = 10) :
    Calls Tryz.prog 59 #[.pointer (some ⟨mb, 0, none⟩), .agg #[.int .i64 i.op, .int .i64 i.a, .string i.name, .string i.member]] w (MEnd w l p own B mb lk (.int .i64 (M.doIns p lk i g.st).1) (M.doIns p lk i g.st).2) := by
 have HI := hid (M.ins_a hi)
 obtain ⟨w0, hw0⟩ : ∃ w0, w0 = w.alloc (.cells #[.int .i64 i.op, .int .i64 i.a, .string i.name, .string i.member] 28) := ⟨_, rfl⟩
 have hE0 : Ext w w0 := by rw [hw0]; exact (KX.k (by repeat (first | assumption | constructor)))
 have b3 : Blk w0 w.heap.size 28 #[.int .i64 i.op, .int .i64 i.a, .string i.name, .string i.member] := by rw [hw0]; exact Blk.new _ _ _
 have HNO := hid (h.fresh (Nat.le_refl _))
 have HA := hid (h.ext hE0)
 have HE0 := hid hE0
 have HB3 := hid b3
 have HW0 := hid hw0
 have HCS := hid hcs
 have hwz := b3.lt
 clear h hE0 b3 hw0 hcs hi
 rcases List.eq_nil_or_concat c.f.stack with hs | ⟨st, v, hs⟩
 · have HV : Hid (M.doIns p lk i g.st = (10, g.st)) := hid (by unfold M.doIns; rw [hop]; simp only [Gh.pop_no HCS.out hs]; rfl)
   have HS := hid hs
   clear hs hop
   go_enter Tryz.func59, Tryz.ntmps59
   go_wp2_with fail
   rw [← HW0.out]
   refine (mach_top _ _ _ _ _ _ _ _ HA.out r c HCS.out).mono ?_
   rintro e w1 ⟨rfl, hE1⟩
   have HA1 := hid (HA.out.ext hE1)
   have HE1 : Hid (Ext w w1) := hid (HE0.out.trans hE1)
   clear hE1
   go_wp2_with fail
   refine (mach_pop_no _ _ _ _ _ _ _ _ HA1.out r c HCS.out HS.out).mono ?_
   rintro e w2 ⟨rfl, hE2⟩
   have HA2 := hid (HA1.out.ext hE2)
   have HE2 : Hid (Ext w w2) := hid (HE1.out.trans hE2)
   clear hE2
   obtain ⟨w3, hw3⟩ : ∃ w3, w3 = w2.alloc (.cells #[.int .i64 0, .int .i64 0] 34) := ⟨_, rfl⟩
   have hE3 : Ext w2 w3 := by rw [hw3]; exact (KX.k (by repeat (first | assumption | constructor)))
   obtain ⟨T, f, hneT, HT⟩ := Cls.ex (fun W' => Ext w3 W') _ (Kp.refl _ _)
   have HTH := hid HT
   have HW3 := hid hw3
   have HE3 := hid hE3
   clear HT hw3 hE3
   go_wp2_with fail
   rw [← HW3.out]
   (refine region_mix f 22 [([0, 1, 2, 3, 4, 5, 6, 7, 9, 10, 11, 12, 13, 14, 15, 16, 17, 18], 8), ([], 19)] [20, 21] (HTH.out.out _ ?_) (by kernel_rfl) (by kernel_rfl) (fun _ _ d _ _ h => by cases d <;> exact h) ?_)
   · exact (Kp.refl _ _).drew
   (refine wpMix_cons rfl rfl fun K hK => ?_); (change wpQuiet _ _ _ _ [_, _, _, _, _, _, _, _, _, _, _, _, _, _, _, _, _, _] _); (repeat (go_big_quiet_step (fail))); (refine wpQuiet_nil ?_); (refine hK _ fun K2 hK2 => ?_); clear hK K; (change wpList _ _ _ [_] _ _)
   go_wp2_with fail
   (refine hK2 _ _ (HTH.out.out _ ((Kp.refl _ w3).drew : Ext w3 _)) ?_); clear hK2 K2
   (refine wpMix_cons rfl rfl fun K hK => ?_); (change wpQuiet _ _ _ _ [] _); (refine wpQuiet_nil ?_); (refine hK _ fun K2 hK2 => ?_); clear hK K; (change wpList _ _ _ [_] _ _)
   go_wp2_with fail
   (refine hK2 _ _ (HTH.out.out _ ((Kp.refl _ w3).drew : Ext w3 _)) ?_); clear hK2 K2
   (refine wpMix_nil rfl fun K hK => ?_); (change wpQuiet _ _ _ _ [_, _] _); (repeat (go_big_quiet_step (fail))); (refine wpQuiet_nil ?_); (refine hK _ ?_); clear hK K; (simp only [List.drop_succ_cons, List.drop_zero, List.drop_nil, wpList])
   go_wp2_with fail
   go_ret
   rw [HV.out]
   exact MEnd.mk' ((HE2.out.trans HE3.out).drew).any (Agr.refl _ _) (HA2.out.ext (HE3.out.drew)) rfl
 · rw [List.concat_eq_append] at hs
   have hvk := (M.frameOk_iff.1 (HA.out.frm HCS.out)).2.2.2.2.2.2 v (by rw [hs]; simp)
   have HVK : Hid (M.valOk v g.os.length = true) := hid (by simpa [Gh.st] using hvk)
   have HV : Hid (∀ vs', M.doIns p lk i g.st = if M.hasType p c.f.of.of.keeper g.st.heap v (M.method p c.f.of).ret then (if r.length = 0 then (2, { (g.stk r c st vs').st with back := v }) else M.push p v { g.st with frames := r.map GC.f }) else (10, (g.stk r c st vs').st)) := hid (fun vs' => by unfold M.doIns; rw [hop]; simp only [Gh.pop HCS.out hs vs', Gh.top HCS.out]; simp [Gh.stk, Gh.st])
   have HS := hid hs
   have HOP := hid hop
   clear hs hop hvk
   obtain ⟨vk, vn⟩ := v
   simp only at HV
   go_enter Tryz.func59, Tryz.ntmps59
   go_wp2_with fail
   rw [← HW0.out]
   refine (mach_top _ _ _ _ _ _ _ _ HA.out r c HCS.out).mono ?_
   rintro e w1 ⟨rfl, hE1⟩
   have HA1 := hid (HA.out.ext hE1)
   have HE1 := hid hE1
   clear hE1
   go_wp2_with fail
   refine (mach_pop _ _ _ _ _ _ _ _ HA1.out r c HCS.out st ⟨vk, vn⟩ HS.out).mono ?_
   rintro e w2 ⟨rfl, hK2, vs', hM2⟩
   replace HV := hid (HV.out vs')
   obtain ⟨w3, hw3⟩ : ∃ w3, w3 = w2.alloc (.cells #[.int .i64 vk, .int .i64 vn] 34) := ⟨_, rfl⟩
   have hE3 : Ext w2 w3 := by rw [hw3]; exact (KX.k (by repeat (first | assumption | constructor)))
   have b5 : Blk w3 w2.heap.size 34 #[.int .i64 vk, .int .i64 vn] := by rw [hw3]; exact Blk.new _ _ _
   have HM3 := hid (hM2.ext hE3)
   have HK3 : Hid (Kp (MO l own) w w3) := hid (((HE0.out.trans HE1.out).any.trans hK2).trans hE3.any)
   have hB33 := (HB3.out.ext HE1.out).kp hK2 HNO.out
   have y1 := hB33.c 1 (.int .i64 i.a) rfl
   have yz := hB33.lt
   have HW3 := hid hw3
   have HB5 := hid b5
   have HN5 := hid (hM2.fresh (Nat.le_refl _))
   have HKP := hid hK2
   have HE3 := hid hE3
   clear hE3 b5 hK2 hM2 hB33 hw3 y1 yz
   obtain ⟨ha, hcap, hva⟩ := HM3.out.heap.form
   have hhr := HM3.out.heapR
   have hc3 := HM3.out.at_ rfl
   obtain ⟨T, f, hneT, HT⟩ := Cls.ex (fun W' => Ext w3 W') _ (Kp.refl _ _)
   have rm0 := fun z => (HM3.out.ext (HT.inn z)).blk.c 0 (.pointer (some ⟨l.L, 0, none⟩)) rfl
   have rm4 := fun z => (HM3.out.ext (HT.inn z)).blk.c 4 (.slice ha g.os.length hcap) (by rw [show (Value.slice ha g.os.length hcap) = g.vh from hva.symm]; rfl)
   have r60 := fun z => (HB5.out.ext (HT.inn z)).c 0 (.int .i64 vk) rfl
   have r61 := fun z => (HB5.out.ext (HT.inn z)).c 1 (.int .i64 vn) rfl
   have rc5 := fun z => (hc3.blk.ext (HT.inn z)).c 5 (.int .i64 (M.method p c.f.of).ret.kind) rfl
   have rc6 := fun z => (hc3.blk.ext (HT.inn z)).c 6 (.string (M.method p c.f.of).ret.name) rfl
   have hk0 := fun W (hW : Ext w3 W) => (hc3.blk.ext hW).c 0 (.int .i64 c.f.of.of.keeper) rfl
   have HK0 := hid hk0
   have hht := fun W (hW : Ext w3 W) => lodge_hasType W l p (HM3.out.lod.ext hW) c.f.of.of.keeper (.slice ha g.os.length hcap) g.st.heap (by
    have := hhr.ext hW
    rw [show (Value.slice ha g.os.length hcap) = g.vh from hva.symm]; exact this) ⟨vk, vn⟩ (fun e => by have := M.valOk_ref HVK.out e; simpa [Gh.st] using this) (M.method p c.f.of).ret
   have HHT := hid hht
   have HTH := hid HT
   clear HT hc3 hk0 hht hhr hva
   go_wp2_with fail
   rw [← HW3.out]
   (refine region_mix f 22 [([0, 1, 2, 3, 4, 5, 6, 7, 9, 10, 11, 12, 13, 14, 15, 16, 17, 18], 8), ([], 19)] [20, 21] (HTH.out.out _ ?_) (by kernel_rfl) (by kernel_rfl) (fun _ _ d _ _ h => by cases d <;> exact h) ?_)
   · exact (Kp.refl _ _).drew
   (refine wpMix_cons rfl rfl fun K hK => ?_); (change wpQuiet _ _ _ _ [_, _, _, _, _, _, _, _, _, _, _, _, _, _, _, _, _, _] _); (repeat (go_big_quiet_step (fail))); (refine wpQuiet_nil ?_); (refine hK _ fun K2 hK2 => ?_); clear hK K; (change wpList _ _ _ [_] _ _)
   go_wp2_with fail
   refine (call_keeper _ _ _ (HK0.out _ (Kp.refl _ _).drew)).mono ?_
   rintro e we ⟨rfl, rfl⟩
   go_wp2_with fail
   (refine hK2 _ _ (HTH.out.out _ ((Kp.refl _ w3).drew : Ext w3 _)) ?_); clear hK2 K2
   (refine wpMix_cons rfl rfl fun K hK => ?_); (change wpQuiet _ _ _ _ [] _); (refine wpQuiet_nil ?_); (refine hK _ fun K2 hK2 => ?_); clear hK K; (change wpList _ _ _ [_] _ _)
   go_wp2_with fail
   refine (HHT.out _ (Kp.refl _ _).drew).mono ?_
   rintro e w4 ⟨rfl, hE4⟩
   have HE4 : Hid (Ext w3 w4) := hid (((Kp.refl _ w3).drew : Ext w3 _).trans hE4)
   have hM4 := HM3.out.ext HE4.out
   have hB4 := HB5.out.ext HE4.out
   have q0 := hB4.c 0 (.int .i64 vk) rfl
   have q1 := hB4.c 1 (.int .i64 vn) rfl
   have qz := hB4.lt
   have hnm : ¬ mb = w2.heap.size := fun e => HN5.out (.inr (by rw [← e, HM3.out.role]; simp))
   have hnm2 : ¬ w2.heap.size = mb := fun e => hnm e.symm
   have hrow := hM4.calls.row
   have hrn : (g.stk r c st vs').cs.length = r.length + 1 := by simp [Gh.stk]
   rw [hrn] at hrow
   obtain ⟨vb, vcap, hvc, -, -, hvcap⟩ := owns_form hrow (by omega)
   have m3 := hM4.blk.c 3 (.slice (some ⟨vb, 0, none⟩) (r.length + 1) vcap) (by rw [← hvc]; rfl)
   have f3 := hM4.blk.frozen 3
   have m6 := hM4.blk.c 6 (.int .i64 g.back.kind) rfl
   have m7 := hM4.blk.c 7 (.int .i64 g.back.n) rfl
   have f6 := hM4.blk.frozen 6
   have f7 := hM4.blk.frozen 7
   have mz := hM4.blk.lt
   have HM4 := hid hM4
   have HVC := hid hvc
   have hr8 : r.length + 1 ≤ 8 := by have := HA.out.good.nf; rw [Gh.fr HCS.out] at this; simpa using this
   clear hE4 hM4 hB4 hrow hrn hvc
   cases hty : M.hasType p c.f.of.of.keeper g.st.heap ⟨vk, vn⟩ (M.method p c.f.of).ret
   · rw [hty] at HV
     replace HV : Hid (M.doIns p lk i g.st = (10, (g.stk r c st vs').st)) := hid HV.out
     clear hty
     go_wp2_with fail
     (refine hK2 _ _ (HTH.out.out _ HE4.out) ?_); clear hK2 K2
     (refine wpMix_nil rfl fun K hK => ?_); (change wpQuiet _ _ _ _ [_, _] _); (repeat (go_big_quiet_step (fail))); (refine wpQuiet_nil ?_); (refine hK _ ?_); clear hK K; (simp only [List.drop_succ_cons, List.drop_zero, List.drop_nil, wpList])
     go_wp2_with fail
     go_ret
     rw [HV.out]
     exact MEnd.mk' (HK3.out.trans HE4.out.any) (Agr.refl _ _) HM4.out rfl
   · rw [hty] at HV
     replace HV : Hid (M.doIns p lk i g.st = if r.length = 0 then (2, { (g.stk r c st vs').st with back := ⟨vk, vn⟩ }) else M.push p ⟨vk, vn⟩ { g.st with frames := r.map GC.f }) := hid HV.out
     clear hty
     by_cases hr0 : r.length = 0
     · replace HV : Hid (M.doIns p lk i g.st = (2, { (g.stk r c st vs').st with back := ⟨vk, vn⟩ })) := hid (HV.out.trans (if_pos hr0))
       go_wp2_with fail
       (refine hK2 _ _ (HTH.out.out _ HE4.out) ?_); clear hK2 K2
       clear HTH rm0 rm4 r60 r61 rc5 rc6
       (refine wpMix_nil rfl fun K hK => ?_); (change wpQuiet _ _ _ _ [_, _] _); (repeat (go_big_quiet_step (fail))); (refine wpQuiet_nil ?_); (refine hK _ ?_); clear hK K; (simp only [List.drop_succ_cons, List.drop_zero, List.drop_nil, wpList])
       go_wp2_with fail
       go_ret
       rw [HV.out]
       have hk : Kp (· = mb) w4 ((w4.setCell ⟨mb, 6, none⟩ (.int .i64 vk)).setCell ⟨mb, 7, none⟩ (.int .i64 vn)) := ((Kp.refl (· = mb) w4).setCell (p := ⟨mb, 6, none⟩) (fun _ => rfl) _).setCell (p := ⟨mb, 7, none⟩) (fun _ => rfl) _
       have hk' : Kp (PO own (· = (0, 0))) w4 ((w4.setCell ⟨mb, 6, none⟩ (.int .i64 vk)).setCell ⟨mb, 7, none⟩ (.int .i64 vn)) := hk.weak fun b _ e => ⟨_, by rw [e]; exact HM4.out.role, rfl⟩
       have hG := HM4.out.good
       exact MEnd.mk' ((HK3.out.trans HE4.out.any).trans (hk'.weak fun b _ e => e.mo)) (Agr.refl _ _) (HM4.out.setMach { (g.stk r c st vs') with back := ⟨vk, vn⟩ } hk' ((HM4.out.blk.set_ 6 _).set_ 7 _) (.inl ⟨rfl, rfl⟩) ⟨rfl, rfl, rfl, rfl⟩ ⟨hG.heap, hG.frames, hG.nf, hG.outs, hG.outsOk, by simpa [Gh.st, Gh.stk] using HVK.out⟩) rfl
     · replace HV : Hid (M.doIns p lk i g.st = M.push p ⟨vk, vn⟩ { g.st with frames := r.map GC.f }) := hid (HV.out.trans (if_neg hr0))
       obtain ⟨r2, c2, hr2⟩ : ∃ r2 c2, r = r2 ++ [c2] := by
        rcases List.eq_nil_or_concat r with e | ⟨r2, c2, e⟩
        · rw [e] at hr0; exact absurd rfl hr0
        · exact ⟨r2, c2, by rw [e, List.concat_eq_append]⟩
       have HR2 := hid hr2
       clear hr2
       have hne1 : ((r.length : Int) + 1 == 1) = false := beq_eq_false_iff_ne.2 (by omega)
       have hne2 : ¬ r.length = 0 := hr0
       have hne3 : ((r.length : Int) == 0) = false := beq_eq_false_iff_ne.2 (by omega)
       have hwr : IntKind.i64.wrap ((r.length : Int) + 1 - 1) = r.length := by rw [IntWalk.i64_in _ (by omega)]; omega
       have hs0 : (0 : Int) ≤ r.length := by omega
       have hs1 : (r.length : Int) ≤ vcap := by omega
       have hk : Kp (· = mb) w4.drew (w4.drew.setCell ⟨mb, 3, none⟩ (.slice (some ⟨vb, 0, none⟩) r.length vcap)) := (Kp.refl (· = mb) w4.drew).setCell (p := ⟨mb, 3, none⟩) (fun _ => rfl) _
       have hM4d := HM4.out.ext ((Kp.refl _ w4).drew : Ext w4 w4.drew)
       have hk' : Kp (PO own (· = (0, 0))) w4.drew (w4.drew.setCell ⟨mb, 3, none⟩ (.slice (some ⟨vb, 0, none⟩) r.length vcap)) := hk.weak fun b _ e => ⟨_, by rw [e]; exact HM4.out.role, rfl⟩
       have hG := HM4.out.good
       have hM5 : MachAt (w4.drew.setCell ⟨mb, 3, none⟩ (.slice (some ⟨vb, 0, none⟩) r.length vcap)) l p own B mb lk { (g.stk r c st vs') with cs := r, vc := .slice (some ⟨vb, 0, none⟩) r.length vcap } := by
        refine hM4d.setMach { (g.stk r c st vs') with cs := r, vc := .slice (some ⟨vb, 0, none⟩) r.length vcap } hk' (hM4d.blk.set_ 3 _) (.inr ⟨?_, [_], rfl⟩) ⟨rfl, rfl, rfl, rfl⟩ ?_
        · have h1 := hM4d.calls
          have h2 : OwnS w4.drew own B (1, 0) 112 1 (.slice (some ⟨vb, 0, none⟩) (r.length + 1) vcap) (r.length + 1) ((r ++ [{ c with f := { c.f with stack := st }, vs := vs' }]).flatMap ptrCs) := by
           have e1 : (g.stk r c st vs').vc = .slice (some ⟨vb, 0, none⟩) (r.length + 1) vcap := HVC.out
           have e2 : (g.stk r c st vs').cs.length = r.length + 1 := by simp [Gh.stk]
           rw [← e1, ← e2]; exact h1
          have h3 := h2.take (j := r.length) (by omega)
          rw [flat_take (enc := ptrCs) (k := 1) (fun _ => rfl)] at h3
          exact h3
        · exact ⟨hG.heap, (fun f hf => hG.frames f (by simp only [Gh.st, Gh.stk, List.map_append, List.mem_append]; exact .inl hf)), by simp [Gh.st]; omega, hG.outs, hG.outsOk, hG.back⟩
       have HM5 := hid hM5
       have HK5 : Hid (Kp (MO l own) w (w4.drew.setCell ⟨mb, 3, none⟩ (.slice (some ⟨vb, 0, none⟩) r.length vcap))) := hid (((HK3.out.trans HE4.out.any).trans ((Kp.refl _ w4).drew : Ext w4 _).any).trans (hk'.weak fun b _ e => e.mo))
       obtain ⟨T2, f2, hneT2, HT2⟩ := Cls.ex (fun W' => Ext w4 W') _ (Kp.refl _ _)
       have s3 := fun z => (HM4.out.ext (HT2.inn z)).blk.c 3 (.slice (some ⟨vb, 0, none⟩) (r.length + 1) vcap) (by rw [← HVC.out]; rfl)
       have HTH2 := hid HT2
       clear HT2 hk hk' hM4d hG hM5 hr0 m6 m7 f6 f7
       go_wp2_with fail
       (refine hK2 _ _ (HTH.out.out _ HE4.out) ?_); clear hK2 K2
       clear HTH rm0 rm4 r60 r61 rc5 rc6
       (refine wpMix_nil rfl fun K hK => ?_); (change wpQuiet _ _ _ _ [_, _] _); (repeat (go_big_quiet_step (fail))); (refine wpQuiet_nil ?_); (refine hK _ ?_); clear hK K; (simp only [List.drop_succ_cons, List.drop_zero, List.drop_nil, wpList])
       go_wp2_with fail
       (refine region_mix f2 12 [] [0, 1, 2, 3, 4, 5, 6, 7, 8, 9, 10, 11] (HTH2.out.out _ ?_) (by kernel_rfl) (by kernel_rfl) (fun _ _ d _ _ h => by cases d <;> exact h) ?_)
       · exact (Kp.refl _ _).drew
       (refine wpMix_nil rfl fun K hK => ?_); (change wpQuiet _ _ _ _ [_, _, _, _, _, _, _, _, _, _, _, _] _); (repeat (go_big_quiet_step (fail))); (refine wpQuiet_nil ?_); (refine hK _ ?_); clear hK K
       clear HTH2 s3
       go_wp2_with fail
       refine (mach_put _ _ _ _ _ _ _ _ HM5.out r2 c2 HR2.out hst ⟨vk, vn⟩ HVK.out).mono ?_
       rintro e w6 hEnd
       have HZ := hid (MEnd.after HK5.out (Agr.refl _ _) hEnd)
       obtain ⟨rfl, -⟩ := hEnd
       replace HV : Hid (M.doIns p lk i g.st = M.push p ⟨vk, vn⟩ ({ (g.stk r c st vs') with cs := r, vc := .slice (some ⟨vb, 0, none⟩) r.length vcap } : Gh).st) := hid HV.out
       rw [← HV.out] at HZ ⊢
       go_wp2_with fail
       go_ret
       exact HZ.out
end Go.Proofs.YtjdfceejkneofaaGreat
