/- Walks: the looker's put, takeAs, takeObject.; Walks: the looker's takeObject, mapAt.; Walks: the looker's suffices.; Walks: the looker's branch, meet.; Walks: the looker's plain instructions. -/
import Derived.Test.YtjdfceejkneofaaGreatJai
set_option maxRecDepth 100000
set_option maxHeartbeats 4000000
set_option linter.unusedSimpArgs false
set_option linter.unusedVariables false
namespace Go.Proofs.YtjdfceejkneofaaGreat
open Go Go.RowKit
open Go.Lib (hid)
theorem look_put_no (w : World) (l : Lodge) (p : M.Plan) (B kb : Nat) (k : Int) (m : M.Method) (t : MSl) (at_ : Int) (s : M.Frm) (vl vs : Value) (h : LookAt w l p B kb k m t at_ s vl vs) (x : M.Tag) (hs : m.stack ≤ s.stack.length) :
    Calls Tryz.prog 140 #[.pointer (some ⟨kb, 0, none⟩), .agg #[.int .i64 x.kind, .string x.name]] w fun e w' => e = .panicked (wrongP (at_ + 1)) ∧ Ext w w' := by
 obtain ⟨a, c, rfl⟩ := owns_val h.stk
 obtain ⟨w0, hw0⟩ : ∃ w0, w0 = w.alloc (.cells #[.int .i64 x.kind, .string x.name] 25) := ⟨_, rfl⟩
 have hE0 : Ext w w0 := by rw [hw0]; exact (KX.k (by repeat (first | assumption | constructor)))
 have hA := h.ext hE0
 obtain ⟨T, f, hneT, HT⟩ := Cls.ex (fun W' => Ext w0 W') _ (Kp.refl _ _)
 have r12 := fun s' => (hA.blk.ext (HT.inn s')).c 12 (.slice a s.stack.length c) rfl
 have r7 := fun s' => (hA.blk.ext (HT.inn s')).c 7 (.int .i64 m.stack) rfl
 have r10 := fun s' => (hA.blk.ext (HT.inn s')).c 10 (.int .i64 at_) rfl
 have HTH := hid HT
 have HW0 := hid hw0
 have HE0 := hid hE0
 have hat := h.hat
 have hd : decide (m.stack ≤ (s.stack.length : Int)) = true := decide_eq_true hs
 clear h hs HT hw0 hE0 hA
 go_enter Tryz.func140, Tryz.ntmps140
 go_wp2_with fail
 rw [← HW0.out]
 (refine region_in f (HTH.out.out _ ?_) (by kernel_rfl) (by kernel_rfl) ?_); rotate_left; (repeat (go_big_quiet_step ((fail)))); (refine wpQuiet_nil ?_); (rintro _ ⟨sW, rfl⟩); rotate_left
 · exact (Kp.refl _ _).drew
 go_wp2_with fail
 refine (look_wrong _ kb at_ (r10 sW) hat.1 (by omega)).mono ?_
 rintro e w1 ⟨rfl, rfl⟩
 exact ⟨rfl, rfl, HE0.out.trans (HTH.out.inn sW)⟩
theorem look_put (w : World) (l : Lodge) (p : M.Plan) (B kb : Nat) (k : Int) (m : M.Method) (t : MSl) (at_ : Int) (s : M.Frm) (vl vs : Value) (h : LookAt w l p B kb k m t at_ s vl vs) (x : M.Tag) (hs : (s.stack.length : Int) < m.stack) :
    Calls Tryz.prog 140 #[.pointer (some ⟨kb, 0, none⟩), .agg #[.int .i64 x.kind, .string x.name]] w fun e w' => e = .returned (.tuple #[]) ∧ (∃ vs', LookAt w' l p B kb k m t at_ ⟨s.locals, s.stack ++ [x]⟩ vl vs' ∧ OwnSub w.heap.size vl vs vl vs') ∧ Kp (LkO l kb vl vs) w w' := by
 obtain ⟨a, c, rfl⟩ := owns_val h.stk
 obtain ⟨w0, hw0⟩ : ∃ w0, w0 = w.alloc (.cells #[.int .i64 x.kind, .string x.name] 25) := ⟨_, rfl⟩
 have hE0 : Ext w w0 := by rw [hw0]; exact (KX.k (by repeat (first | assumption | constructor)))
 have b3 : Blk w0 w.heap.size 25 #[.int .i64 x.kind, .string x.name] := by rw [hw0]; exact Blk.new _ _ _
 have hA := h.ext hE0
 obtain ⟨T, f, hneT, HT⟩ := Cls.ex (fun W' => Ext w0 W') _ (Kp.refl _ _)
 have r12 := fun s' => (hA.blk.ext (HT.inn s')).c 12 (.slice a s.stack.length c) rfl
 have r7 := fun s' => (hA.blk.ext (HT.inn s')).c 7 (.int .i64 m.stack) rfl
 have HTH := hid HT
 have HW0 := hid hw0
 have HE0 := hid hE0
 have HA := hid hA
 have HB3 := hid b3
 have H := hid h
 have hd : decide (m.stack ≤ (s.stack.length : Int)) = false := decide_eq_false (by omega)
 clear h HT hw0 hE0 hA b3
 go_enter Tryz.func140, Tryz.ntmps140
 go_wp2_with fail
 rw [← HW0.out]
 (refine region_in f (HTH.out.out _ ?_) (by kernel_rfl) (by kernel_rfl) ?_); rotate_left; (repeat (go_big_quiet_step ((fail)))); (refine wpQuiet_nil ?_); (rintro _ ⟨sW, rfl⟩); rotate_left
 · exact (Kp.refl _ _).drew
 go_wp2_with fail
 have hE1 := HTH.out.inn sW
 generalize f sW = w1 at *
 clear HTH r12 r7
 have hA1 := HA.out.ext hE1
 have b31 := HB3.out.ext hE1
 have hz01 := hE1.size
 have hzw : w.heap.size < w0.heap.size := by rw [HW0.out]; simp
 obtain ⟨T, f, hneT, HT⟩ := Cls.ex (fun W' => Kp (fun b => (Value.slice a s.stack.length c).ownBlock = some b) w1 W') _ (Kp.refl _ _)
 have hnw : ¬ (Value.slice a s.stack.length c).ownBlock = some w.heap.size := fun e => by have := (H.out.stk.lt _ e).2; omega
 have r12 := fun s' => (hA1.blk.kp (HT.inn s') hA1.neb.2).c 12 (.slice a s.stack.length c) rfl
 have r0 := fun s' => (b31.kp (HT.inn s') hnw).c 0 (.int .i64 x.kind) rfl
 have r1 := fun s' => (b31.kp (HT.inn s') hnw).c 1 (.string x.name) rfl
 have HTH := hid HT
 have HA1 := hid hA1
 have HE1 := hid hE1
 have hm5 : s.stack.length + 1 ≤ 4294967296 := by have := hA1.mi.stack; omega
 have hBw : B ≤ w1.heap.size := by have := hA1.blk.lt; have := hA1.hk; omega
 clear HT hA1 b31 hE1 hnw
 (refine region_mix f 8 [([0, 1, 2, 3, 4, 5], 6), ([], 7)] [] (HTH.out.out _ ?_) (by kernel_rfl) (by kernel_rfl) (fun _ _ d _ _ h => by cases d <;> exact h) ?_)
 · exact (Kp.refl _ _).drew
 (refine wpMix_cons rfl rfl fun K hK => ?_); (change wpQuiet _ _ _ _ [_, _, _, _, _, _] _); (repeat (go_big_quiet_step (fail))); (refine wpQuiet_nil ?_); (refine hK _ fun K2 hK2 => ?_); clear hK K; (change wpList _ _ _ [_] _ _)
 go_wp2_with fail
 (refine hK2 _ _ (HTH.out.out _ (KX.k (by repeat (first | assumption | constructor)))) ?_); clear hK2 K2
 (refine wpMix_cons rfl rfl fun K hK => ?_); (change wpQuiet _ _ _ _ [] _); (refine wpQuiet_nil ?_); (refine hK _ fun K2 hK2 => ?_); clear hK K; (change wpList _ _ _ [_] _ _)
 refine wpList_append_at elem_tag rfl (.tmp 21) (.tmp 23) rfl B (.slice a s.stack.length c) s.stack.length _ rfl (owns_kp (D := fun _ => False) HA1.out.stk (KX.k (by repeat (first | assumption | constructor))) fun _ _ _ x => x) w1.heap.size 1 (tagCs x) rfl rfl (CellsAt.newD _ _ rfl) (one_tag _) hm5 (by simp; omega) ?_
 intro g2 c2 w2 hO2 hKp hg2
 change K2 _ _
 have hKW : Kp (fun b => (Value.slice a s.stack.length c).ownBlock = some b) w1 w2 := ((KX.k (by repeat (first | assumption | constructor))) : Ext w1 _).any.trans hKp
 (refine hK2 _ _ (HTH.out.out _ hKW) ?_); clear hK2 K2
 have hB2 := HA1.out.blk.kp hKW HA1.out.neb.2
 have d0 := hB2.c 12 (.slice a s.stack.length c) rfl
 have e0 := hB2.frozen 12
 have z1 := hB2.lt
 have HB2 := hid hB2
 have HO2 := hid hO2
 have HKW := hid hKW
 have HG2 := hid hg2
 clear hO2 hKp hKW hB2 hg2 r12 r0 r1
 (refine wpMix_nil rfl fun K hK => ?_); (change wpQuiet _ _ _ _ [] _); (refine wpQuiet_nil ?_); (refine hK _ ?_); clear hK K
 go_wp2_with fail
 ((try simp only [Exit.inBlock, Exit.then]); (first | refine bodyPost_ret (results_none rfl _ _ _) rfl ?_ | refine bodyPost_end (results_none rfl _ _ _) rfl ?_))
 have hst : ∀ D : Nat → Prop, D kb → ∀ v, Kp D w2 (w2.setCell ⟨kb, 12, none⟩ v) := fun D hD v => (Kp.refl D w2).setCell (p := ⟨kb, 12, none⟩) (fun _ => hD) v
 have hlen : (s.stack ++ [x]).length = s.stack.length + 1 := by simp
 have hgk : g2 ≠ kb := fun e => by
  subst e
  rcases HG2.out with h | h
  · exact HA1.out.neb.2 h
  · have := HA1.out.blk.lt
    simp at h; omega
 obtain ⟨hS, hKS, hOS⟩ := HA1.out.setStack (st := s.stack ++ [x]) (vs' := .slice (some ⟨g2, 0, none⟩) (s.stack.length + 1) c2) ((HKW.out.weak fun b _ h => .inr h).trans (hst _ (.inl rfl) (.slice (some ⟨g2, 0, none⟩) (s.stack.length + 1) c2))) (HB2.out.set_ 12 _) (by
  have h2 := owns_kp HO2.out (hst (· = kb) rfl (.slice (some ⟨g2, 0, none⟩) (s.stack.length + 1) c2)) (fun q hq _ e => by cases hq; exact hgk e)
  rw [hlen]
  simpa using h2) (fun q hq => by
   have hgq : g2 = q := by simpa [Value.ownBlock] using hq
   subst hgq
   rcases HG2.out with h | h
   · exact .inl h
   · right; simp at h; omega) (by rw [hlen]; omega)
 exact ⟨rfl, ⟨_, hS, hOS.le (by omega)⟩, ((HE0.out.trans HE1.out).any).trans hKS⟩
def LkEnd (w : World) (l : Lodge) (p : M.Plan) (B kb : Nat) (k : Int) (m : M.Method) (t : MSl) (at_ : Int) (vl vs : Value) (o : Option M.Frm) (e : Ending) (w' : World) : Prop :=
 Kp (LkO l kb vl vs) w w' ∧ LodgeAt w' l p ∧
 ((o = none ∧ e = .panicked (wrongP (at_ + 1))) ∨ ∃ s', o = some s' ∧ e = .returned (.tuple #[]) ∧ ∃ vl' vs', LookAt w' l p B kb k m t at_ s' vl' vs' ∧ OwnSub w.heap.size vl vs vl' vs')
theorem look_put' (w : World) (l : Lodge) (p : M.Plan) (B kb : Nat) (k : Int) (m : M.Method) (t : MSl) (at_ : Int) (s : M.Frm) (vl vs : Value) (h : LookAt w l p B kb k m t at_ s vl vs) (x : M.Tag) :
    Calls Tryz.prog 140 #[.pointer (some ⟨kb, 0, none⟩), .agg #[.int .i64 x.kind, .string x.name]] w (LkEnd w l p B kb k m t at_ vl vs (M.lkPut m x s)) := by
 by_cases hs : m.stack ≤ s.stack.length
 · refine (look_put_no w l p B kb k m t at_ s vl vs h x hs).mono ?_
   rintro e w' ⟨rfl, hE⟩
   exact ⟨hE.any, h.lod.ext hE, .inl ⟨by unfold M.lkPut; rw [if_pos hs], rfl⟩⟩
 · refine (look_put w l p B kb k m t at_ s vl vs h x (by omega)).mono ?_
   rintro e w' ⟨rfl, ⟨vs', hS, hO⟩, hK⟩
   exact ⟨hK, hS.lod, .inr ⟨_, by unfold M.lkPut; rw [if_neg hs], rfl, _, _, hS, hO⟩⟩
theorem look_takeAs (w : World) (l : Lodge) (p : M.Plan) (B kb : Nat) (k : Int) (m : M.Method) (t : MSl) (at_ : Int) (s : M.Frm) (vl vs : Value) (h : LookAt w l p B kb k m t at_ s vl vs) (x : M.Tag) :
    Calls Tryz.prog 143 #[.pointer (some ⟨kb, 0, none⟩), .agg #[.int .i64 x.kind, .string x.name]] w (LkEnd w l p B kb k m t at_ vl vs (M.lkAs p k x s)) := by
 obtain ⟨w0, hw0⟩ : ∃ w0, w0 = w.alloc (.cells #[.int .i64 x.kind, .string x.name] 25) := ⟨_, rfl⟩
 have hE0 : Ext w w0 := by rw [hw0]; exact (KX.k (by repeat (first | assumption | constructor)))
 have b3 : Blk w0 w.heap.size 25 #[.int .i64 x.kind, .string x.name] := by rw [hw0]; exact Blk.new _ _ _
 have hA := h.ext hE0
 have hOw := h.lod.ord
 have hLw := h.lod.lt
 have hkw := h.blk.lt
 have hat := h.hat
 obtain ⟨T, f, hneT, HT⟩ := Cls.ex (fun W' => Blk W' w.heap.size 25 #[.int .i64 x.kind, .string x.name] ∧ ∃ s' vl' vs', LookAt W' l p B kb k m t at_ s' vl' vs') w0 ⟨b3, _, _, _, hA⟩
 have r0 : ∀ q, (f q).cell? ⟨kb, 0, none⟩ = some (.pointer (some ⟨l.L, 0, none⟩)) := fun q => by
  obtain ⟨_, s', vl', vs', hq⟩ := HT.inn q
  exact hq.blk.c 0 _ rfl
 have r1 : ∀ q, (f q).cell? ⟨kb, 1, none⟩ = some (.int .i64 k) := fun q => by
  obtain ⟨_, s', vl', vs', hq⟩ := HT.inn q
  exact hq.blk.c 1 _ rfl
 have r3 := fun q => (HT.inn q).1.c 0 (.int .i64 x.kind) rfl
 have r4 := fun q => (HT.inn q).1.c 1 (.string x.name) rfl
 have HTH := hid HT
 have HW0 := hid hw0
 have HE0 := hid hE0
 have HA := hid hA
 have HB3 := hid b3
 have H := hid h
 clear h HT hw0 hE0 hA b3
 rcases List.eq_nil_or_concat s.stack with hs | ⟨st, y, hs⟩
 · have HO : Hid (M.lkAs p k x s = none) := hid (by unfold M.lkAs M.lkTake; rw [hs]; rfl)
   have HS := hid hs
   clear hs
   go_enter Tryz.func143, Tryz.ntmps143
   go_wp2_with fail
   rw [← HW0.out]
   (refine region_mix f 13 [([0, 1, 2, 3, 4, 5, 6, 7, 8, 10], 9), ([], 11)] [12] (HTH.out.out _ ?_) (by kernel_rfl) (by kernel_rfl) (fun _ _ d _ _ h => by cases d <;> exact h) ?_)
   · exact ⟨HB3.out.ext (Kp.refl _ _).drew, _, _, _, HA.out.ext (Kp.refl _ _).drew⟩
   (refine wpMix_cons rfl rfl fun K hK => ?_); (change wpQuiet _ _ _ _ [_, _, _, _, _, _, _, _, _, _] _); (repeat (go_big_quiet_step (fail))); (refine wpQuiet_nil ?_); (refine hK _ fun K2 hK2 => ?_); clear hK K; (change wpList _ _ _ [_] _ _)
   go_wp2_with fail
   refine (look_take_no _ _ _ _ _ _ _ _ _ _ _ _ (HA.out.ext (Kp.refl _ _).drew) HS.out).mono ?_
   rintro e w1 ⟨rfl, hE1⟩
   have hE : Ext w w1 := (HE0.out.trans (Kp.refl _ _).drew).trans hE1
   exact ⟨rfl, hE.any, H.out.lod.ext hE, .inl ⟨HO.out, rfl⟩⟩
 · rw [List.concat_eq_append] at hs
   have HO : Hid (M.lkAs p k x s = if M.may p k y x then some ⟨s.locals, st⟩ else none) := hid (by unfold M.lkAs M.lkTake; rw [hs]; simp)
   have HS := hid hs
   clear hs
   go_enter Tryz.func143, Tryz.ntmps143
   go_wp2_with fail
   rw [← HW0.out]
   (refine region_mix f 13 [([0, 1, 2, 3, 4, 5, 6, 7, 8, 10], 9), ([], 11)] [12] (HTH.out.out _ ?_) (by kernel_rfl) (by kernel_rfl) (fun _ _ d _ _ h => by cases d <;> exact h) ?_)
   · exact ⟨HB3.out.ext (Kp.refl _ _).drew, _, _, _, HA.out.ext (Kp.refl _ _).drew⟩
   (refine wpMix_cons rfl rfl fun K hK => ?_); (change wpQuiet _ _ _ _ [_, _, _, _, _, _, _, _, _, _] _); (repeat (go_big_quiet_step (fail))); (refine wpQuiet_nil ?_); (refine hK _ fun K2 hK2 => ?_); clear hK K; (change wpList _ _ _ [_] _ _)
   go_wp2_with fail
   refine (look_take _ _ _ _ _ _ _ _ _ _ _ _ (HA.out.ext (Kp.refl _ _).drew) st y HS.out).mono ?_
   rintro e w1 ⟨rfl, ⟨vs1, hA1, hO1⟩, hK1⟩
   have hKw : Kp (LkO l kb vl vs) w w1 := ((HE0.out.trans (Kp.refl _ _).drew).any).trans hK1
   have hb1 : Blk w1 w.heap.size 25 #[.int .i64 x.kind, .string x.name] := (HB3.out.ext (Kp.refl _ _).drew).kp hK1 (fun e => by
    rcases e with e | e | e | e
    · omega
    · omega
    · have := (H.out.loc.lt _ e).2; omega
    · have := (H.out.stk.lt _ e).2; omega)
   have HA1 := hid hA1
   have HB1 := hid hb1
   have HKw := hid hKw
   have HO1 : Hid (OwnSub w.heap.size vl vs vl vs1) := hid (hO1.le (by have := HE0.out.size; exact this))
   clear hA1 hO1 hK1 hKw hb1
   go_wp2_with fail
   (refine hK2 _ _ (HTH.out.out _ ⟨HB1.out, _, _, _, HA1.out⟩) ?_); clear hK2 K2
   (refine wpMix_cons rfl rfl fun K hK => ?_); (change wpQuiet _ _ _ _ [] _); (refine wpQuiet_nil ?_); (refine hK _ fun K2 hK2 => ?_); clear hK K; (change wpList _ _ _ [_] _ _)
   go_wp2_with fail
   refine (lodge_may _ _ _ HA1.out.lod k y x).mono ?_
   rintro e w2 ⟨rfl, hE2⟩
   have HA2 := hid (HA1.out.ext hE2)
   have HKw2 : Hid (Kp (LkO l kb vl vs) w w2) := hid (HKw.out.trans hE2.any)
   have HB2 := hid (HB1.out.ext hE2)
   clear hE2
   cases hmay : M.may p k y x
   · have HO2 : Hid (M.lkAs p k x s = none) := hid (by rw [HO.out, hmay]; rfl)
     clear hmay
     go_wp2_with fail
     (refine hK2 _ _ (HTH.out.out _ ⟨HB2.out, _, _, _, HA2.out⟩) ?_); clear hK2 K2
     (refine wpMix_nil rfl fun K hK => ?_); (change wpQuiet _ _ _ _ [_] _); (repeat (go_big_quiet_step (fail))); (refine wpQuiet_nil ?_); (refine hK _ ?_); clear hK K; (simp only [List.drop_succ_cons, List.drop_zero, List.drop_nil, wpList])
     go_wp2_with fail
     refine (look_wrong _ kb at_ (HA2.out.blk.c 10 _ rfl) hat.1 (by omega)).mono ?_
     rintro e w3 ⟨rfl, rfl⟩
     exact ⟨rfl, HKw2.out, HA2.out.lod, .inl ⟨HO2.out, rfl⟩⟩
   · have HO2 : Hid (M.lkAs p k x s = some ⟨s.locals, st⟩) := hid (by rw [HO.out, hmay]; rfl)
     clear hmay
     go_wp2_with fail
     (refine hK2 _ _ (HTH.out.out _ ⟨HB2.out, _, _, _, HA2.out⟩) ?_); clear hK2 K2
     (refine wpMix_nil rfl fun K hK => ?_); (change wpQuiet _ _ _ _ [_] _); (repeat (go_big_quiet_step (fail))); (refine wpQuiet_nil ?_); (refine hK _ ?_); clear hK K; (simp only [List.drop_succ_cons, List.drop_zero, List.drop_nil, wpList])
     go_wp2_with fail
     ((try simp only [Exit.inBlock, Exit.then]); (first | refine bodyPost_ret (results_none rfl _ _ _) rfl ?_ | refine bodyPost_end (results_none rfl _ _ _) rfl ?_))
     exact ⟨HKw2.out, HA2.out.lod, .inr ⟨_, HO2.out, rfl, _, _, HA2.out, HO1.out⟩⟩
theorem look_takeObject (w : World) (l : Lodge) (p : M.Plan) (B kb : Nat) (k : Int) (m : M.Method) (t : MSl) (at_ : Int) (s : M.Frm) (vl vs : Value) (h : LookAt w l p B kb k m t at_ s vl vs) :
    Calls Tryz.prog 147 #[.pointer (some ⟨kb, 0, none⟩)] w (LkEnd w l p B kb k m t at_ vl vs (M.lkObj s)) := by
 have hat := h.hat
 have H := hid h
 clear h
 rcases List.eq_nil_or_concat s.stack with hs | ⟨st, y, hs⟩
 · have HO : Hid (M.lkObj s = none) := hid (by unfold M.lkObj M.lkTake; rw [hs]; rfl)
   have HS := hid hs
   clear hs
   go_enter Tryz.func147, Tryz.ntmps147
   go_wp2_with fail
   refine (look_take_no _ _ _ _ _ _ _ _ _ _ _ _ H.out HS.out).mono ?_
   rintro e w1 ⟨rfl, hE1⟩
   exact ⟨rfl, hE1.any, H.out.lod.ext hE1, .inl ⟨HO.out, rfl⟩⟩
 · rw [List.concat_eq_append] at hs
   have HO : Hid (M.lkObj s = if y.kind = 2 ∨ y.kind = 3 then some ⟨s.locals, st⟩ else none) := hid (by unfold M.lkObj M.lkTake; rw [hs]; simp)
   have HS := hid hs
   clear hs
   obtain ⟨yk, yn⟩ := y
   have hcase : (yk = 2 ∨ (yk = 3 ∧ (yk != 2) = true)) ∧ M.lkObj s = some ⟨s.locals, st⟩ ∨ ((yk != 2) = true ∧ (yk != 3) = true) ∧ M.lkObj s = none := by
    by_cases h2 : yk = 2
    · exact .inl ⟨.inl h2, by rw [HO.out, if_pos (.inl h2)]⟩
    · by_cases h3 : yk = 3
      · exact .inl ⟨.inr ⟨h3, bne_iff_ne.2 h2⟩, by rw [HO.out, if_pos (.inr h3)]⟩
      · exact .inr ⟨⟨bne_iff_ne.2 h2, bne_iff_ne.2 h3⟩, by rw [HO.out, if_neg (by simp [h2, h3])]⟩
   rcases hcase with ⟨h1, h2⟩ | ⟨⟨h1, h3⟩, h2⟩
   · have HO2 := hid h2
     clear h2
     rcases h1 with rfl | ⟨rfl, h1⟩
     all_goals
      go_enter Tryz.func147, Tryz.ntmps147
      go_wp2_with fail
      refine (look_take _ _ _ _ _ _ _ _ _ _ _ _ H.out st _ HS.out).mono ?_
      rintro e w1 ⟨rfl, ⟨vs1, hA1, hO1⟩, hK1⟩
      have HA1 := hid hA1
      have HO1 := hid hO1
      have HK1 := hid hK1
      clear hA1 hO1 hK1
      go_wp2_with fail
      ((try simp only [Exit.inBlock, Exit.then]); (first | refine bodyPost_ret (results_none rfl _ _ _) rfl ?_ | refine bodyPost_end (results_none rfl _ _ _) rfl ?_))
      exact ⟨HK1.out.alloc _, HA1.out.lod.ext (KX.k (by repeat (first | assumption | constructor))), .inr ⟨_, HO2.out, rfl, _, _, HA1.out.ext (KX.k (by repeat (first | assumption | constructor))), HO1.out⟩⟩
   · have HO2 := hid h2
     clear h2
     go_enter Tryz.func147, Tryz.ntmps147
     go_wp2_with fail
     refine (look_take _ _ _ _ _ _ _ _ _ _ _ _ H.out st _ HS.out).mono ?_
     rintro e w1 ⟨rfl, ⟨vs1, hA1, hO1⟩, hK1⟩
     have HA1 := hid hA1
     have HK1 := hid hK1
     clear hA1 hO1 hK1
     go_wp2_with fail
     refine (look_wrong _ kb at_ ((HA1.out.ext (KX.k (by repeat (first | assumption | constructor)))).blk.c 10 _ rfl) hat.1 (by omega)).mono ?_
     rintro e w3 ⟨rfl, rfl⟩
     exact ⟨rfl, HK1.out.alloc _, HA1.out.lod.ext (KX.k (by repeat (first | assumption | constructor))), .inl ⟨HO2.out, rfl⟩⟩
theorem agg_smap : Agg 43 3 := ⟨_, Tryz.underlying43, by kernel_rfl⟩
theorem look_mapAt (w : World) (l : Lodge) (p : M.Plan) (B kb : Nat) (k : Int) (m : M.Method) (t : MSl) (at_ : Int) (s : M.Frm) (vl vs : Value) (h : LookAt w l p B kb k m t at_ s vl vs) (a : Int) :
    Calls Tryz.prog 148 #[.pointer (some ⟨kb, 0, none⟩), .int .i64 a] w fun e w' =>
     ((M.mapAt m a = none ∧ e = .returned (.tuple #[.agg #[.int .i64 0, .slice none 0 0, .slice none 0 0], .bool false])) ∨
      ∃ f cs, M.mapAt m a = some f ∧ f ∈ m.maps ∧ SMapL w' (· < l.O) f cs ∧ e = .returned (.tuple #[.agg cs.toArray, .bool true])) ∧ Ext w w' := by
 obtain ⟨w0, hw0⟩ : ∃ w0, w0 = w.alloc (.cells #[.int .i64 0, .slice none 0 0, .slice none 0 0] 43) := ⟨_, rfl⟩
 have hE0 : Ext w w0 := by rw [hw0]; exact (KX.k (by repeat (first | assumption | constructor)))
 have b4 : Blk w0 w.heap.size 43 #[.int .i64 0, .slice none 0 0, .slice none 0 0] := by rw [hw0]; exact Blk.new _ _ _
 have hOl : l.O < w.heap.size := by have := h.lod.ord; have := h.lod.lt; omega
 have c9 := h.blk.c 9 (.slice t.a3 m.maps.length t.c3) rfl
 have hz := h.blk.lt
 obtain ⟨_, _, vm, hml, _, _, hms⟩ := h.ml
 simp only [mthCs, List.cons.injEq, and_true, true_and] at hml
 obtain ⟨-, -, rfl⟩ := hml
 have HMS := hid hms
 have HB4 := hid b4
 have HE0 := hid hE0
 have HW0 := hid hw0
 have hm5 := h.mi.maps
 obtain ⟨ta1, tc1, ta2, tc2, ta, tc⟩ := t
 simp only at *
 clear hms b4 hE0 hw0 h
 go_enter Tryz.func148, Tryz.ntmps148
 go_wp2_with fail
 rw [← HW0.out]
 go_loopw [14] (fun i wr => ∃ q : Nat, q ≤ m.maps.length ∧ i = .int .i64 q ∧ Ext w0 wr ∧ Hid (M.mapAt m a = (m.maps.drop q).find? fun f => f.at_ = a)) (fun i _ => m.maps.length - (intOf i).toNat)
 case atStart => exact ⟨0, Nat.zero_le _, rfl, Kp.refl _ _, hid rfl⟩
 case round =>
  obtain ⟨q, hq, rfl, hE, HA⟩ := hrel
  have hb4 := HB4.out.ext hE
  have y0 := hb4.c 0 (.int .i64 0) rfl
  have y1 := hb4.c 1 (.slice none 0 0) rfl
  have y2 := hb4.c 2 (.slice none 0 0) rfl
  have f0 := hb4.frozen 0
  have f1 := hb4.frozen 1
  have f2 := hb4.frozen 2
  have yz := hb4.lt
  have HB4r := hid hb4
  have HEr := hid (HE0.out.trans hE)
  clear hb4
  by_cases hlt : q < m.maps.length
  · obtain ⟨x, hx⟩ := elemF m.maps q hlt
    obtain ⟨b, off, cs, rfl, hIb, hxl, -, hcc⟩ := HMS.out.get hx
    have HXL := hid hxl
    obtain ⟨xa1, xc1, xa2, xc2, rfl⟩ := hxl.form
    obtain ⟨g0, g1, g2⟩ := (hcc.ext (HE0.out.trans hE)).three
    have gz := cell_lt g0
    have HX := hid hx
    clear hxl hcc hx
    by_cases hxa : x.at_ = a
    · have HR : Hid (M.mapAt m a = some x) := hid (by rw [HA.out, drop_get HX.out, List.find?_cons_of_pos (by simpa using hxa)])
      have hxa' : (x.at_ == a) = true := by simpa using hxa
      clear hxa
      go_wp2_with fail
      have hs := Kp.set3 (D := (· = w.heap.size)) (w := wr) rfl (.int .i64 x.at_) (.slice xa1 x.locals.length xc1) (.slice xa2 x.stack.length xc2)
      have hb := HB4r.out.set3 (.int .i64 x.at_) (.slice xa1 x.locals.length xc1) (.slice xa2 x.stack.length xc2)
      refine bodyPost_ret (results_agg2 agg_smap rfl _ _ w.heap.size rfl [.int .i64 x.at_, .slice xa1 x.locals.length xc1, .slice xa2 x.stack.length xc2] ((CellsAt.ofB hb).ext ((Kp.refl _ _).alloc _)) rfl) rfl ?_
      exact ⟨.inr ⟨x, _, HR.out, List.mem_of_getElem? HX.out, Stays.ext SMapL.stays ((Kp.refl _ _).alloc _) (Stays.kp SMapL.stays hs (fun b hb e => by omega) (Stays.ext SMapL.stays HEr.out HXL.out)), rfl⟩, (HEr.out.own hs (fun k hk => by omega)).alloc _⟩
    · have HR : Hid (M.mapAt m a = (m.maps.drop (q + 1)).find? fun f => f.at_ = a) := hid (by rw [HA.out, drop_get HX.out, List.find?_cons_of_neg (by simpa using hxa)])
      have hxa' : (x.at_ == a) = false := beq_eq_false_iff_ne.2 hxa
      clear hxa
      go_wp2_with fail
      go_roundw
      case rel => exact ⟨q + 1, by omega, by go_num, (KX.k (by repeat (first | assumption | constructor))), HR⟩
      case measure => simp [intOf]; omega
  · have HR : Hid (M.mapAt m a = none) := hid (by rw [HA.out, List.drop_eq_nil_of_le (by omega)]; rfl)
    go_wp2_with fail
    have hs := Kp.set3 (D := (· = w.heap.size)) (w := wr) rfl (.int .i64 0) (.slice none 0 0) (.slice none 0 0)
    have hb := HB4r.out.set3 (.int .i64 0) (.slice none 0 0) (.slice none 0 0)
    refine bodyPost_ret (results_agg2 agg_smap rfl _ _ w.heap.size rfl [.int .i64 0, .slice none 0 0, .slice none 0 0] (CellsAt.ofB hb) rfl) rfl ?_
    exact ⟨.inl ⟨HR.out, rfl⟩, HEr.out.own hs (fun k hk => by omega)⟩
theorem flat_at {α : Type} {enc : α → List Value} {k : Nat} (hek : ∀ x, (enc x).length = k) : ∀ (l : List α) (i : Nat) (x : α), l[i]? = some x → ∀ j u, (enc x)[j]? = some u → (l.flatMap enc)[i * k + j]? = some u := by
 intro l
 induction l with
 | nil => intro i x h; simp at h
 | cons y r ih =>
  intro i x hx j u hj
  rw [List.flatMap_cons]
  cases i with
  | zero =>
   simp at hx; subst hx
   rw [List.getElem?_append_left (by rw [Nat.zero_mul, Nat.zero_add]; exact (List.getElem?_eq_some_iff.1 hj).1), Nat.zero_mul, Nat.zero_add]; exact hj
  | succ i =>
   rw [List.getElem?_append_right (by rw [hek, Nat.succ_mul]; omega), hek, show (i + 1) * k + j - k = i * k + j from by rw [Nat.succ_mul]; omega]
   exact ih i x (by simpa using hx) j u hj
theorem owns_at {α : Type} {enc : α → List Value} {k : Nat} (hek : ∀ x, (enc x).length = k) {w : World} {base e g n c : Nat} {l : List α} (h : w.ownsRow base e k (.slice (some ⟨g, 0, none⟩) n c) n (l.flatMap enc)) {i : Nat} {x : α} (hx : l[i]? = some x) :
    CellsAt w g (i * k) (enc x) := by
 intro j v hj
 have := h.cells (g := g) rfl _ _ (flat_at hek l i x hx j v hj)
 unfold Addr.add at this
 split at this
 · rename_i h0; rw [h0]; exact this
 · simpa using this
theorem mayAll_drop {p : M.Plan} {k : Int} {a b : List M.Tag} {q : Nat} {x y : M.Tag} (hx : a[q]? = some x) (hy : b[q]? = some y) : M.mayAll p k (a.drop q) (b.drop q) = (M.may p k x y && M.mayAll p k (a.drop (q + 1)) (b.drop (q + 1))) := by
 rw [drop_get hx, drop_get hy]; rfl
theorem mayAll_end {p : M.Plan} {k : Int} {a b : List M.Tag} {q : Nat} (h : b.length ≤ q) : M.mayAll p k (a.drop q) (b.drop q) = true := by
 have e : b.drop q = [] := List.drop_eq_nil_of_le h
 rw [e]
 cases a.drop q <;> rfl
theorem look_suffices (w : World) (l : Lodge) (p : M.Plan) (B kb : Nat) (k : Int) (m : M.Method) (t : MSl) (at_ : Int) (s : M.Frm) (vl vs : Value) (h : LookAt w l p B kb k m t at_ s vl vs) (fm : M.SMap) (cs : List Value) (hf : SMapL w (· < l.O) fm cs) (hfl : fm.locals.length = s.locals.length) :
    Calls Tryz.prog 149 #[.pointer (some ⟨kb, 0, none⟩), .agg cs.toArray] w fun e w' => e = .returned (.bool (M.suffices_ p k s fm)) ∧ Ext w w' := by
 have HFL := hid hf
 obtain ⟨fa1, fc1, fa2, fc2, rfl⟩ := hf.form
 obtain ⟨_, _, he, hsl, hss⟩ := hf
 simp only [List.cons.injEq, and_true, true_and] at he
 obtain ⟨rfl, rfl⟩ := he
 obtain ⟨w0, hw0⟩ : ∃ w0, w0 = w.alloc (.cells #[.int .i64 fm.at_, .slice fa1 fm.locals.length fc1, .slice fa2 fm.stack.length fc2] 43) := ⟨_, rfl⟩
 have hE0 : Ext w w0 := by rw [hw0]; exact (KX.k (by repeat (first | assumption | constructor)))
 have b3 : Blk w0 w.heap.size 43 #[.int .i64 fm.at_, .slice fa1 fm.locals.length fc1, .slice fa2 fm.stack.length fc2] := by rw [hw0]; exact Blk.new _ _ _
 have hA := h.ext hE0
 obtain ⟨sa, sc, rfl⟩ := owns_val h.stk
 obtain ⟨la, lc, rfl⟩ := owns_val h.loc
 obtain ⟨T, f, hneT, HT⟩ := Cls.ex (fun W' => Ext w0 W') _ (Kp.refl _ _)
 have r12 := fun q => (hA.blk.ext (HT.inn q)).c 12 (.slice sa s.stack.length sc) rfl
 have r2 := fun q => (b3.ext (HT.inn q)).c 2 (.slice fa2 fm.stack.length fc2) rfl
 have HTH := hid HT
 have HW0 := hid hw0
 have HE0 := hid hE0
 have HA := hid hA
 have HB3 := hid b3
 have HSL := hid (And.intro hsl hss)
 have hll : fm.locals.length ≤ 6 := by have := h.lsz; have := h.mi.locals; omega
 have hsl5 : s.stack.length ≤ 5 := by have := h.ssz; have := h.mi.stack; omega
 have HLL := hid hfl
 clear h HT hw0 hE0 hA b3 hsl hss hfl
 by_cases hst : fm.stack.length = s.stack.length
 · have HU : Hid (M.suffices_ p k s fm = (M.mayAll p k s.locals fm.locals && M.mayAll p k s.stack fm.stack)) := hid (by unfold M.suffices_; rw [decide_eq_true hst]; rfl)
   have hst' : ((fm.stack.length : Int) != (s.stack.length : Int)) = false := by simp [hst]
   have HST := hid hst
   clear hst
   go_enter Tryz.func149, Tryz.ntmps149
   go_wp2_with fail
   rw [← HW0.out]
   (refine region_in f (HTH.out.out _ ?_) (by kernel_rfl) (by kernel_rfl) ?_); rotate_left; (repeat (go_big_quiet_step ((fail)))); (refine wpQuiet_nil ?_); (rintro _ ⟨sW, rfl⟩); rotate_left
   · exact (Kp.refl _ _).drew
   have hE1 := HTH.out.inn sW
   generalize f sW = w1 at *
   clear HTH r12 r2 hst'
   have hA1 := HA.out.ext hE1
   have hB1 := HB3.out.ext hE1
   have p1 := hB1.c 1 (.slice fa1 fm.locals.length fc1) rfl
   have p2 := hB1.c 2 (.slice fa2 fm.stack.length fc2) rfl
   have HA1 := hid hA1
   have HB1 := hid hB1
   have HE1 : Hid (Ext w w1) := hid (HE0.out.trans hE1)
   clear hA1 hB1 hE1
   go_wp2_with fail
   go_loopw [21] (fun i wr => ∃ q : Nat, q ≤ fm.locals.length ∧ i = .int .i64 q ∧ Ext w1 wr ∧ Hid (M.mayAll p k s.locals fm.locals = M.mayAll p k (s.locals.drop q) (fm.locals.drop q))) (fun i _ => fm.locals.length - (intOf i).toNat)
   case atStart => exact ⟨0, Nat.zero_le _, rfl, Kp.refl _ _, hid rfl⟩
   case round =>
    obtain ⟨q, hq, rfl, hE, HAq⟩ := hrel
    have hAr := HA1.out.ext hE
    have hBr := HB1.out.ext hE
    have p2r := hBr.c 2 (.slice fa2 fm.stack.length fc2) rfl
    have HBr := hid hBr
    have HAr := hid hAr
    have HEr := hid hE
    by_cases hlt : q < fm.locals.length
    · obtain ⟨y, hy⟩ := elemF fm.locals q hlt
      obtain ⟨x, hx⟩ := elemF s.locals q (by rw [← HLL.out]; exact hlt)
      obtain ⟨b, off, cs, rfl, hIb, rfl, -, hcc⟩ := HSL.out.1.get hy
      obtain ⟨g0, g1⟩ := (hcc.ext (HE1.out.trans hE)).two
      have gz := cell_lt g0
      have hloc := hAr.loc
      obtain ⟨lg, lcp, hlv, hg1, hg2, hg3⟩ := owns_form hloc (by rw [← HLL.out]; omega)
      cases hlv
      obtain ⟨x0, x1⟩ := (owns_at (enc := tagCs) (k := 2) (fun _ => rfl) hloc hx).two
      have HM : Hid (M.mayAll p k s.locals fm.locals = (M.may p k x y && M.mayAll p k (s.locals.drop (q + 1)) (fm.locals.drop (q + 1)))) := hid (by rw [HAq.out, mayAll_drop hx hy])
      obtain ⟨W4, hW4⟩ : ∃ W4, W4 = wr.alloc (.cells #[.int .i64 y.kind, .string y.name] 25) := ⟨_, rfl⟩
      have hE4 : Ext wr W4 := by rw [hW4]; exact (KX.k (by repeat (first | assumption | constructor)))
      have b6 : Blk W4 wr.heap.size 25 #[.int .i64 y.kind, .string y.name] := by rw [hW4]; exact Blk.new _ _ _
      obtain ⟨T, f, hneT, HT⟩ := Cls.ex (fun W' => Ext W4 W') _ (Kp.refl _ _)
      have e0 := fun z => (hAr.blk.ext (hE4.trans (HT.inn z))).c 0 (.pointer (some ⟨l.L, 0, none⟩)) rfl
      have e1 := fun z => (hAr.blk.ext (hE4.trans (HT.inn z))).c 1 (.int .i64 k) rfl
      have e11 := fun z => (hAr.blk.ext (hE4.trans (HT.inn z))).c 11 (.slice (some ⟨lg, 0, none⟩) s.locals.length lc) rfl
      have e2 := fun z => (hE4.trans (HT.inn z)).cellE x0
      have e3 := fun z => (hE4.trans (HT.inn z)).cellE x1
      have e6 := fun z => (b6.ext (HT.inn z)).c 0 (.int .i64 y.kind) rfl
      have e7 := fun z => (b6.ext (HT.inn z)).c 1 (.string y.name) rfl
      have HTH := hid HT
      have HW4 := hid hW4
      have HL4 := hid (hAr.lod.ext hE4)
      have HE4 := hid hE4
      have hqs : (q : Int) < s.locals.length := by have := HLL.out; omega
      clear hcc hy hx hloc x0 x1 hW4 hE4 b6 HT hAr hBr
      go_wp2_with fail
      rw [← HW4.out]
      (refine region_mix f 18 [([0, 1, 2, 3, 4, 5, 6, 7, 8, 9, 10, 11, 12, 13, 14, 15], 16)] [17] (HTH.out.out _ ?_) (by kernel_rfl) (by kernel_rfl) (fun _ _ d _ _ h => by cases d <;> exact h) ?_)
      · exact (Kp.refl _ _).drew
      (refine wpMix_cons rfl rfl fun K hK => ?_); (change wpQuiet _ _ _ _ [_, _, _, _, _, _, _, _, _, _, _, _, _, _, _, _] _); (repeat (go_big_quiet_step (fail))); (refine wpQuiet_nil ?_); (refine hK _ fun K2 hK2 => ?_); clear hK K; (change wpList _ _ _ [_] _ _)
      go_wp2_with fail
      refine (lodge_may _ _ _ (HL4.out.ext (Kp.refl _ _).drew) k x y).mono ?_
      rintro e w5 ⟨rfl, hE5⟩
      have hE45 : Ext W4 w5 := ((Kp.refl _ _).drew : Ext W4 _).trans hE5
      have HE5 : Hid (Ext wr w5) := hid (HE4.out.trans hE45)
      cases hmay : M.may p k x y
      · have HR : Hid (M.suffices_ p k s fm = false) := hid (by rw [HU.out, HM.out, hmay]; rfl)
        clear hmay hE5
        go_wp2_with fail
        (refine hK2 _ _ (HTH.out.out _ hE45) ?_); clear hK2 K2
        (refine wpMix_nil rfl fun K hK => ?_); (change wpQuiet _ _ _ _ [_] _); (repeat (go_big_quiet_step (fail))); (refine wpQuiet_nil ?_); (refine hK _ ?_); clear hK K; (simp only [List.drop_succ_cons, List.drop_zero, List.drop_nil, wpList])
        go_wp2_with fail
        go_ret
        exact ⟨ret_bool HR.out.symm, HE1.out.trans (HEr.out.trans HE5.out)⟩
      · have HR : Hid (M.mayAll p k s.locals fm.locals = M.mayAll p k (s.locals.drop (q + 1)) (fm.locals.drop (q + 1))) := hid (by rw [HM.out, hmay]; rfl)
        clear hmay hE5
        go_wp2_with fail
        (refine hK2 _ _ (HTH.out.out _ hE45) ?_); clear hK2 K2
        (refine wpMix_nil rfl fun K hK => ?_); (change wpQuiet _ _ _ _ [_] _); (repeat (go_big_quiet_step (fail))); (refine wpQuiet_nil ?_); (refine hK _ ?_); clear hK K; (simp only [List.drop_succ_cons, List.drop_zero, List.drop_nil, wpList])
        go_wp2_with fail
        refine ⟨⟨q + 1, by omega, by go_num, HEr.out.trans HE5.out, HR⟩, by simp [intOf]; omega⟩
    · have HU2 : Hid (M.suffices_ p k s fm = M.mayAll p k s.stack fm.stack) := hid (by rw [HU.out, HAq.out, mayAll_end (by omega)]; rfl)
      obtain ⟨wo, rfl⟩ : ∃ wo : World, wo = wr := ⟨_, rfl⟩
      have HAo := HAr
      have HBo := HBr
      have HEo : Hid (Ext w wo) := hid (HE1.out.trans hE)
      have hsl6 : fm.stack.length ≤ 5 := by have := HST.out; omega
      clear HAr HBr HEr hAr hBr hE HAq p1 p2
      go_wp2_with fail
      go_loopw [48] (fun i wr => ∃ q : Nat, q ≤ fm.stack.length ∧ i = .int .i64 q ∧ Ext wo wr ∧ Hid (M.mayAll p k s.stack fm.stack = M.mayAll p k (s.stack.drop q) (fm.stack.drop q))) (fun i _ => fm.stack.length - (intOf i).toNat)
      case atStart => exact ⟨0, Nat.zero_le _, rfl, Kp.refl _ _, hid rfl⟩
      case round =>
       obtain ⟨q, hq, rfl, hE, HAq⟩ := hrel
       have hAr := HAo.out.ext hE
       have hBr := HBo.out.ext hE
       have HBr := hid hBr
       have HAr := hid hAr
       have HEr := hid hE
       by_cases hlt : q < fm.stack.length
       · obtain ⟨y, hy⟩ := elemF fm.stack q hlt
         obtain ⟨x, hx⟩ := elemF s.stack q (by rw [← HST.out]; exact hlt)
         obtain ⟨b, off, cs, rfl, hIb, rfl, -, hcc⟩ := HSL.out.2.get hy
         obtain ⟨g0, g1⟩ := (hcc.ext (HEo.out.trans hE)).two
         have gz := cell_lt g0
         have hloc := hAr.stk
         obtain ⟨lg, lcp, hlv, hg1, hg2, hg3⟩ := owns_form hloc (by rw [← HST.out]; omega)
         cases hlv
         obtain ⟨x0, x1⟩ := (owns_at (enc := tagCs) (k := 2) (fun _ => rfl) hloc hx).two
         have HM : Hid (M.mayAll p k s.stack fm.stack = (M.may p k x y && M.mayAll p k (s.stack.drop (q + 1)) (fm.stack.drop (q + 1)))) := hid (by rw [HAq.out, mayAll_drop hx hy])
         obtain ⟨W4, hW4⟩ : ∃ W4, W4 = wr.alloc (.cells #[.int .i64 y.kind, .string y.name] 25) := ⟨_, rfl⟩
         have hE4 : Ext wr W4 := by rw [hW4]; exact (KX.k (by repeat (first | assumption | constructor)))
         have b6 : Blk W4 wr.heap.size 25 #[.int .i64 y.kind, .string y.name] := by rw [hW4]; exact Blk.new _ _ _
         obtain ⟨T, f, hneT, HT⟩ := Cls.ex (fun W' => Ext W4 W') _ (Kp.refl _ _)
         have e0 := fun z => (hAr.blk.ext (hE4.trans (HT.inn z))).c 0 (.pointer (some ⟨l.L, 0, none⟩)) rfl
         have e1 := fun z => (hAr.blk.ext (hE4.trans (HT.inn z))).c 1 (.int .i64 k) rfl
         have e11 := fun z => (hAr.blk.ext (hE4.trans (HT.inn z))).c 12 (.slice (some ⟨lg, 0, none⟩) s.stack.length sc) rfl
         have e2 := fun z => (hE4.trans (HT.inn z)).cellE x0
         have e3 := fun z => (hE4.trans (HT.inn z)).cellE x1
         have e6 := fun z => (b6.ext (HT.inn z)).c 0 (.int .i64 y.kind) rfl
         have e7 := fun z => (b6.ext (HT.inn z)).c 1 (.string y.name) rfl
         have HTH := hid HT
         have HW4 := hid hW4
         have HL4 := hid (hAr.lod.ext hE4)
         have HE4 := hid hE4
         have hqs : (q : Int) < s.stack.length := by have := HST.out; omega
         clear hcc hy hx hloc x0 x1 hW4 hE4 b6 HT hAr hBr
         go_wp2_with fail
         rw [← HW4.out]
         (refine region_mix f 18 [([0, 1, 2, 3, 4, 5, 6, 7, 8, 9, 10, 11, 12, 13, 14, 15], 16)] [17] (HTH.out.out _ ?_) (by kernel_rfl) (by kernel_rfl) (fun _ _ d _ _ h => by cases d <;> exact h) ?_)
         · exact (Kp.refl _ _).drew
         (refine wpMix_cons rfl rfl fun K hK => ?_); (change wpQuiet _ _ _ _ [_, _, _, _, _, _, _, _, _, _, _, _, _, _, _, _] _); (repeat (go_big_quiet_step (fail))); (refine wpQuiet_nil ?_); (refine hK _ fun K2 hK2 => ?_); clear hK K; (change wpList _ _ _ [_] _ _)
         go_wp2_with fail
         refine (lodge_may _ _ _ (HL4.out.ext (Kp.refl _ _).drew) k x y).mono ?_
         rintro e w5 ⟨rfl, hE5⟩
         have hE45 : Ext W4 w5 := ((Kp.refl _ _).drew : Ext W4 _).trans hE5
         have HE5 : Hid (Ext wr w5) := hid (HE4.out.trans hE45)
         cases hmay : M.may p k x y
         · have HR : Hid (M.suffices_ p k s fm = false) := hid (by rw [HU2.out, HM.out, hmay]; rfl)
           clear hmay hE5
           go_wp2_with fail
           (refine hK2 _ _ (HTH.out.out _ hE45) ?_); clear hK2 K2
           (refine wpMix_nil rfl fun K hK => ?_); (change wpQuiet _ _ _ _ [_] _); (repeat (go_big_quiet_step (fail))); (refine wpQuiet_nil ?_); (refine hK _ ?_); clear hK K; (simp only [List.drop_succ_cons, List.drop_zero, List.drop_nil, wpList])
           go_wp2_with fail
           go_ret
           exact ⟨ret_bool HR.out.symm, HEo.out.trans (HEr.out.trans HE5.out)⟩
         · have HR : Hid (M.mayAll p k s.stack fm.stack = M.mayAll p k (s.stack.drop (q + 1)) (fm.stack.drop (q + 1))) := hid (by rw [HM.out, hmay]; rfl)
           clear hmay hE5
           go_wp2_with fail
           (refine hK2 _ _ (HTH.out.out _ hE45) ?_); clear hK2 K2
           (refine wpMix_nil rfl fun K hK => ?_); (change wpQuiet _ _ _ _ [_] _); (repeat (go_big_quiet_step (fail))); (refine wpQuiet_nil ?_); (refine hK _ ?_); clear hK K; (simp only [List.drop_succ_cons, List.drop_zero, List.drop_nil, wpList])
           go_wp2_with fail
           refine ⟨⟨q + 1, by omega, by go_num, HEr.out.trans HE5.out, HR⟩, by simp [intOf]; omega⟩
       · have HR : Hid (M.suffices_ p k s fm = true) := hid (by rw [HU2.out, HAq.out, mayAll_end (by omega)])
         go_wp2_with fail
         go_ret
         exact ⟨ret_bool HR.out.symm, HEo.out.trans hE⟩
 · have HU : Hid (M.suffices_ p k s fm = false) := hid (by unfold M.suffices_; rw [decide_eq_false hst]; rfl)
   have hst' : ((fm.stack.length : Int) != (s.stack.length : Int)) = true := bne_iff_ne.2 (by omega)
   clear hst
   go_enter Tryz.func149, Tryz.ntmps149
   go_wp2_with fail
   rw [← HW0.out]
   (refine region_in f (HTH.out.out _ ?_) (by kernel_rfl) (by kernel_rfl) ?_); rotate_left; (repeat (go_big_quiet_step ((fail)))); (refine wpQuiet_nil ?_); (rintro _ ⟨sW, rfl⟩); rotate_left
   · exact (Kp.refl _ _).drew
   go_wp2_with fail
   go_ret
   exact ⟨ret_bool HU.out.symm, HE0.out.trans (HTH.out.inn sW)⟩
theorem mapOk_len {m : M.Method} {f : M.SMap} (h : M.mapOk m f = true) : (f.locals.length : Int) = m.locals ∧ (f.stack.length : Int) ≤ m.stack := by
 unfold M.mapOk at h
 simp only [Bool.and_eq_true, decide_eq_true_eq] at h
 exact ⟨h.1.1.1.2, h.1.1.2⟩
theorem look_branch (w : World) (l : Lodge) (p : M.Plan) (B kb : Nat) (k : Int) (m : M.Method) (t : MSl) (at_ : Int) (s : M.Frm) (vl vs : Value) (h : LookAt w l p B kb k m t at_ s vl vs) (a : Int) :
    Calls Tryz.prog 146 #[.pointer (some ⟨kb, 0, none⟩), .int .i64 a] w (LkEnd w l p B kb k m t at_ vl vs (M.lkBranch p k m a s)) := by
 have hat := h.hat
 have hlsz := h.lsz
 have H := hid h
 clear h
 go_enter Tryz.func146, Tryz.ntmps146
 go_wp2_with fail
 refine (look_mapAt _ _ _ _ _ _ _ _ _ _ _ _ H.out a).mono ?_
 rintro e w1 ⟨(⟨hno, rfl⟩ | ⟨fm, cs, hyes, hmem, hf, rfl⟩), hE1⟩
 · have HO : Hid (M.lkBranch p k m a s = none) := hid (by unfold M.lkBranch; rw [hno]; rfl)
   have HA1 := hid (H.out.ext hE1)
   have HE1 := hid hE1
   clear hno hE1
   go_wp2_with fail
   refine (look_wrong _ kb at_ ((HA1.out.ext (KX.k (by repeat (first | assumption | constructor)))).blk.c 10 _ rfl) hat.1 (by omega)).mono ?_
   rintro e w3 ⟨rfl, rfl⟩
   exact ⟨rfl, (HE1.out.alloc _).any, HA1.out.lod.ext (KX.k (by repeat (first | assumption | constructor))), .inl ⟨HO.out, rfl⟩⟩
 · have HO : Hid (M.lkBranch p k m a s = if M.suffices_ p k s fm then some s else none) := hid (by unfold M.lkBranch; rw [hyes]; rfl)
   have hlen := mapOk_len (H.out.mi.mapOk fm hmem)
   have HF := hid hf
   obtain ⟨fa1, fc1, fa2, fc2, rfl⟩ := hf.form
   have HA1 := hid (H.out.ext hE1)
   have HE1 := hid hE1
   clear hyes hE1 hf hmem
   go_wp2_with fail
   refine (look_suffices _ _ _ _ _ _ _ _ _ _ _ _ (HA1.out.ext (KX.k (by repeat (first | assumption | constructor)))) fm _ (Stays.ext SMapL.stays (KX.k (by repeat (first | assumption | constructor))) HF.out) (by omega)).mono ?_
   rintro e w2 ⟨rfl, hE2⟩
   have HE2 : Hid (Ext w w2) := hid ((HE1.out.alloc _).trans hE2)
   clear hE2
   cases hsuf : M.suffices_ p k s fm
   · have HO2 : Hid (M.lkBranch p k m a s = none) := hid (by rw [HO.out, hsuf]; rfl)
     clear hsuf
     go_wp2_with fail
     refine (look_wrong _ kb at_ ((H.out.ext HE2.out).blk.c 10 _ rfl) hat.1 (by omega)).mono ?_
     rintro e w3 ⟨rfl, rfl⟩
     exact ⟨rfl, HE2.out.any, H.out.lod.ext HE2.out, .inl ⟨HO2.out, rfl⟩⟩
   · have HO2 : Hid (M.lkBranch p k m a s = some s) := hid (by rw [HO.out, hsuf]; rfl)
     clear hsuf
     go_wp2_with fail
     ((try simp only [Exit.inBlock, Exit.then]); (first | refine bodyPost_ret (results_none rfl _ _ _) rfl ?_ | refine bodyPost_end (results_none rfl _ _ _) rfl ?_))
     exact ⟨HE2.out.any, H.out.lod.ext HE2.out, .inr ⟨_, HO2.out, rfl, _, _, H.out.ext HE2.out, OwnSub.refl _ _ _⟩⟩
theorem owns_mono {w : World} {base base' : Nat} {e : TypeId} {size : Nat} {v : Value} {n : Nat} {xs : List Value} (h : w.ownsRow base e size v n xs) (hb : base' ≤ base) : w.ownsRow base' e size v n xs :=
 ⟨h.1, h.2.imp id fun ⟨g, cap, cur, e1, hg, r⟩ => ⟨g, cap, cur, e1, Nat.le_trans hb hg, r⟩⟩
theorem LookAt.fresh {w w' : World} {l : Lodge} {p : M.Plan} {B kb : Nat} {k : Int} {m : M.Method} {t : MSl} {at_ : Int} {s s' : M.Frm} {vl vs v1 v2 : Value} (h : LookAt w l p B kb k m t at_ s vl vs)
    (hb : Blk w' kb 180 (lkCs l.L k m t at_ v1 v2)) (hk : Kp (· = kb) w w') (o1 : w'.ownsRow w.heap.size 25 2 v1 s'.locals.length (s'.locals.flatMap tagCs)) (o2 : w'.ownsRow w.heap.size 25 2 v2 s'.stack.length (s'.stack.flatMap tagCs))
    (ne : ∀ g, v1.ownBlock = some g → v2.ownBlock ≠ some g) (hl : (s'.locals.length : Int) = m.locals) (hs : (s'.stack.length : Int) ≤ m.stack) :
    Kp (LkO l kb vl vs) w w' ∧ LodgeAt w' l p ∧ ∃ vl' vs', LookAt w' l p B kb k m t at_ s' vl' vs' ∧ OwnSub w.heap.size vl vs vl' vs' := by
 have hBk := h.hk
 have hB := h.hB
 have hO := h.lod.ord
 have hz := h.blk.lt
 have hL : LodgeAt w' l p := h.lod.kp hk (fun b hb e => by omega)
 refine ⟨hk.weak fun b _ e => .inr (.inl e), hL, v1, v2, ⟨hL, h.hB, h.hk, Stays.kp MethodL.stays hk (fun b hb e => by omega) h.ml, h.mi, hb, owns_mono o1 (by omega), owns_mono o2 (by omega), ne, h.hat, hs, hl⟩, fun g hg => ?_⟩
 rcases hg with e | e
 · exact .inr (.inr (o1.lt g e).1)
 · exact .inr (.inr (o2.lt g e).1)
theorem look_meet (w : World) (l : Lodge) (p : M.Plan) (B kb : Nat) (k : Int) (m : M.Method) (t : MSl) (at_ : Int) (s : M.Frm) (vl vs : Value) (h : LookAt w l p B kb k m t at_ s vl vs) (goes : Bool) :
    Calls Tryz.prog 130 #[.pointer (some ⟨kb, 0, none⟩), .bool goes] w (LkEnd w l p B kb k m t at_ vl vs (M.lkMeet p k m goes at_ s)) := by
 have hat := h.hat
 have hlsz := h.lsz
 have c10 := h.blk.c 10 (.int .i64 at_) rfl
 have hord := h.lod.ord
 have hBB := h.hB
 have hBk := h.hk
 have H := hid h
 clear h
 cases goes
 all_goals
  go_enter Tryz.func130, Tryz.ntmps130
  go_wp2_with fail
  refine (look_mapAt _ _ _ _ _ _ _ _ _ _ _ _ H.out at_).mono ?_
  rintro e w1 ⟨(⟨hno, rfl⟩ | ⟨fm, cs, hyes, hmem, hf, rfl⟩), hE1⟩
 · have HO : Hid (M.lkMeet p k m false at_ s = none) := hid (by unfold M.lkMeet; rw [hno]; rfl)
   have HA1 := hid (H.out.ext hE1)
   have HE1 := hid hE1
   clear hno hE1
   go_wp2_with fail
   refine (look_wrong _ kb at_ ((HA1.out.ext (KX.k (by repeat (first | assumption | constructor)))).blk.c 10 _ rfl) hat.1 (by omega)).mono ?_
   rintro e w3 ⟨rfl, rfl⟩
   exact ⟨rfl, (HE1.out.alloc _).any, HA1.out.lod.ext (KX.k (by repeat (first | assumption | constructor))), .inl ⟨HO.out, rfl⟩⟩
 · have HO : Hid (M.lkMeet p k m false at_ s = some ⟨fm.locals, fm.stack⟩) := hid (by unfold M.lkMeet; rw [hyes]; rfl)
   have hlen := mapOk_len (H.out.mi.mapOk fm hmem)
   have hkw1 := Nat.lt_of_lt_of_le H.out.blk.lt hE1.size
   have hml := H.out.mi.locals
   have hms := H.out.mi.stack
   have HF := hid hf
   obtain ⟨fa1, fc1, fa2, fc2, rfl⟩ := hf.form
   obtain ⟨wz, hwz⟩ : ∃ wz, wz = w1.alloc (.cells #[.int .i64 fm.at_, .slice fa1 fm.locals.length fc1, .slice fa2 fm.stack.length fc2] 43) := ⟨_, rfl⟩
   have hEz : Ext w1 wz := by rw [hwz]; exact (KX.k (by repeat (first | assumption | constructor)))
   have b4 : Blk wz w1.heap.size 43 #[.int .i64 fm.at_, .slice fa1 fm.locals.length fc1, .slice fa2 fm.stack.length fc2] := by rw [hwz]; exact Blk.new _ _ _
   have HEz : Hid (Ext w wz) := hid (hE1.trans hEz)
   have HFz := hid (Stays.ext SMapL.stays hEz HF.out)
   have y1 := b4.c 1 (.slice fa1 fm.locals.length fc1) rfl
   have HB4 := hid b4
   have hzz := b4.lt
   have HWZ := hid hwz
   clear hyes hE1 hf hmem c10 hEz b4 hwz
   go_wp2_with fail
   rw [← HWZ.out]
   have HSL : Hid (SliceOf 2 TagL wz (· < l.O) (.slice fa1 fm.locals.length fc1) fm.locals ∧ SliceOf 2 TagL wz (· < l.O) (.slice fa2 fm.stack.length fc2) fm.stack) := hid (by
    obtain ⟨_, _, he, hsl, hss⟩ := HFz.out
    simp only [List.cons.injEq, and_true, true_and] at he
    obtain ⟨rfl, rfl⟩ := he
    exact ⟨hsl, hss⟩)
   refine (clone_tag _ _ _ _ (SliceOf.toFlat (R := TagL) (fun _ _ _ _ e => e) (fun _ => rfl) one_tag HSL.out.1) (by omega)).mono ?_
   rintro e w3 ⟨⟨v1, rfl, hown1⟩, hE3⟩
   obtain ⟨g1, k1, rfl⟩ := owns_val hown1
   have hbk3 := (H.out.ext (HEz.out.trans hE3)).blk
   have d11 := hbk3.c 11 vl rfl
   have e11 := hbk3.frozen 11
   have z11 := hbk3.lt
   have hb43 := HB4.out.ext hE3
   have y2 := hb43.c 2 (.slice fa2 fm.stack.length fc2) rfl
   have n1 : ¬ w1.heap.size = kb := by omega
   have n2 : ¬ kb = w1.heap.size := by omega
   have HK3 := hid hbk3
   have HB43 := hid hb43
   have HE3 := hid hE3
   have HOW1 := hid hown1
   clear hbk3 hb43 hE3 hown1
   go_wp2_with fail
   obtain ⟨w4, hw4⟩ : ∃ w4, w4 = w3.setCell ⟨kb, 11, none⟩ (.slice g1 fm.locals.length k1) := ⟨_, rfl⟩
   have hK4 : Kp (· = kb) w3 w4 := by rw [hw4]; exact (Kp.refl (· = kb) w3).setCell (p := ⟨kb, 11, none⟩) (fun _ => rfl) _
   have hb4 : Blk w4 kb 180 (lkCs l.L k m t at_ (.slice g1 fm.locals.length k1) vs) := by rw [hw4]; exact HK3.out.set_ 11 _
   rw [← hw4]
   have hOB1 : w3.heap.size ≤ w4.heap.size := hK4.size
   have hs2 : SliceOf 2 TagL w4 (· < l.O) (.slice fa2 fm.stack.length fc2) fm.stack := (HSL.out.2.ext TagL.stays HE3.out).keep TagL.stays (Kp.same hK4 (fun b hb e => by omega)) (fun _ h => h)
   refine (clone_tag _ _ _ _ (SliceOf.toFlat (R := TagL) (fun _ _ _ _ e => e) (fun _ => rfl) one_tag hs2) (by omega)).mono ?_
   rintro e w5 ⟨⟨v2, rfl, hown2⟩, hE5⟩
   obtain ⟨g2, k2, rfl⟩ := owns_val hown2
   have hb5 := hb4.ext hE5
   have d12 := hb5.c 12 vs rfl
   have e12 := hb5.frozen 12
   have z12 := hb5.lt
   have hown1 := HOW1.out
   have hK6 : Kp (· = kb) w5 (w5.setCell ⟨kb, 12, none⟩ (.slice g2 fm.stack.length k2)) := (Kp.refl (· = kb) w5).setCell (p := ⟨kb, 12, none⟩) (fun _ => rfl) _
   have hz0 := HEz.out.size
   have hz3 := HE3.out.size
   have hF := H.out.fresh (s' := ⟨fm.locals, fm.stack⟩) (hb5.set_ 12 _) (((((HEz.out.trans HE3.out).any (D := (· = kb))).trans hK4).trans hE5.any).trans hK6)
    (owns_mono (owns_kp (owns_kp (owns_kp hown1 hK4 (fun g hg hb e => by omega)) hE5 (fun _ _ _ e => e)) hK6 (fun g hg hb e => by omega)) hz0)
    (owns_mono (owns_kp hown2 hK6 (fun g hg hb e => by omega)) (by omega))
    (fun g h1 h2 => by have := (hown1.lt g h1).2; have := (hown2.lt g h2).1; omega) hlen.1 hlen.2
   have HF6 := hid hF
   clear hF hK6 hown1 hown2 hb5 hE5 hs2 hb4 hK4 hw4
   go_wp2_with fail
   ((try simp only [Exit.inBlock, Exit.then]); (first | refine bodyPost_ret (results_none rfl _ _ _) rfl ?_ | refine bodyPost_end (results_none rfl _ _ _) rfl ?_))
   exact ⟨HF6.out.1, HF6.out.2.1, .inr ⟨_, HO.out, rfl, HF6.out.2.2⟩⟩
 · have HO : Hid (M.lkMeet p k m true at_ s = some s) := hid (by unfold M.lkMeet; rw [hno]; rfl)
   have HA1 := hid (H.out.ext hE1)
   have HE1 := hid hE1
   clear hno hE1
   go_wp2_with fail
   ((try simp only [Exit.inBlock, Exit.then]); (first | refine bodyPost_ret (results_none rfl _ _ _) rfl ?_ | refine bodyPost_end (results_none rfl _ _ _) rfl ?_))
   exact ⟨(HE1.out.alloc _).any, HA1.out.lod.ext (KX.k (by repeat (first | assumption | constructor))), .inr ⟨_, HO.out, rfl, _, _, HA1.out.ext (KX.k (by repeat (first | assumption | constructor))), OwnSub.refl _ _ _⟩⟩
 · have HO : Hid (M.lkMeet p k m true at_ s = if !M.suffices_ p k s fm then none else some ⟨fm.locals, fm.stack⟩) := hid (by unfold M.lkMeet; rw [hyes]; simp)
   have hlen := mapOk_len (H.out.mi.mapOk fm hmem)
   have hkw1 := Nat.lt_of_lt_of_le H.out.blk.lt hE1.size
   have hml := H.out.mi.locals
   have hms := H.out.mi.stack
   have HF := hid hf
   obtain ⟨fa1, fc1, fa2, fc2, rfl⟩ := hf.form
   obtain ⟨wq, hwq⟩ : ∃ wq, wq = w1.alloc (.cells #[.int .i64 fm.at_, .slice fa1 fm.locals.length fc1, .slice fa2 fm.stack.length fc2] 43) := ⟨_, rfl⟩
   have hEq : Ext w1 wq := by rw [hwq]; exact (KX.k (by repeat (first | assumption | constructor)))
   have b4 : Blk wq w1.heap.size 43 #[.int .i64 fm.at_, .slice fa1 fm.locals.length fc1, .slice fa2 fm.stack.length fc2] := by rw [hwq]; exact Blk.new _ _ _
   have HE0 : Hid (Ext w wq) := hid (hE1.trans hEq)
   have HF0 := hid (Stays.ext SMapL.stays hEq HF.out)
   have HB0 := hid b4
   have HWQ := hid hwq
   clear hyes hE1 hf hmem c10 hEq b4 hwq
   go_wp2_with fail
   rw [← HWQ.out]
   refine (look_suffices _ _ _ _ _ _ _ _ _ _ _ _ (H.out.ext HE0.out) fm _ HF0.out (by omega)).mono ?_
   rintro e wz ⟨rfl, hEy⟩
   have hb4 := HB0.out.ext hEy
   have y1 := hb4.c 1 (.slice fa1 fm.locals.length fc1) rfl
   have HB4 := hid hb4
   have hzz := hb4.lt
   have HEz : Hid (Ext w wz) := hid (HE0.out.trans hEy)
   have HFz := hid (Stays.ext SMapL.stays hEy HF0.out)
   clear hEy hb4 HWQ HE0
   cases hsuf : M.suffices_ p k s fm
   · have HO2 : Hid (M.lkMeet p k m true at_ s = none) := hid (by rw [HO.out, hsuf]; rfl)
     clear hsuf
     go_wp2_with fail
     refine (look_wrong _ kb at_ ((H.out.ext HEz.out).blk.c 10 _ rfl) hat.1 (by omega)).mono ?_
     rintro e w3 ⟨rfl, rfl⟩
     exact ⟨rfl, HEz.out.any, H.out.lod.ext HEz.out, .inl ⟨HO2.out, rfl⟩⟩
   replace HO : Hid (M.lkMeet p k m true at_ s = some ⟨fm.locals, fm.stack⟩) := hid (by rw [HO.out, hsuf]; rfl)
   clear hsuf
   go_wp2_with fail
   have HSL : Hid (SliceOf 2 TagL wz (· < l.O) (.slice fa1 fm.locals.length fc1) fm.locals ∧ SliceOf 2 TagL wz (· < l.O) (.slice fa2 fm.stack.length fc2) fm.stack) := hid (by
    obtain ⟨_, _, he, hsl, hss⟩ := HFz.out
    simp only [List.cons.injEq, and_true, true_and] at he
    obtain ⟨rfl, rfl⟩ := he
    exact ⟨hsl, hss⟩)
   refine (clone_tag _ _ _ _ (SliceOf.toFlat (R := TagL) (fun _ _ _ _ e => e) (fun _ => rfl) one_tag HSL.out.1) (by omega)).mono ?_
   rintro e w3 ⟨⟨v1, rfl, hown1⟩, hE3⟩
   obtain ⟨g1, k1, rfl⟩ := owns_val hown1
   have hbk3 := (H.out.ext (HEz.out.trans hE3)).blk
   have d11 := hbk3.c 11 vl rfl
   have e11 := hbk3.frozen 11
   have z11 := hbk3.lt
   have hb43 := HB4.out.ext hE3
   have y2 := hb43.c 2 (.slice fa2 fm.stack.length fc2) rfl
   have n1 : ¬ w1.heap.size = kb := by omega
   have n2 : ¬ kb = w1.heap.size := by omega
   have HK3 := hid hbk3
   have HB43 := hid hb43
   have HE3 := hid hE3
   have HOW1 := hid hown1
   clear hbk3 hb43 hE3 hown1
   go_wp2_with fail
   obtain ⟨w4, hw4⟩ : ∃ w4, w4 = w3.setCell ⟨kb, 11, none⟩ (.slice g1 fm.locals.length k1) := ⟨_, rfl⟩
   have hK4 : Kp (· = kb) w3 w4 := by rw [hw4]; exact (Kp.refl (· = kb) w3).setCell (p := ⟨kb, 11, none⟩) (fun _ => rfl) _
   have hb4 : Blk w4 kb 180 (lkCs l.L k m t at_ (.slice g1 fm.locals.length k1) vs) := by rw [hw4]; exact HK3.out.set_ 11 _
   rw [← hw4]
   have hOB1 : w3.heap.size ≤ w4.heap.size := hK4.size
   have hs2 : SliceOf 2 TagL w4 (· < l.O) (.slice fa2 fm.stack.length fc2) fm.stack := (HSL.out.2.ext TagL.stays HE3.out).keep TagL.stays (Kp.same hK4 (fun b hb e => by omega)) (fun _ h => h)
   refine (clone_tag _ _ _ _ (SliceOf.toFlat (R := TagL) (fun _ _ _ _ e => e) (fun _ => rfl) one_tag hs2) (by omega)).mono ?_
   rintro e w5 ⟨⟨v2, rfl, hown2⟩, hE5⟩
   obtain ⟨g2, k2, rfl⟩ := owns_val hown2
   have hb5 := hb4.ext hE5
   have d12 := hb5.c 12 vs rfl
   have e12 := hb5.frozen 12
   have z12 := hb5.lt
   have hown1 := HOW1.out
   have hK6 : Kp (· = kb) w5 (w5.setCell ⟨kb, 12, none⟩ (.slice g2 fm.stack.length k2)) := (Kp.refl (· = kb) w5).setCell (p := ⟨kb, 12, none⟩) (fun _ => rfl) _
   have hz0 := HEz.out.size
   have hz3 := HE3.out.size
   have hF := H.out.fresh (s' := ⟨fm.locals, fm.stack⟩) (hb5.set_ 12 _) (((((HEz.out.trans HE3.out).any (D := (· = kb))).trans hK4).trans hE5.any).trans hK6)
    (owns_mono (owns_kp (owns_kp (owns_kp hown1 hK4 (fun g hg hb e => by omega)) hE5 (fun _ _ _ e => e)) hK6 (fun g hg hb e => by omega)) hz0)
    (owns_mono (owns_kp hown2 hK6 (fun g hg hb e => by omega)) (by omega))
    (fun g h1 h2 => by have := (hown1.lt g h1).2; have := (hown2.lt g h2).1; omega) hlen.1 hlen.2
   have HF6 := hid hF
   clear hF hK6 hown1 hown2 hb5 hE5 hs2 hb4 hK4 hw4
   go_wp2_with fail
   ((try simp only [Exit.inBlock, Exit.then]); (first | refine bodyPost_ret (results_none rfl _ _ _) rfl ?_ | refine bodyPost_end (results_none rfl _ _ _) rfl ?_))
   exact ⟨HF6.out.1, HF6.out.2.1, .inr ⟨_, HO.out, rfl, HF6.out.2.2⟩⟩
end Go.Proofs.YtjdfceejkneofaaGreat
namespace Go.Proofs.YtjdfceejkneofaaGreat
open Go Go.RowKit
open Go.Lib (hid)
section
variable {w w1 w2 : World} {l : Lodge} {p : M.Plan} {B kb : Nat} {k : Int} {m : M.Method} {t : MSl} {at_ : Int} {vl vs vl1 vs1 : Value} {o : Option M.Frm} {e : Ending} {s' : M.Frm}
theorem LkEnd.after (hK : Kp (LkO l kb vl vs) w w1) (hO : OwnSub w.heap.size vl vs vl1 vs1) (h : LkEnd w1 l p B kb k m t at_ vl1 vs1 o e w2) : LkEnd w l p B kb k m t at_ vl vs o e w2 :=
 ⟨hK.look h.1 hO, h.2.1, h.2.2.imp id fun ⟨s', h1, h2, a, b, h3, h4⟩ => ⟨s', h1, h2, a, b, h3, hO.trans h4 hK.size⟩⟩
theorem LkEnd.behind (hE : Ext w w1) (h : LkEnd w1 l p B kb k m t at_ vl vs o e w2) : LkEnd w l p B kb k m t at_ vl vs o e w2 :=
 LkEnd.after hE.any (OwnSub.refl _ _ _) h
end
theorem num_tag (w : World) : Calls Tryz.prog 141 #[] w fun e w' => e = .returned (.agg #[.int .i64 M.numTag.kind, .string M.numTag.name]) ∧ Ext w w' := by
 go_enter Tryz.func141, Tryz.ntmps141
 go_wp2
 refine bodyPost_ret (results_agg agg_tag rfl _ _ w.heap.size rfl [.int .i64 1, .string M.none_] (CellsAt.ofB (Blk.new _ _ _)) rfl) rfl ?_
 exact ⟨rfl, (KX.k (by repeat (first | assumption | constructor)))⟩
theorem cls_tag (w : World) (n : ByteArray) : Calls Tryz.prog 100 #[.string n] w fun e w' => e = .returned (.agg #[.int .i64 (M.clsTag n).kind, .string (M.clsTag n).name]) ∧ Ext w w' := by
 go_enter Tryz.func100, Tryz.ntmps100
 go_wp2
 refine bodyPost_ret (results_agg agg_tag rfl _ _ w.heap.size rfl [.int .i64 2, .string n] (CellsAt.ofB (Blk.new _ _ _)) rfl) rfl ?_
 exact ⟨rfl, (KX.k (by repeat (first | assumption | constructor)))⟩
theorem Blk.set2 {w : World} {b : Nat} {t : TypeId} {u0 u1 : Value} (h : Blk w b t #[u0, u1]) (v0 v1 : Value) : Blk ((w.setCell ⟨b, 0, none⟩ v0).setCell ⟨b, 1, none⟩ v1) b t #[v0, v1] :=
 (h.set_ 0 v0).set_ 1 v1
theorem Kp.newSet2 {D : Nat → Prop} {w w1 : World} {b : Nat} (h : Kp D w w1) (hb : w.heap.size ≤ b) (v0 v1 : Value) : Kp D w ((w1.setCell ⟨b, 0, none⟩ v0).setCell ⟨b, 1, none⟩ v1) :=
 h.own (D' := (· = b)) (((Kp.refl (· = b) w1).setCell (p := ⟨b, 0, none⟩) (fun _ => rfl) v0).setCell (p := ⟨b, 1, none⟩) (fun _ => rfl) v1) (fun k e => by omega)
theorem tag_of (w : World) (x : M.Kind) : Calls Tryz.prog 101 #[.agg #[.int .i64 x.kind, .string x.name]] w fun e w' => e = .returned (.agg #[.int .i64 (M.tagOf x).kind, .string (M.tagOf x).name]) ∧ Ext w w' := by
 obtain ⟨xk, xn⟩ := x
 obtain ⟨w0, hw0⟩ : ∃ w0, w0 = (w.alloc (.cells #[.int .i64 xk, .string xn] 55)).alloc (.cells #[.int .i64 0, .string ⟨#[]⟩] 25) := ⟨_, rfl⟩
 have hE0 : Ext w w0 := by rw [hw0]; exact (KX.k (by repeat (first | assumption | constructor)))
 have b1 : Blk w0 w.heap.size 55 #[.int .i64 xk, .string xn] := by rw [hw0]; exact (Blk.new _ _ _).ext (KX.k (by repeat (first | assumption | constructor)))
 have b2 : Blk w0 (w.heap.size + 1) 25 #[.int .i64 0, .string ⟨#[]⟩] := by rw [hw0]; exact Blk.newAt _ _ (by simp)
 have HW0 := hid hw0
 have HE0 := hid hE0
 have HB1 := hid b1
 have HB2 := hid b2
 clear hw0 hE0 b1 b2
 cases hx : M.kndOk ⟨xk, xn⟩
 · have HT : Hid (M.tagOf ⟨xk, xn⟩ = M.ztag) := hid (by unfold M.tagOf; rw [hx]; rfl)
   have HX := hid hx
   clear hx
   go_enter Tryz.func101, Tryz.ntmps101
   go_wp2_with fail
   rw [← HW0.out]
   refine (knd_ok ⟨xk, xn⟩ _).mono ?_
   rintro e w1 ⟨rfl, hE⟩
   rw [HX.out]
   have hb2 := HB2.out.ext hE
   have x0 := hb2.c 0 (.int .i64 0) rfl
   have x1 := hb2.c 1 (.string ⟨#[]⟩) rfl
   have f0 := hb2.frozen 0
   have f1 := hb2.frozen 1
   have z := hb2.lt
   have HBB := hid hb2
   have HE1 := hid (HE0.out.trans hE)
   clear hE hb2
   go_wp2_with fail
   refine bodyPost_ret (results_agg agg_tag rfl _ _ (w.heap.size + 1) rfl [.int .i64 0, .string ⟨#[]⟩] (CellsAt.ofB (HBB.out.set2 _ _)) rfl) rfl ?_
   exact ⟨by rw [HT.out]; rfl, HE1.out.newSet2 (by omega) _ _⟩
 · have HT : Hid (M.tagOf ⟨xk, xn⟩ = ⟨xk, xn⟩) := hid (by unfold M.tagOf; rw [hx]; rfl)
   have HX := hid hx
   clear hx
   go_enter Tryz.func101, Tryz.ntmps101
   go_wp2_with fail
   rw [← HW0.out]
   refine (knd_ok ⟨xk, xn⟩ _).mono ?_
   rintro e w1 ⟨rfl, hE⟩
   rw [HX.out]
   have hb2 := HB2.out.ext hE
   have hb1 := HB1.out.ext hE
   have y0 := hb1.c 0 (.int .i64 xk) rfl
   have y1 := hb1.c 1 (.string xn) rfl
   have x0 := hb2.c 0 (.int .i64 0) rfl
   have x1 := hb2.c 1 (.string ⟨#[]⟩) rfl
   have f0 := hb2.frozen 0
   have f1 := hb2.frozen 1
   have z := hb2.lt
   have HBB := hid hb2
   have HE1 := hid (HE0.out.trans hE)
   clear hE hb2 hb1
   go_wp2_with fail
   refine bodyPost_ret (results_agg agg_tag rfl _ _ (w.heap.size + 1) rfl [.int .i64 xk, .string xn] (CellsAt.ofB (HBB.out.set2 _ _)) rfl) rfl ?_
   exact ⟨by rw [HT.out], HE1.out.newSet2 (by omega) _ _⟩
theorem look_num (w : World) (l : Lodge) (p : M.Plan) (B kb : Nat) (k : Int) (m : M.Method) (t : MSl) (at_ : Int) (s : M.Frm) (vl vs : Value) (h : LookAt w l p B kb k m t at_ s vl vs) (i : M.Ins) (hop : i.op = 1) :
    Calls Tryz.prog 115 #[.pointer (some ⟨kb, 0, none⟩), .agg #[.int .i64 i.op, .int .i64 i.a, .string i.name, .string i.member]] w (LkEnd w l p B kb k m t at_ vl vs (M.lkIns p k m i s)) := by
 have HO : Hid (M.lkIns p k m i s = M.lkPut m M.numTag s) := hid (by unfold M.lkIns; rw [hop]; rfl)
 have H := hid h
 clear h hop
 go_enter Tryz.func115, Tryz.ntmps115
 go_wp2_with fail
 refine (num_tag _).mono ?_
 rintro e w1 ⟨rfl, hE1⟩
 have HE1 : Hid (Ext w w1) := hid (((KX.k (by repeat (first | assumption | constructor))) : Ext w _).trans hE1)
 clear hE1
 go_wp2_with fail
 refine (look_put' _ _ _ _ _ _ _ _ _ _ _ _ (H.out.ext HE1.out) M.numTag).mono ?_
 rintro e w2 hEnd
 rw [← HO.out] at hEnd
 have HZ := hid (LkEnd.behind HE1.out hEnd)
 rcases hEnd.2.2 with ⟨-, rfl⟩ | ⟨s', -, rfl, -⟩
 · exact ⟨rfl, HZ.out⟩
 · clear hEnd
   go_wp2_with fail
   ((try simp only [Exit.inBlock, Exit.then]); (first | refine bodyPost_ret (results_none rfl _ _ _) rfl ?_ | refine bodyPost_end (results_none rfl _ _ _) rfl ?_))
   exact HZ.out
end Go.Proofs.YtjdfceejkneofaaGreat
