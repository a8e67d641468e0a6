/- Walks: firstField.; Walks: get.; Walks: call.; Walks: may, wrong.; Walks: the looker's stack: take, put. -/
import Derived.Test.YtjdfceejkneofaaGreatJah
import Derived.Test.YtjdfceejkneofaaGreatJag
set_option maxRecDepth 100000
set_option maxHeartbeats 4000000
set_option linter.unusedSimpArgs false
set_option linter.unusedVariables false
namespace Go.Proofs.YtjdfceejkneofaaGreat
open Go Go.RowKit
open Go.Lib (hid)
attribute [local go_sem] Oper.semAt_some
def FstI (p : M.Plan) (of : M.Ref) (xs : List M.Ref) (w2 : World) (fb : Nat) (pre : List (Int × M.Ref)) (W : World) : Prop :=
 ∃ n : Nat, n ≤ pre.length * 3 ∧ Blk W fb 3 #[.int .i64 n] ∧ Kp (· = fb) w2 W ∧ ∀ rest, xs.reverse = pre.map Prod.snd ++ rest → M.firstGo p of xs.reverse 0 = M.firstGo p of rest n
def FstX (p : M.Plan) (of : M.Ref) (xs : List M.Ref) (w2 : World) (fb : Nat) (c : Code) (_ : List (Int × M.Ref)) (W : World) : Prop :=
 c = .exit 0 ∧ ∃ n : Nat, Blk W fb 3 #[.int .i64 n] ∧ Kp (· = fb) w2 W ∧ M.firstGo p of xs.reverse 0 = n
theorem lodge_firstField (w : World) (l : Lodge) (p : M.Plan) (h : LodgeAt w l p) (of low : M.Ref) :
    Calls Tryz.prog 108 #[.pointer (some ⟨l.L, 0, none⟩), .agg #[.int .i64 of.keeper, .string of.name], .agg #[.int .i64 low.keeper, .string low.name]] w fun e w' =>
     e = .returned (.int .i64 (M.firstField p of low)) ∧ Ext w w' := by
 have hDw := h.dlt
 have hLw := h.lt
 have hO := h.ord
 obtain ⟨w1, hw1⟩ : ∃ w1, w1 = (((w.alloc (.cells #[.pointer (some ⟨l.L, 0, none⟩)] 71)).alloc (.cells #[.int .i64 of.keeper, .string of.name] 76)).alloc (.cells #[.int .i64 low.keeper, .string low.name] 76)).alloc (.cells #[.int .i64 0] 3) := ⟨_, rfl⟩
 have hE0 : Ext w w1 := by rw [hw1]; exact (KX.k (by repeat (first | assumption | constructor)))
 have H := hid (h.ext hE0)
 have b2 : Blk w1 w.heap.size 71 #[.pointer (some ⟨l.L, 0, none⟩)] := by rw [hw1]; exact (Blk.new w _ _).ext (KX.k (by repeat (first | assumption | constructor)))
 have b3 : Blk w1 (w.heap.size + 1) 76 #[.int .i64 of.keeper, .string of.name] := by
  rw [hw1]
  have := (Blk.new (w.alloc (.cells #[.pointer (some ⟨l.L, 0, none⟩)] 71)) 76 #[.int .i64 of.keeper, .string of.name])
  simp only [World.size_alloc] at this
  exact this.ext (KX.k (by repeat (first | assumption | constructor)))
 have b4 : Blk w1 (w.heap.size + 1 + 1) 76 #[.int .i64 low.keeper, .string low.name] := by
  rw [hw1]
  have := (Blk.new ((w.alloc (.cells #[.pointer (some ⟨l.L, 0, none⟩)] 71)).alloc (.cells #[.int .i64 of.keeper, .string of.name] 76)) 76 #[.int .i64 low.keeper, .string low.name])
  simp only [World.size_alloc] at this
  exact this.ext (KX.k (by repeat (first | assumption | constructor)))
 have b5 : Blk w1 (w.heap.size + 1 + 1 + 1) 3 #[.int .i64 0] := by
  rw [hw1]
  have := (Blk.new (((w.alloc (.cells #[.pointer (some ⟨l.L, 0, none⟩)] 71)).alloc (.cells #[.int .i64 of.keeper, .string of.name] 76)).alloc (.cells #[.int .i64 low.keeper, .string low.name] 76)) 3 #[.int .i64 0])
  simpa only [World.size_alloc] using this
 have hz1 : w1.heap.size = w.heap.size + 4 := by rw [hw1]; simp
 have HE0 := hid hE0
 have HW1 := hid hw1
 clear h hE0
 refine (callsIn_wide (n := 10)).1 ?_
 refine callsIn_of_wp_marks Tryz.func108 rfl trivial ?_ rfl
 simp only [Tryz.ntmps108, List.size_toArray, List.length_cons, List.length_nil, Nat.reduceAdd, Nat.reduceSub, Array.replicate_succ, Array.replicate_zero, List.push_toArray, List.append_toArray, List.nil_append, List.cons_append]
 clear hw1
 gi_wp2_with fail
 rw [← HW1.out]
 refine ⟨trivial, ?_⟩
 refine (callsIn_wide.2 (lodge_chain _ _ _ H.out low)).mono ?_
 rintro e w2 ⟨⟨v, rfl, hs⟩, hE2⟩
 obtain ⟨a, cap, rfl, hn, hcap⟩ := hs.form
 gi_wp2_with fail
 refine ⟨trivial, ?_⟩
 refine (callsIn_wide.2 (backward_ref _ _ _ _)).mono ?_
 rintro e w3 ⟨rfl, rfl⟩
 gi_wp2_with fail
 have hz2 := hE2.size
 have bb2 := b5.ext hE2
 have HL2 : Hid (LodgeAt w2 l p) := hid (H.out.ext hE2)
 have HE2 : Hid (Ext w w2) := hid (HE0.out.trans hE2)
 have B2 := hid (And.intro (b2.ext hE2) (b3.ext hE2))
 clear b2 b3 b4 b5 hE2
 generalize hbbe : w.heap.size + 1 + 1 + 1 = fb at *
 have hbb : fb < w2.heap.size := by omega
 have HS := hid hs
 have HLEN : Hid ((M.chain p low).length ≤ 6) := hid (M.chain_len p low)
 have HOWN : Hid (∀ x ∈ M.chain p low, ∃ c, M.cls? p x = some c) := hid fun x hx => M.chain_owned hx
 have HV : Hid (M.firstField p of low = M.firstGo p of (M.chain p low).reverse 0) := hid rfl
 clear hs
 generalize M.chain p low = xs at *
 refine range_kp (gf := 133) (lb := #[.pointer (some ⟨w2.heap.size, 0, none⟩)]) (α := Int × M.Ref) rfl (enters_of Tryz.func133 (by kernel_rfl) rfl) (encs := encBR) (fun x => rfl)
  (Bb := fun k => k = fb)
  (backward_iter xs w2.heap.size (.slice a xs.length cap) (fun b => fb + 1 ≤ b ∧ b < w2.heap.size) _ ?hBd) ?hIt ?hD1 ?hD2 ?hB1 ?hB2
  (FstI p of xs w2 fb) (FstX p of xs w2 fb) ?hI ?hIx ?h0 ?hIB
  (fun pre x W a₁ W₁ => FstI p of xs w2 fb pre W ∧ (∃ rest, backTo xs xs.length = pre ++ x :: rest) ∧
   w2.heap.size + 2 < W.heap.size ∧ W₁ = W.alloc (.cells #[.int .i64 x.2.keeper, .string x.2.name] 76) ∧
   a₁ = { tmps := #[.pointer (some ⟨l.L, 0, none⟩), .agg #[.int .i64 of.keeper, .string of.name], .agg #[.int .i64 low.keeper, .string low.name], .pointer (some ⟨w.heap.size, 0, none⟩), .pointer (some ⟨w.heap.size + 1, 0, none⟩), .pointer (some ⟨w.heap.size + 1 + 1, 0, none⟩), .int .i64 0, .pointer (some ⟨fb, 0, none⟩), undef, .pointer (some ⟨W.heap.size, 0, none⟩),
    .pointer (some ⟨l.L, 0, none⟩), .agg #[.int .i64 low.keeper, .string low.name], .slice a xs.length cap, .func (.func 133) #[] #[.pointer (some ⟨w2.heap.size, 0, none⟩)],
    .int .i64 x.1, .agg #[.int .i64 x.2.keeper, .string x.2.name], undef, undef, undef, undef, undef, undef, undef, undef, undef, undef, undef], defers := [] }) ?hassign ?hAx ?hbody ?hdone ?hstop
 case hBd =>
  intro k hk
  have hk' : (k = fb) ∨ k = (w2.alloc (.cells #[.slice a xs.length cap] 73)).heap.size + 1 := hk
  simp only [World.size_alloc] at hk'
  omega
 case hIt =>
  intro W hW
  refine ⟨(Blk.new _ _ _).ext hW, ?_⟩
  refine (refs_inside HS.out).keep RefL.stays (Ext.same (((Kp.refl _ w2).alloc _ : Ext w2 _).trans hW)) (fun b hb => ?_)
  have := hb.1
  exact ⟨by omega, hb.2⟩
 case hD1 => exact fun h => h
 case hD2 => exact fun h => h
 case hB1 => simp only [World.size_alloc]; omega
 case hB2 => simp only [World.size_alloc]; omega
 case hI =>
  rintro s A B ⟨n, e0, e1, e2, e3⟩ hk
  simp only [World.size_alloc] at hk
  exact ⟨n, e0, e1.kp hk (by simp; omega), e2.own hk (fun k hk => by simp at hk; omega), e3⟩
 case hIx =>
  rintro c s A B ⟨e0, n, e1, e2, e3⟩ hk
  simp only [World.size_alloc] at hk
  exact ⟨e0, n, e1.kp hk (by simp; omega), e2.own hk (fun k hk => by simp at hk; omega), e3⟩
 case h0 => exact ⟨0, by simp, bb2.ext (KX.k (by repeat (first | assumption | constructor))), ((KX.k (by repeat (first | assumption | constructor))) : Ext w2 _).any, fun rest h => by simp at h; rw [h]⟩
 case hIB => exact fun _ _ _ => trivial
 case hassign =>
  intro pre x W K hnx hi hlt hK
  simp only [encBR]
  simp only [World.size_alloc] at hlt
  gi_wp2
 case hAx =>
  rintro pre x W a₁ W₁ ⟨_, _, _, rfl, _⟩
  exact ((Kp.refl _ W).alloc _)
 case hbody =>
  rintro pre x W a₁ W₁ W₂ ⟨⟨n, e0, e1, e2, e3⟩, hnx, hlt, rfl, rfl⟩ hk12 hsz2
  simp only [World.size_alloc] at hk12 hsz2
  obtain ⟨rest, hrest⟩ := hnx
  have hsnd : xs.reverse = pre.map Prod.snd ++ x.2 :: rest.map Prod.snd := by
   have := congrArg (List.map Prod.snd) hrest
   rw [backTo_snd _ _ (Nat.le_refl _), List.take_length] at this
   simpa using this
  have hxm : x.2 ∈ xs := by
   have h2 : x.2 ∈ xs.reverse := by rw [hsnd]; simp
   simpa using h2
  have hlenp : n ≤ 18 := by
   have h1 := congrArg List.length hsnd
   simp at h1
   have := HLEN.out
   omega
  have hfg := e3 _ hsnd
  obtain ⟨c, hcl⟩ := HOWN.out _ hxm
  have hKW : Kp (· = fb) w2 W₂ := (e2.alloc _).own hk12 (fun k hk => by omega)
  have hLW : LodgeAt W₂ l p := HL2.out.kp hKW (fun k hk e => by omega)
  obtain ⟨cs, hcs, hcall⟩ := class_fixed _ l p hLW x.2.keeper x.2.name c hcl
  obtain ⟨a1, c1, a2, c2, rfl⟩ := hcs.form
  have hfl : ∀ W, (Instr.field 50 (.agg #[.string c.name, .string c.super, .slice a1 c.fields.length c1, .slice a2 c.methods.length c2]) 2).run Tryz.prog W = .ok (.slice a1 c.fields.length c1) W := (fun W => by kernel_rfl)
  have cb := (Blk.new W 76 #[.int .i64 x.2.keeper, .string x.2.name]).kp hk12 (by omega)
  have u0 := cb.c 0 (.int .i64 x.2.keeper) rfl
  have u1 := cb.c 1 (.string x.2.name) rfl
  have t2 := (B2.out.2.kp hKW (by omega)).c 0 (.int .i64 of.keeper) rfl
  have t3 := (B2.out.2.kp hKW (by omega)).c 1 (.string of.name) rfl
  have g1 := (e1.ext ((Kp.refl _ W).alloc _)).kp hk12 (by omega)
  have HG := hid (And.intro g1 hKW)
  have HCA := hid hcall
  have HF3 := hid (cls_fields hLW.ok hcl)
  have hcx : M.cls p x.2 = c := by unfold M.cls; rw [hcl]; rfl
  have HCX := hid hcx
  have HFG := hid hfg
  have HE3 := hid e3
  have HE0' := hid e0
  obtain ⟨T, f, hneT, HT⟩ := Cls.ex (fun W' => Ext W₂ W') _ (Kp.refl _ _)
  have r2 := fun s => ((B2.out.1.kp hKW (by omega)).ext (HT.inn s)).c 0 (.pointer (some ⟨l.L, 0, none⟩)) rfl
  have r5 := fun s => (g1.ext (HT.inn s)).c 0 (.int .i64 n) rfl
  have r7 := fun s => (cb.ext (HT.inn s)).c 0 (.int .i64 x.2.keeper) rfl
  have r8 := fun s => (cb.ext (HT.inn s)).c 1 (.string x.2.name) rfl
  have HTH := hid HT
  clear e0 e1 e2 e3 cb g1 hKW hcall hLW hcl hk12 hsz2 bb2 HT hcx hfg hsnd hrest hcs
  have hc3 : ((of.keeper = x.2.keeper ∧ of.name = x.2.name) ∧ x.2 = of) ∨ (((of.keeper = x.2.keeper ∧ (x.2.name.toList == of.name.toList) = false) ∨ (x.2.keeper == of.keeper) = false) ∧ ¬ x.2 = of) := by
   rcases ref_cmp x.2.keeper of.keeper x.2.name of.name with ⟨h1, h2⟩ | ⟨h1, h2, h3⟩ | ⟨h1, h2⟩
   · exact .inl ⟨⟨h1.symm, h2.symm⟩, M.Ref.ext_iff'.2 ⟨h1, h2⟩⟩
   · exact .inr ⟨.inl ⟨h1.symm, h2⟩, fun e => h3 (by rw [e])⟩
   · exact .inr ⟨.inr h1, fun e => h2 (by rw [e])⟩
  rcases hc3 with ⟨⟨h1, h2⟩, h3⟩ | ⟨h1, h3⟩
  · have H3 := hid h3
    clear h3
    gi_wp2_with fail
    refine ⟨Kp.refl _ _, rfl, n, HG.out.1, HG.out.2, ?_⟩
    rw [HFG.out]
    unfold M.firstGo
    rw [if_pos H3.out]
  · have H3 := hid h3
    clear h3
    have hnn : (n : Int) ≤ 18 := by omega
    have hff : (c.fields.length : Int) ≤ 3 := by have := HF3.out; omega
    rcases h1 with ⟨h1, h2⟩ | h1
    all_goals
     gi_wp2_with fail
     (refine region_mixI f 7 [([0, 1, 2], 3)] [4, 5, 6] (HTH.out.out _ ?_) (fun _ => trivial) (by kernel_rfl) (by kernel_rfl) (by kernel_rfl) (fun _ _ d _ _ h => by cases d <;> exact h) ?_)
     · exact (Kp.refl _ _).drew
     (refine wpMixI_cons rfl rfl fun K hK => ?_); (change wpQuiet _ _ _ _ [_, _, _] _); (repeat (go_big_quiet_step (fail))); (refine wpQuiet_nil ?_); (refine hK _ fun K2 hK2 => ?_); clear hK K; (change wpListIn _ _ _ _ _ [_] _ _)
     gi_wp2_with fail
     refine ⟨trivial, ?_⟩
     refine (CallsIn.inRound _ (callsIn_wide.2 (HCA.out _ ((Kp.refl _ _).drew)))).mono ?_
     rintro e w4 ⟨rfl, hE4⟩
     have hK4 : Ext W₂ w4 := ((Kp.refl _ W₂).drew : Ext W₂ _).trans hE4
     have b4' := HG.out.1.ext hK4
     have d0 := b4'.c 0 (.int .i64 n) rfl
     have f0 := b4'.frozen 0
     have z0 := b4'.lt
     have HB4 := hid b4'
     have HK4 := hid hK4
     clear b4' hE4
     gi_wp2_with fail
     (refine hK2 _ _ (HTH.out.out _ hK4) ?_); clear hK2 K2
     clear hK4
     (refine wpMixI_nil rfl fun K hK => ?_); (change wpQuiet _ _ _ _ [_, _, _] _); (repeat (go_big_quiet_step (fail))); (refine wpQuiet_nil ?_); (refine hK _ ?_); clear hK K
     gi_wp2_with fail
     have hst : ∀ D : Nat → Prop, D fb → ∀ v, Kp D w4 (w4.setCell ⟨fb, 0, none⟩ v) := fun D hD v => (Kp.refl D w4).setCell (p := ⟨fb, 0, none⟩) (fun _ => hD) v
     have hff3 := HF3.out
     refine ⟨HK4.out.any.trans (hst (· = fb) rfl _), n + c.fields.length, by have := HE0'.out; simp; omega, ?_, (HG.out.2.trans HK4.out.any).trans (hst (· = fb) rfl _), fun rest' hr => ?_⟩
     · have := HB4.out.set_ 0 (.int .i64 ((n : Int) + c.fields.length))
       simpa using this
     · rw [HE3.out (x.2 :: rest') (by rw [hr]; simp)]
       rw [show M.firstGo p of (x.2 :: rest') n = if x.2 = of then n else M.firstGo p of rest' (n + (M.cls p x.2).fields.length) from rfl, if_neg H3.out, HCX.out]
 case hdone =>
  rintro ys W rfl ⟨n, e0, e1, e2, e3⟩ hK
  have k0 := e1.c 0 _ rfl
  have HE := hid (And.intro e1 (And.intro e2 e3))
  clear e1 e2 e3 bb2
  simp only [Exit.inBlock, Exit.then]
  gi_wp2
  obtain ⟨e1, e2, e3⟩ := HE.out
  refine ⟨by simp, .inl ⟨_, _, rfl, run_takeDeferred hK, ?_⟩⟩
  have hk6 := Kp.putObj W (w2.alloc (.cells #[.slice a xs.length cap] 73)).heap.size (.deferred none)
  have hsz2 : (w2.alloc (.cells #[.slice a xs.length cap] 73)).heap.size = w2.heap.size + 1 := by simp
  refine ⟨.int .i64 n, by simp [results, Tryz.f108, go_sem], ?_, ?_⟩
  · have hsnd : (backTo xs xs.length).map Prod.snd = xs.reverse := by rw [backTo_snd _ _ (Nat.le_refl _), List.take_length]
    rw [HV.out, e3 [] (by rw [hsnd]; simp)]
    rfl
  · exact ((HE2.out.own e2 (fun k hk => by omega))).own hk6 (fun k hk => by omega)
 case hstop =>
  rintro c pre W hS ⟨rfl, n, e1, e2, e3⟩ hK
  have k0 := e1.c 0 _ rfl
  have HE := hid (And.intro e1 (And.intro e2 e3))
  clear e1 e2 e3 bb2
  gi_wp2
  obtain ⟨e1, e2, e3⟩ := HE.out
  refine ⟨by simp, .inl ⟨_, _, rfl, run_takeDeferred hK, ?_⟩⟩
  have hk6 := Kp.putObj W (w2.alloc (.cells #[.slice a xs.length cap] 73)).heap.size (.deferred none)
  have hsz2 : (w2.alloc (.cells #[.slice a xs.length cap] 73)).heap.size = w2.heap.size + 1 := by simp
  refine ⟨.int .i64 n, by simp [results, Tryz.f108, go_sem], ?_, ?_⟩
  · rw [HV.out, e3]
  · exact ((HE2.out.own e2 (fun k hk => by omega))).own hk6 (fun k hk => by omega)
end Go.Proofs.YtjdfceejkneofaaGreat
namespace Go.Proofs.YtjdfceejkneofaaGreat
open Go Go.RowKit
open Go.Lib (hid)
theorem elemF {α : Type} (l : List α) (k : Nat) (h : k < l.length) : ∃ x, l[k]? = some x := ⟨l[k], List.getElem?_eq_getElem h⟩
def zfrefV : Array Value := #[.int .i64 0, .string ⟨#[]⟩, .int .i64 0, .int .i64 0, .string ⟨#[]⟩]
theorem ErrV.kp {D : Nat → Prop} {w w' : World} {ev : Value} {c : Int} (h : ErrV w ev c) (hk : Kp D w w') (hD : ∀ b, ev = .iface 170 (.pointer (some ⟨b, 0, none⟩)) → ¬ D b) : ErrV w' ev c := by
 rcases h with h | ⟨h1, b, h2, h3⟩
 · exact .inl h
 · exact .inr ⟨h1, b, h2, h3.kp hk (hD b h2)⟩
theorem Blk.inj {w : World} {g : Nat} {t t' : TypeId} {cs cs' : Array Value} (h : Blk w g t cs) (h' : Blk w g t' cs') : t = t' := by
 unfold Blk at h h'
 rw [h] at h'
 cases h'
 rfl
theorem Kp.set5 {D : Nat → Prop} {w : World} {b : Nat} (hD : D b) (v0 v1 v2 v3 v4 : Value) : Kp D w (((((w.setCell ⟨b, 0, none⟩ v0).setCell ⟨b, 1, none⟩ v1).setCell ⟨b, 2, none⟩ v2).setCell ⟨b, 3, none⟩ v3).setCell ⟨b, 4, none⟩ v4) :=
 (((((Kp.refl D w).setCell (p := ⟨b, 0, none⟩) (fun _ => hD) v0).setCell (p := ⟨b, 1, none⟩) (fun _ => hD) v1).setCell (p := ⟨b, 2, none⟩) (fun _ => hD) v2).setCell (p := ⟨b, 3, none⟩) (fun _ => hD) v3).setCell (p := ⟨b, 4, none⟩) (fun _ => hD) v4
theorem Blk.set5 {w : World} {b : Nat} {t : TypeId} {u0 u1 u2 u3 u4 : Value} (h : Blk w b t #[u0, u1, u2, u3, u4]) (v0 v1 v2 v3 v4 : Value) : Blk (((((w.setCell ⟨b, 0, none⟩ v0).setCell ⟨b, 1, none⟩ v1).setCell ⟨b, 2, none⟩ v2).setCell ⟨b, 3, none⟩ v3).setCell ⟨b, 4, none⟩ v4) b t #[v0, v1, v2, v3, v4] :=
 ((((h.set_ 0 v0).set_ 1 v1).set_ 2 v2).set_ 3 v3).set_ 4 v4
theorem lodge_get (w : World) (l : Lodge) (p : M.Plan) (h : LodgeAt w l p) (k : Int) (n m : ByteArray) :
    Calls Tryz.prog 87 #[.pointer (some ⟨l.L, 0, none⟩), .int .i64 k, .string n, .string m] w fun e w' =>
     (∃ ev, e = .returned (.tuple #[.agg (frefCs (M.get p k n m).1).toArray, ev]) ∧ ErrV w' ev (M.get p k n m).2) ∧ LodgeAt w' l p ∧ Kp (· = l.D) w w' := by
 have hDw := h.dlt
 have hLw := h.lt
 have hO := h.ord
 obtain ⟨w1, hw1⟩ : ∃ w1, w1 = w.alloc (.cells zfrefV 159) := ⟨_, rfl⟩
 have hE0 : Ext w w1 := by rw [hw1]; exact (KX.k (by repeat (first | assumption | constructor)))
 have H := hid (h.ext hE0)
 have b8 : Blk w1 w.heap.size 159 zfrefV := by rw [hw1]; exact Blk.new w _ _
 have hz1 : w1.heap.size = w.heap.size + 1 := by rw [hw1]; simp
 have HE0 := hid hE0
 have HW1 := hid hw1
 have HK : Hid (M.get p k n m = if (M.linkClass p k n m).2 = 1 then M.getIn p k m (M.linkClass p k n m).1 (M.layout p (M.linkClass p k n m).1) else (M.zfref, (M.linkClass p k n m).2)) := hid rfl
 clear h hE0 hw1
 go_enter Tryz.func87, Tryz.ntmps87
 go_wp2_with fail
 have hw1' := HW1.out
 unfold zfrefV at hw1'
 rw [← hw1']
 clear hw1'
 refine (lodge_linkClass _ _ _ H.out _ _ _).mono ?_
 rintro e w2 ⟨⟨ev, rfl, hev⟩, hL2, hK2⟩
 generalize M.linkClass p k n m = F at *
 obtain ⟨⟨rk, rn⟩, code⟩ := F
 simp only at *
 have b82 := b8.kp hK2 (by omega)
 have hz2 := hK2.size
 have y0 := b82.c 0 (.int .i64 0) rfl
 have y1 := b82.c 1 (.string ⟨#[]⟩) rfl
 have y2 := b82.c 2 (.int .i64 0) rfl
 have y3 := b82.c 3 (.int .i64 0) rfl
 have y4 := b82.c 4 (.string ⟨#[]⟩) rfl
 have f0 := b82.frozen 0
 have f1 := b82.frozen 1
 have f2 := b82.frozen 2
 have f3 := b82.frozen 3
 have f4 := b82.frozen 4
 have yz := b82.lt
 have HL2 := hid hL2
 have HK2 : Hid (Kp (· = l.D) w w2) := hid (HE0.out.any.trans hK2)
 have HB8 := hid b82
 clear hL2 hK2 b8 b82
 rcases hev with ⟨rfl, rfl⟩ | ⟨hc, eb, rfl, heb⟩
 · have HN : Hid (M.get p k n m = M.getIn p k m ⟨rk, rn⟩ (M.layout p ⟨rk, rn⟩)) := hid (by rw [HK.out, if_pos rfl])
   have hE2 : Ext w2 (w2.alloc (.cells #[.int .i64 rk, .string rn] 76)) := (KX.k (by repeat (first | assumption | constructor)))
   have b10 := Blk.new w2 76 #[.int .i64 rk, .string rn]
   go_wp2_with fail
   refine (lodge_layout _ _ _ (HL2.out.ext hE2) ⟨rk, rn⟩).mono ?_
   rintro e w3 ⟨⟨v, rfl, hs⟩, hL3, hK3⟩
   obtain ⟨a, cap, rfl, hn, hcap⟩ := hs.form
   have hz3 := hK3.size
   simp only [World.size_alloc] at hz3
   have HB83 := hid ((HB8.out.ext hE2).kp hK3 (by omega))
   have HB10 := hid (b10.kp hK3 (by omega))
   have HL3 := hid hL3
   have HK3 : Hid (Kp (· = l.D) w w3) := hid ((HK2.out.trans hE2.any).trans hK3)
   have HS := hid hs
   have HLAY : Hid (∀ (i : Nat) (x : M.FRef), (M.layout p ⟨rk, rn⟩)[i]? = some x → _) := hid (fun i x => M.layout_at (p := p) (r := ⟨rk, rn⟩) (i := i) (f := x))
   clear hs hL3 hK3 hE2 b10 y0 y1 y2 y3 y4 f0 f1 f2 f3 f4 yz
   generalize M.layout p ⟨rk, rn⟩ = fs at *
   go_wp2_with fail
   go_loopw [31] (fun i wr => ∃ q : Nat, q ≤ fs.length ∧ i = .int .i64 q ∧ Ext w3 wr ∧ Hid (M.getIn p k m ⟨rk, rn⟩ fs = M.getIn p k m ⟨rk, rn⟩ (fs.drop q))) (fun i _ => fs.length - (intOf i).toNat)
   case atStart => exact ⟨0, Nat.zero_le _, rfl, Kp.refl _ _, hid rfl⟩
   case round =>
    obtain ⟨q, hq, rfl, hE, HA⟩ := hrel
    have hB8r := HB83.out.ext hE
    have y0 := hB8r.c 0 (.int .i64 0) rfl
    have y1 := hB8r.c 1 (.string ⟨#[]⟩) rfl
    have y2 := hB8r.c 2 (.int .i64 0) rfl
    have y3 := hB8r.c 3 (.int .i64 0) rfl
    have y4 := hB8r.c 4 (.string ⟨#[]⟩) rfl
    have f0 := hB8r.frozen 0
    have f1 := hB8r.frozen 1
    have f2 := hB8r.frozen 2
    have f3 := hB8r.frozen 3
    have f4 := hB8r.frozen 4
    have yz := hB8r.lt
    have HB8r := hid hB8r
    have hB10r := HB10.out.ext hE
    have HB10r := hid hB10r
    have HLr := hid (HL3.out.ext hE)
    have HKr : Hid (Kp (· = l.D) w wr) := hid (HK3.out.trans hE.any)
    have HEr := hid hE
    by_cases hlt : q < fs.length
    · obtain ⟨x, hx⟩ := elemF fs q hlt
      obtain ⟨_, hxc, hxa, j, fd, hj, hqj, hxk⟩ := HLAY.out q x hx
      obtain ⟨c, hcl⟩ := M.chain_owned hxc
      have hcx : M.cls p x.of = c := by unfold M.cls; rw [hcl]; rfl
      rw [hcx] at hj
      have hjl : j < c.fields.length := (List.getElem?_eq_some_iff.1 hj).1
      have hc3 : c.fields.length ≤ 3 := cls_fields HLr.out.ok hcl
      have HFN : Hid (M.fieldName p ⟨rk, rn⟩ x = fd.name) := hid (M.fieldName_at (by rw [hcx]; exact hj) (by rw [hxa, hqj]))
      have HGI : Hid (M.getIn p k m ⟨rk, rn⟩ fs = if M.fieldName p ⟨rk, rn⟩ x = m then (if M.agree p k x.of.keeper x.kind then (x, 1) else (M.zfref, 4)) else M.getIn p k m ⟨rk, rn⟩ (fs.drop (q + 1))) := hid (by rw [HA.out, drop_get hx]; rfl)
      obtain ⟨b, off, cs, rfl, hIb, rfl, -, hcc⟩ := HS.out.get hx
      have hcc2 := hcc.ext hE
      have g0 := hcc2 0 (.int .i64 x.of.keeper) rfl
      have g1 := hcc2 1 (.string x.of.name) rfl
      have g2 := hcc2 2 (.int .i64 q) (by simp [frefCs, hxa])
      have g3 := hcc2 3 (.int .i64 x.kind.kind) rfl
      have g4 := hcc2 4 (.string x.kind.name) rfl
      rw [Nat.add_zero] at g0
      have gz := cell_lt g0
      have e0 := hB10r.c 0 (.int .i64 rk) rfl
      have e1 := hB10r.c 1 (.string rn) rfl
      have ez := hB10r.lt
      obtain ⟨W4, hW4⟩ : ∃ W4, W4 = wr.alloc (.cells #[.int .i64 x.of.keeper, .string x.of.name, .int .i64 q, .int .i64 x.kind.kind, .string x.kind.name] 159) := ⟨_, rfl⟩
      have hE4 : Ext wr W4 := by rw [hW4]; exact (KX.k (by repeat (first | assumption | constructor)))
      have b13 : Blk W4 wr.heap.size 159 #[.int .i64 x.of.keeper, .string x.of.name, .int .i64 q, .int .i64 x.kind.kind, .string x.kind.name] := by rw [hW4]; exact Blk.new _ _ _
      have HW4 := hid hW4
      have HX := hid (And.intro hxa hxk)
      have HCL := hid hcl
      have HJ := hid hj
      have HQJ := hid hqj
      clear hxa hxk hcl hj hcc hcc2 hx hxc hcx hqj y0 y1 y2 y3 y4 f0 f1 f2 f3 f4 hW4 hB8r hB10r
      go_wp2_with fail
      rw [← HW4.out]
      refine (lodge_firstField _ _ _ (HLr.out.ext hE4) ⟨x.of.keeper, x.of.name⟩ ⟨rk, rn⟩).mono ?_
      rintro e w5 ⟨rfl, hE5⟩
      have hqj : q = M.firstField p ⟨x.of.keeper, x.of.name⟩ ⟨rk, rn⟩ + j := HQJ.out
      generalize M.firstField p ⟨x.of.keeper, x.of.name⟩ ⟨rk, rn⟩ = ff at *
      obtain ⟨cs, hcs, hcall⟩ := class_fixed _ l p HLr.out x.of.keeper x.of.name c HCL.out
      obtain ⟨a1, c1, a2, c2, rfl⟩ := hcs.form
      obtain ⟨vf', vm', he', sf, -⟩ := hcs
      simp only [List.cons.injEq, and_true, true_and] at he'
      obtain ⟨rfl, rfl⟩ := he'
      have hfl : ∀ W, (Instr.field 50 (.agg #[.string c.name, .string c.super, .slice a1 c.fields.length c1, .slice a2 c.methods.length c2]) 2).run Tryz.prog W = .ok (.slice a1 c.fields.length c1) W := (fun W => by kernel_rfl)
      obtain ⟨bf, of, csf, rfl, hIf, rfl, -, hcf⟩ := sf.get HJ.out
      have hEw5 : Ext wr w5 := hE4.trans hE5
      obtain ⟨T, f, hneT, HT⟩ := Cls.ex (fun W' => Ext w5 W') _ (Kp.refl _ _)
      have r0 := fun s => (b13.ext (hE5.trans (HT.inn s))).c 0 (.int .i64 x.of.keeper) rfl
      have r1 := fun s => (b13.ext (hE5.trans (HT.inn s))).c 1 (.string x.of.name) rfl
      have r2 := fun s => (b13.ext (hE5.trans (HT.inn s))).c 2 (.int .i64 q) rfl
      have r3 := fun s => (b13.ext (hE5.trans (HT.inn s))).c 3 (.int .i64 x.kind.kind) rfl
      have r4 := fun s => (b13.ext (hE5.trans (HT.inn s))).c 4 (.string x.kind.name) rfl
      have rf := fun s => (hcf.ext (hEw5.trans (HT.inn s))) 0 (.string fd.name) rfl
      simp only [Nat.add_zero] at rf
      have hw : IntKind.i64.wrap ((q : Int) - (ff : Int)) = (j : Int) := by rw [IntWalk.i64_in _ (by omega)]; omega
      have hw2 : (q : Int) - (ff : Int) = (j : Int) := by omega
      have hj0 : (0 : Int) ≤ (j : Int) := by omega
      have hj1 : (j : Int) < c.fields.length := by omega
      have HTH := hid HT
      have HCA := hid hcall
      have HEW5 := hid hEw5
      have HB13 := hid (b13.ext hE5)
      have HQ := hid hqj
      clear HT hcall hEw5 b13 hE5 hE4 hcf sf g0 g1 g2 g3 g4 e0 e1 hqj
      by_cases hnm : fd.name = m
      · have hnm1 : (fd.name.toList == m.toList) = true := by rw [hnm]; simp
        have HGI2 : Hid (M.get p k n m = if M.agree p k x.of.keeper x.kind then (x, 1) else (M.zfref, 4)) := hid (by rw [HN.out, HGI.out, if_pos (by rw [HFN.out]; exact hnm)])
        clear hnm
        go_wp2_with fail
        (refine region_in f (HTH.out.out _ ?_) (by kernel_rfl) (by kernel_rfl) ?_); rotate_left; (repeat (go_big_quiet_step ((go_at_call 39; refine (HCA.out _ (HEW5.out.trans (HTH.out.inn _)).any).mono ?_; rintro e w6 ⟨rfl, hE6⟩; exact ⟨rfl, HTH.out.out w6 ((HTH.out.inn _).trans hE6)⟩)))); (refine wpQuiet_nil ?_); (rintro _ ⟨sW, rfl⟩); rotate_left
        · exact (Kp.refl _ _).drew
        go_wp2_with fail
        have hwr6 : Ext wr (f sW) := HEW5.out.trans (HTH.out.inn sW)
        have hB136 := HB13.out.ext (HTH.out.inn sW)
        generalize f sW = w6 at *
        clear HTH r0 r1 r2 r3 r4 rf
        refine (lodge_agree _ _ _ (HLr.out.ext hwr6) k x.of.keeper x.kind).mono ?_
        rintro e w7 ⟨rfl, hE7⟩
        have hwr7 : Ext wr w7 := hwr6.trans hE7
        have hB137 := hB136.ext hE7
        have hB87 := HB8r.out.ext hwr7
        have y0 := hB87.c 0 (.int .i64 0) rfl
        have y1 := hB87.c 1 (.string ⟨#[]⟩) rfl
        have y2 := hB87.c 2 (.int .i64 0) rfl
        have y3 := hB87.c 3 (.int .i64 0) rfl
        have y4 := hB87.c 4 (.string ⟨#[]⟩) rfl
        have f0 := hB87.frozen 0
        have f1 := hB87.frozen 1
        have f2 := hB87.frozen 2
        have f3 := hB87.frozen 3
        have f4 := hB87.frozen 4
        have yz := hB87.lt
        have HB87 := hid hB87
        have HL7 := hid (HLr.out.ext hwr7)
        have HK7 : Hid (Kp (· = l.D) w w7) := hid (HKr.out.trans hwr7.any)
        cases hag : M.agree p k x.of.keeper x.kind
        · have HN2 : Hid (M.get p k n m = (M.zfref, 4)) := hid (by rw [HGI2.out, hag]; rfl)
          clear hB137 hB136 hB87 hwr7 hwr6 hE7 hag
          go_wp2_with fail
          have hs := Kp.set5 (D := (· = w.heap.size)) (w := w7) rfl (.int .i64 0) (.string ⟨#[]⟩) (.int .i64 0) (.int .i64 0) (.string ⟨#[]⟩)
          have hb := HB87.out.set5 (.int .i64 0) (.string ⟨#[]⟩) (.int .i64 0) (.int .i64 0) (.string ⟨#[]⟩)
          refine bodyPost_ret (results_agg2 agg_fref rfl _ _ w.heap.size rfl (frefCs M.zfref) ((CellsAt.ofB hb).ext ((Kp.refl _ _).alloc _)) rfl) rfl ?_
          rw [HN2.out]
          refine ⟨⟨_, rfl, .inr ⟨by simp, w7.heap.size, rfl, ?_⟩⟩, (HL7.out.kp hs (fun k hk e => by omega)).ext ((Kp.refl _ _).alloc _), (HK7.out.own hs (fun k hk => by omega)).alloc _⟩
          have := Blk.new (((((w7.setCell ⟨w.heap.size, 0, none⟩ (.int .i64 0)).setCell ⟨w.heap.size, 1, none⟩ (.string ⟨#[]⟩)).setCell ⟨w.heap.size, 2, none⟩ (.int .i64 0)).setCell ⟨w.heap.size, 3, none⟩ (.int .i64 0)).setCell ⟨w.heap.size, 4, none⟩ (.string ⟨#[]⟩)) 172 #[.int .i64 4]
          simpa using this
        · have HN2 : Hid (M.get p k n m = (x, 1)) := hid (by rw [HGI2.out, hag]; rfl)
          have e0 := hB137.c 0 (.int .i64 x.of.keeper) rfl
          have e1 := hB137.c 1 (.string x.of.name) rfl
          have e2 := hB137.c 2 (.int .i64 q) rfl
          have e3 := hB137.c 3 (.int .i64 x.kind.kind) rfl
          have e4 := hB137.c 4 (.string x.kind.name) rfl
          clear hB137 hB136 hB87 hwr7 hwr6 hE7 hag
          go_wp2_with fail
          have hs := Kp.set5 (D := (· = w.heap.size)) (w := w7) rfl (.int .i64 x.of.keeper) (.string x.of.name) (.int .i64 q) (.int .i64 x.kind.kind) (.string x.kind.name)
          have hb := HB87.out.set5 (.int .i64 x.of.keeper) (.string x.of.name) (.int .i64 q) (.int .i64 x.kind.kind) (.string x.kind.name)
          have hxq : frefCs x = [.int .i64 x.of.keeper, .string x.of.name, .int .i64 q, .int .i64 x.kind.kind, .string x.kind.name] := by unfold frefCs; rw [HX.out.1]
          rw [HN2.out]
          refine bodyPost_ret (results_agg2 agg_fref rfl _ _ w.heap.size rfl (frefCs x) (by rw [hxq]; exact CellsAt.ofB hb) rfl) rfl ?_
          exact ⟨⟨_, rfl, .inl ⟨rfl, rfl⟩⟩, HL7.out.kp hs (fun k hk e => by omega), HK7.out.own hs (fun k hk => by omega)⟩
      · have hnm1 : (fd.name.toList == m.toList) = false := by rw [beq_names]; exact decide_eq_false hnm
        have HGI2 : Hid (M.getIn p k m ⟨rk, rn⟩ fs = M.getIn p k m ⟨rk, rn⟩ (fs.drop (q + 1))) := hid (by rw [HGI.out, if_neg (by rw [HFN.out]; exact hnm)])
        clear hnm
        go_wp2_with fail
        (refine region_in f (HTH.out.out _ ?_) (by kernel_rfl) (by kernel_rfl) ?_); rotate_left; (repeat (go_big_quiet_step ((go_at_call 39; refine (HCA.out _ (HEW5.out.trans (HTH.out.inn _)).any).mono ?_; rintro e w6 ⟨rfl, hE6⟩; exact ⟨rfl, HTH.out.out w6 ((HTH.out.inn _).trans hE6)⟩)))); (refine wpQuiet_nil ?_); (rintro _ ⟨sW, rfl⟩); rotate_left
        · exact (Kp.refl _ _).drew
        go_wp2_with fail
        have hwr := HEr.out.trans (HEW5.out.trans (HTH.out.inn sW))
        refine ⟨⟨q + 1, by omega, by go_num, hwr, HGI2⟩, by simp [intOf]; omega⟩
    · have HN2 : Hid (M.get p k n m = (M.zfref, 3)) := hid (by rw [HN.out, HA.out, List.drop_eq_nil_of_le (by omega)]; rfl)
      clear hB8r hB10r
      go_wp2_with fail
      have hs := Kp.set5 (D := (· = w.heap.size)) (w := wr) rfl (.int .i64 0) (.string ⟨#[]⟩) (.int .i64 0) (.int .i64 0) (.string ⟨#[]⟩)
      have hb := HB8r.out.set5 (.int .i64 0) (.string ⟨#[]⟩) (.int .i64 0) (.int .i64 0) (.string ⟨#[]⟩)
      refine bodyPost_ret (results_agg2 agg_fref rfl _ _ w.heap.size rfl (frefCs M.zfref) ((CellsAt.ofB hb).ext ((Kp.refl _ _).alloc _)) rfl) rfl ?_
      rw [HN2.out]
      refine ⟨⟨_, rfl, .inr ⟨by simp, wr.heap.size, rfl, ?_⟩⟩, (HLr.out.kp hs (fun k hk e => by omega)).ext ((Kp.refl _ _).alloc _), (HKr.out.own hs (fun k hk => by omega)).alloc _⟩
      have := Blk.new (((((wr.setCell ⟨w.heap.size, 0, none⟩ (.int .i64 0)).setCell ⟨w.heap.size, 1, none⟩ (.string ⟨#[]⟩)).setCell ⟨w.heap.size, 2, none⟩ (.int .i64 0)).setCell ⟨w.heap.size, 3, none⟩ (.int .i64 0)).setCell ⟨w.heap.size, 4, none⟩ (.string ⟨#[]⟩)) 172 #[.int .i64 3]
      simpa using this
 · have HEB := hid heb
   have HC := hid hc
   clear heb hc
   have HN : Hid (M.get p k n m = (M.zfref, code)) := hid (by rw [HK.out, if_neg HC.out])
   have hebn : ¬ eb = w.heap.size := fun e => by subst e; exact absurd (Blk.inj HEB.out HB8.out) (by decide)
   go_wp2_with fail
   have hs := Kp.set5 (D := (· = w.heap.size)) (w := w2) rfl (.int .i64 0) (.string ⟨#[]⟩) (.int .i64 0) (.int .i64 0) (.string ⟨#[]⟩)
   have hb := HB8.out.set5 (.int .i64 0) (.string ⟨#[]⟩) (.int .i64 0) (.int .i64 0) (.string ⟨#[]⟩)
   refine bodyPost_ret (results_agg2 agg_fref rfl _ _ w.heap.size rfl (frefCs M.zfref) ((CellsAt.ofB hb).ext ((Kp.refl _ _).alloc _)) rfl) rfl ?_
   rw [HN.out]
   exact ⟨⟨_, rfl, .inr ⟨HC.out, eb, rfl, (HEB.out.kp hs hebn).ext ((Kp.refl _ _).alloc _)⟩⟩, (HL2.out.kp hs (fun k hk e => by omega)).ext ((Kp.refl _ _).alloc _), (HK2.out.own hs (fun k hk => by omega)).alloc _⟩
theorem lodge_method' (w : World) (l : Lodge) (p : M.Plan) (h : LodgeAt w l p) (x : M.MRef) (hx : M.hasMethod p x = true) :
    Calls Tryz.prog 48 #[.pointer (some ⟨l.L, 0, none⟩), .agg #[.int .i64 x.of.keeper, .string x.of.name, .int .i64 x.at_]] w fun e w' =>
     (∃ cs, MethodL w' (· < l.O) (M.method p x) cs ∧ e = .returned (.agg cs.toArray)) ∧ Ext w w' := by
 obtain ⟨_, i, c, m, h1, h2, h3, h4⟩ := M.hasMethod_found hx
 have e : M.method p x = m := by unfold M.method; rw [h4]; rfl
 rw [e, h1]
 exact lodge_method w l p h x.of.keeper x.of.name i c m h2 h3
theorem Blk.newAt {W : World} {g : Nat} (t : TypeId) (cs : Array Value) (h : W.heap.size = g) : Blk (W.alloc (.cells cs t)) g t cs := by
 subst h
 exact Blk.new W t cs
def mrefCs (x : M.MRef) : List Value := [.int .i64 x.of.keeper, .string x.of.name, .int .i64 x.at_]
theorem Kp.set3 {D : Nat → Prop} {w : World} {b : Nat} (hD : D b) (v0 v1 v2 : Value) : Kp D w (((w.setCell ⟨b, 0, none⟩ v0).setCell ⟨b, 1, none⟩ v1).setCell ⟨b, 2, none⟩ v2) :=
 (((Kp.refl D w).setCell (p := ⟨b, 0, none⟩) (fun _ => hD) v0).setCell (p := ⟨b, 1, none⟩) (fun _ => hD) v1).setCell (p := ⟨b, 2, none⟩) (fun _ => hD) v2
theorem Blk.set3 {w : World} {b : Nat} {t : TypeId} {u0 u1 u2 : Value} (h : Blk w b t #[u0, u1, u2]) (v0 v1 v2 : Value) : Blk (((w.setCell ⟨b, 0, none⟩ v0).setCell ⟨b, 1, none⟩ v1).setCell ⟨b, 2, none⟩ v2) b t #[v0, v1, v2] :=
 ((h.set_ 0 v0).set_ 1 v1).set_ 2 v2
theorem lodge_call (w : World) (l : Lodge) (p : M.Plan) (h : LodgeAt w l p) (k : Int) (n m : ByteArray) :
    Calls Tryz.prog 68 #[.pointer (some ⟨l.L, 0, none⟩), .int .i64 k, .string n, .string m] w fun e w' =>
     (∃ ev, e = .returned (.tuple #[.agg (mrefCs (M.call p k n m).1).toArray, ev]) ∧ ErrV w' ev (M.call p k n m).2) ∧ LodgeAt w' l p ∧ Kp (· = l.D) w w' := by
 have hDw := h.dlt
 have hLw := h.lt
 have hO := h.ord
 obtain ⟨w1, hw1⟩ : ∃ w1, w1 = w.alloc (.cells #[.int .i64 0, .string ⟨#[]⟩, .int .i64 0] 97) := ⟨_, rfl⟩
 have hE0 : Ext w w1 := by rw [hw1]; exact (KX.k (by repeat (first | assumption | constructor)))
 have H := hid (h.ext hE0)
 have b8 : Blk w1 w.heap.size 97 #[.int .i64 0, .string ⟨#[]⟩, .int .i64 0] := by rw [hw1]; exact Blk.new w _ _
 have hz1 : w1.heap.size = w.heap.size + 1 := by rw [hw1]; simp
 have HE0 := hid hE0
 have HW1 := hid hw1
 have HK : Hid (M.call p k n m = if (M.linkClass p k n m).2 = 1 then
  (match M.pick p (M.linkClass p k n m).1 m with
  | none => (M.zmref, 3)
  | some x => if M.agreeMethod p k x.of.keeper (M.method p x) then (x, 1) else (M.zmref, 4))
 else (M.zmref, (M.linkClass p k n m).2)) := hid rfl
 clear h hE0 hw1
 go_enter Tryz.func68, Tryz.ntmps68
 go_wp2_with fail
 rw [← HW1.out]
 refine (lodge_linkClass _ _ _ H.out _ _ _).mono ?_
 rintro e w2 ⟨⟨ev, rfl, hev⟩, hL2, hK2⟩
 generalize M.linkClass p k n m = F at *
 obtain ⟨⟨rk, rn⟩, code⟩ := F
 simp only at *
 have b82 := b8.kp hK2 (by omega)
 have hz2 := hK2.size
 have y0 := b82.c 0 (.int .i64 0) rfl
 have y1 := b82.c 1 (.string ⟨#[]⟩) rfl
 have y2 := b82.c 2 (.int .i64 0) rfl
 have f0 := b82.frozen 0
 have f1 := b82.frozen 1
 have f2 := b82.frozen 2
 have yz := b82.lt
 have HL2 := hid hL2
 have HK2 : Hid (Kp (· = l.D) w w2) := hid (HE0.out.any.trans hK2)
 have HB8 := hid b82
 clear hL2 hK2 b8 b82
 rcases hev with ⟨rfl, rfl⟩ | ⟨hc, eb, rfl, heb⟩
 · have HN : Hid (M.call p k n m = match M.pick p ⟨rk, rn⟩ m with
    | none => (M.zmref, 3)
    | some x => if M.agreeMethod p k x.of.keeper (M.method p x) then (x, 1) else (M.zmref, 4)) := hid (by rw [HK.out, if_pos rfl])
   have hE2 : Ext w2 (w2.alloc (.cells #[.int .i64 rk, .string rn] 76)) := (KX.k (by repeat (first | assumption | constructor)))
   clear y0 y1 y2 f0 f1 f2 yz
   go_wp2_with fail
   refine (lodge_pick _ _ _ (HL2.out.ext hE2) ⟨rk, rn⟩ m).mono ?_
   rintro e w3 ⟨rfl, hL3, hK3⟩
   have hz3 := hK3.size
   simp only [World.size_alloc] at hz3
   have hB83 := (HB8.out.ext hE2).kp hK3 (by omega)
   have y0 := hB83.c 0 (.int .i64 0) rfl
   have y1 := hB83.c 1 (.string ⟨#[]⟩) rfl
   have y2 := hB83.c 2 (.int .i64 0) rfl
   have f0 := hB83.frozen 0
   have f1 := hB83.frozen 1
   have f2 := hB83.frozen 2
   have yz := hB83.lt
   have HB83 := hid hB83
   have HL3 := hid hL3
   have HK3 : Hid (Kp (· = l.D) w w3) := hid ((HK2.out.trans hE2.any).trans hK3)
   clear hL3 hK3 hE2 hB83
   cases hp : M.pick p ⟨rk, rn⟩ m with
   | none =>
    have HR : Hid (M.call p k n m = (M.zmref, 3)) := hid (by rw [HN.out, hp])
    clear hp
    simp only [Option.getD_none, Option.isSome_none, zmref]
    go_wp2_with fail
    have hs := Kp.set3 (D := (· = w.heap.size)) (w := w3) rfl (.int .i64 0) (.string ⟨#[]⟩) (.int .i64 0)
    have hb := HB83.out.set3 (.int .i64 0) (.string ⟨#[]⟩) (.int .i64 0)
    refine bodyPost_ret (results_agg2 agg_mref rfl _ _ w.heap.size rfl (mrefCs M.zmref) (((CellsAt.ofB hb).ext ((Kp.refl _ _).alloc _)).ext ((Kp.refl _ _).alloc _)) rfl) rfl ?_
    rw [HR.out]
    exact ⟨⟨_, rfl, .inr ⟨by simp, w3.heap.size + 1, rfl, Blk.newAt _ _ (by simp)⟩⟩, ((HL3.out.kp hs (fun k hk e => by omega)).ext ((Kp.refl _ _).alloc _)).ext ((Kp.refl _ _).alloc _), ((HK3.out.own hs (fun k hk => by omega)).alloc _).alloc _⟩
   | some x =>
    have HX := hid (M.pick_has hp)
    have HR : Hid (M.call p k n m = if M.agreeMethod p k x.of.keeper (M.method p x) then (x, 1) else (M.zmref, 4)) := hid (by rw [HN.out, hp])
    clear hp
    simp only [Option.getD_some, Option.isSome_some]
    obtain ⟨W4, hW4⟩ : ∃ W4, W4 = w3.alloc (.cells #[.int .i64 x.of.keeper, .string x.of.name, .int .i64 x.at_] 97) := ⟨_, rfl⟩
    have hE4 : Ext w3 W4 := by rw [hW4]; exact (KX.k (by repeat (first | assumption | constructor)))
    have b12 : Blk W4 w3.heap.size 97 #[.int .i64 x.of.keeper, .string x.of.name, .int .i64 x.at_] := by rw [hW4]; exact Blk.new _ _ _
    obtain ⟨T, f, hneT, HT⟩ := Cls.ex (fun W' => Ext W4 W') _ (Kp.refl _ _)
    have r0 := fun s => (b12.ext (HT.inn s)).c 0 (.int .i64 x.of.keeper) rfl
    have r1 := fun s => (b12.ext (HT.inn s)).c 1 (.string x.of.name) rfl
    have r2 := fun s => (b12.ext (HT.inn s)).c 2 (.int .i64 x.at_) rfl
    have HTH := hid HT
    have HW4 := hid hW4
    have HE4 := hid hE4
    have HB12 := hid b12
    have HL4 := hid (HL3.out.ext hE4)
    have HB84 := hid (HB83.out.ext hE4)
    have HK4 : Hid (Kp (· = l.D) w W4) := hid (HK3.out.trans hE4.any)
    clear y0 y1 y2 f0 f1 f2 yz HT hW4 hE4 b12
    go_wp2_with fail
    rw [← HW4.out]
    (refine region_mix f 10 [([0, 1, 2, 3, 4, 5, 6], 7), ([], 8)] [9] (HTH.out.out _ ?_) (by kernel_rfl) (by kernel_rfl) (fun _ _ d _ _ h => by cases d <;> exact h) ?_)
    · exact (Kp.refl _ _).drew
    (refine wpMix_cons rfl rfl fun K hK => ?_); (change wpQuiet _ _ _ _ [_, _, _, _, _, _, _] _); (repeat (go_big_quiet_step (fail))); (refine wpQuiet_nil ?_); (refine hK _ fun K2 hK2 => ?_); clear hK K; (change wpList _ _ _ [_] _ _)
    go_wp2_with fail
    refine (lodge_method' _ _ _ (HL4.out.ext (Kp.refl _ _).drew) x HX.out).mono ?_
    rintro e w5 ⟨⟨cs, hml, rfl⟩, hE5⟩
    have hE45 : Ext W4 w5 := ((Kp.refl _ _).drew : Ext W4 _).trans hE5
    have HML := hid hml
    obtain ⟨a1, c1, a2, c2, a3, c3, rfl⟩ := hml.form
    clear hml hE5
    go_wp2_with fail
    (refine hK2 _ _ (HTH.out.out _ hE45) ?_); clear hK2 K2
    (refine wpMix_cons rfl rfl fun K hK => ?_); (change wpQuiet _ _ _ _ [] _); (refine wpQuiet_nil ?_); (refine hK _ fun K2 hK2 => ?_); clear hK K; (change wpList _ _ _ [_] _ _)
    go_wp2_with fail
    refine (lodge_agreeMethod _ _ _ (HL4.out.ext hE45) k x.of.keeper _ _ _ HML.out).mono ?_
    rintro e w6 ⟨rfl, hE6⟩
    have hE46 := hE45.trans hE6
    have hB86 := HB84.out.ext hE46
    have y0 := hB86.c 0 (.int .i64 0) rfl
    have y1 := hB86.c 1 (.string ⟨#[]⟩) rfl
    have y2 := hB86.c 2 (.int .i64 0) rfl
    have f0 := hB86.frozen 0
    have f1 := hB86.frozen 1
    have f2 := hB86.frozen 2
    have yz := hB86.lt
    have hB126 := HB12.out.ext hE46
    have z0 := hB126.c 0 (.int .i64 x.of.keeper) rfl
    have z1 := hB126.c 1 (.string x.of.name) rfl
    have z2 := hB126.c 2 (.int .i64 x.at_) rfl
    have HB86 := hid hB86
    have HL6 := hid (HL4.out.ext hE46)
    have HK6 : Hid (Kp (· = l.D) w w6) := hid (HK4.out.trans hE46.any)
    have HE46 := hid hE46
    clear hE6 hE45 hB86 hB126 r0 r1 r2 hE46
    go_wp2_with fail
    (refine hK2 _ _ (HTH.out.out _ HE46.out) ?_); clear hK2 K2
    cases hag : M.agreeMethod p k x.of.keeper (M.method p x)
    · have HR2 : Hid (M.call p k n m = (M.zmref, 4)) := hid (by rw [HR.out, hag]; rfl)
      clear hag
      (refine wpMix_nil rfl fun K hK => ?_); (change wpQuiet _ _ _ _ [_] _); (repeat (go_big_quiet_step (fail))); (refine wpQuiet_nil ?_); (refine hK _ ?_); clear hK K; (simp only [List.drop_succ_cons, List.drop_zero, List.drop_nil, wpList])
      go_wp2_with fail
      have hs := Kp.set3 (D := (· = w.heap.size)) (w := w6) rfl (.int .i64 0) (.string ⟨#[]⟩) (.int .i64 0)
      have hb := HB86.out.set3 (.int .i64 0) (.string ⟨#[]⟩) (.int .i64 0)
      refine bodyPost_ret (results_agg2 agg_mref rfl _ _ w.heap.size rfl (mrefCs M.zmref) ((CellsAt.ofB hb).ext ((Kp.refl _ _).alloc _)) rfl) rfl ?_
      rw [HR2.out]
      exact ⟨⟨_, rfl, .inr ⟨by simp, w6.heap.size, rfl, Blk.newAt _ _ (by simp)⟩⟩, (HL6.out.kp hs (fun k hk e => by omega)).ext ((Kp.refl _ _).alloc _), (HK6.out.own hs (fun k hk => by omega)).alloc _⟩
    · have HR2 : Hid (M.call p k n m = (x, 1)) := hid (by rw [HR.out, hag]; rfl)
      clear hag
      (refine wpMix_nil rfl fun K hK => ?_); (change wpQuiet _ _ _ _ [_] _); (repeat (go_big_quiet_step (fail))); (refine wpQuiet_nil ?_); (refine hK _ ?_); clear hK K; (simp only [List.drop_succ_cons, List.drop_zero, List.drop_nil, wpList])
      go_wp2_with fail
      have hs := Kp.set3 (D := (· = w.heap.size)) (w := w6) rfl (.int .i64 x.of.keeper) (.string x.of.name) (.int .i64 x.at_)
      have hb := HB86.out.set3 (.int .i64 x.of.keeper) (.string x.of.name) (.int .i64 x.at_)
      refine bodyPost_ret (results_agg2 agg_mref rfl _ _ w.heap.size rfl (mrefCs x) (CellsAt.ofB hb) rfl) rfl ?_
      rw [HR2.out]
      exact ⟨⟨_, rfl, .inl ⟨rfl, rfl⟩⟩, HL6.out.kp hs (fun k hk e => by omega), HK6.out.own hs (fun k hk => by omega)⟩
 · have HEB := hid heb
   have HC := hid hc
   clear heb hc
   have HN : Hid (M.call p k n m = (M.zmref, code)) := hid (by rw [HK.out, if_neg HC.out])
   have hebn : ¬ eb = w.heap.size := fun e => by subst e; exact absurd (Blk.inj HEB.out HB8.out) (by decide)
   go_wp2_with fail
   have hs := Kp.set3 (D := (· = w.heap.size)) (w := w2) rfl (.int .i64 0) (.string ⟨#[]⟩) (.int .i64 0)
   have hb := HB8.out.set3 (.int .i64 0) (.string ⟨#[]⟩) (.int .i64 0)
   refine bodyPost_ret (results_agg2 agg_mref rfl _ _ w.heap.size rfl (mrefCs M.zmref) ((CellsAt.ofB hb).ext ((Kp.refl _ _).alloc _)) rfl) rfl ?_
   rw [HN.out]
   exact ⟨⟨_, rfl, .inr ⟨HC.out, eb, rfl, (HEB.out.kp hs hebn).ext ((Kp.refl _ _).alloc _)⟩⟩, (HL2.out.kp hs (fun k hk e => by omega)).ext ((Kp.refl _ _).alloc _), (HK2.out.own hs (fun k hk => by omega)).alloc _⟩
def wrongP (n : Int) : List PanicEntry := [{ v := .iface 184 (.agg #[.int .i64 n]), recovered := false }]
theorem look_wrong (w : World) (kb : Nat) (n : Int) (hc : w.cell? ⟨kb, 10, none⟩ = some (.int .i64 n)) (h0 : 0 ≤ n) (h1 : n ≤ 1000) :
    Calls Tryz.prog 132 #[.pointer (some ⟨kb, 0, none⟩)] w fun e w' => e = .panicked (wrongP (n + 1)) ∧ w = w' := by
 go_enter Tryz.func132, Tryz.ntmps132
 go_wp2
 exact ⟨rfl, rfl, rfl⟩
theorem lodge_may (w : World) (l : Lodge) (p : M.Plan) (h : LodgeAt w l p) (k : Int) (a b : M.Tag) :
    Calls Tryz.prog 154 #[.pointer (some ⟨l.L, 0, none⟩), .int .i64 k, .agg #[.int .i64 a.kind, .string a.name], .agg #[.int .i64 b.kind, .string b.name]] w fun e w' =>
     e = .returned (.bool (M.may p k a b)) ∧ Ext w w' := by
 obtain ⟨ak, an⟩ := a
 obtain ⟨bk, bn⟩ := b
 have H := hid h
 clear h
 by_cases h0 : bk = 0
 · subst h0
   have HV : Hid (M.may p k ⟨ak, an⟩ ⟨0, bn⟩ = true) := hid (by unfold M.may; rw [if_pos (.inl rfl)])
   go_enter Tryz.func154, Tryz.ntmps154
   go_wp2
   go_ret
   exact ⟨ret_bool HV.out.symm, (KX.k (by repeat (first | assumption | constructor)))⟩
 by_cases he : ak = bk ∧ an = bn
 · obtain ⟨rfl, rfl⟩ := he
   have HV : Hid (M.may p k ⟨ak, an⟩ ⟨ak, an⟩ = true) := hid (by unfold M.may; rw [if_pos (.inr rfl)])
   have h0' : (ak == 0) = false := beq_eq_false_iff_ne.2 h0
   clear h0
   go_enter Tryz.func154, Tryz.ntmps154
   go_wp2
   go_ret
   exact ⟨ret_bool HV.out.symm, (KX.k (by repeat (first | assumption | constructor)))⟩
 have HU : Hid (M.may p k ⟨ak, an⟩ ⟨bk, bn⟩ = if bk ≠ 2 then false else if ak = 3 then true else if ak ≠ 2 then false
  else decide ((M.find p k an).2 = 1) && decide ((M.find p k bn).2 = 1) && M.under p (M.find p k an).1 (M.find p k bn).1) := hid (by
  unfold M.may
  rw [if_neg (by
   rintro (h | h)
   · exact h0 h
   · rw [M.Tag.ext_iff'] at h; exact he h)])
 have h0' : (bk == 0) = false := beq_eq_false_iff_ne.2 h0
 have hcmp : (ak == bk) = false ∨ (ak = bk ∧ (an.toList == bn.toList) = false) := by
  rcases ref_cmp ak bk an bn with ⟨h1, h2⟩ | ⟨h1, h2, _⟩ | ⟨h1, _⟩
  · exact absurd ⟨h1, h2⟩ he
  · exact .inr ⟨h1, h2⟩
  · exact .inl h1
 clear h0 he
 by_cases hb2 : bk = 2
 · subst hb2
   by_cases ha3 : ak = 3
   · subst ha3
     have HV : Hid (M.may p k ⟨3, an⟩ ⟨2, bn⟩ = true) := hid (by rw [HU.out]; rfl)
     clear hcmp
     go_enter Tryz.func154, Tryz.ntmps154
     go_wp2
     go_ret
     exact ⟨ret_bool HV.out.symm, (KX.k (by repeat (first | assumption | constructor)))⟩
   by_cases ha2 : ak = 2
   · subst ha2
     have hnn : (an.toList == bn.toList) = false := by
      rcases hcmp with h | h
      · exact absurd h (by decide)
      · exact h.2
     have HV : Hid (M.may p k ⟨2, an⟩ ⟨2, bn⟩ = (decide ((M.find p k an).2 = 1) && decide ((M.find p k bn).2 = 1) && M.under p (M.find p k an).1 (M.find p k bn).1)) := hid (by rw [HU.out]; rfl)
     clear hcmp ha3
     obtain ⟨w0, hw0⟩ : ∃ w0, w0 = (w.alloc (.cells #[.int .i64 2, .string an] 25)).alloc (.cells #[.int .i64 2, .string bn] 25) := ⟨_, rfl⟩
     have hE0 : Ext w w0 := by rw [hw0]; exact (KX.k (by repeat (first | assumption | constructor)))
     have b7 : Blk w0 (w.heap.size + 1) 25 #[.int .i64 2, .string bn] := by rw [hw0]; exact Blk.newAt _ _ (by simp)
     have HW0 := hid hw0
     have HE0 := hid hE0
     clear hw0 hE0
     go_enter Tryz.func154, Tryz.ntmps154
     go_wp2_with fail
     rw [← HW0.out]
     refine (lodge_find _ _ _ (H.out.ext HE0.out) k an).mono ?_
     rintro e w1 ⟨rfl, hE1⟩
     have q0 := (b7.ext hE1).c 0 (.int .i64 2) rfl
     have q1 := (b7.ext hE1).c 1 (.string bn) rfl
     have qz := (b7.ext hE1).lt
     have HE1 := hid (HE0.out.trans hE1)
     clear hE1 b7
     generalize M.find p k an = F1 at *
     obtain ⟨⟨xk, xn⟩, c1⟩ := F1
     simp only at *
     obtain ⟨w2, hw2⟩ : ∃ w2, w2 = w1.alloc (.cells #[.int .i64 xk, .string xn] 76) := ⟨_, rfl⟩
     have hE2 : Ext w1 w2 := by rw [hw2]; exact (KX.k (by repeat (first | assumption | constructor)))
     have b9 : Blk w2 w1.heap.size 76 #[.int .i64 xk, .string xn] := by rw [hw2]; exact Blk.new _ _ _
     have HW2 := hid hw2
     have HE2 := hid (HE1.out.trans hE2)
     have q0' := hE2.cellE q0
     have q1' := hE2.cellE q1
     clear hw2 hE2
     go_wp2_with fail
     rw [← HW2.out]
     clear q0 q1 qz
     refine (lodge_find _ _ _ (H.out.ext HE2.out) k bn).mono ?_
     rintro e w3 ⟨rfl, hE3⟩
     have b93 := b9.ext hE3
     have s0 := b93.c 0 (.int .i64 xk) rfl
     have s1 := b93.c 1 (.string xn) rfl
     have sz := b93.lt
     have HE3 := hid (HE2.out.trans hE3)
     clear hE3 b9 b93 q0' q1'
     generalize M.find p k bn = F2 at *
     obtain ⟨⟨yk, yn⟩, c2⟩ := F2
     simp only at *
     by_cases hc1 : c1 = 1
     · by_cases hc2 : c2 = 1
       · subst hc1 hc2
         have HV2 : Hid (M.may p k ⟨2, an⟩ ⟨2, bn⟩ = M.under p ⟨xk, xn⟩ ⟨yk, yn⟩) := hid (by rw [HV.out]; rfl)
         go_wp2_with fail
         refine (lodge_under _ _ _ (H.out.ext (HE3.out.trans (KX.k (by repeat (first | assumption | constructor))))) ⟨xk, xn⟩ ⟨yk, yn⟩).mono ?_
         rintro e w4 ⟨rfl, hE4⟩
         have HE4 : Hid (Ext w w4) := hid ((HE3.out.alloc _).trans hE4)
         clear hE4
         go_wp2_with fail
         go_ret
         exact ⟨ret_bool HV2.out.symm, HE4.out⟩
       · have hc2' : (c2 == 1) = false := beq_eq_false_iff_ne.2 hc2
         subst hc1
         have HV2 : Hid (M.may p k ⟨2, an⟩ ⟨2, bn⟩ = false) := hid (by rw [HV.out]; simp [hc2])
         clear hc2
         go_wp2_with fail
         go_ret
         exact ⟨ret_bool HV2.out.symm, HE3.out.alloc _⟩
     · have hc1' : (c1 == 1) = false := beq_eq_false_iff_ne.2 hc1
       have HV2 : Hid (M.may p k ⟨2, an⟩ ⟨2, bn⟩ = false) := hid (by rw [HV.out]; simp [hc1])
       clear hc1
       go_wp2_with fail
       go_ret
       exact ⟨ret_bool HV2.out.symm, HE3.out.alloc _⟩
   · have hcmp' : (ak == 2) = false := beq_eq_false_iff_ne.2 ha2
     have ha2' : (ak != 2) = true := bne_iff_ne.2 ha2
     have ha3' : (ak == 3) = false := beq_eq_false_iff_ne.2 ha3
     have HV : Hid (M.may p k ⟨ak, an⟩ ⟨2, bn⟩ = false) := hid (by rw [HU.out]; simp [ha2, ha3])
     clear hcmp ha2 ha3
     go_enter Tryz.func154, Tryz.ntmps154
     go_wp2
     go_ret
     exact ⟨ret_bool HV.out.symm, (KX.k (by repeat (first | assumption | constructor)))⟩
 · have hb2' : (bk != 2) = true := bne_iff_ne.2 hb2
   have HV : Hid (M.may p k ⟨ak, an⟩ ⟨bk, bn⟩ = false) := hid (by rw [HU.out, if_pos hb2])
   clear hb2
   rcases hcmp with h1 | ⟨rfl, h1⟩
   all_goals
    go_enter Tryz.func154, Tryz.ntmps154
    go_wp2
    go_ret
    exact ⟨ret_bool HV.out.symm, (KX.k (by repeat (first | assumption | constructor)))⟩
end Go.Proofs.YtjdfceejkneofaaGreat
namespace Go.Proofs.YtjdfceejkneofaaGreat
open Go Go.RowKit
open Go.Lib (hid)
structure MSl where
 a1 : Option Addr
 c1 : Nat
 a2 : Option Addr
 c2 : Nat
 a3 : Option Addr
 c3 : Nat
def mthCs (m : M.Method) (t : MSl) : List Value := [.string m.name, .slice t.a1 m.args.length t.c1, .int .i64 m.ret.kind, .string m.ret.name, .int .i64 m.locals, .int .i64 m.stack, .slice t.a2 m.code.length t.c2, .slice t.a3 m.maps.length t.c3]
def lkCs (L : Nat) (k : Int) (m : M.Method) (t : MSl) (at_ : Int) (vl vs : Value) : Array Value :=
 #[.pointer (some ⟨L, 0, none⟩), .int .i64 k, .string m.name, .slice t.a1 m.args.length t.c1, .int .i64 m.ret.kind, .string m.ret.name, .int .i64 m.locals, .int .i64 m.stack, .slice t.a2 m.code.length t.c2, .slice t.a3 m.maps.length t.c3, .int .i64 at_, vl, vs]
structure LookAt (w : World) (l : Lodge) (p : M.Plan) (B kb : Nat) (k : Int) (m : M.Method) (t : MSl) (at_ : Int) (s : M.Frm) (vl vs : Value) : Prop where
 lod : LodgeAt w l p
 hB : l.L < B
 hk : B ≤ kb
 ml : MethodL w (· < l.O) m (mthCs m t)
 mi : M.MthIs m
 blk : Blk w kb 180 (lkCs l.L k m t at_ vl vs)
 loc : w.ownsRow B 25 2 vl s.locals.length (s.locals.flatMap tagCs)
 stk : w.ownsRow B 25 2 vs s.stack.length (s.stack.flatMap tagCs)
 ne : ∀ g, vl.ownBlock = some g → vs.ownBlock ≠ some g
 hat : 0 ≤ at_ ∧ at_ ≤ 100
 ssz : (s.stack.length : Int) ≤ m.stack
 lsz : (s.locals.length : Int) = m.locals
def LkO (l : Lodge) (kb : Nat) (vl vs : Value) (b : Nat) : Prop := b = l.D ∨ b = kb ∨ vl.ownBlock = some b ∨ vs.ownBlock = some b
def OwnSub (n : Nat) (vl vs vl' vs' : Value) : Prop := ∀ g, (vl'.ownBlock = some g ∨ vs'.ownBlock = some g) → vl.ownBlock = some g ∨ vs.ownBlock = some g ∨ n ≤ g
theorem OwnSub.refl (n : Nat) (vl vs : Value) : OwnSub n vl vs vl vs := fun _ h => h.elim .inl fun h => .inr (.inl h)
theorem OwnSub.trans {n n' : Nat} {a b c d e f : Value} (h : OwnSub n a b c d) (h' : OwnSub n' c d e f) (hn : n ≤ n') : OwnSub n a b e f := fun g hg => by
 rcases h' g hg with h1 | h1 | h1
 · exact h g (.inl h1)
 · exact h g (.inr h1)
 · exact .inr (.inr (by omega))
theorem OwnSub.le {n n' : Nat} {a b c d : Value} (h : OwnSub n' a b c d) (hn : n ≤ n') : OwnSub n a b c d := fun g hg => by
 rcases h g hg with h1 | h1 | h1
 · exact .inl h1
 · exact .inr (.inl h1)
 · exact .inr (.inr (by omega))
theorem Kp.look {l : Lodge} {kb : Nat} {vl vs vl' vs' : Value} {w a b : World} (h : Kp (LkO l kb vl vs) w a) (hk : Kp (LkO l kb vl' vs') a b) (hO : OwnSub w.heap.size vl vs vl' vs') : Kp (LkO l kb vl vs) w b :=
 ⟨hk.os.trans h.os, hk.tape.trans h.tape, hk.output.trans h.output, Nat.le_trans h.size hk.size,
  fun k hkw hd => (hk.block k (Nat.lt_of_lt_of_le hkw h.size) (fun x => hd (by
   rcases x with x | x | x | x
   · exact .inl x
   · exact .inr (.inl x)
   · rcases hO k (.inl x) with y | y | y
     · exact .inr (.inr (.inl y))
     · exact .inr (.inr (.inr y))
     · exact absurd hkw (Nat.not_lt.2 y)
   · rcases hO k (.inr x) with y | y | y
     · exact .inr (.inr (.inl y))
     · exact .inr (.inr (.inr y))
     · exact absurd hkw (Nat.not_lt.2 y)))).trans (h.block k hkw hd)⟩
theorem owns_take {w : World} {base e k n c g : Nat} {xs : List Value} (h : w.ownsRow base e k (.slice (some ⟨g, 0, none⟩) n c) n xs) {j : Nat} (hj : j ≤ n) : w.ownsRow base e k (.slice (some ⟨g, 0, none⟩) j c) j (xs.take (j * k)) := by
 have hjk : j * k ≤ n * k := Nat.mul_le_mul_right _ hj
 refine ⟨by rw [List.length_take, h.1]; omega, ?_⟩
 rcases h.2 with ⟨h1, _⟩ | ⟨g', cap, cur, h1, hg, hb, hle, hm, hsz, htk⟩
 · cases h1
 · cases h1
   refine .inr ⟨g, c, cur, rfl, hg, hb, by omega, hm, hsz, ?_⟩
   rw [← htk, List.take_take, Nat.min_eq_left hjk]
theorem flat_last {α : Type} {enc : α → List Value} {k : Nat} (hek : ∀ x, (enc x).length = k) (st : List α) (x : α) (j : Nat) : ((st ++ [x]).flatMap enc)[st.length * k + j]? = (enc x)[j]? := by
 rw [List.flatMap_append, List.getElem?_append_right (by rw [flat_len hek]; omega), flat_len hek, Nat.add_sub_cancel_left]
 simp
theorem flat_take {α : Type} {enc : α → List Value} {k : Nat} (hek : ∀ x, (enc x).length = k) (st r : List α) : ((st ++ r).flatMap enc).take (st.length * k) = st.flatMap enc := by
 rw [List.flatMap_append, ← flat_len hek st, List.take_left]
section
variable {w w' : World} {l : Lodge} {p : M.Plan} {B kb : Nat} {k : Int} {m : M.Method} {t : MSl} {at_ : Int} {s : M.Frm} {vl vs : Value}
theorem LookAt.neb (h : LookAt w l p B kb k m t at_ s vl vs) : vl.ownBlock ≠ some kb ∧ vs.ownBlock ≠ some kb := by
 constructor
 · intro e
   rcases h.loc.2 with ⟨h1, _⟩ | ⟨g, cap, cur, h1, hg, hb, _⟩
   · rw [h1] at e; cases e
   · rw [h1] at e; cases e
     exact absurd (Blk.inj (show Blk w g 25 cur from hb) h.blk) (by decide)
 · intro e
   rcases h.stk.2 with ⟨h1, _⟩ | ⟨g, cap, cur, h1, hg, hb, _⟩
   · rw [h1] at e; cases e
   · rw [h1] at e; cases e
     exact absurd (Blk.inj (show Blk w g 25 cur from hb) h.blk) (by decide)
theorem LookAt.kp {D : Nat → Prop} (h : LookAt w l p B kb k m t at_ s vl vs) (hk : Kp D w w') (hL : LodgeAt w' l p) (hD : ∀ b, B ≤ b → b < w.heap.size → ¬ D b) (hO : ∀ b, b < l.O → ¬ D b) : LookAt w' l p B kb k m t at_ s vl vs :=
 ⟨hL, h.hB, h.hk, Stays.kp MethodL.stays hk (fun b hb => hO b hb) h.ml, h.mi, h.blk.kp hk (hD _ h.hk h.blk.lt), owns_kp h.loc hk (fun g hg hb => hD g hb (h.loc.lt g hg).2), owns_kp h.stk hk (fun g hg hb => hD g hb (h.stk.lt g hg).2), h.ne, h.hat, h.ssz, h.lsz⟩
theorem LookAt.ext (h : LookAt w l p B kb k m t at_ s vl vs) (hE : Ext w w') : LookAt w' l p B kb k m t at_ s vl vs :=
 h.kp hE (h.lod.ext hE) (fun _ _ _ x => x) (fun _ _ x => x)
theorem LookAt.kp' {D : Nat → Prop} (h : LookAt w l p B kb k m t at_ s vl vs) (hk : Kp D w w') (hL : LodgeAt w' l p) (h1 : ¬ D kb) (h2 : ∀ g, vl.ownBlock = some g → ¬ D g) (h3 : ∀ g, vs.ownBlock = some g → ¬ D g) (hO : ∀ b, b < l.O → ¬ D b) : LookAt w' l p B kb k m t at_ s vl vs :=
 ⟨hL, h.hB, h.hk, Stays.kp MethodL.stays hk (fun b hb => hO b hb) h.ml, h.mi, h.blk.kp hk h1, owns_kp h.loc hk (fun g hg _ => h2 g hg), owns_kp h.stk hk (fun g hg _ => h3 g hg), h.ne, h.hat, h.ssz, h.lsz⟩
theorem LookAt.lod' (h : LookAt w l p B kb k m t at_ s vl vs) (hk : Kp (· = l.D) w w') (hL : LodgeAt w' l p) : LookAt w' l p B kb k m t at_ s vl vs :=
 h.kp hk hL (fun b hb _ e => by have := h.hB; have := hL.ord; omega) (fun b hb e => by have := hL.ord; omega)
theorem LookAt.setStack (h : LookAt w l p B kb k m t at_ s vl vs) {st : List M.Tag} {vs' : Value} (hk : Kp (fun b => b = kb ∨ vs.ownBlock = some b) w w')
    (hb : Blk w' kb 180 (lkCs l.L k m t at_ vl vs')) (ho : w'.ownsRow B 25 2 vs' st.length (st.flatMap tagCs)) (hn : ∀ g, vs'.ownBlock = some g → vs.ownBlock = some g ∨ w.heap.size ≤ g) (hsz : (st.length : Int) ≤ m.stack) :
    LookAt w' l p B kb k m t at_ ⟨s.locals, st⟩ vl vs' ∧ Kp (LkO l kb vl vs) w w' ∧ OwnSub w.heap.size vl vs vl vs' := by
 have hBk := h.hk
 have hB := h.hB
 have hO := h.lod.ord
 have hlow : ∀ b, b ≤ l.L → ¬ (b = kb ∨ vs.ownBlock = some b) := fun b hbl e => by
  rcases e with e | e
  · omega
  · have := (h.stk.lt b e).1; omega
 refine ⟨⟨h.lod.kp hk hlow, h.hB, h.hk, Stays.kp MethodL.stays hk (fun b hb => hlow b (by omega)) h.ml, h.mi, hb, ?_, ho, ?_, h.hat, hsz, h.lsz⟩, hk.weak fun b _ e => ?_, fun g hg => ?_⟩
 · refine owns_kp h.loc hk fun g hg _ e => ?_
   rcases e with e | e
   · subst e; exact h.neb.1 hg
   · exact h.ne g hg e
 · intro g hg e
   rcases hn g e with e | e
   · exact h.ne g hg e
   · have := (h.loc.lt g hg).2; omega
 · rcases e with e | e
   · exact .inr (.inl e)
   · exact .inr (.inr (.inr e))
 · rcases hg with e | e
   · exact .inl e
   · rcases hn g e with e | e
     · exact .inr (.inl e)
     · exact .inr (.inr e)
end
theorem agg_tag : Agg 25 2 := ⟨_, Tryz.underlying25, by kernel_rfl⟩
theorem look_take_no (w : World) (l : Lodge) (p : M.Plan) (B kb : Nat) (k : Int) (m : M.Method) (t : MSl) (at_ : Int) (s : M.Frm) (vl vs : Value) (h : LookAt w l p B kb k m t at_ s vl vs) (hs : s.stack = []) :
    Calls Tryz.prog 142 #[.pointer (some ⟨kb, 0, none⟩)] w fun e w' => e = .panicked (wrongP (at_ + 1)) ∧ Ext w w' := by
 obtain ⟨a, c, rfl⟩ := owns_val h.stk
 have hl : s.stack.length = 0 := by rw [hs]; rfl
 have c12 := h.blk.c 12 (.slice a 0 c) (by rw [← hl]; rfl)
 have c10 := h.blk.c 10 (.int .i64 at_) rfl
 have hz := h.blk.lt
 clear hl
 have hat := h.hat
 clear h hs
 go_enter Tryz.func142, Tryz.ntmps142
 go_wp2_with fail
 refine (look_wrong _ kb at_ (Kp.cellE ((Kp.refl _ _).alloc _ : Ext w _) c10) hat.1 (by omega)).mono ?_
 rintro e w1 ⟨rfl, rfl⟩
 exact ⟨rfl, rfl, (KX.k (by repeat (first | assumption | constructor)))⟩
theorem look_take (w : World) (l : Lodge) (p : M.Plan) (B kb : Nat) (k : Int) (m : M.Method) (t : MSl) (at_ : Int) (s : M.Frm) (vl vs : Value) (h : LookAt w l p B kb k m t at_ s vl vs) (st : List M.Tag) (x : M.Tag) (hs : s.stack = st ++ [x]) :
    Calls Tryz.prog 142 #[.pointer (some ⟨kb, 0, none⟩)] w fun e w' => e = .returned (.agg #[.int .i64 x.kind, .string x.name]) ∧ (∃ vs', LookAt w' l p B kb k m t at_ ⟨s.locals, st⟩ vl vs' ∧ OwnSub w.heap.size vl vs vl vs') ∧ Kp (LkO l kb vl vs) w w' := by
 have hlen : s.stack.length = st.length + 1 := by rw [hs]; simp
 have hown := h.stk
 rw [hlen] at hown
 obtain ⟨g, cp, rfl, hg, hgl, hcp⟩ := owns_form hown (by omega)
 have hcells := hown.cells (g := g) rfl
 have x0 : w.cell? ⟨g, st.length * 2, none⟩ = some (.int .i64 x.kind) := by
  have := hcells (st.length * 2) (.int .i64 x.kind) (by rw [hs]; have := flat_last (enc := tagCs) (k := 2) (fun _ => rfl) st x 0; rw [Nat.add_zero] at this; rw [this]; rfl)
  simpa [Addr.add_lit] using this
 have x1 : w.cell? ⟨g, st.length * 2 + 1, none⟩ = some (.string x.name) := by
  have := hcells (st.length * 2 + 1) (.string x.name) (by rw [hs, flat_last (enc := tagCs) (k := 2) (fun _ => rfl) st x 1]; rfl)
  simpa [Addr.add_lit] using this
 have hss := h.ssz
 have hm5 := h.mi.stack
 obtain ⟨w0, hw0⟩ : ∃ w0, w0 = w.alloc (.cells #[.int .i64 0, .string ⟨#[]⟩] 25) := ⟨_, rfl⟩
 have hE0 : Ext w w0 := by rw [hw0]; exact (KX.k (by repeat (first | assumption | constructor)))
 have b2 : Blk w0 w.heap.size 25 #[.int .i64 0, .string ⟨#[]⟩] := by rw [hw0]; exact Blk.new _ _ _
 have hA := h.ext hE0
 obtain ⟨T, f, hneT, HT⟩ := Cls.ex (fun W' => Ext w0 W') _ (Kp.refl _ _)
 have r12 := fun s => (hA.blk.ext (HT.inn s)).c 12 (.slice (some ⟨g, 0, none⟩) (st.length + 1) cp) (by rw [← hlen]; rfl)
 have r0 := fun s => (hE0.trans (HT.inn s)).cellE x0
 have r1 := fun s => (hE0.trans (HT.inn s)).cellE x1
 have hw : IntKind.i64.wrap ((st.length : Int) + 1 - 1) = (st.length : Int) := by rw [IntWalk.i64_in _ (by omega)]; omega
 have HTH := hid HT
 have HW0 := hid hw0
 have HA := hid hA
 have H := hid h
 have HE0 := hid hE0
 have HB2 := hid b2
 have HLEN := hid hlen
 have HS := hid hs
 have HCP := hid hcp
 have hl5 : (st.length : Int) ≤ 5 := by omega
 have c12 := h.blk.c 12 (.slice (some ⟨g, 0, none⟩) (st.length + 1) cp) (by rw [← hlen]; rfl)
 have hz := h.blk.lt
 clear hw0 hA h hE0 b2 hlen hs hcells x0 x1 hown HT hss hm5
 go_enter Tryz.func142, Tryz.ntmps142
 go_wp2_with fail
 rw [← HW0.out]
 (refine region_mix f 13 [([0, 1, 2, 3, 4, 5, 6, 7, 8, 9, 10, 11], 12)] [] (HTH.out.out _ ?_) (by kernel_rfl) (by kernel_rfl) (fun _ _ d _ _ h => by cases d <;> exact h) ?_)
 · exact (Kp.refl _ _).drew
 (refine wpMix_cons rfl rfl fun K hK => ?_); (change wpQuiet _ _ _ _ [_, _, _, _, _, _, _, _, _, _, _, _] _); (repeat (go_big_quiet_step (fail))); (refine wpQuiet_nil ?_); (refine hK _ fun K2 hK2 => ?_); clear hK K; (change wpList _ _ _ [_] _ _)
 go_wp2_with fail
 (refine hK2 _ _ (HTH.out.out _ (KX.k (by repeat (first | assumption | constructor)))) ?_); clear hK2 K2
 (refine wpMix_nil rfl fun K hK => ?_); (change wpQuiet _ _ _ _ [] _); (refine wpQuiet_nil ?_); (refine hK _ ?_); clear hK K
 go_wp2_with fail
 obtain ⟨w3, hw3⟩ : ∃ w3, w3 = (w0.alloc (.cells #[.int .i64 x.kind, .string x.name] 25)).drew := ⟨_, rfl⟩
 have hE3 : Ext w0 w3 := by rw [hw3]; exact (KX.k (by repeat (first | assumption | constructor)))
 have b3 : Blk w3 w0.heap.size 25 #[.int .i64 x.kind, .string x.name] := by rw [hw3]; exact (Blk.new _ _ _).ext (Kp.refl _ _).drew
 have hA3 := HA.out.ext hE3
 have hz3 : w3.heap.size = w0.heap.size + 1 := by rw [hw3]; simp
 have hz0 : w0.heap.size = w.heap.size + 1 := by rw [HW0.out]; simp
 have HZ := hid (And.intro hz3 hz0)
 rw [← hw3]
 clear hw3 HTH r12 r0 r1
 obtain ⟨T, f, hneT, HT⟩ := Cls.ex (fun W' => Ext w3 W') _ (Kp.refl _ _)
 have r12 := fun s => (hA3.blk.ext (HT.inn s)).c 12 (.slice (some ⟨g, 0, none⟩) (st.length + 1) cp) (by rw [← HLEN.out]; rfl)
 have HTH := hid HT
 have hcp' : (st.length : Int) ≤ cp := by have := HCP.out; omega
 (refine region_mix f 12 [] [0, 1, 2, 3, 4, 5, 6, 7, 8, 9, 10, 11] (HTH.out.out _ ?_) (by kernel_rfl) (by kernel_rfl) (fun _ _ d _ _ h => by cases d <;> exact h) ?_)
 · exact (Kp.refl _ _).drew
 (refine wpMix_nil rfl fun K hK => ?_); (change wpQuiet _ _ _ _ [_, _, _, _, _, _, _, _, _, _, _, _] _); (repeat (go_big_quiet_step (fail))); (refine wpQuiet_nil ?_); (refine hK _ ?_); clear hK K
 have d12 := hA3.blk.c 12 (.slice (some ⟨g, 0, none⟩) (st.length + 1) cp) (by rw [← HLEN.out]; rfl)
 have e12 := hA3.blk.frozen 12
 have z3 := hA3.blk.lt
 have u0 := b3.c 0 (.int .i64 x.kind) rfl
 have u1 := b3.c 1 (.string x.name) rfl
 have b23 := HB2.out.ext hE3
 have v0 := b23.c 0 (.int .i64 0) rfl
 have v1 := b23.c 1 (.string ⟨#[]⟩) rfl
 have i0 := b23.frozen 0
 have i1 := b23.frozen 1
 have i2 := b23.lt
 have HA3 := hid hA3
 have HE3 := hid hE3
 have HB3 := hid b23
 have n1 : ¬ w0.heap.size = kb := by omega
 have n2 : ¬ w.heap.size = kb := by omega
 have n3 : ¬ kb = w0.heap.size := by omega
 have n4 : ¬ kb = w.heap.size := by omega
 clear hA3 hE3 b3 b23 HT r12 c12 hz0 hz3
 go_wp2_with fail
 have hk12 : Kp (fun b => b = kb ∨ (Value.slice (some ⟨g, 0, none⟩) (st.length + 1) cp).ownBlock = some b) w3 (w3.setCell ⟨kb, 12, none⟩ (.slice (some ⟨g, 0, none⟩) st.length cp)) := (Kp.refl _ w3).setCell (p := ⟨kb, 12, none⟩) (fun _ => .inl rfl) _
 have hst3 := HA3.out.stk
 rw [HLEN.out, HS.out] at hst3
 have htk := owns_take hst3 (j := st.length) (by omega)
 rw [flat_take (enc := tagCs) (k := 2) (fun _ => rfl)] at htk
 have hb12 := HA3.out.blk.set_ 12 (.slice (some ⟨g, 0, none⟩) st.length cp)
 have hne := HA3.out.neb
 have hA3' := HA3.out
 obtain ⟨hS, hKS, hOS⟩ := hA3'.setStack (st := st) (vs' := .slice (some ⟨g, 0, none⟩) st.length cp) hk12 hb12 (owns_kp (D := (· = kb)) htk ((Kp.refl (· = kb) w3).setCell (p := ⟨kb, 12, none⟩) (fun _ => rfl) _) (fun q hq _ e => by cases hq; subst e; exact hne.2 rfl)) (fun q hq => .inl hq) (by have := HA3.out.ssz; rw [HLEN.out] at this; omega)
 generalize w3.setCell ⟨kb, 12, none⟩ (.slice (some ⟨g, 0, none⟩) st.length cp) = w4 at *
 have hset : ∀ D : Nat → Prop, D w.heap.size → Kp D w4 ((w4.setCell ⟨w.heap.size, 0, none⟩ (.int .i64 x.kind)).setCell ⟨w.heap.size, 1, none⟩ (.string x.name)).drew := fun D hD =>
  (((Kp.refl D w4).setCell (p := ⟨w.heap.size, 0, none⟩) (fun _ => hD) _).setCell (p := ⟨w.heap.size, 1, none⟩) (fun _ => hD) _).drew
 have hb2 : Blk w4 w.heap.size 25 #[.int .i64 0, .string ⟨#[]⟩] := HB3.out.kp hk12 (fun e => by
  rcases e with e | e
  · omega
  · have e' : g = w.heap.size := by simpa [Value.ownBlock] using e
    omega)
 have hc2 := CellsAt.ofB ((hb2.set_ 0 (.int .i64 x.kind)).set_ 1 (.string x.name))
 refine bodyPost_ret (results_agg agg_tag rfl _ _ w.heap.size rfl (tagCs x) (hc2.ext (Kp.refl _ _).drew) rfl) rfl ?_
 have hBk := H.out.hk
 have hBB := H.out.hB
 have hOO := H.out.lod.ord
 have hlt := H.out.blk.lt
 refine ⟨rfl, ⟨_, hS.kp' (hset (· = w.heap.size) rfl) (hS.lod.kp (hset (· = w.heap.size) rfl) (fun b hb e => by omega)) (by omega) (fun q hq e => by have := (H.out.loc.lt q hq).2; omega) (fun q hq e => by
  have e' : g = q := by simpa [Value.ownBlock] using hq
  omega) (fun b hb e => by omega), hOS.le (by omega)⟩, ?_⟩
 exact (((HE0.out.trans HE3.out).any).trans hKS).own (hset (· = w.heap.size) rfl) (fun q hq => by omega)
end Go.Proofs.YtjdfceejkneofaaGreat
