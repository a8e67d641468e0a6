/- Walks: slices.Backward over kinds, as an iterator whose rounds may panic.; Walks: lookCall.; The frames that the looker has told: how they lie. -/
import Derived.Test.YtjdfceejkneofaaGreatJag
import Derived.Test.YtjdfceejkneofaaGreatJak
set_option maxRecDepth 100000
set_option maxHeartbeats 4000000
set_option linter.unusedSimpArgs false
set_option linter.unusedVariables false
namespace Go.Proofs.YtjdfceejkneofaaGreat
open Go Go.RowKit
open Go.Lib (hid)
attribute [local go_sem] Oper.semAt_some
theorem backward_knd (w : World) (a : Option Addr) (n c : Nat) :
    Calls Tryz.prog 145 #[.slice a n c] w fun e w' =>
     e = .returned (.func (.func 155) #[] #[.pointer (some ⟨w.heap.size, 0, none⟩)]) ∧ w.alloc (.cells #[.slice a n c] 57) = w' := by
 go_enter Tryz.func145, Tryz.ntmps145
 go_wp2
 go_ret
 exact ⟨rfl, rfl⟩
def encBK (x : Int × M.Kind) : Array Value := #[.int .i64 x.1, .agg #[.int .i64 x.2.kind, .string x.2.name]]
theorem backward_iterP (refs : List M.Kind) (Vb : Nat) (v : Value) (I Bd : Nat → Prop) (hBd : ∀ k, Bd k → k ≠ Vb ∧ ¬ I k) :
    IterP Tryz.prog 155 #[.pointer (some ⟨Vb, 0, none⟩)] encBK (fun _ => False) Bd
     (fun xs => xs = backTo refs refs.length) (fun pre => ∃ rest, backTo refs refs.length = pre ++ rest) (fun _ => True)
     (fun W => Blk W Vb 57 #[v] ∧ SliceOf 2 KindL W I v refs) (fun pre x => ∃ rest, backTo refs refs.length = pre ++ x :: rest) := by
 intro lp J Jx Jp W ⟨hbV, hsl⟩ hJ hJx hJp hN hY hJ0
 obtain ⟨a, cap, rfl, hn, hcap⟩ := hsl.form
 refine callsIn_of_wp Tryz.func155 rfl trivial ?_ rfl
 simp only [Tryz.ntmps155, List.size_toArray, List.length_cons, List.length_nil, Nat.reduceAdd, Nat.reduceSub, Array.replicate_succ, Array.replicate_zero, List.push_toArray, List.append_toArray, List.nil_append, List.cons_append]
 have c0 := hbV.c 0 (.slice a refs.length cap) rfl
 have hw : IntKind.i64.wrap ((refs.length : Int) - 1) = (refs.length : Int) - 1 := IntWalk.i64_in _ (by omega)
 gi_wp2
 clear hw
 gi_loopg [3] refs.length (fun m i wr => ∃ pre : List (Int × M.Kind), ((m = 0 ∧ i = .int .i64 (-1)) ∨ ∃ k : Nat, m = k + 1 ∧ i = .int .i64 k) ∧ m ≤ refs.length ∧ Hid (backTo refs refs.length = pre ++ backTo refs m) ∧ Hid (J pre wr ∧ Blk wr Vb 57 #[.slice a refs.length cap] ∧ SliceOf 2 KindL wr I (.slice a refs.length cap) refs))
 case atStart =>
  refine ⟨[], ?_, Nat.le_refl _, hid (by simp), hid ⟨hJ0, hbV, hsl⟩⟩
  rcases Nat.eq_zero_or_pos refs.length with h0 | h0
  · left; exact ⟨h0, by rw [h0]; rfl⟩
  · right; exact ⟨refs.length - 1, by omega, by congr 1; omega⟩
 case round =>
  obtain ⟨pre, hm, hmn, HB, HJ⟩ := hrel
  rcases hm with ⟨rfl, rfl⟩ | ⟨k, rfl, rfl⟩
  · have HS : Hid (backTo refs refs.length = pre) := hid (by rw [HB.out]; simp [backTo])
    gi_wp2
    ((try simp only [Exit.inBlock, Exit.then]); (first | refine bodyPost_ret (results_none rfl _ _ _) rfl ?_ | refine bodyPost_end (results_none rfl _ _ _) rfl ?_))
    exact .inl ⟨⟨_, rfl⟩, .inl ⟨pre, HS.out.symm, HJ.out.1⟩⟩
  · obtain ⟨x, hx⟩ := get_some (show k < refs.length by omega)
    obtain ⟨hj, hb, hs⟩ := HJ.out
    obtain ⟨b, off, cs, rfl, hI, rfl, -, hc⟩ := hs.get hx
    obtain ⟨g0, g1⟩ := hc.two
    have d0 := hb.c 0 (.slice (some ⟨b, off, none⟩) refs.length cap) rfl
    have hk0 : (0 : Int) ≤ (k : Int) := by omega
    have hk1 : (k : Int) < refs.length := by omega
    have hd : decide ((0 : Int) ≤ (k : Int)) = true := decide_eq_true hk0
    have HBX : Hid (backTo refs refs.length = (pre ++ [((k : Int), x)]) ++ backTo refs k) := hid (by rw [HB.out, backTo_succ hx, List.append_assoc]; rfl)
    obtain ⟨fn, tmps, assign, body, hy, hR⟩ := hY pre ((k : Int), x) wr ⟨backTo refs k, by rw [HBX.out, List.append_assoc]; rfl⟩ hj
    simp only [encBK] at hy hR
    have HY := hid hY
    have HJJ := hid (And.intro hJ hJx)
    have HH := hid (And.intro hBd (And.intro hb hs))
    have hw : IntKind.i64.wrap ((k : Int) - 1) = (k : Int) - 1 := IntWalk.i64_in _ (by omega)
    clear hY hJ hJx hJp hN hBd hb hs hsl hx hc hj hbV
    gi_wp2_with fail
    refine hR.mono ?_
    rintro e W1 ⟨hkp, (⟨rfl, hj1⟩ | ⟨rfl, hjx⟩ | ⟨ch, rfl, hjp⟩)⟩
    · have hb1 := HH.out.2.1.kp hkp (fun hb => (HH.out.1 _ hb).1 rfl)
      have hs1 := HH.out.2.2.keep KindL.stays (Kp.same hkp fun q hq hb => (HH.out.1 _ hb).2 hq) (fun _ h => h)
      have HJ1 := hid (And.intro hj1 (And.intro hb1 hs1))
      clear hj1 hb1 hs1 hkp g0 g1 d0 hy hR hd
      gi_wp2_with fail
      gi_roundg k
      case measure => omega
      case rel =>
       refine ⟨pre ++ [((k : Int), x)], ?_, by omega, HBX, HJ1⟩
       cases k with
       | zero => left; exact ⟨rfl, rfl⟩
       | succ k => right; exact ⟨k, rfl, by congr 1; omega⟩
    · gi_wp2_with fail
      ((try simp only [Exit.inBlock, Exit.then]); (first | refine bodyPost_ret (results_none rfl _ _ _) rfl ?_ | refine bodyPost_end (results_none rfl _ _ _) rfl ?_))
      exact .inl ⟨⟨_, rfl⟩, .inr ⟨_, ⟨_, HBX.out⟩, hjx⟩⟩
    · exact ⟨rfl, .inr ⟨_, _, rfl, ⟨_, HBX.out⟩, hjp⟩⟩
end Go.Proofs.YtjdfceejkneofaaGreat
namespace Go.Proofs.YtjdfceejkneofaaGreat
open Go Go.RowKit
open Go.Lib (hid)
attribute [local go_sem] Oper.semAt_some
theorem mthCs_form {w : World} {I : Nat → Prop} {m : M.Method} {cs : List Value} (h : MethodL w I m cs) : ∃ t : MSl, cs = mthCs m t := by
 obtain ⟨a1, c1, a2, c2, a3, c3, e⟩ := h.form
 exact ⟨⟨a1, c1, a2, c2, a3, c3⟩, e⟩
theorem Kp.set8 {D : Nat → Prop} {w : World} {b : Nat} (hD : D b) (v0 v1 v2 v3 v4 v5 v6 v7 : Value) : Kp D w ((((((((w.setCell ⟨b, 0, none⟩ v0).setCell ⟨b, 1, none⟩ v1).setCell ⟨b, 2, none⟩ v2).setCell ⟨b, 3, none⟩ v3).setCell ⟨b, 4, none⟩ v4).setCell ⟨b, 5, none⟩ v5).setCell ⟨b, 6, none⟩ v6).setCell ⟨b, 7, none⟩ v7) :=
 (((((((((Kp.refl D w).setCell (p := ⟨b, 0, none⟩) (fun _ => hD) v0).setCell (p := ⟨b, 1, none⟩) (fun _ => hD) v1).setCell (p := ⟨b, 2, none⟩) (fun _ => hD) v2).setCell (p := ⟨b, 3, none⟩) (fun _ => hD) v3).setCell (p := ⟨b, 4, none⟩) (fun _ => hD) v4).setCell (p := ⟨b, 5, none⟩) (fun _ => hD) v5).setCell (p := ⟨b, 6, none⟩) (fun _ => hD) v6).setCell (p := ⟨b, 7, none⟩) (fun _ => hD) v7)
theorem Blk.set8 {w : World} {b : Nat} {t : TypeId} {u0 u1 u2 u3 u4 u5 u6 u7 : Value} (h : Blk w b t #[u0, u1, u2, u3, u4, u5, u6, u7]) (v0 v1 v2 v3 v4 v5 v6 v7 : Value) : Blk ((((((((w.setCell ⟨b, 0, none⟩ v0).setCell ⟨b, 1, none⟩ v1).setCell ⟨b, 2, none⟩ v2).setCell ⟨b, 3, none⟩ v3).setCell ⟨b, 4, none⟩ v4).setCell ⟨b, 5, none⟩ v5).setCell ⟨b, 6, none⟩ v6).setCell ⟨b, 7, none⟩ v7) b t #[v0, v1, v2, v3, v4, v5, v6, v7] := by
 have h0 : Blk (w.setCell ⟨b, 0, none⟩ v0) b t #[v0, u1, u2, u3, u4, u5, u6, u7] := h.set_ 0 v0
 have h1 : Blk ((w.setCell ⟨b, 0, none⟩ v0).setCell ⟨b, 1, none⟩ v1) b t #[v0, v1, u2, u3, u4, u5, u6, u7] := h0.set_ 1 v1
 have h2 : Blk (((w.setCell ⟨b, 0, none⟩ v0).setCell ⟨b, 1, none⟩ v1).setCell ⟨b, 2, none⟩ v2) b t #[v0, v1, v2, u3, u4, u5, u6, u7] := h1.set_ 2 v2
 have h3 : Blk ((((w.setCell ⟨b, 0, none⟩ v0).setCell ⟨b, 1, none⟩ v1).setCell ⟨b, 2, none⟩ v2).setCell ⟨b, 3, none⟩ v3) b t #[v0, v1, v2, v3, u4, u5, u6, u7] := h2.set_ 3 v3
 have h4 : Blk (((((w.setCell ⟨b, 0, none⟩ v0).setCell ⟨b, 1, none⟩ v1).setCell ⟨b, 2, none⟩ v2).setCell ⟨b, 3, none⟩ v3).setCell ⟨b, 4, none⟩ v4) b t #[v0, v1, v2, v3, v4, u5, u6, u7] := h3.set_ 4 v4
 have h5 : Blk ((((((w.setCell ⟨b, 0, none⟩ v0).setCell ⟨b, 1, none⟩ v1).setCell ⟨b, 2, none⟩ v2).setCell ⟨b, 3, none⟩ v3).setCell ⟨b, 4, none⟩ v4).setCell ⟨b, 5, none⟩ v5) b t #[v0, v1, v2, v3, v4, v5, u6, u7] := h4.set_ 5 v5
 have h6 : Blk (((((((w.setCell ⟨b, 0, none⟩ v0).setCell ⟨b, 1, none⟩ v1).setCell ⟨b, 2, none⟩ v2).setCell ⟨b, 3, none⟩ v3).setCell ⟨b, 4, none⟩ v4).setCell ⟨b, 5, none⟩ v5).setCell ⟨b, 6, none⟩ v6) b t #[v0, v1, v2, v3, v4, v5, v6, u7] := h5.set_ 6 v6
 have h7 : Blk ((((((((w.setCell ⟨b, 0, none⟩ v0).setCell ⟨b, 1, none⟩ v1).setCell ⟨b, 2, none⟩ v2).setCell ⟨b, 3, none⟩ v3).setCell ⟨b, 4, none⟩ v4).setCell ⟨b, 5, none⟩ v5).setCell ⟨b, 6, none⟩ v6).setCell ⟨b, 7, none⟩ v7) b t #[v0, v1, v2, v3, v4, v5, v6, v7] := h6.set_ 7 v7
 exact h7
theorem LookAt.old {w : World} {l : Lodge} {p : M.Plan} {B kb : Nat} {k : Int} {m : M.Method} {t : MSl} {at_ : Int} {s : M.Frm} {vl vs : Value} (h : LookAt w l p B kb k m t at_ s vl vs) {q : Nat} (hq : LkO l kb vl vs q) : q < w.heap.size := by
 have h1 := h.blk.lt
 have h2 := h.lod.dlt
 rcases hq with e | e | e | e
 · omega
 · omega
 · exact (h.loc.lt q e).2
 · exact (h.stk.lt q e).2
theorem LookAt.low {w : World} {l : Lodge} {p : M.Plan} {B kb : Nat} {k : Int} {m : M.Method} {t : MSl} {at_ : Int} {s : M.Frm} {vl vs : Value} (h : LookAt w l p B kb k m t at_ s vl vs) {q : Nat} (hq : q < l.O) : ¬ LkO l kb vl vs q := by
 have h1 := h.hB
 have h2 := h.lod.ord
 have h3 := h.hk
 rintro (e | e | e | e)
 · omega
 · omega
 · have := (h.loc.lt q e).1; omega
 · have := (h.stk.lt q e).1; omega
theorem lkAsAll_snoc {p : M.Plan} {k : Int} {x : M.Kind} : ∀ (L : List M.Kind) (s : M.Frm), M.lkAsAll p k (L ++ [x]) s = (M.lkAsAll p k L s).bind (M.lkAs p k (M.tagOf x)) := by
 intro L
 induction L with
 | nil => intro s; simp [M.lkAsAll]
 | cons y r ih =>
  intro s
  simp only [List.cons_append, M.lkAsAll]
  cases M.lkAs p k (M.tagOf y) s with
  | none => rfl
  | some s1 => exact ih s1
theorem lkAsAll_none {p : M.Plan} {k : Int} {r : List M.Kind} : ∀ {L : List M.Kind} {s : M.Frm}, M.lkAsAll p k L s = none → M.lkAsAll p k (L ++ r) s = none := by
 intro L
 induction L with
 | nil => intro s h; simp [M.lkAsAll] at h
 | cons y t ih =>
  intro s h
  simp only [List.cons_append, M.lkAsAll] at h ⊢
  cases hy : M.lkAs p k (M.tagOf y) s with
  | none => rfl
  | some s1 => rw [hy] at h; exact ih h
def CallI (l : Lodge) (p : M.Plan) (B kb : Nat) (k : Int) (m : M.Method) (t : MSl) (at_ : Int) (s : M.Frm) (vl vs : Value) (w8 : World) (pre : List (Int × M.Kind)) (W : World) : Prop :=
 ∃ s' vl' vs', M.lkAsAll p k (pre.map Prod.snd) s = some s' ∧ LookAt W l p B kb k m t at_ s' vl' vs' ∧ OwnSub (w8.heap.size + 3) vl vs vl' vs' ∧ Kp (LkO l kb vl vs) w8 W
def CallP (l : Lodge) (p : M.Plan) (kb : Nat) (k : Int) (at_ : Int) (s : M.Frm) (vl vs : Value) (w8 : World) (ch : List PanicEntry) (pre : List (Int × M.Kind)) (W : World) : Prop :=
 ch = wrongP (at_ + 1) ∧ M.lkAsAll p k (pre.map Prod.snd) s = none ∧ LodgeAt W l p ∧ Kp (LkO l kb vl vs) w8 W
def ErrV' (ev : Value) (c : Int) : Prop := (c = 1 ∧ ev = Value.nilIface) ∨ (c ≠ 1 ∧ ∃ b, ev = .iface 170 (.pointer (some ⟨b, 0, none⟩)))
theorem ErrV.weak {w : World} {ev : Value} {c : Int} (h : ErrV w ev c) : ErrV' ev c := h.imp id fun ⟨h1, b, h2, _⟩ => ⟨h1, b, h2⟩
theorem look_call (w : World) (l : Lodge) (p : M.Plan) (B kb : Nat) (k : Int) (m : M.Method) (t : MSl) (at_ : Int) (s : M.Frm) (vl vs : Value) (h : LookAt w l p B kb k m t at_ s vl vs) (i : M.Ins) (hop : i.op = 9) :
    Calls Tryz.prog 123 #[.pointer (some ⟨kb, 0, none⟩), .agg #[.int .i64 i.op, .int .i64 i.a, .string i.name, .string i.member]] w (LkEnd w l p B kb k m t at_ vl vs (M.lkIns p k m i s)) := by
 obtain ⟨G, hG⟩ : ∃ G, M.call p k i.name i.member = G := ⟨_, rfl⟩
 have HO : Hid (M.lkIns p k m i s = if G.2 = 1 then (M.lkAsAll p k (M.method p G.1).args.reverse s).bind fun s1 => (M.lkAs p k (M.clsTag i.name) s1).bind (M.lkPut m (M.tagOf (M.method p G.1).ret)) else none) := hid (by unfold M.lkIns; rw [hop, hG]; rfl)
 obtain ⟨w0, hw0⟩ : ∃ w0, w0 = (w.alloc (.cells #[.pointer (some ⟨kb, 0, none⟩)] 178)).alloc (.cells #[.int .i64 i.op, .int .i64 i.a, .string i.name, .string i.member] 28) := ⟨_, rfl⟩
 have hE0 : Ext w w0 := by rw [hw0]; exact (KX.k (by repeat (first | assumption | constructor)))
 have b2 : Blk w0 w.heap.size 178 #[.pointer (some ⟨kb, 0, none⟩)] := by rw [hw0]; exact (Blk.new _ _ _).ext (KX.k (by repeat (first | assumption | constructor)))
 have b3 : Blk w0 (w.heap.size + 1) 28 #[.int .i64 i.op, .int .i64 i.a, .string i.name, .string i.member] := by rw [hw0]; exact Blk.newAt _ _ (by simp)
 have hA := h.ext hE0
 have hD := h.lod.dlt
 have hord := h.lod.ord
 have hB := h.hB
 have hk := h.hk
 have hz := h.blk.lt
 have hat := h.hat
 have hkD : ¬ kb = l.D := by omega
 have hnD : ¬ w.heap.size = l.D := by omega
 have hn1 : ¬ w.heap.size + 1 = l.D := by omega
 obtain ⟨T, f, hneT, HT⟩ := Cls.ex (fun W' => Kp (· = l.D) w0 W') _ (Kp.refl _ _)
 have r0 := fun z => (hA.blk.kp (HT.inn z) hkD).c 0 (.pointer (some ⟨l.L, 0, none⟩)) rfl
 have r1 := fun z => (hA.blk.kp (HT.inn z) hkD).c 1 (.int .i64 k) rfl
 have r2 := fun z => (b3.kp (HT.inn z) hn1).c 2 (.string i.name) rfl
 have r3 := fun z => (b3.kp (HT.inn z) hn1).c 3 (.string i.member) rfl
 have r4 := fun z => (b2.kp (HT.inn z) hnD).c 0 (.pointer (some ⟨kb, 0, none⟩)) rfl
 have HTH := hid HT
 have HW0 := hid hw0
 have HE0 := hid hE0
 have HA := hid hA
 have HB2 := hid b2
 have HB3 := hid b3
 have HG := hid hG
 have hv : (mrefCs G.1).toArray = #[.int .i64 G.1.of.keeper, .string G.1.of.name, .int .i64 G.1.at_] := rfl
 have HV := hid hv
 have HA0 := hid h
 have HNW := hid h.notNew
 clear h hop hw0 hE0 b2 b3 hA HT hG hv
 refine (callsIn_wide (n := 10)).1 ?_
 refine callsIn_of_wpAt_marks Tryz.func123 rfl ?_
 simp only [Tryz.ntmps123, List.size_toArray, List.length_cons, List.length_nil, Nat.reduceAdd, Nat.reduceSub, Array.replicate_succ, Array.replicate_zero, List.push_toArray, List.append_toArray, List.nil_append, List.cons_append]
 refine wpAt_seq_p fun K hK => ?_
 go_wp2_with fail
 rw [← HW0.out]
 refine wpAt_seq_p fun K hK => ?_
 have tail : ∀ (b7 : Nat) (w7 : World) (ev : Value), Kp (· = l.D) w0 w7 → LodgeAt w7 l p → Blk w7 b7 97 #[.int .i64 G.1.of.keeper, .string G.1.of.name, .int .i64 G.1.at_] → w0.heap.size ≤ b7 → ErrV' ev G.2 →
     K { tmps := #[.pointer (some ⟨kb, 0, none⟩), .agg #[.int .i64 i.op, .int .i64 i.a, .string i.name, .string i.member], .pointer (some ⟨w.heap.size, 0, none⟩), .pointer (some ⟨w.heap.size + 1, 0, none⟩),
      .pointer (some ⟨b7, 0, none⟩), ev, undef, undef, undef, .tuple #[.agg #[.int .i64 G.1.of.keeper, .string G.1.of.name, .int .i64 G.1.at_], ev], .pointer (some ⟨kb, 0, none⟩), .pointer (some ⟨kb, 0, none⟩), .pointer (some ⟨kb, 0, none⟩), .pointer (some ⟨l.L, 0, none⟩),
      .pointer (some ⟨kb, 0, none⟩), .pointer (some ⟨kb, 0, none⟩), .pointer (some ⟨kb, 1, none⟩), .int .i64 k, .pointer (some ⟨w.heap.size + 1, 2, none⟩), .string i.name, .pointer (some ⟨w.heap.size + 1, 3, none⟩), .string i.member,
      .tuple #[.agg #[.int .i64 G.1.of.keeper, .string G.1.of.name, .int .i64 G.1.at_], ev], .agg #[.int .i64 G.1.of.keeper, .string G.1.of.name, .int .i64 G.1.at_], ev, undef, undef, undef, undef, undef, undef, undef, undef, undef, undef, undef, undef, undef, undef, undef, undef, undef, undef, undef, undef, undef, undef, undef, undef, undef, undef, undef, undef, undef], defers := [] } w7 := by
  clear HTH r0 r1 r2 r3 r4
  intro b7 w7 ev hK7 hL7 hB7 hb7 hev
  have HK7 := hid hK7
  have HL7 := hid hL7
  have HB7 := hid hB7
  have s2 := (HB2.out.kp hK7 hnD).c 0 (.pointer (some ⟨kb, 0, none⟩)) rfl
  clear hK7 hL7 hB7
  refine hK _ _ ?_
  clear hK K
  refine wpAt_seq_p fun K hK => ?_
  rcases hev with ⟨hc, rfl⟩ | ⟨hc, b, rfl⟩
  rotate_left
  · replace HO : Hid (M.lkIns p k m i s = none) := hid (by rw [HO.out, if_neg hc])
    go_wp2_with fail
    refine (look_wrong _ kb at_ ((HA.out.blk.kp HK7.out hkD).c 10 _ rfl) hat.1 (by omega)).mono ?_
    rintro e w9 ⟨rfl, rfl⟩
    exact ⟨rfl, LkEnd.behind HE0.out ⟨HK7.out.weak (fun b _ e => .inl e), HL7.out, .inl ⟨HO.out, rfl⟩⟩⟩
  replace HO : Hid (M.lkIns p k m i s = (M.lkAsAll p k (M.method p G.1).args.reverse s).bind fun s1 => (M.lkAs p k (M.clsTag i.name) s1).bind (M.lkPut m (M.tagOf (M.method p G.1).ret))) := hid (by rw [HO.out, if_pos hc])
  have hhas : Hid (M.hasMethod p G.1 = true) := hid (by
   have := HG.out
   rw [← this] at hc ⊢
   obtain ⟨r, hr⟩ := M.call_found hc
   exact M.pick_has hr)
  go_wp2_with fail
  clear s2
  obtain ⟨T, f, hneT, HT⟩ := Cls.ex (fun W' => Ext w7 W') _ (Kp.refl _ _)
  have hbk7 := HA.out.blk.kp HK7.out hkD
  have hb27 := HB2.out.kp HK7.out hnD
  have r0 := fun z => (hbk7.ext (HT.inn z)).c 0 (.pointer (some ⟨l.L, 0, none⟩)) rfl
  have r4 := fun z => (hb27.ext (HT.inn z)).c 0 (.pointer (some ⟨kb, 0, none⟩)) rfl
  have r5 := fun z => (HB7.out.ext (HT.inn z)).c 0 (.int .i64 G.1.of.keeper) rfl
  have r6 := fun z => (HB7.out.ext (HT.inn z)).c 1 (.string G.1.of.name) rfl
  have r7 := fun z => (HB7.out.ext (HT.inn z)).c 2 (.int .i64 G.1.at_) rfl
  have HTH := hid HT
  clear HT hbk7 hb27
  refine wpAt_seq_p fun K hK => ?_
  have tail2 : ∀ (b8 : Nat) (w8 : World) (t2 : MSl), Ext w7 w8 → Blk w8 b8 60 (mthCs (M.method p G.1) t2).toArray → w7.heap.size ≤ b8 → MethodL w8 (· < l.O) (M.method p G.1) (mthCs (M.method p G.1) t2) →
   K { tmps := #[.pointer (some ⟨kb, 0, none⟩), .agg #[.int .i64 i.op, .int .i64 i.a, .string i.name, .string i.member], .pointer (some ⟨w.heap.size, 0, none⟩), .pointer (some ⟨w.heap.size + 1, 0, none⟩),
    .pointer (some ⟨b7, 0, none⟩), .nilIface, .pointer (some ⟨b8, 0, none⟩), undef, undef, .tuple #[.agg #[.int .i64 G.1.of.keeper, .string G.1.of.name, .int .i64 G.1.at_], .nilIface], .pointer (some ⟨kb, 0, none⟩), .pointer (some ⟨kb, 0, none⟩), .pointer (some ⟨kb, 0, none⟩), .pointer (some ⟨l.L, 0, none⟩),
    .pointer (some ⟨kb, 0, none⟩), .pointer (some ⟨kb, 0, none⟩), .pointer (some ⟨kb, 1, none⟩), .int .i64 k, .pointer (some ⟨w.heap.size + 1, 2, none⟩), .string i.name, .pointer (some ⟨w.heap.size + 1, 3, none⟩), .string i.member,
    .tuple #[.agg #[.int .i64 G.1.of.keeper, .string G.1.of.name, .int .i64 G.1.at_], .nilIface], .agg #[.int .i64 G.1.of.keeper, .string G.1.of.name, .int .i64 G.1.at_], .nilIface, .nilIface, .bool false, undef, undef, .pointer (some ⟨kb, 0, none⟩), .pointer (some ⟨kb, 0, none⟩), .pointer (some ⟨kb, 0, none⟩), .pointer (some ⟨l.L, 0, none⟩), .agg #[.int .i64 G.1.of.keeper, .string G.1.of.name, .int .i64 G.1.at_], .agg (mthCs (M.method p G.1) t2).toArray, undef, undef, undef, undef, undef, undef, undef, undef, undef, undef, undef, undef, undef, undef, undef, undef, undef, undef, undef], defers := [] } w8 := by
   clear HTH r0 r4 r5 r6 r7
   intro b8 w8 t2 hE8 hB8 hb8 hml
   have HE8 := hid hE8
   have HB8 := hid hB8
   have HML := hid hml
   clear hE8 hB8 hml
   refine hK _ _ ?_
   clear hK K
   have hb81 := HB8.out.c 1 (.slice t2.a1 (M.method p G.1).args.length t2.c1) rfl
   refine wpAt_seq ?_
   refine wpAt_seq_in_k (n := 10) fun K hK => wpIn_wide.2 ?_
   go_wp2_with fail
   refine (backward_knd _ _ _ _).mono ?_
   rintro e w9 ⟨rfl, rfl⟩
   go_wp2_with fail
   refine wpAt_block ?_
   have hkb8 : kb < w8.heap.size := (HA.out.blk.kp HK7.out hkD |>.ext HE8.out).lt
   have hA8 : LookAt w8 l p B kb k m t at_ s vl vs := (HA.out.lod' HK7.out HL7.out).ext HE8.out
   have HA8 := hid hA8
   have hsl : SliceOf 2 KindL w8 (· < l.O) (.slice t2.a1 (M.method p G.1).args.length t2.c1) (M.method p G.1).args := MethodL.args HML.out
   have HSL := hid hsl
   clear hA8 hsl
   have HN : Hid (¬ LkO l kb vl vs w.heap.size) := hid HNW.out
   refine range_kpP (gf := 155) (lb := #[.pointer (some ⟨w8.heap.size, 0, none⟩)]) (α := Int × M.Kind) rfl (enters_of Tryz.func155 (by kernel_rfl) rfl) (encs := encBK) (fun x => rfl)
    (Bb := fun k => LkO l kb vl vs k ∨ w8.heap.size + 3 ≤ k)
    (backward_iterP (M.method p G.1).args w8.heap.size (.slice t2.a1 (M.method p G.1).args.length t2.c1) (· < l.O) _ ?hBd) ?hIt ?hD1 ?hD2 ?hB1 ?hB2
    (CallI l p B kb k m t at_ s vl vs w8) (fun _ _ _ => False) (CallP l p kb k at_ s vl vs w8) ⟨_, Tryz.func123⟩ ?hIp ?hI ?hIx ?h0 ?hIB
    (fun pre x W a₁ W₁ => CallI l p B kb k m t at_ s vl vs w8 pre W ∧ w8.heap.size + 2 < W.heap.size ∧ W₁ = W.alloc (.cells #[.int .i64 x.2.kind, .string x.2.name] 55) ∧
     a₁ = { tmps := #[.pointer (some ⟨kb, 0, none⟩), .agg #[.int .i64 i.op, .int .i64 i.a, .string i.name, .string i.member], .pointer (some ⟨w.heap.size, 0, none⟩), .pointer (some ⟨w.heap.size + 1, 0, none⟩),
    .pointer (some ⟨b7, 0, none⟩), .nilIface, .pointer (some ⟨b8, 0, none⟩), undef, .pointer (some ⟨W.heap.size, 0, none⟩), .tuple #[.agg #[.int .i64 G.1.of.keeper, .string G.1.of.name, .int .i64 G.1.at_], .nilIface], .pointer (some ⟨kb, 0, none⟩), .pointer (some ⟨kb, 0, none⟩), .pointer (some ⟨kb, 0, none⟩), .pointer (some ⟨l.L, 0, none⟩),
    .pointer (some ⟨kb, 0, none⟩), .pointer (some ⟨kb, 0, none⟩), .pointer (some ⟨kb, 1, none⟩), .int .i64 k, .pointer (some ⟨w.heap.size + 1, 2, none⟩), .string i.name, .pointer (some ⟨w.heap.size + 1, 3, none⟩), .string i.member,
    .tuple #[.agg #[.int .i64 G.1.of.keeper, .string G.1.of.name, .int .i64 G.1.at_], .nilIface], .agg #[.int .i64 G.1.of.keeper, .string G.1.of.name, .int .i64 G.1.at_], .nilIface, .nilIface, .bool false, undef, undef, .pointer (some ⟨kb, 0, none⟩), .pointer (some ⟨kb, 0, none⟩), .pointer (some ⟨kb, 0, none⟩), .pointer (some ⟨l.L, 0, none⟩), .agg #[.int .i64 G.1.of.keeper, .string G.1.of.name, .int .i64 G.1.at_], .agg (mthCs (M.method p G.1) t2).toArray,
    .pointer (some ⟨b8, 1, none⟩), .slice t2.a1 (M.method p G.1).args.length t2.c1, .func (.func 155) #[] #[.pointer (some ⟨w8.heap.size, 0, none⟩)], .int .i64 x.1, .agg #[.int .i64 x.2.kind, .string x.2.name], undef, undef, undef, undef, undef, undef, undef, undef, undef, undef, undef, undef, undef, undef], defers := [] }) ?hassign ?hAx ?hbody ?hdone ?hstop ?hpanic
   case hBd =>
    intro q hq
    have hq' : (LkO l kb vl vs q ∨ w8.heap.size + 3 ≤ q) ∨ q = (w8.alloc (.cells #[.slice t2.a1 (M.method p G.1).args.length t2.c1] 57)).heap.size + 1 := hq
    simp only [World.size_alloc] at hq'
    have h1 := HA8.out.notNew
    rcases hq' with (h | h) | h
    · exact ⟨fun e => h1 (e ▸ h), fun e => LookAt.low HA8.out e h⟩
    · omega
    · omega
   case hIt =>
    intro W hW
    exact ⟨(Blk.new _ _ _).ext hW, (HSL.out.ext KindL.stays ((Kp.refl _ w8).alloc _)).ext KindL.stays hW⟩
   case hD1 => exact fun h => h
   case hD2 => exact fun h => h
   case hB1 =>
    simp only [World.size_alloc]
    rintro (h | h)
    · have := LookAt.old HA8.out h; omega
    · omega
   case hB2 =>
    simp only [World.size_alloc]
    rintro (h | h)
    · have := LookAt.old HA8.out h; omega
    · omega
   case hIp =>
    rintro c s1 A B' ⟨h1, h2, h3, h4⟩ hk
    simp only [World.size_alloc] at hk
    have hA8L := HA8.out.lod.lt
    exact ⟨h1, h2, h3.kp hk (fun b hb e => by rcases e with e | e; exact e; omega), h4.own hk (fun b e => by rcases e with e | e; exact e.elim; omega)⟩
   case hI =>
    rintro s1 A B' ⟨s', vl', vs', h1, h2, h3, h4⟩ hk
    simp only [World.size_alloc] at hk
    have hA8L := HA8.out.lod.lt
    have hA8O := HA8.out.lod.ord
    have no : ∀ g, (vl'.ownBlock = some g ∨ vs'.ownBlock = some g) → ¬ (False ∨ g = w8.heap.size + 1 + 1) := fun g hg e => by
     rcases e with e | e
     · exact e
     · rcases h3 g hg with h | h | h
       · have := (HA8.out.loc.lt g h).2; omega
       · have := (HA8.out.stk.lt g h).2; omega
       · omega
    exact ⟨s', vl', vs', h1, h2.kp' hk (h2.lod.kp hk (fun b hb e => by rcases e with e | e; exact e; omega)) (fun e => by rcases e with e | e; exact e; omega) (fun g hg => no g (.inl hg)) (fun g hg => no g (.inr hg)) (fun b hb e => by rcases e with e | e; exact e; omega), h3, h4.own hk (fun b e => by rcases e with e | e; exact e.elim; omega)⟩
   case hIx => exact fun _ _ _ _ h => h.elim
   case h0 => exact ⟨s, vl, vs, rfl, HA8.out.ext (KX.k (by repeat (first | assumption | constructor))), OwnSub.refl _ _ _, ((KX.k (by repeat (first | assumption | constructor))) : Ext w8 _).any⟩
   case hIB => exact fun _ _ _ => trivial
   case hassign =>
    intro pre x W K hnx hi hlt hK
    simp only [encBK]
    simp only [World.size_alloc] at hlt
    gi_wp2_with fail
   case hAx =>
    rintro pre x W a₁ W₁ ⟨_, _, rfl, _⟩
    exact ((Kp.refl _ W).alloc _)
   case hbody =>
    rintro pre x W a₁ W₁ W₂ ⟨⟨s', vl', vs', h1, h2, h3, h4⟩, hlt, rfl, rfl⟩ hk12 hsz2
    simp only [World.size_alloc] at hk12 hsz2
    have hA8L := HA8.out.lod.lt
    have hA8O := HA8.out.lod.ord
    have hw8 : w.heap.size + 1 < w8.heap.size := by
     have := HB3.out.lt
     have := HK7.out.size
     have := HE8.out.size
     omega
    have no : ∀ g, (vl'.ownBlock = some g ∨ vs'.ownBlock = some g) → g ≠ w8.heap.size + 1 + 1 ∧ (g < w.heap.size ∨ w8.heap.size + 3 ≤ g) ∧ (LkO l kb vl vs g ∨ w8.heap.size + 3 ≤ g) := fun g hg => by
     rcases h3 g hg with h | h | h
     · have := (HA0.out.loc.lt g h).2; exact ⟨by omega, .inl this, .inl (.inr (.inr (.inl h)))⟩
     · have := (HA0.out.stk.lt g h).2; exact ⟨by omega, .inl this, .inl (.inr (.inr (.inr h)))⟩
     · exact ⟨by omega, .inr h, .inr h⟩
    have hE1 : Ext W (W.alloc (.cells #[.int .i64 x.2.kind, .string x.2.name] 55)) := (KX.k (by repeat (first | assumption | constructor)))
    have hA1 := h2.ext hE1
    have hA2 : LookAt W₂ l p B kb k m t at_ s' vl' vs' := hA1.kp' hk12 (hA1.lod.kp hk12 (fun b hb e => by omega)) (by omega) (fun g hg => (no g (.inl hg)).1) (fun g hg => (no g (.inr hg)).1) (fun b hb e => by omega)
    have cb := (Blk.new W 55 #[.int .i64 x.2.kind, .string x.2.name]).kp hk12 (by omega)
    have hnW : ¬ LkO l kb vl' vs' W.heap.size := h2.notNew
    have hnw : ¬ LkO l kb vl' vs' w.heap.size := by
     rintro (e | e | e | e)
     · omega
     · omega
     · have := (no _ (.inl e)).2.1; omega
     · have := (no _ (.inr e)).2.1; omega
    have hb2 := ((((HB2.out.kp HK7.out hnD).ext HE8.out).kp h4 HN.out).ext hE1).kp hk12 (by omega)
    have hKW : Kp (LkO l kb vl vs) w8 W₂ := (h4.trans hE1.any).own hk12 (fun k e => by omega)
    obtain ⟨T, f, hneT, HT⟩ := Cls.ex (fun W' => Kp (LkO l kb vl' vs') W₂ W') _ (Kp.refl _ _)
    have r2 := fun z => (hb2.kp (HT.inn z) hnw).c 0 (.pointer (some ⟨kb, 0, none⟩)) rfl
    have r7 := fun z => (cb.kp (HT.inn z) hnW).c 0 (.int .i64 x.2.kind) rfl
    have r8 := fun z => (cb.kp (HT.inn z) hnW).c 1 (.string x.2.name) rfl
    have HTH := hid HT
    have HA2 := hid hA2
    have HKW := hid hKW
    have HNO := hid no
    have H3 := hid h3
    have HS : Hid (M.lkAsAll p k ((pre ++ [x]).map Prod.snd) s = M.lkAs p k (M.tagOf x.2) s') := hid (by rw [List.map_append, List.map_cons, List.map_nil, lkAsAll_snoc, h1]; rfl)
    have hz28 : w8.heap.size + 3 ≤ W₂.heap.size := by omega
    clear h1 h2 h3 h4 hk12 hsz2 hA1 hA2 cb hb2 hKW HT hE1 no hnW hnw
    gi_wp2_with fail
    (refine region_mixI f 4 [([0, 1], 2), ([], 3)] [] (HTH.out.out _ ?_) (fun _ => trivial) (by kernel_rfl) (by kernel_rfl) (by kernel_rfl) (fun _ _ d _ _ h => by cases d <;> exact h) ?_)
    · exact (Kp.refl _ _).drew
    (refine wpMixI_cons rfl rfl fun K hK => ?_); (change wpQuiet _ _ _ _ [_, _] _); (repeat (go_big_quiet_step (fail))); (refine wpQuiet_nil ?_); (refine hK _ fun K2 hK2 => ?_); clear hK K; (change wpListIn _ _ _ _ _ [_] _ _)
    gi_wp2_with fail
    refine ⟨trivial, ?_⟩
    refine (CallsIn.inRound _ (callsIn_wide.2 (tag_of W₂.drew x.2))).mono ?_
    rintro e w4 ⟨rfl, hE4⟩
    have HE4 : Hid (Ext W₂ w4) := hid (((Kp.refl _ W₂).drew).trans hE4)
    clear hE4
    gi_wp2_with fail
    (refine hK2 _ _ (HTH.out.out _ HE4.out.any) ?_); clear hK2 K2
    (refine wpMixI_cons rfl rfl fun K hK => ?_); (change wpQuiet _ _ _ _ [] _); (refine wpQuiet_nil ?_); (refine hK _ fun K2 hK2 => ?_); clear hK K; (change wpListIn _ _ _ _ _ [_] _ _)
    gi_wp2_with fail
    refine ⟨trivial, ?_⟩
    refine (CallsIn.inRound _ (callsIn_wide.2 (look_takeAs w4 _ _ _ _ _ _ _ _ _ _ _ (HA2.out.ext HE4.out) (M.tagOf x.2)))).mono ?_
    rintro e w5 hEnd
    have hE5 := LkEnd.behind HE4.out hEnd
    have hBb : Kp (fun k => LkO l kb vl vs k ∨ w8.heap.size + 3 ≤ k) W₂ w5 := hE5.1.weak (fun b _ e => by
     rcases e with e | e | e | e
     · exact .inl (.inl e)
     · exact .inl (.inr (.inl e))
     · exact (HNO.out b (.inl e)).2.2
     · exact (HNO.out b (.inr e)).2.2)
    have hKw5 : Kp (LkO l kb vl vs) w8 w5 := HKW.out.mix hBb (fun k hk e => by rcases e with e | e; exact e; omega)
    rcases hE5 with ⟨hK5, hL5, ⟨ho, rfl⟩ | ⟨s2, ho, rfl, vl2, vs2, hA5, hO5⟩⟩
    · exact ⟨rfl, hBb, rfl, by rw [HS.out, ho], hL5, hKw5⟩
    · have HF : Hid (Kp (fun k => LkO l kb vl vs k ∨ w8.heap.size + 3 ≤ k) W₂ w5 ∧ CallI l p B kb k m t at_ s vl vs w8 (pre ++ [x]) w5) := hid ⟨hBb, s2, vl2, vs2, by rw [HS.out, ho], hA5, H3.out.trans hO5 hz28, hKw5⟩
      have HK5 := hid hK5
      clear hBb hKw5 hK5 hL5 hA5 hO5 ho hEnd
      gi_wp2_with fail
      (refine hK2 _ _ (HTH.out.out _ HK5.out) ?_); clear hK2 K2
      (refine wpMixI_nil rfl fun K hK => ?_); (change wpQuiet _ _ _ _ [] _); (refine wpQuiet_nil ?_); (refine hK _ ?_); clear hK K
      gi_wp2_with fail
      exact HF.out
   case hdone =>
    rintro xs W rfl ⟨s', vl', vs', h1, h2, h3, h4⟩ hK
    have hsnd : (backTo (M.method p G.1).args (M.method p G.1).args.length).map Prod.snd = (M.method p G.1).args.reverse := by rw [backTo_snd _ _ (Nat.le_refl _), List.take_length]
    rw [hsnd] at h1
    have hord8 := HA8.out.lod.ord
    have hlt8 := HA8.out.lod.lt
    have hw8 : w.heap.size + 1 < w8.heap.size := by
     have := HB3.out.lt
     have := HK7.out.size
     have := HE8.out.size
     omega
    have hsz2 : (w8.alloc (.cells #[.slice t2.a1 (M.method p G.1).args.length t2.c1] 57)).heap.size = w8.heap.size + 1 := by simp
    rw [hsz2] at hK ⊢
    replace HO : Hid (M.lkIns p k m i s = (M.lkAs p k (M.clsTag i.name) s').bind (M.lkPut m (M.tagOf (M.method p G.1).ret))) := hid (by rw [HO.out, h1]; rfl)
    have HKall : Hid (Kp (LkO l kb vl vs) w W) := hid (HE0.out.any.trans (((HK7.out.weak (fun b _ e => .inl e)).trans HE8.out.any).trans h4))
    refine ⟨by simp, by simp, ?_⟩
    show Code.wpAt _ _ _ _ _ _
    refine wpAt_end (ds := [{ target := .collected (w8.heap.size + 1), args := #[] }]) (R := fun e W' => W'.heap[w8.heap.size + 1]? = some (.deferred (some [])) ∧ LkEnd w l p B kb k m t at_ vl vs (M.lkIns p k m i s) e (W'.putObj (w8.heap.size + 1) (.deferred none))) ?_ ?_ ?_
    rotate_left
    · rintro a W' hd ⟨hk, hR⟩
      show LeavesInM _ _ _ _ _ _ a.defers _ _
      rw [hd]
      refine ⟨by simp, .inl ⟨_, _, rfl, run_takeDeferred hk, ?_⟩⟩
      exact ⟨.tuple #[], by simp [results, Tryz.f123, go_sem], hR⟩
    · rintro c a W' hd ⟨hk, hR⟩
      show LeavesInM _ _ _ _ _ _ a.defers _ _
      rw [hd]
      exact ⟨by simp, .inl ⟨_, _, rfl, run_takeDeferred hk, hR⟩⟩
    have hWz : w8.heap.size + 2 ≤ W.heap.size := by have := (Array.getElem?_eq_some_iff.1 hK).1; omega
    have nold : ∀ (v1 v2 : Value), OwnSub (w8.heap.size + 2) vl vs v1 v2 → ∀ q, w.heap.size ≤ q → q < w8.heap.size + 2 → ¬ LkO l kb v1 v2 q := fun v1 v2 ho q hq1 hq2 => by
     rintro (e | e | e | e)
     · omega
     · omega
     · rcases ho q (.inl e) with h | h | h
       · have := (HA0.out.loc.lt q h).2; omega
       · have := (HA0.out.stk.lt q h).2; omega
       · omega
     · rcases ho q (.inr e) with h | h | h
       · have := (HA0.out.loc.lt q h).2; omega
       · have := (HA0.out.stk.lt q h).2; omega
       · omega
    have fin : ∀ (v1 v2 : Value) (o : Option M.Frm) (e : Ending) (W' W'' : World), OwnSub (w8.heap.size + 2) vl vs v1 v2 → Kp (LkO l kb vl vs) w W' → W'.heap[w8.heap.size + 1]? = some (.deferred (some [])) → LkEnd W' l p B kb k m t at_ v1 v2 o e W'' → w8.heap.size + 2 ≤ W'.heap.size →
        W''.heap[w8.heap.size + 1]? = some (.deferred (some [])) ∧ LkEnd w l p B kb k m t at_ vl vs o e (W''.putObj (w8.heap.size + 1) (.deferred none)) := fun v1 v2 o e W' W'' ho hkw hd hE hsz => by
     have hk6 := Kp.putObj W'' (w8.heap.size + 1) (.deferred none)
     have hkw2 : Kp (LkO l kb vl vs) w W'' := hkw.look hE.1 (ho.le (by omega))
     refine ⟨(hE.1.block _ (by omega) (nold v1 v2 ho _ (by omega) (by omega))).trans hd, hkw2.own hk6 (fun k e => by omega), hE.2.1.kp hk6 (fun b hb e => by omega), ?_⟩
     rcases hE.2.2 with ⟨h1, h2⟩ | ⟨s2, h1, h2, a, b, h5, h6⟩
     · exact .inl ⟨h1, h2⟩
     · have ho2 : OwnSub (w8.heap.size + 2) vl vs a b := ho.trans h6 (by omega)
       have hno : ∀ g, (a.ownBlock = some g ∨ b.ownBlock = some g) → ¬ g = w8.heap.size + 1 := fun g hg e => nold a b ho2 g (by omega) (by omega) (by
        rcases hg with h | h
        · exact .inr (.inr (.inl h))
        · exact .inr (.inr (.inr h)))
       exact .inr ⟨s2, h1, h2, a, b, h5.kp' hk6 (h5.lod.kp hk6 (fun b hb e => by omega)) (by omega) (fun g hg => hno g (.inl hg)) (fun g hg => hno g (.inr hg)) (fun b hb e => by omega), ho2.le (by omega)⟩
    have h3' : OwnSub (w8.heap.size + 2) vl vs vl' vs' := h3.le (by omega)
    have hb8z : w.heap.size ≤ b8 ∧ b8 < w8.heap.size := by
     have := HB8.out.lt
     have := HK7.out.size
     have := HE0.out.size
     omega
    have n0 : ∀ q, w.heap.size ≤ q → ¬ LkO l kb vl vs q := fun q hq h => by have := LookAt.old HA0.out h; omega
    have B2 := hid (((HB2.out.kp HK7.out hnD).ext HE8.out).kp h4 (n0 _ (by omega)))
    have B3 := hid (((HB3.out.kp HK7.out hn1).ext HE8.out).kp h4 (n0 _ (by omega)))
    have B8 := hid (HB8.out.kp h4 (n0 _ (by omega)))
    obtain ⟨T, f, hneT, HT⟩ := Cls.ex (fun W' => Kp (LkO l kb vl' vs') W W') _ (Kp.refl _ _)
    have r2 := fun z => (B2.out.kp (HT.inn z) (nold _ _ h3' _ (by omega) (by omega))).c 0 (.pointer (some ⟨kb, 0, none⟩)) rfl
    have r3 := fun z => (B3.out.kp (HT.inn z) (nold _ _ h3' _ (by omega) (by omega))).c 2 (.string i.name) rfl
    have HTH := hid HT
    have HFIN := hid fin
    have HNOLD := hid nold
    have HAW := hid h2
    have HOS := hid h3'
    have HKD := hid hK
    clear h1 h2 h3 h4 hK fin nold h3' n0 HT hsnd
    go_wp2_with fail
    (refine region_mix f 5 [([0, 1, 2], 3), ([], 4)] [] (HTH.out.out _ ?_) (by kernel_rfl) (by kernel_rfl) (fun _ _ d _ _ h => by cases d <;> exact h) ?_)
    · exact (Kp.refl _ _).drew
    (refine wpMix_cons rfl rfl fun K hK => ?_); (change wpQuiet _ _ _ _ [_, _, _] _); (repeat (go_big_quiet_step (fail))); (refine wpQuiet_nil ?_); (refine hK _ fun K2 hK2 => ?_); clear hK K; (change wpList _ _ _ [_] _ _)
    go_wp2_with fail
    refine (cls_tag W.drew i.name).mono ?_
    rintro e w4 ⟨rfl, hE4⟩
    have HE4 : Hid (Ext W w4) := hid (((Kp.refl _ W).drew).trans hE4)
    clear hE4
    go_wp2_with fail
    (refine hK2 _ _ (HTH.out.out _ HE4.out.any) ?_); clear hK2 K2
    (refine wpMix_cons rfl rfl fun K hK => ?_); (change wpQuiet _ _ _ _ [] _); (refine wpQuiet_nil ?_); (refine hK _ fun K2 hK2 => ?_); clear hK K; (change wpList _ _ _ [_] _ _)
    go_wp2_with fail
    refine (look_takeAs w4 _ _ _ _ _ _ _ _ _ _ _ (HAW.out.ext HE4.out) (M.clsTag i.name)).mono ?_
    rintro e w5 hEnd
    have hE5 := LkEnd.behind HE4.out hEnd
    have hfin := HFIN.out vl' vs' _ e W w5 HOS.out HKall.out HKD.out hE5 hWz
    rcases hE5 with ⟨hK5, hL5, ⟨ho, rfl⟩ | ⟨s2, ho, rfl, vl2, vs2, hA5, hO5⟩⟩
    · rw [ho] at hfin
      exact ⟨rfl, hfin.1, by rw [HO.out, ho]; exact hfin.2⟩
    replace HO : Hid (M.lkIns p k m i s = M.lkPut m (M.tagOf (M.method p G.1).ret) s2) := hid (by rw [HO.out, ho]; rfl)
    have HKD5 := hid hfin.1
    have HOS5 : Hid (OwnSub (w8.heap.size + 2) vl vs vl2 vs2) := hid (HOS.out.trans hO5 hWz)
    have HK5 := hid hK5
    have HA5 := hid hA5
    have HKall5 : Hid (Kp (LkO l kb vl vs) w w5) := hid (HKall.out.look hK5 (HOS.out.le (by omega)))
    have hW5 : w8.heap.size + 2 ≤ w5.heap.size := by have := hK5.size; omega
    have B25 := hid (B2.out.kp hK5 (HNOLD.out _ _ HOS.out _ (by omega) (by omega)))
    have B85 := hid (B8.out.kp hK5 (HNOLD.out _ _ HOS.out _ (by omega) (by omega)))
    clear hEnd hfin hK5 hL5 ho hA5 hO5 r3
    go_wp2_with fail
    (refine hK2 _ _ (HTH.out.out _ HK5.out) ?_); clear hK2 K2
    clear r2
    (refine wpMix_nil rfl fun K hK => ?_); (change wpQuiet _ _ _ _ [] _); (refine wpQuiet_nil ?_); (refine hK _ ?_); clear hK K; (simp only [List.drop_succ_cons, List.drop_zero, List.drop_nil, wpList])
    clear HTH
    obtain ⟨T, f, hneT, HT⟩ := Cls.ex (fun W' => Kp (LkO l kb vl2 vs2) w5 W') _ (Kp.refl _ _)
    have r2 := fun z => (B25.out.kp (HT.inn z) (HNOLD.out _ _ HOS5.out _ (by omega) (by omega))).c 0 (.pointer (some ⟨kb, 0, none⟩)) rfl
    have r4 := fun z => (B85.out.kp (HT.inn z) (HNOLD.out _ _ HOS5.out _ (by omega) (by omega))).c 2 (.int .i64 (M.method p G.1).ret.kind) rfl
    have r5 := fun z => (B85.out.kp (HT.inn z) (HNOLD.out _ _ HOS5.out _ (by omega) (by omega))).c 3 (.string (M.method p G.1).ret.name) rfl
    have HTH := hid HT
    clear HT
    go_wp2_with fail
    (refine region_mix f 5 [([0, 1, 2], 3), ([], 4)] [] (HTH.out.out _ ?_) (by kernel_rfl) (by kernel_rfl) (fun _ _ d _ _ h => by cases d <;> exact h) ?_)
    · exact (Kp.refl _ _).drew
    (refine wpMix_cons rfl rfl fun K hK => ?_); (change wpQuiet _ _ _ _ [_, _, _] _); (repeat (go_big_quiet_step (fail))); (refine wpQuiet_nil ?_); (refine hK _ fun K2 hK2 => ?_); clear hK K; (change wpList _ _ _ [_] _ _)
    go_wp2_with fail
    refine (tag_of w5.drew (M.method p G.1).ret).mono ?_
    rintro e w6 ⟨rfl, hE6⟩
    have HE6 : Hid (Ext w5 w6) := hid (((Kp.refl _ w5).drew).trans hE6)
    clear hE6
    go_wp2_with fail
    (refine hK2 _ _ (HTH.out.out _ HE6.out.any) ?_); clear hK2 K2
    (refine wpMix_cons rfl rfl fun K hK => ?_); (change wpQuiet _ _ _ _ [] _); (refine wpQuiet_nil ?_); (refine hK _ fun K2 hK2 => ?_); clear hK K; (change wpList _ _ _ [_] _ _)
    go_wp2_with fail
    refine (look_put' w6 _ _ _ _ _ _ _ _ _ _ _ (HA5.out.ext HE6.out) (M.tagOf (M.method p G.1).ret)).mono ?_
    rintro e w9 hEnd
    have hE9 := LkEnd.behind HE6.out hEnd
    have hK9 := hE9.1
    have hfin := HFIN.out vl2 vs2 _ e w5 w9 HOS5.out HKall5.out HKD5.out hE9 hW5
    rw [← HO.out] at hfin
    have HFF := hid hfin
    have HK9 := hid hK9
    have hends := hE9.2.2
    clear hfin hE9 hK9 hEnd
    rcases hends with ⟨-, rfl⟩ | ⟨s9, -, rfl, -⟩
    · exact ⟨rfl, HFF.out⟩
    go_wp2_with fail
    (refine hK2 _ _ (HTH.out.out _ HK9.out) ?_); clear hK2 K2
    clear r2 r4 r5
    (refine wpMix_nil rfl fun K hK => ?_); (change wpQuiet _ _ _ _ [] _); (refine wpQuiet_nil ?_); (refine hK _ ?_); clear hK K; (simp only [List.drop_succ_cons, List.drop_zero, List.drop_nil, wpList])
    go_wp2_with fail
    exact ⟨rfl, HFF.out⟩
   case hstop => exact fun _ _ _ _ h => h.elim
   case hpanic =>
    rintro c pre W ⟨rest, hrest⟩ ⟨rfl, h2, h3, h4⟩ hK
    refine ⟨by simp, by simp, ?_⟩
    have hord8 := HA8.out.lod.ord
    have hlt8 := HA8.out.lod.lt
    have hk6 := Kp.putObj W (w8.alloc (.cells #[.slice t2.a1 (M.method p G.1).args.length t2.c1] 57)).heap.size (.deferred none)
    have hsz2 : (w8.alloc (.cells #[.slice t2.a1 (M.method p G.1).args.length t2.c1] 57)).heap.size = w8.heap.size + 1 := by simp
    have hall : M.lkIns p k m i s = none := by
     rw [HO.out]
     have e1 : (M.method p G.1).args.reverse = pre.map Prod.snd ++ rest.map Prod.snd := by
      have := congrArg (List.map Prod.snd) hrest
      rw [backTo_snd _ _ (Nat.le_refl _), List.take_length, List.map_append] at this
      exact this
     rw [e1, lkAsAll_none h2]; rfl
    have hKall : Kp (LkO l kb vl vs) w0 W := ((HK7.out.weak (fun b _ e => .inl e)).trans HE8.out.any).trans h4
    refine ⟨by simp, .inl ⟨_, _, rfl, run_takeDeferred hK, ?_⟩⟩
    exact LkEnd.behind HE0.out ⟨hKall.own hk6 (fun k e => by have := HK7.out.size; have := HE8.out.size; omega), h3.kp hk6 (fun k hk e => by omega), .inl ⟨hall, rfl⟩⟩
  (refine region_tree f 7 (.two [0, 1, 2, 3, 4] 5 6 (.one [] 6 (.fin [])) (.one [] 5 (.fin []))) (HTH.out.out _ ?_) (by kernel_rfl) (by kernel_rfl) (fun _ _ d _ _ h => by cases d <;> exact h) ?_)
  · exact (Kp.refl _ _).drew
  clear hK
  have TAIL2 := hid tail2
  clear tail2
  (refine wpT_two rfl rfl rfl fun K hK => ?_); (change wpQuiet _ _ _ _ [_, _, _, _, _] _); (repeat (go_big_quiet_step (fail))); (refine wpQuiet_nil ?_); ((refine hK _ (fun K2 hK2 => ?_) (fun K2 hK2 => ?_)) <;> (clear hK K; (change wpList _ _ _ [_] _ _)))
  · go_wp2_with fail
    refine (lodge_method' w7.drew l p (HL7.out.ext (Kp.refl _ _).drew) G.1 hhas.out).mono ?_
    rintro e w8 ⟨⟨cs, hml, rfl⟩, hE8⟩
    obtain ⟨t2, rfl⟩ := mthCs_form hml
    have HE8 : Hid (Ext w7 w8) := hid (((Kp.refl _ _).drew).trans hE8)
    have HML := hid hml
    clear hml hE8
    simp only [mthCs]
    go_wp2_with fail
    (refine hK2 _ _ (HTH.out.out _ HE8.out) ?_); clear hK2 K2
    (refine wpT_one rfl rfl fun K hK => ?_); (change wpQuiet _ _ _ _ [] _); (refine wpQuiet_nil ?_); (refine hK _ fun K2 hK2 => ?_); clear hK K; (change wpList _ _ _ [_] _ _)
    go_wp2_with fail
    (refine hK2 _ _ (HTH.out.out _ (HE8.out.alloc _)) ?_); clear hK2 K2
    (refine wpT_fin rfl fun K hK => ?_); (change wpQuiet _ _ _ _ [] _); (refine wpQuiet_nil ?_); (refine hK _ ?_); clear hK K
    go_wp2_with fail
    exact TAIL2.out _ _ t2 (HE8.out.alloc _) (Blk.new _ _ _) HE8.out.size (Stays.ext MethodL.stays ((KX.k (by repeat (first | assumption | constructor))) : Ext w8 _) HML.out)
  · go_wp2_with fail
    (refine hK2 _ _ (HTH.out.out _ (((Kp.refl _ _).drew).alloc _)) ?_); clear hK2 K2
    (refine wpT_one rfl rfl fun K hK => ?_); (change wpQuiet _ _ _ _ [] _); (refine wpQuiet_nil ?_); (refine hK _ fun K2 hK2 => ?_); clear hK K; (change wpList _ _ _ [_] _ _)
    go_wp2_with fail
    have b5 : Blk (w7.alloc (.cells #[.string ⟨#[]⟩, .slice none 0 0, .int .i64 0, .string ⟨#[]⟩, .int .i64 0, .int .i64 0, .slice none 0 0, .slice none 0 0] 60)).drew w7.heap.size 60 #[.string ⟨#[]⟩, .slice none 0 0, .int .i64 0, .string ⟨#[]⟩, .int .i64 0, .int .i64 0, .slice none 0 0, .slice none 0 0] := (Blk.new _ _ _).ext (Kp.refl _ _).drew
    refine (lodge_method' ((w7.alloc (.cells #[.string ⟨#[]⟩, .slice none 0 0, .int .i64 0, .string ⟨#[]⟩, .int .i64 0, .int .i64 0, .slice none 0 0, .slice none 0 0] 60)).drew) l p (HL7.out.ext ((Kp.refl _ _).alloc _).drew) G.1 hhas.out).mono ?_
    rintro e w8 ⟨⟨cs, hml, rfl⟩, hE8⟩
    obtain ⟨t2, rfl⟩ := mthCs_form hml
    have HE8 : Hid (Ext w7 w8) := hid ((((Kp.refl _ w7).alloc _).drew).trans hE8)
    have b53 := b5.ext hE8
    have y0 := b53.c 0 (.string ⟨#[]⟩) rfl
    have y1 := b53.c 1 (.slice none 0 0) rfl
    have y2 := b53.c 2 (.int .i64 0) rfl
    have y3 := b53.c 3 (.string ⟨#[]⟩) rfl
    have y4 := b53.c 4 (.int .i64 0) rfl
    have y5 := b53.c 5 (.int .i64 0) rfl
    have y6 := b53.c 6 (.slice none 0 0) rfl
    have y7 := b53.c 7 (.slice none 0 0) rfl
    have g0 := b53.frozen 0
    have g1 := b53.frozen 1
    have g2 := b53.frozen 2
    have g3 := b53.frozen 3
    have g4 := b53.frozen 4
    have g5 := b53.frozen 5
    have g6 := b53.frozen 6
    have g7 := b53.frozen 7
    have z5 := b53.lt
    have hml' := hml
    obtain ⟨w9, hw9⟩ : ∃ w9, w9 = ((((((((w8.setCell ⟨w7.heap.size, 0, none⟩ (.string (M.method p G.1).name)).setCell ⟨w7.heap.size, 1, none⟩ (.slice t2.a1 (M.method p G.1).args.length t2.c1)).setCell ⟨w7.heap.size, 2, none⟩ (.int .i64 (M.method p G.1).ret.kind)).setCell ⟨w7.heap.size, 3, none⟩ (.string (M.method p G.1).ret.name)).setCell ⟨w7.heap.size, 4, none⟩ (.int .i64 (M.method p G.1).locals)).setCell ⟨w7.heap.size, 5, none⟩ (.int .i64 (M.method p G.1).stack)).setCell ⟨w7.heap.size, 6, none⟩ (.slice t2.a2 (M.method p G.1).code.length t2.c2)).setCell ⟨w7.heap.size, 7, none⟩ (.slice t2.a3 (M.method p G.1).maps.length t2.c3)) := ⟨_, rfl⟩
    have hK9 : Kp (· = w7.heap.size) w8 w9 := by rw [hw9]; exact Kp.set8 (D := (· = w7.heap.size)) rfl _ _ _ _ _ _ _ _
    have b9 : Blk w9 w7.heap.size 60 (mthCs (M.method p G.1) t2).toArray := by rw [hw9]; exact b53.set8 _ _ _ _ _ _ _ _
    have hz7 := HL7.out.lt
    have hord7 := HL7.out.ord
    have HE9 : Hid (Ext w7 w9) := hid (HE8.out.own hK9 (fun k e => by omega))
    have HML := hid (Stays.kp MethodL.stays hK9 (fun b hb e => by omega) hml)
    have HB9 := hid b9
    have HW9 := hid hw9
    clear b5 b53 hml hml' hE8 hw9 hK9 b9
    simp only [mthCs]
    go_wp2_with fail
    (refine hK2 _ _ (HTH.out.out _ HE8.out) ?_); clear hK2 K2
    clear HTH r0 r4 r5 r6 r7
    (refine wpT_fin rfl fun K hK => ?_); (change wpQuiet _ _ _ _ [] _); (refine wpQuiet_nil ?_); (refine hK _ ?_); clear hK K
    go_wp2_with fail
    rw [← HW9.out]
    exact TAIL2.out _ _ t2 HE9.out HB9.out (Nat.le_refl _) HML.out
 (refine region_tree f 18 (.two [0, 1, 2, 3, 4, 5, 6, 7, 8, 9, 10, 11] 12 16 (.one [13, 14, 15] 16 (.one [] 17 (.fin []))) (.one [] 12 (.one [13, 14, 15] 17 (.fin [])))) (HTH.out.out _ ?_) (by kernel_rfl) (by kernel_rfl) (fun _ _ d _ _ h => by cases d <;> exact h) ?_)
 · exact (Kp.refl _ _).drew
 clear hK
 have TAIL := hid tail
 clear tail
 (refine wpT_two rfl rfl rfl fun K hK => ?_); (change wpQuiet _ _ _ _ [_, _, _, _, _, _, _, _, _, _, _, _] _); (repeat (go_big_quiet_step (fail))); (refine wpQuiet_nil ?_); ((refine hK _ (fun K2 hK2 => ?_) (fun K2 hK2 => ?_)) <;> (clear hK K; (change wpList _ _ _ [_] _ _)))
 · go_wp2_with fail
   have hfc := lodge_call _ _ _ (HA.out.lod.ext (Kp.refl _ _).drew) k i.name i.member
   rw [HG.out] at hfc
   refine hfc.mono ?_
   rintro e w3 ⟨⟨ev, he, hev⟩, hL3, hK3⟩
   rw [HV.out] at he
   subst he
   have HK3 : Hid (Kp (· = l.D) w0 w3) := hid (((Kp.refl _ _).drew).trans hK3)
   have HL3 := hid hL3
   have HEV := hid (ErrV.weak hev)
   clear hL3 hK3 hfc hev
   go_wp2_with fail
   (refine hK2 _ _ (HTH.out.out _ HK3.out) ?_); clear hK2 K2
   (refine wpT_one rfl rfl fun K hK => ?_); (change wpQuiet _ _ _ _ [_, _, _] _); (repeat (go_big_quiet_step (fail))); (refine wpQuiet_nil ?_); (refine hK _ fun K2 hK2 => ?_); clear hK K; (change wpList _ _ _ [_] _ _)
   go_wp2_with fail
   (refine hK2 _ _ (HTH.out.out _ (HK3.out.alloc _)) ?_); clear hK2 K2
   (refine wpT_one rfl rfl fun K hK => ?_); (change wpQuiet _ _ _ _ [] _); (refine wpQuiet_nil ?_); (refine hK _ fun K2 hK2 => ?_); clear hK K; (change wpList _ _ _ [_] _ _)
   go_wp2_with fail
   (refine hK2 _ _ (HTH.out.out _ (HK3.out.alloc _)) ?_); clear hK2 K2
   (refine wpT_fin rfl fun K hK => ?_); (change wpQuiet _ _ _ _ [] _); (refine wpQuiet_nil ?_); (refine hK _ ?_); clear hK K
   go_wp2_with fail
   exact TAIL.out _ _ _ (HK3.out.alloc _) (HL3.out.ext (KX.k (by repeat (first | assumption | constructor)))) (Blk.new _ _ _) HK3.out.size HEV.out
 · go_wp2_with fail
   (refine hK2 _ _ (HTH.out.out _ (((Kp.refl _ _).drew).alloc _)) ?_); clear hK2 K2
   (refine wpT_one rfl rfl fun K hK => ?_); (change wpQuiet _ _ _ _ [] _); (refine wpQuiet_nil ?_); (refine hK _ fun K2 hK2 => ?_); clear hK K; (change wpList _ _ _ [_] _ _)
   go_wp2_with fail
   have b5 : Blk (w0.alloc (.cells #[.int .i64 0, .string ⟨#[]⟩, .int .i64 0] 97)).drew w0.heap.size 97 #[.int .i64 0, .string ⟨#[]⟩, .int .i64 0] := (Blk.new _ _ _).ext (Kp.refl _ _).drew
   have hD0 := HA.out.lod.dlt
   have hzD : ¬ w0.heap.size = l.D := by omega
   have hzw := HE0.out.size
   have hfc := lodge_call ((w0.alloc (.cells #[.int .i64 0, .string ⟨#[]⟩, .int .i64 0] 97)).drew) _ _ (HA.out.lod.ext ((Kp.refl _ _).alloc _).drew) k i.name i.member
   rw [HG.out] at hfc
   refine hfc.mono ?_
   rintro e w3 ⟨⟨ev, he, hev⟩, hL3, hK3⟩
   rw [HV.out] at he
   subst he
   have HK3 : Hid (Kp (· = l.D) w0 w3) := hid ((((Kp.refl _ w0).alloc _).drew).trans hK3)
   have b53 := b5.kp hK3 hzD
   have y0 := b53.c 0 (.int .i64 0) rfl
   have y1 := b53.c 1 (.string ⟨#[]⟩) rfl
   have y2 := b53.c 2 (.int .i64 0) rfl
   have g0 := b53.frozen 0
   have g1 := b53.frozen 1
   have g2 := b53.frozen 2
   have z5 := b53.lt
   obtain ⟨w7, hw7⟩ : ∃ w7, w7 = ((w3.setCell ⟨w0.heap.size, 0, none⟩ (.int .i64 G.1.of.keeper)).setCell ⟨w0.heap.size, 1, none⟩ (.string G.1.of.name)).setCell ⟨w0.heap.size, 2, none⟩ (.int .i64 G.1.at_) := ⟨_, rfl⟩
   have hK7 : Kp (· = w0.heap.size) w3 w7 := by rw [hw7]; exact Kp.set3 (D := (· = w0.heap.size)) rfl _ _ _
   have b57 : Blk w7 w0.heap.size 97 #[.int .i64 G.1.of.keeper, .string G.1.of.name, .int .i64 G.1.at_] := by rw [hw7]; exact b53.set3 _ _ _
   have HK7 : Hid (Kp (· = l.D) w0 w7) := hid (HK3.out.own hK7 (fun k e => by omega))
   have HL7 : Hid (LodgeAt w7 l p) := hid (hL3.kp hK7 (fun b hb e => by omega))
   have HB5 := hid b57
   have HW7 := hid hw7
   have HEV := hid (ErrV.weak hev)
   clear b5 b53 hL3 hK3 hK7 b57 hw7 hfc hev
   go_wp2_with fail
   (refine hK2 _ _ (HTH.out.out _ HK3.out) ?_); clear hK2 K2
   (refine wpT_one rfl rfl fun K hK => ?_); (change wpQuiet _ _ _ _ [_, _, _] _); (repeat (go_big_quiet_step (fail))); (refine wpQuiet_nil ?_); (refine hK _ fun K2 hK2 => ?_); clear hK K; (change wpList _ _ _ [_] _ _)
   go_wp2_with fail
   rw [← HW7.out]
   (refine hK2 _ _ (HTH.out.out _ HK7.out) ?_); clear hK2 K2
   clear HTH r0 r1 r2 r3 r4 y0 y1 y2 g0 g1 g2
   (refine wpT_fin rfl fun K hK => ?_); (change wpQuiet _ _ _ _ [] _); (refine wpQuiet_nil ?_); (refine hK _ ?_); clear hK K
   go_wp2_with fail
   exact TAIL.out _ _ _ HK7.out HL7.out HB5.out (Nat.le_refl _) HEV.out
end Go.Proofs.YtjdfceejkneofaaGreat
namespace Go.Proofs.YtjdfceejkneofaaGreat
open Go Go.RowKit
open Go.Lib (hid)
theorem elem_frm : Elem 137 207 2 := elem_of (z := .agg #[.slice none 0 0, .slice none 0 0]) (bytes := 48) Tryz.underlying137 (by kernel_rfl) rfl (by decide) (by decide)
def prCs (x : Value × Value) : List Value := [x.1, x.2]
def KnI (W : World) (S : Nat) (v vl vs : Value) (b : Nat) : Prop := S ≤ b ∧ b < W.heap.size ∧ v.ownBlock ≠ some b ∧ vl.ownBlock ≠ some b ∧ vs.ownBlock ≠ some b
def KnC (W : World) (S : Nat) (v vl vs : Value) (known : List M.Frm) (cs : List (Value × Value)) : Prop :=
 cs.length = known.length ∧ W.ownsRow S 207 2 v known.length (cs.flatMap prCs) ∧
  ∀ (j : Nat) (c : Value × Value) (f : M.Frm), cs[j]? = some c → known[j]? = some f → SliceOf 2 TagL W (KnI W S v vl vs) c.1 f.locals ∧ SliceOf 2 TagL W (KnI W S v vl vs) c.2 f.stack
def Kn (W : World) (S : Nat) (v vl vs : Value) (known : List M.Frm) : Prop := ∃ cs : List (Value × Value), KnC W S v vl vs known cs
theorem Kn.nil (W : World) (S : Nat) (vl vs : Value) : Kn W S (.slice none 0 0) vl vs [] :=
 ⟨[], rfl, World.ownsRow_nil _ _ _ _, fun j c f h => by simp at h⟩
theorem owns_blk {w : World} {base e k n : Nat} {v : Value} {xs : List Value} (h : w.ownsRow base e k v n xs) {g : Nat} (hg : v.ownBlock = some g) : ∃ cur, Blk w g e cur := by
 rcases h.2 with ⟨h1, _⟩ | ⟨g', cap, cur, h1, _, hb, _⟩
 · rw [h1] at hg; cases hg
 · rw [h1] at hg; cases hg
   exact ⟨cur, hb⟩
theorem Kn.kp {W W' : World} {S : Nat} {l : Lodge} {p : M.Plan} {B kb : Nat} {k : Int} {m : M.Method} {t : MSl} {at_ : Int} {s : M.Frm} {v vl vs vl' vs' : Value} {known : List M.Frm} (h : Kn W S v vl vs known)
    (hA : LookAt W l p B kb k m t at_ s vl vs) (hk : Kp (LkO l kb vl vs) W W') (hO : OwnSub W.heap.size vl vs vl' vs') (hkb : kb < S) : Kn W' S v vl' vs' known := by
 obtain ⟨cs, h1, h2, h3⟩ := h
 have hB := hA.hB
 have hBk := hA.hk
 have hord := hA.lod.ord
 refine ⟨cs, h1, owns_kp h2 hk fun g hg hS e => ?_, fun j c f hc hf => ?_⟩
 · obtain ⟨cur, hb⟩ := owns_blk h2 hg
   rcases e with e | e | e | e
   · omega
   · omega
   · obtain ⟨cur', hb'⟩ := owns_blk hA.loc e
     exact absurd (Blk.inj hb hb') (by decide)
   · obtain ⟨cur', hb'⟩ := owns_blk hA.stk e
     exact absurd (Blk.inj hb hb') (by decide)
 · have same : Same (KnI W S v vl vs) W W' := Kp.same hk fun b hb e => by
    obtain ⟨q1, q2, q3, q4, q5⟩ := hb
    rcases e with e | e | e | e
    · omega
    · omega
    · exact q4 e
    · exact q5 e
   have sub : ∀ b, KnI W S v vl vs b → KnI W' S v vl' vs' b := fun b ⟨q1, q2, q3, q4, q5⟩ => ⟨q1, Nat.lt_of_lt_of_le q2 hk.size, q3, fun e => by
    rcases hO b (.inl e) with x | x | x
    · exact q4 x
    · exact q5 x
    · omega, fun e => by
    rcases hO b (.inr e) with x | x | x
    · exact q4 x
    · exact q5 x
    · omega⟩
   obtain ⟨a1, a2⟩ := h3 j c f hc hf
   exact ⟨a1.keep TagL.stays same sub, a2.keep TagL.stays same sub⟩
theorem KnC.snoc {W W' : World} {S : Nat} {v v' vl vs c1 c2 : Value} {known : List M.Frm} {f : M.Frm} {cs : List (Value × Value)} (h : KnC W S v vl vs known cs)
    (h1 : SliceOf 2 TagL W (KnI W S v vl vs) c1 f.locals) (h2 : SliceOf 2 TagL W (KnI W S v vl vs) c2 f.stack)
    (hrow : W'.ownsRow S 207 2 v' (known.length + 1) (cs.flatMap prCs ++ [c1, c2])) (hk : Kp (fun b => v.ownBlock = some b) W W') (hv : ∀ g, v'.ownBlock = some g → v.ownBlock = some g ∨ W.heap.size ≤ g) : Kn W' S v' vl vs (known ++ [f]) := by
 obtain ⟨e1, e2, e3⟩ := h
 have same : Same (KnI W S v vl vs) W W' := Kp.same hk fun b hb e => hb.2.2.1 e
 have sub : ∀ b, KnI W S v vl vs b → KnI W' S v' vl vs b := fun b ⟨q1, q2, q3, q4, q5⟩ => ⟨q1, Nat.lt_of_lt_of_le q2 hk.size, fun e => by
  rcases hv b e with x | x
  · exact q3 x
  · omega, q4, q5⟩
 refine ⟨cs ++ [(c1, c2)], by simp [e1], ?_, fun j c f' hc hf => ?_⟩
 · rw [List.length_append, List.flatMap_append]
   simpa [prCs] using hrow
 · rcases Nat.lt_trichotomy j cs.length with hj | hj | hj
   · rw [List.getElem?_append_left hj] at hc
     rw [List.getElem?_append_left (by omega)] at hf
     obtain ⟨a1, a2⟩ := e3 j c f' hc hf
     exact ⟨a1.keep TagL.stays same sub, a2.keep TagL.stays same sub⟩
   · subst hj
     rw [List.getElem?_append_right (Nat.le_refl _)] at hc
     rw [e1, List.getElem?_append_right (Nat.le_refl _)] at hf
     simp at hc hf
     subst hc hf
     exact ⟨h1.keep TagL.stays same sub, h2.keep TagL.stays same sub⟩
   · rw [List.getElem?_eq_none (by simp; omega)] at hc
     cases hc
theorem KnC.ext {W W' : World} {S : Nat} {v vl vs : Value} {known : List M.Frm} {cs : List (Value × Value)} (h : KnC W S v vl vs known cs) (hE : Ext W W') : KnC W' S v vl vs known cs := by
 obtain ⟨e1, e2, e3⟩ := h
 have sub : ∀ b, KnI W S v vl vs b → KnI W' S v vl vs b := fun b ⟨q1, q2, q3⟩ => ⟨q1, Nat.lt_of_lt_of_le q2 hE.size, q3⟩
 refine ⟨e1, owns_kp e2 hE (fun _ _ _ x => x), fun j c f hc hf => ?_⟩
 obtain ⟨a1, a2⟩ := e3 j c f hc hf
 exact ⟨a1.keep TagL.stays (Ext.same hE) sub, a2.keep TagL.stays (Ext.same hE) sub⟩
end Go.Proofs.YtjdfceejkneofaaGreat
