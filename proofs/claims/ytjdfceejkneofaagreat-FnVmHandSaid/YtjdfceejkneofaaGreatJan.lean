/- 'copy(dst, src)' for elements of more cells than one.; Walks: the machine's top, jump, next, put.; Walks: the machine's next, put.; Walks: keeper, hasType, object, end.; Walks: the machine's class (printed by gen_m4.py). -/
import Derived.Test.YtjdfceejkneofaaGreatJam
import Derived.Laws.CopyOwn
import Derived.Test.YtjdfceejkneofaaGreatJaf
import Derived.Test.YtjdfceejkneofaaGreatJak
set_option maxRecDepth 100000
set_option maxHeartbeats 4000000
set_option linter.unusedSimpArgs false
set_option linter.unusedVariables false
namespace Go.Proofs.YtjdfceejkneofaaGreat
open Go Go.RowKit
open Go.Lib (hid)
theorem run_copyk {P : Program} (w : World) (dT sT ty elem : TypeId) (g dLen dCap : Nat) (a : Addr) (sLen sCap k : Nat) (cur : Array Value) (t : TypeId) (cs : List Value)
    (hu : P.underlying dT = some (.slice elem)) (hs : (P.info? elem).map (·.size) = some k) (hg : w.heap[g]? = some (.cells cur t (0, 0))) (hn : cs.length = Nat.min sLen dLen * k)
    (hsrc : ∀ j v, cs[j]? = some v → w.cell? (a.add j) = some v) (hfit : cs.length ≤ cur.size) (h1 : ∀ v ∈ cs, v.oneCell' = true) :
    (Builtin.copy_ #[dT, sT] ty #[.slice (some ⟨g, 0, none⟩) dLen dCap, .slice (some a) sLen sCap]).run P w =
     .ok (goInt (Nat.min sLen dLen)) (w.setRow g (cs ++ cur.toList.drop cs.length).toArray) := by
 have hl := run_loadCells_list (P := P) w a cs hsrc
 have hst := run_storeCells_at P g 0 t cs 0 cur w hg (by simpa using hfit) h1
 simp only [Nat.zero_add, List.take_zero, List.nil_append] at hst
 cases hq : P.info? elem with
 | none => simp [hq] at hs
 | some i =>
  have hi : i.size = k := by simpa [hq] using hs
  simp [Builtin.copy_, run_underlying hu, Builtin.lenOf, Builtin.firstCells, sizeOf, typeInfo, hq, hi, ← hn, hl, hst]
theorem setRow_kp {D : Nat → Prop} (w : World) (g : Nat) (cs : Array Value) (hD : D g) : Kp D w (w.setRow g cs) :=
 ⟨rfl, rfl, rfl, by simp [World.setRow], fun k hk hd => setRow_other w g k cs (fun e => hd (by subst e; exact hD))⟩
theorem wpList_copyk {t e k : Nat} (E : Elem t e k) (w : World) {ops : Array Oper} {rest : List Oper} {o : Oper} {a : Act} {Q : Exit → Act → World → Prop} (hgd : o.guard = none) (d s : Operand)
    (ho : o.op = .call { callee := .builtin .copy, args := #[d, s], argTypes := #[t, t] }) (base g n c m m' : Nat) (xs news : List Value) (hd : a.eval d = .slice (some ⟨g, 0, none⟩) n c) (hown : w.ownsRow base e k (.slice (some ⟨g, 0, none⟩) n c) n xs)
    (ad : Addr) (hs : a.eval s = .slice (some ad) m m') (hf : Flat w k (.slice (some ad) m m') m news) (hmn : m ≤ n)
    (h : ∀ w', w'.ownsRow base e k (.slice (some ⟨g, 0, none⟩) n c) n (news ++ xs.drop (m * k)) → Kp (· = g) w w' → wpList Tryz.prog ops Q rest (a.put o.dst (goInt m)) w') :
    wpList Tryz.prog ops Q (o :: rest) a w := by
 obtain ⟨i, z, bytes, ht, hi, hz, hsz, hby, hzs, hk, hb⟩ := E
 obtain ⟨f1, ⟨a1, c1, e1, _, f2⟩, f3⟩ := hf
 cases e1
 obtain ⟨hl, hx⟩ := hown
 rcases hx with ⟨e2, _⟩ | ⟨g', cap, cur, e2, hg, hcur, hle, hm, hsz2, htk⟩
 · cases e2
 · cases e2
   have hmin : Nat.min m n = m := Nat.min_eq_left hmn
   have hmk : m * k ≤ n * k := Nat.mul_le_mul_right _ hmn
   have hck : n * k ≤ c * k := Nat.mul_le_mul_right _ hle
   have hrun := run_copyk (P := Tryz.prog) w t t o.type e g n c ad m m' k cur e news ht (by rw [hi]; simp [hsz]) hcur (by rw [hmin, f1]) (f2 ad rfl) (by rw [f1]; omega) f3
   rw [hmin] at hrun
   refine wpList_plain hgd fun K hK => ?_
   unfold Oper.wp
   simp [execOp, ho, resolve, invoke, builtin, hd, hs, hrun, Result.andThen]
   refine hK _ _ (h _ ⟨?_, .inr ⟨g, c, (news ++ cur.toList.drop news.length).toArray, rfl, hg, setRow_heap w g cur _ e _ hcur, hle, hm, ?_, ?_⟩⟩ (setRow_kp w g _ rfl))
   · rw [List.length_append, List.length_drop, f1, hl]; omega
   · have hcs : cur.toList.length = cur.size := Array.length_toList
     simp only [List.size_toArray, List.length_append, List.length_drop, f1, hcs]
     omega
   · have hcs : cur.toList.length = cur.size := Array.length_toList
     simp only
     rw [← htk, List.take_append, f1, List.take_of_length_le (by rw [f1]; exact hmk), List.drop_take]
end Go.Proofs.YtjdfceejkneofaaGreat
namespace Go.Proofs.YtjdfceejkneofaaGreat
open Go Go.RowKit
open Go.Lib (hid)
section
variable {w w' : World} {l : Lodge} {p : M.Plan} {own : Own} {B mb : Nat} {lk : Bool} {g : Gh} {r : List GC} {c : GC}
theorem Gh.fr (hcs : g.cs = r ++ [c]) : g.st.frames = r.map GC.f ++ [c.f] := by unfold Gh.st; rw [hcs]; simp
theorem Gh.top (hcs : g.cs = r ++ [c]) : M.top g.st = c.f := M.top_of (Gh.fr hcs)
theorem MachAt.frm (h : MachAt w l p own B mb lk g) (hcs : g.cs = r ++ [c]) : M.frameOk p c.f g.st.heap.length = true := h.good.top (Gh.fr hcs)
theorem MachAt.mi (h : MachAt w l p own B mb lk g) (hcs : g.cs = r ++ [c]) : M.MthIs (M.method p c.f.of) :=
 M.mth_is (M.method_ok h.lod.ok (M.frameOk_iff.1 (h.frm hcs)).1).1
theorem MachAt.setStack (h : MachAt w l p own B mb lk g) (hcs : g.cs = r ++ [c]) (xs : List M.Val) (v' : Value) (hb : Blk w' c.cb 117 ((callCs p c).setIfInBounds 13 v')) (ho : w'.ownsRow B 34 2 v' xs.length (xs.flatMap valCs))
    (hn : ∀ q, v'.ownBlock = some q → c.vs.ownBlock = some q ∨ w.heap.size ≤ q) (hk : Kp (fun b => b = c.cb ∨ c.vs.ownBlock = some b) w w') (hG : M.Good p { g with cs := r ++ [{ c with f := { c.f with stack := xs }, vs := v' }] }.st) :
    Kp (MO l own) w w' ∧ ∃ own', Agr w.heap.size own own' ∧ MachAt w' l p own' B mb lk { g with cs := r ++ [{ c with f := { c.f with stack := xs }, vs := v' }] } := by
 have hc := h.at_ hcs
 have hpo : ∀ b, (b = c.cb ∨ c.vs.ownBlock = some b) → PO own (fun q => q = (4, r.length) ∨ q = (6, r.length)) b := fun b hb => by
  rcases hb with e | e
  · subst e; exact ⟨_, hc.role, .inl rfl⟩
  · exact ⟨_, hc.stk.role b e, .inr rfl⟩
 have hkp := hk.weak fun b _ e => hpo b e
 refine ⟨hk.weak fun b _ e => (hpo b e).mo, ?_⟩
 have ⟨own', ha, hd, hrole⟩ : ∃ own', Agr w.heap.size own own' ∧ (∀ b, own' b ≠ none → B ≤ b ∧ b < w'.heap.size) ∧ ∀ q, v'.ownBlock = some q → own' q = some (6, r.length) := by
  cases e : v'.ownBlock with
  | none => exact ⟨own, Agr.refl _ _, h.domE hk.size, fun q hq => by cases hq⟩
  | some q =>
   refine ⟨own.add q (6, r.length), Own.add_agr ?_, fun b hb => ?_, fun q' hq => by cases hq; exact Own.add_eq _ _ _⟩
   · rcases hn q e with x | x
     · exact .inl (hc.stk.role q x)
     · exact .inr x
   · by_cases eb : b = q
     · subst eb; exact ho.lt b e
     · rw [Own.add_ne _ eb] at hb; exact h.domE hk.size b hb
 have hnr : ¬ ((5, r.length) = ((4, r.length) : Nat × Nat) ∨ (5, r.length) = ((6, r.length) : Nat × Nat)) := by simp
 refine ⟨own', ha, h.setTop hcs rfl (hkp.weak fun b _ ⟨q, e1, e2⟩ => ⟨q, e1, e2.elim .inl fun e => .inr (.inr e)⟩) ha hd ⟨hb, (ha _ hc.blk.lt).trans hc.role, hc.low, Stays.kp MethodL.stays hkp (fun b hb => h.lowPO b hb) hc.ml, hc.loc.kpo hkp ha hnr, ⟨ho, hrole⟩⟩ hG⟩
theorem MachAt.setPc (h : MachAt w l p own B mb lk g) (hcs : g.cs = r ++ [c]) (n : Int) (hG : M.Good p { g with cs := r ++ [{ c with f := { c.f with pc := n } }] }.st) :
    Kp (MO l own) w (w.setCell ⟨c.cb, 11, none⟩ (.int .i64 n)) ∧ MachAt (w.setCell ⟨c.cb, 11, none⟩ (.int .i64 n)) l p own B mb lk { g with cs := r ++ [{ c with f := { c.f with pc := n } }] } := by
 have hc := h.at_ hcs
 have hk : Kp (· = c.cb) w (w.setCell ⟨c.cb, 11, none⟩ (.int .i64 n)) := (Kp.refl (· = c.cb) w).setCell (p := ⟨c.cb, 11, none⟩) (fun _ => rfl) _
 have hkp : Kp (PO own (· = (4, r.length))) w (w.setCell ⟨c.cb, 11, none⟩ (.int .i64 n)) := hk.weak fun b _ e => ⟨_, by rw [e]; exact hc.role, rfl⟩
 have ha := Agr.refl w.heap.size own
 refine ⟨hkp.weak fun b _ e => e.mo, h.setTop hcs rfl (hkp.weak fun b _ ⟨q, e1, e2⟩ => ⟨q, e1, .inl e2⟩) ha (h.domE hk.size) ⟨hc.blk.set_ 11 _, hc.role, hc.low, Stays.kp MethodL.stays hkp (fun b hb => h.lowPO b hb) hc.ml, hc.loc.kpo hkp ha (by simp), hc.stk.kpo hkp ha (by simp)⟩ hG⟩
end
def R46 (n : Nat) (q : Nat × Nat) : Prop := q = (4, n) ∨ q = (6, n)
theorem Kp.po {own own' : Own} {R : Nat × Nat → Prop} {w a b : World} (h : Kp (PO own R) w a) (hk : Kp (PO own' R) a b) (ha : Agr w.heap.size own own') : Kp (PO own R) w b :=
 ⟨hk.os.trans h.os, hk.tape.trans h.tape, hk.output.trans h.output, Nat.le_trans h.size hk.size,
  fun k hkw hd => (hk.block k (Nat.lt_of_lt_of_le hkw h.size) (fun ⟨q, e1, e2⟩ => hd ⟨q, by rw [← ha k hkw]; exact e1, e2⟩)).trans (h.block k hkw hd)⟩
theorem MachAt.stackPO {w w' w'' : World} {l : Lodge} {p : M.Plan} {own : Own} {B mb : Nat} {lk : Bool} {g : Gh} {r : List GC} {c : GC} (h : MachAt w l p own B mb lk g) (hcs : g.cs = r ++ [c]) (hk : Kp (fun b => b = c.cb ∨ c.vs.ownBlock = some b) w' w'') : Kp (PO own (R46 r.length)) w' w'' :=
 hk.weak fun b _ e => by
  rcases e with e | e
  · subst e; exact ⟨_, (h.at_ hcs).role, .inl rfl⟩
  · exact ⟨_, (h.at_ hcs).stk.role b e, .inr rfl⟩
theorem ptr_one (c : GC) : ∀ u ∈ ptrCs c, u.oneCell' = true := by simp [ptrCs, Value.oneCell']
theorem mach_top (w : World) (l : Lodge) (p : M.Plan) (own : Own) (B mb : Nat) (lk : Bool) (g : Gh) (h : MachAt w l p own B mb lk g) (r : List GC) (c : GC) (hcs : g.cs = r ++ [c]) :
    Calls Tryz.prog 65 #[.pointer (some ⟨mb, 0, none⟩)] w fun e w' => e = .returned (.pointer (some ⟨c.cb, 0, none⟩)) ∧ Ext w w' := by
 have hn : g.cs.length = r.length + 1 := by rw [hcs]; simp
 obtain ⟨b, cap, hv, -, -, hcap⟩ := owns_form h.calls.row (by omega)
 have hrow := h.calls.row
 rw [hv, hn] at hrow
 have hcell := (owns_at (enc := ptrCs) (k := 1) (fun _ => rfl) (l := g.cs) hrow (i := r.length) (x := c) (by rw [hcs]; simp)).one
 rw [Nat.mul_one] at hcell
 rw [hn] at hv
 have hcells : (machCs l lk g)[3]? = some (.slice (some ⟨b, 0, none⟩) (r.length + 1) cap) := by rw [← hv]; rfl
 have hle : r.length + 1 ≤ 8 := by have := h.good.nf; rw [Gh.fr hcs] at this; simpa using this
 have hw : IntKind.i64.wrap ((r.length : Int) + 1 - 1) = r.length := by rw [IntWalk.i64_in _ (by omega)]; omega
 obtain ⟨T, f, hneT, HT⟩ := Cls.ex (fun W' => Ext w W') _ (Kp.refl _ _)
 have r3 := fun q => (h.blk.ext (HT.inn q)).c 3 _ hcells
 have rt := fun q => (HT.inn q).cellE hcell
 have HTH := hid HT
 have H := hid h
 clear h HT hcells hcell hrow hv
 go_enter Tryz.func65, Tryz.ntmps65
 go_wp2_with fail
 (refine region_in f (HTH.out.out _ ?_) (by kernel_rfl) (by kernel_rfl) ?_); rotate_left; (repeat (go_big_quiet_step ((fail)))); (refine wpQuiet_nil ?_); (rintro _ ⟨sW, rfl⟩); rotate_left
 · exact (Kp.refl _ _).drew
 have hE1 := HTH.out.inn sW
 generalize f sW = w1 at *
 clear HTH r3 rt
 go_wp2_with fail
 go_ret
 exact ⟨rfl, hE1⟩
theorem MEnd.mk' {w w' : World} {l : Lodge} {p : M.Plan} {own own' : Own} {B mb : Nat} {lk : Bool} {v : Value} {s : M.St} {g' : Gh} (hK : Kp (MO l own) w w') (ha : Agr w.heap.size own own') (h : MachAt w' l p own' B mb lk g') (hs : g'.st = s) : MEnd w l p own B mb lk v s (.returned v) w' :=
 ⟨rfl, hK, own', g', ha, h, hs⟩
theorem mach_jumpP (w : World) (l : Lodge) (p : M.Plan) (own : Own) (B mb : Nat) (lk : Bool) (g : Gh) (h : MachAt w l p own B mb lk g) (r : List GC) (c : GC) (hcs : g.cs = r ++ [c]) (hst : g.status = 1) (tt : Int) (h0 : 0 ≤ tt) :
    Calls Tryz.prog 92 #[.pointer (some ⟨mb, 0, none⟩), .int .i64 tt] w fun e w' => MEnd w l p own B mb lk (.int .i64 (M.jump p tt g.st).1) (M.jump p tt g.st).2 e w' ∧ Kp (PO own (R46 r.length)) w w' := by
 have H := hid h
 have HJ : Hid (M.jump p tt g.st = if ((M.method p c.f.of).code.length : Int) ≤ tt then (10, g.st) else (1, { g.st with frames := r.map GC.f ++ [{ c.f with pc := tt }] })) := hid (by
  unfold M.jump; rw [Gh.top hcs, M.onTop_of (Gh.fr hcs)])
 have HG := hid (M.jump_fine h.good (Gh.fr hcs) hst h0).2.2.1
 have HCS := hid hcs
 clear h hcs
 go_enter Tryz.func92, Tryz.ntmps92
 go_wp2_with fail
 refine (mach_top _ _ _ _ _ _ _ _ H.out r c HCS.out).mono ?_
 rintro e w1 ⟨rfl, hE1⟩
 have hA := H.out.ext hE1
 have hc := hA.at_ HCS.out
 have c9 := hc.blk.c 9 (.slice c.t.a2 (M.method p c.f.of).code.length c.t.c2) rfl
 have c11 := hc.blk.c 11 (.int .i64 c.f.pc) rfl
 have f11 := hc.blk.frozen 11
 have hz := hc.blk.lt
 have HA := hid hA
 have HE1 := hid hE1
 clear hA hc hE1
 by_cases hle : ((M.method p c.f.of).code.length : Int) ≤ tt
 · have HV : Hid (M.jump p tt g.st = (10, g.st)) := hid (by rw [HJ.out, if_pos hle])
   have hle' : decide (((M.method p c.f.of).code.length : Int) ≤ tt) = true := decide_eq_true hle
   go_wp2_with fail
   go_ret
   rw [HV.out]
   exact ⟨MEnd.mk' HE1.out.any (Agr.refl _ _) HA.out rfl, HE1.out.any⟩
 · have HV : Hid (M.jump p tt g.st = (1, { g.st with frames := r.map GC.f ++ [{ c.f with pc := tt }] })) := hid (by rw [HJ.out, if_neg hle])
   have hle' : (((M.method p c.f.of).code.length : Int) ≤ tt) = False := eq_false hle
   clear hle
   go_wp2_with fail
   go_ret
   have hG := HG.out
   rw [HV.out] at hG
   rw [HV.out]
   have hs : (⟨g.status, r ++ [{ c with f := { c.f with pc := tt } }], g.os, g.outs, g.back, g.vc, g.vh, g.vo⟩ : Gh).st = { g.st with frames := r.map GC.f ++ [{ c.f with pc := tt }] } := by simp [Gh.st]
   obtain ⟨hK, hM⟩ := HA.out.setPc HCS.out tt (by rw [hs]; exact hG)
   exact ⟨MEnd.mk' (HE1.out.any.trans hK) (Agr.refl _ _) hM hs, HE1.out.any.trans (HA.out.stackPO HCS.out ((Kp.refl _ w1).setCell (p := ⟨c.cb, 11, none⟩) (fun _ => .inl rfl) _))⟩
theorem mach_jump (w : World) (l : Lodge) (p : M.Plan) (own : Own) (B mb : Nat) (lk : Bool) (g : Gh) (h : MachAt w l p own B mb lk g) (r : List GC) (c : GC) (hcs : g.cs = r ++ [c]) (hst : g.status = 1) (tt : Int) (h0 : 0 ≤ tt) :
    Calls Tryz.prog 92 #[.pointer (some ⟨mb, 0, none⟩), .int .i64 tt] w (MEnd w l p own B mb lk (.int .i64 (M.jump p tt g.st).1) (M.jump p tt g.st).2) :=
 (mach_jumpP w l p own B mb lk g h r c hcs hst tt h0).mono fun _ _ h => h.1
end Go.Proofs.YtjdfceejkneofaaGreat
namespace Go.Proofs.YtjdfceejkneofaaGreat
open Go Go.RowKit
open Go.Lib (hid)
theorem mach_nextP (w : World) (l : Lodge) (p : M.Plan) (own : Own) (B mb : Nat) (lk : Bool) (g : Gh) (h : MachAt w l p own B mb lk g) (r : List GC) (c : GC) (hcs : g.cs = r ++ [c]) (hst : g.status = 1) :
    Calls Tryz.prog 83 #[.pointer (some ⟨mb, 0, none⟩)] w fun e w' => MEnd w l p own B mb lk (.int .i64 (M.next p g.st).1) (M.next p g.st).2 e w' ∧ Kp (PO own (R46 r.length)) w w' := by
 have H := hid h
 have HJ : Hid (M.next p g.st = M.jump p (c.f.pc + 1) g.st) := hid (by unfold M.next; rw [Gh.top hcs])
 have hfr := M.frameOk_iff.1 (h.frm hcs)
 have hco := (h.mi hcs).code
 have hp0 := hfr.2.1
 have hp1 := hfr.2.2.1
 have hwq : IntKind.i64.wrap (c.f.pc + 1) = c.f.pc + 1 := IntWalk.i64_in _ (by omega)
 have HCS := hid hcs
 clear h hcs hfr
 go_enter Tryz.func83, Tryz.ntmps83
 go_wp2_with fail
 refine (mach_top _ _ _ _ _ _ _ _ H.out r c HCS.out).mono ?_
 rintro e w1 ⟨rfl, hE1⟩
 have hA := H.out.ext hE1
 have hc := hA.at_ HCS.out
 have c11 := hc.blk.c 11 (.int .i64 c.f.pc) rfl
 have HA := hid hA
 have HE1 := hid hE1
 clear hA hc hE1
 go_wp2_with fail
 refine (mach_jumpP _ _ _ _ _ _ _ _ HA.out r c HCS.out hst (c.f.pc + 1) (by omega)).mono ?_
 rintro e w2 ⟨hEnd, hPO⟩
 have HPO : Hid (Kp (PO own (R46 r.length)) w w2) := hid (HE1.out.any.trans hPO)
 clear hPO
 have HZ := hid (MEnd.behind HE1.out hEnd)
 obtain ⟨rfl, -⟩ := hEnd
 rw [← HJ.out] at HZ ⊢
 go_wp2_with fail
 go_ret
 exact ⟨HZ.out, HPO.out⟩
theorem mach_next (w : World) (l : Lodge) (p : M.Plan) (own : Own) (B mb : Nat) (lk : Bool) (g : Gh) (h : MachAt w l p own B mb lk g) (r : List GC) (c : GC) (hcs : g.cs = r ++ [c]) (hst : g.status = 1) :
    Calls Tryz.prog 83 #[.pointer (some ⟨mb, 0, none⟩)] w (MEnd w l p own B mb lk (.int .i64 (M.next p g.st).1) (M.next p g.st).2) :=
 (mach_nextP w l p own B mb lk g h r c hcs hst).mono fun _ _ h => h.1
theorem mach_putP (w : World) (l : Lodge) (p : M.Plan) (own : Own) (B mb : Nat) (lk : Bool) (g : Gh) (h : MachAt w l p own B mb lk g) (r : List GC) (c : GC) (hcs : g.cs = r ++ [c]) (hst : g.status = 1) (v : M.Val) (hv : M.valOk v g.os.length = true) :
    Calls Tryz.prog 81 #[.pointer (some ⟨mb, 0, none⟩), .agg #[.int .i64 v.kind, .int .i64 v.n]] w fun e w' => MEnd w l p own B mb lk (.int .i64 (M.push p v g.st).1) (M.push p v g.st).2 e w' ∧ Kp (PO own (R46 r.length)) w w' := by
 obtain ⟨w0, hw0⟩ : ∃ w0, w0 = w.alloc (.cells #[.int .i64 v.kind, .int .i64 v.n] 34) := ⟨_, rfl⟩
 have hE0 : Ext w w0 := by rw [hw0]; exact (KX.k (by repeat (first | assumption | constructor)))
 have b3 : Blk w0 w.heap.size 34 #[.int .i64 v.kind, .int .i64 v.n] := by rw [hw0]; exact Blk.new _ _ _
 have hA := h.ext hE0
 have hfr := M.frameOk_iff.1 (h.frm hcs)
 have hms := (h.mi hcs).stack
 have hsl := hfr.2.2.2.2.1
 have hc := h.at_ hcs
 have hnb : ¬ (w.heap.size = c.cb ∨ c.vs.ownBlock = some w.heap.size) := by
  rintro (e | e)
  · have := hc.blk.lt; omega
  · have := (hc.stk.blk e).2; omega
 have HJ : Hid (M.push p v g.st = if (M.method p c.f.of).stack ≤ (c.f.stack.length : Int) then (10, g.st) else M.next p { g.st with frames := r.map GC.f ++ [{ c.f with stack := c.f.stack ++ [v] }] }) := hid (by
  unfold M.push; rw [Gh.top hcs, M.onTop_of (Gh.fr hcs)])
 have hG' : (c.f.stack.length : Int) < (M.method p c.f.of).stack → M.Good p { g.st with frames := r.map GC.f ++ [{ c.f with stack := c.f.stack ++ [v] }] } := fun hlt => by
  refine h.good.turn (Gh.fr hcs) (M.frameOk_iff.2 ⟨hfr.1, hfr.2.1, hfr.2.2.1, hfr.2.2.2.1, by simp; omega, hfr.2.2.2.2.2.1, ?_⟩)
  intro u hu
  rcases List.mem_append.1 hu with hu | hu
  · exact hfr.2.2.2.2.2.2 u hu
  · simp only [List.mem_singleton] at hu
    subst hu
    simpa [Gh.st] using hv
 obtain ⟨T, f, hneT, HT⟩ := Cls.ex (fun W' => Kp (fun b => b = c.cb ∨ c.vs.ownBlock = some b) w0 W') _ (Kp.refl _ _)
 have r0 := fun z => (b3.kp (HT.inn z) hnb).c 0 (.int .i64 v.kind) rfl
 have r1 := fun z => (b3.kp (HT.inn z) hnb).c 1 (.int .i64 v.n) rfl
 have HTH := hid HT
 have HA := hid hA
 have HE0 := hid hE0
 have HW0 := hid hw0
 have HGG := hid hG'
 have HCS := hid hcs
 clear h hA hE0 hw0 b3 HT hG' hc hcs hfr
 go_enter Tryz.func81, Tryz.ntmps81
 go_wp2_with fail
 rw [← HW0.out]
 (refine region_mix f 7 [([0, 4], 1), ([2, 3], 5)] [6] (HTH.out.out _ ?_) (by kernel_rfl) (by kernel_rfl) (fun _ _ d _ _ h => by cases d <;> exact h) ?_)
 · exact (Kp.refl _ _).drew
 (refine wpMix_cons rfl rfl fun K hK => ?_); (change wpQuiet _ _ _ _ [_, _] _); (repeat (go_big_quiet_step (fail))); (refine wpQuiet_nil ?_); (refine hK _ fun K2 hK2 => ?_); clear hK K; (change wpList _ _ _ [_] _ _)
 go_wp2_with fail
 refine (mach_top _ _ _ _ _ _ _ _ (HA.out.ext (Kp.refl _ _).drew) r c HCS.out).mono ?_
 rintro e w1 ⟨rfl, hE1⟩
 have HE1 : Hid (Ext w0 w1) := hid (((Kp.refl _ w0).drew : Ext w0 _).trans hE1)
 clear hE1
 go_wp2_with fail
 (refine hK2 _ _ (HTH.out.out _ HE1.out.any) ?_); clear hK2 K2
 (refine wpMix_cons rfl rfl fun K hK => ?_); (change wpQuiet _ _ _ _ [_, _] _); (repeat (go_big_quiet_step (fail))); (refine wpQuiet_nil ?_); (refine hK _ fun K2 hK2 => ?_); clear hK K; (change wpList _ _ _ [_] _ _)
 have hA1 := HA.out.ext HE1.out
 have hc1 := hA1.at_ HCS.out
 have HA1 := hid hA1
 have HC1 := hid hc1
 clear hA1 hc1
 by_cases hlt : (c.f.stack.length : Int) < (M.method p c.f.of).stack
 · replace HJ : Hid (M.push p v g.st = M.next p { g.st with frames := r.map GC.f ++ [{ c.f with stack := c.f.stack ++ [v] }] }) := hid (by rw [HJ.out, if_neg (by omega)])
   go_wp2_with fail
   refine (stack_push w1 c.cb 13 B _ _ _ c.f.stack.length _ (M.method p c.f.of).stack HC1.out.blk rfl rfl v.kind v.n HC1.out.stk.row (by omega) hlt ?_ ?_).mono ?_
   · intro e
     have := HC1.out.stk.role _ e
     rw [HC1.out.role] at this; cases this
   · have := HC1.out.low; have := HC1.out.blk.lt; omega
   rintro e w2 ⟨rfl, gg, gc, hO2, hg2, hB2, hK2'⟩
   have hs : (⟨g.status, r ++ [{ c with f := { c.f with stack := c.f.stack ++ [v] }, vs := .slice (some ⟨gg, 0, none⟩) (c.f.stack.length + 1) gc }], g.os, g.outs, g.back, g.vc, g.vh, g.vo⟩ : Gh).st = { g.st with frames := r.map GC.f ++ [{ c.f with stack := c.f.stack ++ [v] }] } := by simp [Gh.st]
   obtain ⟨hKM, own', ha', hM'⟩ := HA1.out.setStack HCS.out (c.f.stack ++ [v]) (.slice (some ⟨gg, 0, none⟩) (c.f.stack.length + 1) gc) hB2 (by
    rw [List.length_append, List.flatMap_append]
    simpa [valCs] using hO2) (fun q hq => by
    have : gg = q := by simpa [Value.ownBlock] using hq
    subst this; exact hg2) hK2' (by rw [hs]; exact HGG.out hlt)
   have HK2' : Hid (Kp (fun b => b = c.cb ∨ c.vs.ownBlock = some b) w0 w2) := hid (HE1.out.any.trans hK2')
   have HPO : Hid (Kp (PO own (R46 r.length)) w w2) := hid ((HE0.out.trans HE1.out).any.trans (HA1.out.stackPO HCS.out hK2'))
   have HKM : Hid (Kp (MO l own) w w2) := hid ((HE0.out.trans HE1.out).any.trans hKM)
   have HM' := hid hM'
   have HAG : Hid (Agr w.heap.size own own') := hid (fun b hb => ha' b (by have := HE0.out.size; have := HE1.out.size; omega))
   rw [← hs] at HJ
   clear hO2 hg2 hB2 hK2' hKM ha' hM' hs r0 r1
   go_wp2_with fail
   (refine hK2 _ _ (HTH.out.out _ HK2'.out) ?_); clear hK2 K2
   clear HTH
   (refine wpMix_nil rfl fun K hK => ?_); (change wpQuiet _ _ _ _ [_] _); (repeat (go_big_quiet_step (fail))); (refine wpQuiet_nil ?_); (refine hK _ ?_); clear hK K; (simp only [List.drop_succ_cons, List.drop_zero, List.drop_nil, wpList])
   go_wp2_with fail
   refine (mach_nextP _ _ _ _ _ _ _ _ HM'.out r _ rfl hst).mono ?_
   rintro e w3 ⟨hEnd, hPO⟩
   have HPO2 : Hid (Kp (PO own (R46 r.length)) w w3) := hid (HPO.out.po hPO HAG.out)
   clear hPO
   have HZ := hid (MEnd.after HKM.out HAG.out hEnd)
   obtain ⟨rfl, -⟩ := hEnd
   rw [← HJ.out] at HZ ⊢
   go_wp2_with fail
   go_ret
   exact ⟨HZ.out, HPO2.out⟩
 · replace HJ : Hid (M.push p v g.st = (10, g.st)) := hid (by rw [HJ.out, if_pos (by omega)])
   go_wp2_with fail
   refine (stack_push_full w1 c.cb 13 _ _ _ c.f.stack.length (M.method p c.f.of).stack HC1.out.blk rfl rfl HC1.out.stk.form v.kind v.n (by omega)).mono ?_
   rintro e w2 ⟨rfl, hE2⟩
   have HE2 : Hid (Ext w0 w2) := hid (HE1.out.trans hE2)
   clear hE2 r0 r1
   go_wp2_with fail
   (refine hK2 _ _ (HTH.out.out _ HE2.out.any) ?_); clear hK2 K2
   clear HTH
   (refine wpMix_nil rfl fun K hK => ?_); (change wpQuiet _ _ _ _ [_] _); (repeat (go_big_quiet_step (fail))); (refine wpQuiet_nil ?_); (refine hK _ ?_); clear hK K; (simp only [List.drop_succ_cons, List.drop_zero, List.drop_nil, wpList])
   go_wp2_with fail
   go_ret
   rw [HJ.out]
   exact ⟨MEnd.behind HE0.out (HA.out.stop HE2.out), (HE0.out.trans HE2.out).any⟩
theorem mach_put (w : World) (l : Lodge) (p : M.Plan) (own : Own) (B mb : Nat) (lk : Bool) (g : Gh) (h : MachAt w l p own B mb lk g) (r : List GC) (c : GC) (hcs : g.cs = r ++ [c]) (hst : g.status = 1) (v : M.Val) (hv : M.valOk v g.os.length = true) :
    Calls Tryz.prog 81 #[.pointer (some ⟨mb, 0, none⟩), .agg #[.int .i64 v.kind, .int .i64 v.n]] w (MEnd w l p own B mb lk (.int .i64 (M.push p v g.st).1) (M.push p v g.st).2) :=
 (mach_putP w l p own B mb lk g h r c hcs hst v hv).mono fun _ _ h => h.1
def HeapR (w : World) (vh : Value) (h : List M.VObj) : Prop :=
 ∃ a cap, vh = .slice a h.length cap ∧ ∀ (n : Nat) (o : M.VObj), h[n]? = some o → ∃ b off v, a = some ⟨b, off, none⟩ ∧ CellsAt w b (off + n * 3) [.int .i64 o.of.keeper, .string o.of.name, v]
theorem HeapR.ext {w w' : World} {vh : Value} {h : List M.VObj} (hh : HeapR w vh h) (hE : Ext w w') : HeapR w' vh h := by
 obtain ⟨a, cap, e, h1⟩ := hh
 exact ⟨a, cap, e, fun n o ho => by
  obtain ⟨b, off, v, h2, h3⟩ := h1 n o ho
  exact ⟨b, off, v, h2, h3.ext hE⟩⟩
theorem MachAt.heapR {w : World} {l : Lodge} {p : M.Plan} {own : Own} {B mb : Nat} {lk : Bool} {g : Gh} (h : MachAt w l p own B mb lk g) : HeapR w g.vh g.st.heap := by
 obtain ⟨a, c, e⟩ := h.heap.form
 refine ⟨a, c, by rw [e]; simp [Gh.st], fun n o ho => ?_⟩
 simp only [Gh.st, List.getElem?_map, Option.map_eq_some_iff] at ho
 obtain ⟨q, hq, rfl⟩ := ho
 have hrow := h.heap.row
 obtain ⟨gg, cc, e2, _⟩ := owns_form hrow (by have := (List.getElem?_eq_some_iff.1 hq).1; omega)
 rw [e2] at hrow e
 cases e
 have := owns_at (enc := objCs) (k := 3) (fun _ => rfl) hrow hq
 exact ⟨gg, 0, q.v, rfl, by simpa [objCs] using this⟩
theorem call_keeper (w : World) (cb : Nat) (k : Int) (hc : w.cell? ⟨cb, 0, none⟩ = some (.int .i64 k)) : Calls Tryz.prog 88 #[.pointer (some ⟨cb, 0, none⟩)] w fun e w' => e = .returned (.int .i64 k) ∧ w = w' := by
 go_enter Tryz.func88, Tryz.ntmps88
 go_wp2
 go_ret
 exact ⟨rfl, rfl⟩
theorem ofAt_get {h : List M.VObj} {n : Nat} {o : M.VObj} (ho : h[n]? = some o) : M.ofAt h n = o.of := by simp [M.ofAt, ho]
theorem lodge_hasType (w : World) (l : Lodge) (p : M.Plan) (h : LodgeAt w l p) (k : Int) (vh : Value) (hs : List M.VObj) (hh : HeapR w vh hs) (v : M.Val) (hv : v.kind = 2 → 0 ≤ v.n ∧ v.n < hs.length) (t : M.Kind) :
    Calls Tryz.prog 90 #[.pointer (some ⟨l.L, 0, none⟩), .int .i64 k, vh, .agg #[.int .i64 v.kind, .int .i64 v.n], .agg #[.int .i64 t.kind, .string t.name]] w fun e w' => e = .returned (.bool (M.hasType p k hs v t)) ∧ Ext w w' := by
 obtain ⟨tk, tn⟩ := t
 obtain ⟨vk, vn⟩ := v
 obtain ⟨w0, hw0⟩ : ∃ w0, w0 = (w.alloc (.cells #[.int .i64 vk, .int .i64 vn] 34)).alloc (.cells #[.int .i64 tk, .string tn] 55) := ⟨_, rfl⟩
 have hE0 : Ext w w0 := by rw [hw0]; exact (KX.k (by repeat (first | assumption | constructor)))
 have b8 : Blk w0 w.heap.size 34 #[.int .i64 vk, .int .i64 vn] := by rw [hw0]; exact (Blk.new _ _ _).ext (KX.k (by repeat (first | assumption | constructor)))
 have b9 : Blk w0 (w.heap.size + 1) 55 #[.int .i64 tk, .string tn] := by rw [hw0]; exact Blk.newAt _ _ (by simp)
 have HH := hid (hh.ext hE0)
 have HL := hid (h.ext hE0)
 have HE0 := hid hE0
 have HB8 := hid b8
 have HB9 := hid b9
 have HW0 := hid hw0
 obtain ⟨a, cap, rfl, -⟩ := hh
 clear h hE0 b8 b9 hw0
 by_cases ht : tk = 1
 · subst ht
   have HV : Hid (M.hasType p k hs ⟨vk, vn⟩ ⟨1, tn⟩ = decide (vk = 1)) := hid (by unfold M.hasType; rw [if_pos rfl])
   go_enter Tryz.func90, Tryz.ntmps90
   go_wp2_with fail
   go_ret
   exact ⟨ret_bool (by rw [HV.out]; rfl), by rw [← HW0.out]; exact HE0.out⟩
 have ht' : (tk == 1) = false := beq_eq_false_iff_ne.2 ht
 by_cases hv3 : vk = 3
 · subst hv3
   have HV : Hid (M.hasType p k hs ⟨3, vn⟩ ⟨tk, tn⟩ = true) := hid (by unfold M.hasType; rw [if_neg ht, if_pos rfl])
   go_enter Tryz.func90, Tryz.ntmps90
   go_wp2_with fail
   go_ret
   exact ⟨ret_bool HV.out.symm, by rw [← HW0.out]; exact HE0.out⟩
 have hv3' : (vk == 3) = false := beq_eq_false_iff_ne.2 hv3
 by_cases hv2 : vk = 2
 · subst hv2
   have HV : Hid (M.hasType p k hs ⟨2, vn⟩ ⟨tk, tn⟩ = (decide ((M.find p k tn).2 = 1) && M.under p (M.ofAt hs vn) (M.find p k tn).1)) := hid (by unfold M.hasType; rw [if_neg ht, if_neg hv3]; rfl)
   obtain ⟨hn0, hn1⟩ := hv rfl
   simp only at hn0 hn1
   obtain ⟨n, rfl⟩ : ∃ n : Nat, vn = n := ⟨vn.toNat, by omega⟩
   obtain ⟨o, ho⟩ : ∃ o, hs[n]? = some o := ⟨hs[n]'(by omega), List.getElem?_eq_getElem _⟩
   obtain ⟨a', cap', ea, hcells⟩ := HH.out
   cases ea
   obtain ⟨b, off, fv, rfl, hcc⟩ := hcells n o ho
   replace HV : Hid (M.hasType p k hs ⟨2, n⟩ ⟨tk, tn⟩ = (decide ((M.find p k tn).2 = 1) && M.under p o.of (M.find p k tn).1)) := hid (by rw [HV.out, ofAt_get ho])
   have q1 := HB9.out.c 1 (.string tn) rfl
   have qz := HB9.out.lt
   have HC := hid hcc
   clear hcells ho hcc
   go_enter Tryz.func90, Tryz.ntmps90
   go_wp2_with fail
   rw [← HW0.out]
   refine (lodge_find _ _ _ HL.out k tn).mono ?_
   rintro e w1 ⟨rfl, hE1⟩
   generalize M.find p k tn = F1 at *
   obtain ⟨⟨xk, xn⟩, c1⟩ := F1
   simp only at *
   obtain ⟨w2, hw2⟩ : ∃ w2, w2 = w1.alloc (.cells #[.int .i64 xk, .string xn] 76) := ⟨_, rfl⟩
   have hE2 : Ext w1 w2 := by rw [hw2]; exact (KX.k (by repeat (first | assumption | constructor)))
   have b11 : Blk w2 w1.heap.size 76 #[.int .i64 xk, .string xn] := by rw [hw2]; exact Blk.new _ _ _
   have HW2 := hid hw2
   have HE2 := hid (hE1.trans hE2)
   obtain ⟨T, f, hneT, HT⟩ := Cls.ex (fun W' => Ext w2 W') _ (Kp.refl _ _)
   have r81 := fun z => ((HB8.out.ext HE2.out).ext (HT.inn z)).c 1 (.int .i64 n) rfl
   have r110 := fun z => (b11.ext (HT.inn z)).c 0 (.int .i64 xk) rfl
   have r111 := fun z => (b11.ext (HT.inn z)).c 1 (.string xn) rfl
   have rh0 := fun z => (HC.out.ext (HE2.out.trans (HT.inn z))).three.1
   have rh1 := fun z => (HC.out.ext (HE2.out.trans (HT.inn z))).three.2.1
   have HTH := hid HT
   clear hw2 hE2 b11 HT hE1 q1 qz
   by_cases hc1 : c1 = 1
   · subst hc1
     replace HV : Hid (M.hasType p k hs ⟨2, n⟩ ⟨tk, tn⟩ = M.under p o.of ⟨xk, xn⟩) := hid (by rw [HV.out]; rfl)
     go_wp2_with fail
     rw [← HW2.out]
     (refine region_mix f 13 [([0, 1, 2, 3, 4, 5, 6, 7, 8, 9, 10], 11)] [12] (HTH.out.out _ ?_) (by kernel_rfl) (by kernel_rfl) (fun _ _ d _ _ h => by cases d <;> exact h) ?_)
     · exact (Kp.refl _ _).drew
     (refine wpMix_cons rfl rfl fun K hK => ?_); (change wpQuiet _ _ _ _ [_, _, _, _, _, _, _, _, _, _, _] _); (repeat (go_big_quiet_step (fail))); (refine wpQuiet_nil ?_); (refine hK _ fun K2 hK2 => ?_); clear hK K; (change wpList _ _ _ [_] _ _)
     go_wp2_with fail
     refine (lodge_under _ _ _ (HL.out.ext (HE2.out.trans (Kp.refl _ _).drew)) o.of ⟨xk, xn⟩).mono ?_
     rintro e w4 ⟨rfl, hE4⟩
     have HE4 : Hid (Ext w2 w4) := hid (((Kp.refl _ w2).drew : Ext w2 _).trans hE4)
     clear hE4
     go_wp2_with fail
     (refine hK2 _ _ (HTH.out.out _ HE4.out) ?_); clear hK2 K2
     (refine wpMix_nil rfl fun K hK => ?_); (change wpQuiet _ _ _ _ [_] _); (repeat (go_big_quiet_step (fail))); (refine wpQuiet_nil ?_); (refine hK _ ?_); clear hK K
     go_wp2_with fail
     go_ret
     exact ⟨ret_bool HV.out.symm, HE0.out.trans (HE2.out.trans HE4.out)⟩
   · have hc1' : (c1 == 1) = false := beq_eq_false_iff_ne.2 hc1
     replace HV : Hid (M.hasType p k hs ⟨2, n⟩ ⟨tk, tn⟩ = false) := hid (by rw [HV.out]; simp [hc1])
     clear hc1
     go_wp2_with fail
     rw [← HW2.out]
     (refine region_mix f 13 [([0, 1, 2, 3, 4, 5, 6, 7, 8, 9, 10], 11)] [12] (HTH.out.out _ ?_) (by kernel_rfl) (by kernel_rfl) (fun _ _ d _ _ h => by cases d <;> exact h) ?_)
     · exact (Kp.refl _ _).drew
     (refine wpMix_cons rfl rfl fun K hK => ?_); (change wpQuiet _ _ _ _ [_, _, _, _, _, _, _, _, _, _, _] _); (repeat (go_big_quiet_step (fail))); (refine wpQuiet_nil ?_); (refine hK _ fun K2 hK2 => ?_); clear hK K; (change wpList _ _ _ [_] _ _)
     go_wp2_with fail
     (refine hK2 _ _ (HTH.out.out _ ((Kp.refl _ w2).drew : Ext w2 _)) ?_); clear hK2 K2
     (refine wpMix_nil rfl fun K hK => ?_); (change wpQuiet _ _ _ _ [_] _); (repeat (go_big_quiet_step (fail))); (refine wpQuiet_nil ?_); (refine hK _ ?_); clear hK K
     go_wp2_with fail
     go_ret
     exact ⟨ret_bool HV.out.symm, HE0.out.trans (HE2.out.drew)⟩
 · have hv2' : (vk != 2) = true := bne_iff_ne.2 hv2
   have HV : Hid (M.hasType p k hs ⟨vk, vn⟩ ⟨tk, tn⟩ = false) := hid (by unfold M.hasType; rw [if_neg ht, if_neg hv3, if_pos hv2])
   go_enter Tryz.func90, Tryz.ntmps90
   go_wp2_with fail
   go_ret
   exact ⟨ret_bool HV.out.symm, by rw [← HW0.out]; exact HE0.out⟩
theorem mach_object (w : World) (l : Lodge) (p : M.Plan) (own : Own) (B mb : Nat) (lk : Bool) (g : Gh) (h : MachAt w l p own B mb lk g) (v : M.Val) (hv : M.valOk v g.os.length = true) (t : M.Ref) :
    Calls Tryz.prog 89 #[.pointer (some ⟨mb, 0, none⟩), .agg #[.int .i64 v.kind, .int .i64 v.n], .agg #[.int .i64 t.keeper, .string t.name]] w fun e w' => e = .returned (.int .i64 (M.object p v t g.st)) ∧ Ext w w' := by
 obtain ⟨vk, vn⟩ := v
 obtain ⟨w0, hw0⟩ : ∃ w0, w0 = (w.alloc (.cells #[.int .i64 vk, .int .i64 vn] 34)).alloc (.cells #[.int .i64 t.keeper, .string t.name] 76) := ⟨_, rfl⟩
 have hE0 : Ext w w0 := by rw [hw0]; exact (KX.k (by repeat (first | assumption | constructor)))
 have b4 : Blk w0 w.heap.size 34 #[.int .i64 vk, .int .i64 vn] := by rw [hw0]; exact (Blk.new _ _ _).ext (KX.k (by repeat (first | assumption | constructor)))
 have b5 : Blk w0 (w.heap.size + 1) 76 #[.int .i64 t.keeper, .string t.name] := by rw [hw0]; exact Blk.newAt _ _ (by simp)
 have HA := hid (h.ext hE0)
 have HE0 := hid hE0
 have HB4 := hid b4
 have HB5 := hid b5
 have HW0 := hid hw0
 clear h hE0 b4 b5 hw0
 by_cases hv3 : vk = 3
 · subst hv3
   have HV : Hid (M.object p ⟨3, vn⟩ t g.st = 3) := hid (by unfold M.object; rw [if_pos rfl])
   go_enter Tryz.func89, Tryz.ntmps89
   go_wp2_with fail
   go_ret
   exact ⟨by rw [HV.out]; rfl, by rw [← HW0.out]; exact HE0.out⟩
 have hv3' : (vk == 3) = false := beq_eq_false_iff_ne.2 hv3
 obtain ⟨T, f, hneT, HT⟩ := Cls.ex (fun W' => Ext w0 W') _ (Kp.refl _ _)
 have rm0 := fun z => (HA.out.ext (HT.inn z)).blk.c 0 (.pointer (some ⟨l.L, 0, none⟩)) rfl
 obtain ⟨ha, hcap, hva⟩ := HA.out.heap.form
 have rm4 := fun z => (HA.out.ext (HT.inn z)).blk.c 4 (.slice ha g.os.length hcap) (by rw [← hva]; rfl)
 have r40 := fun z => (HB4.out.ext (HT.inn z)).c 0 (.int .i64 vk) rfl
 have r41 := fun z => (HB4.out.ext (HT.inn z)).c 1 (.int .i64 vn) rfl
 have r50 := fun z => (HB5.out.ext (HT.inn z)).c 0 (.int .i64 t.keeper) rfl
 have r51 := fun z => (HB5.out.ext (HT.inn z)).c 1 (.string t.name) rfl
 by_cases hv2 : vk = 2
 · subst hv2
   obtain ⟨hn0, hn1⟩ := M.valOk_ref hv rfl
   simp only at hn0 hn1
   obtain ⟨n, rfl⟩ : ∃ n : Nat, vn = n := ⟨vn.toNat, by omega⟩
   obtain ⟨o, ho⟩ : ∃ o, g.os[n]? = some o := ⟨g.os[n]'(by omega), List.getElem?_eq_getElem _⟩
   have HV : Hid (M.object p ⟨2, n⟩ t g.st = if M.under p o.o.of t then 1 else 10) := hid (by
    have : M.ofAt g.st.heap n = o.o.of := ofAt_get (by simp [Gh.st, ho])
    unfold M.object; rw [if_neg hv3, this]; rfl)
   have hrow := HA.out.heap.row
   rw [hva] at hrow
   obtain ⟨b, bcap, eb, -⟩ := owns_form hrow (by omega)
   cases eb
   have hcc := owns_at (enc := objCs) (k := 3) (fun _ => rfl) hrow ho
   have rh0 := fun z => (CellsAt.ext hcc (HT.inn z)).three.1
   have rh1 := fun z => (CellsAt.ext hcc (HT.inn z)).three.2.1
   have HTH := hid HT
   have HVA := hid hva
   clear HT hva hrow hcc ho hv hv3
   go_enter Tryz.func89, Tryz.ntmps89
   go_wp2_with fail
   rw [← HW0.out]
   (refine region_mix f 21 [([0, 1, 2, 3, 4, 5, 6, 7, 8, 9, 10, 11, 12, 13, 14, 15, 16, 17], 18)] [19, 20] (HTH.out.out _ ?_) (by kernel_rfl) (by kernel_rfl) (fun _ _ d _ _ h => by cases d <;> exact h) ?_)
   · exact (Kp.refl _ _).drew
   (refine wpMix_cons rfl rfl fun K hK => ?_); (change wpQuiet _ _ _ _ [_, _, _, _, _, _, _, _, _, _, _, _, _, _, _, _, _, _] _); (repeat (go_big_quiet_step (fail))); (refine wpQuiet_nil ?_); (refine hK _ fun K2 hK2 => ?_); clear hK K; (change wpList _ _ _ [_] _ _)
   go_wp2_with fail
   refine (lodge_under _ _ _ (HA.out.lod.ext (Kp.refl _ _).drew) o.o.of t).mono ?_
   rintro e w4 ⟨rfl, hE4⟩
   have HE4 : Hid (Ext w0 w4) := hid (((Kp.refl _ w0).drew : Ext w0 _).trans hE4)
   clear hE4
   cases hu : M.under p o.o.of t
   · replace HV : Hid (M.object p ⟨2, n⟩ t g.st = 10) := hid (by rw [HV.out, hu]; rfl)
     clear hu
     go_wp2_with fail
     (refine hK2 _ _ (HTH.out.out _ HE4.out) ?_); clear hK2 K2
     (refine wpMix_nil rfl fun K hK => ?_); (change wpQuiet _ _ _ _ [_, _] _); (repeat (go_big_quiet_step (fail))); (refine wpQuiet_nil ?_); (refine hK _ ?_); clear hK K; (simp only [List.drop_succ_cons, List.drop_zero, List.drop_nil, wpList])
     go_wp2_with fail
     go_ret
     exact ⟨by rw [HV.out]; rfl, HE0.out.trans HE4.out⟩
   · replace HV : Hid (M.object p ⟨2, n⟩ t g.st = 1) := hid (by rw [HV.out, hu]; rfl)
     clear hu
     go_wp2_with fail
     (refine hK2 _ _ (HTH.out.out _ HE4.out) ?_); clear hK2 K2
     (refine wpMix_nil rfl fun K hK => ?_); (change wpQuiet _ _ _ _ [_, _] _); (repeat (go_big_quiet_step (fail))); (refine wpQuiet_nil ?_); (refine hK _ ?_); clear hK K; (simp only [List.drop_succ_cons, List.drop_zero, List.drop_nil, wpList])
     go_wp2_with fail
     go_ret
     exact ⟨by rw [HV.out]; rfl, HE0.out.trans HE4.out⟩
 · have hv2' : (vk != 2) = true := bne_iff_ne.2 hv2
   have HV : Hid (M.object p ⟨vk, vn⟩ t g.st = 10) := hid (by unfold M.object; rw [if_neg hv3, if_pos hv2])
   have HTH := hid HT
   have HVA := hid hva
   clear HT hva hv hv3 hv2
   go_enter Tryz.func89, Tryz.ntmps89
   go_wp2_with fail
   rw [← HW0.out]
   (refine region_mix f 21 [([0, 1, 2, 3, 4, 5, 6, 7, 8, 9, 10, 11, 12, 13, 14, 15, 16, 17], 18)] [19, 20] (HTH.out.out _ ?_) (by kernel_rfl) (by kernel_rfl) (fun _ _ d _ _ h => by cases d <;> exact h) ?_)
   · exact (Kp.refl _ _).drew
   (refine wpMix_cons rfl rfl fun K hK => ?_); (change wpQuiet _ _ _ _ [_, _, _, _, _, _, _, _, _, _, _, _, _, _, _, _, _, _] _); (repeat (go_big_quiet_step (fail))); (refine wpQuiet_nil ?_); (refine hK _ fun K2 hK2 => ?_); clear hK K; (change wpList _ _ _ [_] _ _)
   go_wp2_with fail
   (refine hK2 _ _ (HTH.out.out _ ((Kp.refl _ w0).drew : Ext w0 _)) ?_); clear hK2 K2
   (refine wpMix_nil rfl fun K hK => ?_); (change wpQuiet _ _ _ _ [_, _] _); (repeat (go_big_quiet_step (fail))); (refine wpQuiet_nil ?_); (refine hK _ ?_); clear hK K; (simp only [List.drop_succ_cons, List.drop_zero, List.drop_nil, wpList])
   go_wp2_with fail
   go_ret
   exact ⟨by rw [HV.out]; rfl, HE0.out.drew⟩
theorem mach_end (w : World) (l : Lodge) (p : M.Plan) (own : Own) (B mb : Nat) (lk : Bool) (g : Gh) (h : MachAt w l p own B mb lk g) (c : Int) :
    Calls Tryz.prog 66 #[.pointer (some ⟨mb, 0, none⟩), .int .i64 c] w (MEnd w l p own B mb lk (.tuple #[]) (M.end_ c g.st)) := by
 have c2 := h.blk.c 2 (.int .i64 g.status) rfl
 obtain ⟨ca, cc, hvc⟩ := h.calls.form
 have c3 := h.blk.c 3 (.slice ca g.cs.length cc) (by rw [← hvc]; rfl)
 have f2 := h.blk.frozen 2
 have f3 := h.blk.frozen 3
 have hz := h.blk.lt
 have H := hid h
 have HVC := hid hvc
 clear h hvc
 by_cases hc : c = 1
 · subst hc
   have HV : Hid (M.end_ 1 g.st = g.st) := hid (by unfold M.end_; rw [if_pos rfl])
   go_enter Tryz.func66, Tryz.ntmps66
   go_wp2_with fail
   ((try simp only [Exit.inBlock, Exit.then]); (first | refine bodyPost_ret (results_none rfl _ _ _) rfl ?_ | refine bodyPost_end (results_none rfl _ _ _) rfl ?_))
   rw [HV.out]
   exact H.out.stop (Kp.refl _ _)
 · have hc' : (c != 1) = true := bne_iff_ne.2 hc
   have HV : Hid (M.end_ c g.st = { g.st with status := c, frames := [] }) := hid (by unfold M.end_; rw [if_neg hc])
   clear hc
   go_enter Tryz.func66, Tryz.ntmps66
   go_wp2_with fail
   ((try simp only [Exit.inBlock, Exit.then]); (first | refine bodyPost_ret (results_none rfl _ _ _) rfl ?_ | refine bodyPost_end (results_none rfl _ _ _) rfl ?_))
   rw [HV.out]
   have hK : Kp (· = mb) w ((w.setCell ⟨mb, 2, none⟩ (.int .i64 c)).setCell ⟨mb, 3, none⟩ (.slice none 0 0)) :=
    ((Kp.refl (· = mb) w).setCell (p := ⟨mb, 2, none⟩) (fun _ => rfl) _).setCell (p := ⟨mb, 3, none⟩) (fun _ => rfl) _
   have hK' : Kp (PO own (· = (0, 0))) w ((w.setCell ⟨mb, 2, none⟩ (.int .i64 c)).setCell ⟨mb, 3, none⟩ (.slice none 0 0)) := hK.weak fun b _ e => ⟨_, by rw [e]; exact H.out.role, rfl⟩
   refine MEnd.mk' (hK'.weak fun b _ e => e.mo) (Agr.refl _ _) (H.out.setMach { g with status := c, cs := [], vc := .slice none 0 0 } hK' ((H.out.blk.set_ 2 _).set_ 3 _) (.inr ⟨OwnS.nil _ _ _ _ _ _, g.cs, rfl⟩) ⟨rfl, rfl, rfl, rfl⟩ ?_) (by simp [Gh.st])
   exact ⟨H.out.good.heap, by simp [Gh.st], by simp [Gh.st], H.out.good.outs, H.out.good.outsOk, H.out.good.back⟩
theorem LC.set2 {l : Lodge} {p : M.Plan} {w W : World} {b : Nat} (h : LC l p w W) (hb : w.heap.size ≤ b) (v0 v1 : Value) (hL : l.L < w.heap.size) : LC l p w ((W.setCell ⟨b, 0, none⟩ v0).setCell ⟨b, 1, none⟩ v1) := by
 have hk : Kp (· = b) W ((W.setCell ⟨b, 0, none⟩ v0).setCell ⟨b, 1, none⟩ v1) := ((Kp.refl (· = b) W).setCell (p := ⟨b, 0, none⟩) (fun _ => rfl) v0).setCell (p := ⟨b, 1, none⟩) (fun _ => rfl) v1
 exact ⟨h.kp.own hk (fun k e => by omega), h.at_.kp hk (fun k hk e => by omega)⟩
theorem mach_class (w : World) (l : Lodge) (p : M.Plan) (own : Own) (B mb : Nat) (lk : Bool) (g : Gh) (h : MachAt w l p own B mb lk g) (r : List GC) (c : GC) (hcs : g.cs = r ++ [c]) (n : ByteArray) :
    Calls Tryz.prog 86 #[.pointer (some ⟨mb, 0, none⟩), .string n] w fun e w' =>
     e = .returned (.tuple #[.agg #[.int .i64 (M.class_ p n g.st).1.keeper, .string (M.class_ p n g.st).1.name], .bool (M.class_ p n g.st).2]) ∧ LC l p w w' := by
 obtain ⟨w0, hw0⟩ : ∃ w0, w0 = w.alloc (.cells #[.int .i64 0, .string ⟨#[]⟩] 76) := ⟨_, rfl⟩
 have hE0 : Ext w w0 := by rw [hw0]; exact (KX.k (by repeat (first | assumption | constructor)))
 have b4 : Blk w0 w.heap.size 76 #[.int .i64 0, .string ⟨#[]⟩] := by rw [hw0]; exact Blk.new _ _ _
 have hLw : l.L < w0.heap.size := (h.ext hE0).lod.lt
 have hLw' := h.lod.lt
 have hDw := h.lod.dlt
 have HM := hid h.blk.lt
 obtain ⟨⟨⟨xk, xn⟩, c1⟩, hF⟩ : ∃ F, M.find p c.f.of.of.keeper n = F := ⟨_, rfl⟩
 have HV : Hid (M.class_ p n g.st = (⟨xk, xn⟩, decide (c1 = 1) && M.canLay p ⟨xk, xn⟩)) := hid (by unfold M.class_; rw [Gh.top hcs, hF])
 have hfind : ∀ W, LC l p w0 W → Calls Tryz.prog 42 #[.pointer (some ⟨l.L, 0, none⟩), .int .i64 c.f.of.of.keeper, .string n] W fun e w' => e = .returned (.tuple #[.agg #[.int .i64 xk, .string xn], .int .i64 c1]) ∧ Ext W w' := fun W hW => by
  have := lodge_find W l p hW.at_ c.f.of.of.keeper n
  rw [hF] at this
  exact this
 have HFIND := hid hfind
 have HC : Hid (LC l p w0 w0.drew) := hid (LC.refl (h.ext hE0).lod).drew
 obtain ⟨T, f, hneT, HT⟩ := Cls.ex (fun W' => LC l p w0 W') w0 (LC.refl (h.ext hE0).lod)
 have HA := hid (h.ext hE0)
 have r0 := fun z => (HA.out.lod' (HT.inn z).kp (HT.inn z).at_).blk.c 0 (.pointer (some ⟨l.L, 0, none⟩)) rfl
 have HTH := hid HT
 have HE0 := hid hE0
 have HB4 := hid b4
 have HW0 := hid hw0
 have HCS := hid hcs
 have hz4 := b4.lt
 clear h HT hE0 b4 hw0 hF hfind hcs
 rw [HV.out]
 go_enter Tryz.func86, Tryz.ntmps86
 go_wp2_with fail
 rw [← HW0.out]
 rename_i K hK
 have tail : ∀ (b6 : Nat) (w7 : World), LC l p w0 w7 → Blk w7 b6 76 #[.int .i64 xk, .string xn] → w0.heap.size ≤ b6 → K { tmps := #[.pointer (some ⟨mb, 0, none⟩), .string n, undef, undef, .pointer (some ⟨w.heap.size, 0, none⟩), .bool false, .pointer (some ⟨b6, 0, none⟩), .int .i64 c1, .tuple #[.agg #[.int .i64 xk, .string xn], .int .i64 c1], .pointer (some ⟨mb, 0, none⟩), .pointer (some ⟨mb, 0, none⟩), .pointer (some ⟨mb, 0, none⟩), .pointer (some ⟨l.L, 0, none⟩), .pointer (some ⟨mb, 0, none⟩), .pointer (some ⟨c.cb, 0, none⟩), .int .i64 c.f.of.of.keeper, .string n, .tuple #[.agg #[.int .i64 xk, .string xn], .int .i64 c1], .agg #[.int .i64 xk, .string xn], .int .i64 c1, undef, undef, undef, undef, undef, undef, undef, undef, undef, undef, undef], defers := [] } w7 := by
  intro b6 w7 hC hB hb6
  refine hK _ _ ?_
  clear hK HTH r0 HC HFIND
  have hn4 : ¬ (w.heap.size = l.D) := by omega
  have hb4w : w.heap.size < w0.heap.size := hz4
  have hB4 := HB4.out.kp hC.kp hn4
  have hn46 : ¬ b6 = w.heap.size := by omega
  have hn64 : ¬ w.heap.size = b6 := by omega
  have hDL : l.D < l.L := HA.out.lod.ord.2.2
  have x0 := hB4.c 0 (.int .i64 0) rfl
  obtain ⟨T, f, hneT, HT⟩ := Cls.ex (fun W' => Kp (fun b => b = l.D ∨ b = w.heap.size) w7 W' ∧ LodgeAt W' l p) w7 ⟨Kp.refl _ _, hC.at_⟩
  have hb6D : ¬ (b6 = l.D ∨ b6 = w.heap.size) := by omega
  have hmD : ¬ (mb = l.D ∨ mb = w.heap.size) := by
   have := HA.out.hB; have := HA.out.low; have := HM.out; omega
  have q0 := fun z => (hB.kp (HT.inn z).1 hb6D).c 0 (.int .i64 xk) rfl
  have q1 := fun z => (hB.kp (HT.inn z).1 hb6D).c 1 (.string xn) rfl
  have qm := fun z => ((HA.out.lod' hC.kp hC.at_).blk.kp (HT.inn z).1 hmD).c 0 (.pointer (some ⟨l.L, 0, none⟩)) rfl
  have HTH := hid HT
  have HC7 := hid hC
  have HB47 := hid hB4
  clear hC hB HT hB4 x0
  have fin : ∀ W b, Kp (· = l.D) w7 W → LodgeAt W l p → W.heap[w.heap.size]? = w7.heap[w.heap.size]? → b = (decide (c1 = 1) && M.canLay p ⟨xk, xn⟩) →
      Kp (fun b => b = l.D ∨ b = w.heap.size) w7 ((W.setCell ⟨w.heap.size, 0, none⟩ (.int .i64 xk)).setCell ⟨w.heap.size, 1, none⟩ (.string xn)) ∧ LodgeAt ((W.setCell ⟨w.heap.size, 0, none⟩ (.int .i64 xk)).setCell ⟨w.heap.size, 1, none⟩ (.string xn)) l p ∧
      LC l p w ((W.setCell ⟨w.heap.size, 0, none⟩ (.int .i64 xk)).setCell ⟨w.heap.size, 1, none⟩ (.string xn)) ∧ Blk ((W.setCell ⟨w.heap.size, 0, none⟩ (.int .i64 xk)).setCell ⟨w.heap.size, 1, none⟩ (.string xn)) w.heap.size 76 #[.int .i64 xk, .string xn] := fun W b hk hL hb _ => by
   have h4 : Blk W w.heap.size 76 #[.int .i64 0, .string ⟨#[]⟩] := HB47.out.keep hb
   have h5 : LC l p w W := (⟨HE0.out.any, HA.out.lod⟩ : LC l p w w0).trans (HC7.out.trans ⟨hk, hL⟩)
   have h6 := LC.set2 h5 (Nat.le_refl _) (.int .i64 xk) (.string xn) hLw'
   exact ⟨(hk.weak fun b _ e => .inl e).trans (((Kp.refl _ W).setCell (p := ⟨w.heap.size, 0, none⟩) (fun _ => .inr rfl) _).setCell (p := ⟨w.heap.size, 1, none⟩) (fun _ => .inr rfl) _), h6.at_, h6, h4.set2 _ _⟩
  have HFIN := hid fin
  clear fin
  by_cases hc1 : c1 = 1
  · subst hc1
    go_wp2_with fail
    (refine region_mix f 12 [([0, 1, 2, 3, 4, 5, 6, 7, 8], 9), ([10], 11)] [] (HTH.out.out _ ?_) (by kernel_rfl) (by kernel_rfl) (fun _ _ d _ _ h => by cases d <;> exact h) ?_)
    · exact ⟨(Kp.refl _ _).drew, HC7.out.at_.ext (Kp.refl _ _).drew⟩
    (refine wpMix_cons rfl rfl fun K hK => ?_); (change wpQuiet _ _ _ _ [_, _, _, _, _, _, _, _, _] _); (repeat (go_big_quiet_step (fail))); (refine wpQuiet_nil ?_); (refine hK _ fun K2 hK2 => ?_); clear hK K; (change wpList _ _ _ [_] _ _)
    go_wp2_with fail
    refine (lodge_canLay _ _ _ (HC7.out.at_.ext (Kp.refl _ _).drew) ⟨xk, xn⟩).mono ?_
    rintro e w9 ⟨rfl, hL9, hK9⟩
    have hk9 : Kp (· = l.D) w7 w9 := ((Kp.refl _ w7).drew).trans hK9
    obtain ⟨f1, f2, f3, f4⟩ := HFIN.out w9 _ hk9 hL9 (hk9.block _ (by have := HB47.out.lt; exact this) hn4) rfl
    have hB9 := HB47.out.kp hk9 hn4
    have x0 := hB9.c 0 (.int .i64 0) rfl
    have x1 := hB9.c 1 (.string ⟨#[]⟩) rfl
    have g0 := hB9.frozen 0
    have g1 := hB9.frozen 1
    have gz := hB9.lt
    have F1 := hid f1
    have F2 := hid f2
    have F3 := hid f3
    have F4 := hid f4
    have HK9 := hid (And.intro (hk9.weak (D' := fun b => b = l.D ∨ b = w.heap.size) fun b _ e => .inl e) hL9)
    clear hK9 hL9 hk9 f1 f2 f3 f4 hB9
    go_wp2_with fail
    (refine hK2 _ _ (HTH.out.out _ HK9.out) ?_); clear hK2 K2
    (refine wpMix_cons rfl rfl fun K hK => ?_); (change wpQuiet _ _ _ _ [_] _); (repeat (go_big_quiet_step (fail))); (refine wpQuiet_nil ?_); (refine hK _ fun K2 hK2 => ?_); clear hK K; (change wpList _ _ _ [_] _ _)
    go_wp2_with fail
    (refine hK2 _ _ (HTH.out.out _ ⟨F1.out, F2.out⟩) ?_); clear hK2 K2
    (refine wpMix_nil rfl fun K hK => ?_); (change wpQuiet _ _ _ _ [] _); (refine wpQuiet_nil ?_); (refine hK _ ?_); clear hK K
    go_wp2_with fail
    refine bodyPost_ret (results_agg2 agg_ref rfl _ _ w.heap.size rfl [.int .i64 xk, .string xn] (CellsAt.ofB F4.out) rfl) rfl ?_
    exact ⟨by simp, F3.out⟩
  · have hc1' : (c1 == 1) = false := beq_eq_false_iff_ne.2 hc1
    have hd : (decide (c1 = 1) && M.canLay p ⟨xk, xn⟩) = false := by rw [decide_eq_false hc1]; rfl
    have HD := hid hd
    obtain ⟨f1, f2, f3, f4⟩ := HFIN.out w7.drew _ (Kp.refl _ _).drew (HC7.out.at_.ext (Kp.refl _ _).drew) rfl rfl
    have x0 := HB47.out.c 0 (.int .i64 0) rfl
    have x1 := HB47.out.c 1 (.string ⟨#[]⟩) rfl
    have g0 := HB47.out.frozen 0
    have g1 := HB47.out.frozen 1
    have gz := HB47.out.lt
    have F1 := hid f1
    have F2 := hid f2
    have F3 := hid f3
    have F4 := hid f4
    clear f1 f2 f3 f4 hc1 hd
    go_wp2_with fail
    (refine region_mix f 12 [([0, 1, 2, 3, 4, 5, 6, 7, 8], 9), ([10], 11)] [] (HTH.out.out _ ?_) (by kernel_rfl) (by kernel_rfl) (fun _ _ d _ _ h => by cases d <;> exact h) ?_)
    · exact ⟨(Kp.refl _ _).drew, HC7.out.at_.ext (Kp.refl _ _).drew⟩
    (refine wpMix_cons rfl rfl fun K hK => ?_); (change wpQuiet _ _ _ _ [_, _, _, _, _, _, _, _, _] _); (repeat (go_big_quiet_step (fail))); (refine wpQuiet_nil ?_); (refine hK _ fun K2 hK2 => ?_); clear hK K; (change wpList _ _ _ [_] _ _)
    go_wp2_with fail
    (refine hK2 _ _ (HTH.out.out _ ⟨(Kp.refl _ _).drew, HC7.out.at_.ext (Kp.refl _ _).drew⟩) ?_); clear hK2 K2
    (refine wpMix_cons rfl rfl fun K hK => ?_); (change wpQuiet _ _ _ _ [_] _); (repeat (go_big_quiet_step (fail))); (refine wpQuiet_nil ?_); (refine hK _ fun K2 hK2 => ?_); clear hK K; (change wpList _ _ _ [_] _ _)
    go_wp2_with fail
    (refine hK2 _ _ (HTH.out.out _ ⟨F1.out, F2.out⟩) ?_); clear hK2 K2
    (refine wpMix_nil rfl fun K hK => ?_); (change wpQuiet _ _ _ _ [] _); (refine wpQuiet_nil ?_); (refine hK _ ?_); clear hK K
    go_wp2_with fail
    refine bodyPost_ret (results_agg2 agg_ref rfl _ _ w.heap.size rfl [.int .i64 xk, .string xn] (CellsAt.ofB F4.out) rfl) rfl ?_
    exact ⟨by rw [HD.out]; rfl, F3.out⟩
 have TAIL := hid tail
 clear tail
 clear hK
 (refine region_tree f 14 (.two [0, 1, 2, 3, 4, 7] 5 12 (.two [] 6 12 (.two [] 8 12 (.one [9, 10, 11] 12 (.one [] 13 (.fin []))) (.one [] 8 (.one [9, 10, 11] 13 (.fin [])))) (.one [] 6 (.one [] 8 (.one [9, 10, 11] 13 (.fin []))))) (.one [] 5 (.one [] 6 (.one [] 8 (.one [9, 10, 11] 13 (.fin [])))))) (HTH.out.out _ ?_) (by kernel_rfl) (by kernel_rfl) (fun _ _ d _ _ h => by cases d <;> exact h) ?_)
 · exact HC.out
 (refine wpT_two rfl rfl rfl fun K hK => ?_); (change wpQuiet _ _ _ _ [_, _, _, _, _, _] _); (repeat (go_big_quiet_step (fail))); (refine wpQuiet_nil ?_); ((refine hK _ (fun K2 hK2 => ?_) (fun K2 hK2 => ?_)) <;> (clear hK K; (change wpList _ _ _ [_] _ _)))
 · go_wp2_with fail
   refine (mach_top _ _ _ _ _ _ _ _ (HA.out.lod' HC.out.kp HC.out.at_) r c HCS.out).mono ?_
   rintro e wc ⟨rfl, hEc⟩
   replace HC := hid (HC.out.ext hEc)
   clear hEc
   go_wp2_with fail
   (refine hK2 _ _ (HTH.out.out _ HC.out) ?_); clear hK2 K2
   (refine wpT_two rfl rfl rfl fun K hK => ?_); (change wpQuiet _ _ _ _ [] _); (refine wpQuiet_nil ?_); ((refine hK _ (fun K2 hK2 => ?_) (fun K2 hK2 => ?_)) <;> (clear hK K; (change wpList _ _ _ [_] _ _)))
   · go_wp2_with fail
     refine (call_keeper _ _ c.f.of.of.keeper (((HA.out.lod' HC.out.kp HC.out.at_).at_ HCS.out).blk.c 0 _ rfl)).mono ?_
     rintro e we ⟨rfl, rfl⟩
     go_wp2_with fail
     (refine hK2 _ _ (HTH.out.out _ HC.out) ?_); clear hK2 K2
     (refine wpT_two rfl rfl rfl fun K hK => ?_); (change wpQuiet _ _ _ _ [] _); (refine wpQuiet_nil ?_); ((refine hK _ (fun K2 hK2 => ?_) (fun K2 hK2 => ?_)) <;> (clear hK K; (change wpList _ _ _ [_] _ _)))
     · go_wp2_with fail
       refine (HFIND.out _ HC.out).mono ?_
       rintro e wc ⟨rfl, hEc⟩
       replace HC := hid (HC.out.ext hEc)
       clear hEc
       go_wp2_with fail
       (refine hK2 _ _ (HTH.out.out _ HC.out) ?_); clear hK2 K2
       (refine wpT_one rfl rfl fun K hK => ?_); (change wpQuiet _ _ _ _ [_, _, _] _); (repeat (go_big_quiet_step (fail))); (refine wpQuiet_nil ?_); (refine hK _ fun K2 hK2 => ?_); clear hK K; (change wpList _ _ _ [_] _ _)
       go_wp2_with fail
       (refine hK2 _ _ (HTH.out.out _ (HC.out.ext ((Kp.refl _ _).alloc _))) ?_); clear hK2 K2
       (refine wpT_one rfl rfl fun K hK => ?_); (change wpQuiet _ _ _ _ [] _); (refine wpQuiet_nil ?_); (refine hK _ fun K2 hK2 => ?_); clear hK K; (change wpList _ _ _ [_] _ _)
       go_wp2_with fail
       (refine hK2 _ _ (HTH.out.out _ (HC.out.ext ((Kp.refl _ _).alloc _))) ?_); clear hK2 K2
       have hb6 := HC.out.kp.size
       have HB6 := hid (Blk.new (wc) 76 #[.int .i64 xk, .string xn])
       replace HC := hid (HC.out.ext ((Kp.refl _ _).alloc (.cells #[.int .i64 xk, .string xn] 76)))
       clear HTH r0
       (refine wpT_fin rfl fun K hK => ?_); (change wpQuiet _ _ _ _ [] _); (refine wpQuiet_nil ?_); (refine hK _ ?_); clear hK K
       go_wp2_with fail
       exact TAIL.out _ _ HC.out HB6.out hb6
     · go_wp2_with fail
       (refine hK2 _ _ (HTH.out.out _ (HC.out.ext ((Kp.refl _ _).alloc _))) ?_); clear hK2 K2
       have hb6 : w0.heap.size ≤ wc.heap.size := HC.out.kp.size
       have HB6 : Hid (Blk (wc.alloc (.cells #[.int .i64 0, .string ⟨#[]⟩] 76)) wc.heap.size 76 #[.int .i64 0, .string ⟨#[]⟩]) := hid (Blk.new _ _ _)
       replace HC := hid (HC.out.ext ((Kp.refl _ _).alloc (.cells #[.int .i64 0, .string ⟨#[]⟩] 76)))
       (refine wpT_one rfl rfl fun K hK => ?_); (change wpQuiet _ _ _ _ [] _); (refine wpQuiet_nil ?_); (refine hK _ fun K2 hK2 => ?_); clear hK K; (change wpList _ _ _ [_] _ _)
       go_wp2_with fail
       refine (HFIND.out _ HC.out).mono ?_
       rintro e wc ⟨rfl, hEc⟩
       replace HB6 := hid (HB6.out.ext hEc)
       replace HC := hid (HC.out.ext hEc)
       clear hEc
       go_wp2_with fail
       (refine hK2 _ _ (HTH.out.out _ HC.out) ?_); clear hK2 K2
       (refine wpT_one rfl rfl fun K hK => ?_); (change wpQuiet _ _ _ _ [_, _, _] _); (repeat (go_big_quiet_step (fail))); (refine wpQuiet_nil ?_); (refine hK _ fun K2 hK2 => ?_); clear hK K; (change wpList _ _ _ [_] _ _)
       have y0 := HB6.out.c 0 (.int .i64 0) rfl
       have y1 := HB6.out.c 1 (.string ⟨#[]⟩) rfl
       have g0 := HB6.out.frozen 0
       have g1 := HB6.out.frozen 1
       have z6 := HB6.out.lt
       go_wp2_with fail
       replace HC := hid (LC.set2 HC.out hb6 (.int .i64 xk) (.string xn) hLw)
       replace HB6 := hid (HB6.out.set2 (.int .i64 xk) (.string xn))
       (refine hK2 _ _ (HTH.out.out _ HC.out) ?_); clear hK2 K2
       clear y0 y1 g0 g1 z6
       clear HTH r0
       (refine wpT_fin rfl fun K hK => ?_); (change wpQuiet _ _ _ _ [] _); (refine wpQuiet_nil ?_); (refine hK _ ?_); clear hK K
       go_wp2_with fail
       exact TAIL.out _ _ HC.out HB6.out hb6
   · go_wp2_with fail
     (refine hK2 _ _ (HTH.out.out _ (HC.out.ext ((Kp.refl _ _).alloc _))) ?_); clear hK2 K2
     have hb6 : w0.heap.size ≤ wc.heap.size := HC.out.kp.size
     have HB6 : Hid (Blk (wc.alloc (.cells #[.int .i64 0, .string ⟨#[]⟩] 76)) wc.heap.size 76 #[.int .i64 0, .string ⟨#[]⟩]) := hid (Blk.new _ _ _)
     replace HC := hid (HC.out.ext ((Kp.refl _ _).alloc (.cells #[.int .i64 0, .string ⟨#[]⟩] 76)))
     (refine wpT_one rfl rfl fun K hK => ?_); (change wpQuiet _ _ _ _ [] _); (refine wpQuiet_nil ?_); (refine hK _ fun K2 hK2 => ?_); clear hK K; (change wpList _ _ _ [_] _ _)
     go_wp2_with fail
     refine (call_keeper _ _ c.f.of.of.keeper (((HA.out.lod' HC.out.kp HC.out.at_).at_ HCS.out).blk.c 0 _ rfl)).mono ?_
     rintro e we ⟨rfl, rfl⟩
     go_wp2_with fail
     (refine hK2 _ _ (HTH.out.out _ HC.out) ?_); clear hK2 K2
     (refine wpT_one rfl rfl fun K hK => ?_); (change wpQuiet _ _ _ _ [] _); (refine wpQuiet_nil ?_); (refine hK _ fun K2 hK2 => ?_); clear hK K; (change wpList _ _ _ [_] _ _)
     go_wp2_with fail
     refine (HFIND.out _ HC.out).mono ?_
     rintro e wc ⟨rfl, hEc⟩
     replace HB6 := hid (HB6.out.ext hEc)
     replace HC := hid (HC.out.ext hEc)
     clear hEc
     go_wp2_with fail
     (refine hK2 _ _ (HTH.out.out _ HC.out) ?_); clear hK2 K2
     (refine wpT_one rfl rfl fun K hK => ?_); (change wpQuiet _ _ _ _ [_, _, _] _); (repeat (go_big_quiet_step (fail))); (refine wpQuiet_nil ?_); (refine hK _ fun K2 hK2 => ?_); clear hK K; (change wpList _ _ _ [_] _ _)
     have y0 := HB6.out.c 0 (.int .i64 0) rfl
     have y1 := HB6.out.c 1 (.string ⟨#[]⟩) rfl
     have g0 := HB6.out.frozen 0
     have g1 := HB6.out.frozen 1
     have z6 := HB6.out.lt
     go_wp2_with fail
     replace HC := hid (LC.set2 HC.out hb6 (.int .i64 xk) (.string xn) hLw)
     replace HB6 := hid (HB6.out.set2 (.int .i64 xk) (.string xn))
     (refine hK2 _ _ (HTH.out.out _ HC.out) ?_); clear hK2 K2
     clear y0 y1 g0 g1 z6
     clear HTH r0
     (refine wpT_fin rfl fun K hK => ?_); (change wpQuiet _ _ _ _ [] _); (refine wpQuiet_nil ?_); (refine hK _ ?_); clear hK K
     go_wp2_with fail
     exact TAIL.out _ _ HC.out HB6.out hb6
 · go_wp2_with fail
   (refine hK2 _ _ (HTH.out.out _ (HC.out.ext ((Kp.refl _ _).alloc _))) ?_); clear hK2 K2
   have hb6 : w0.heap.size ≤ w0.heap.size := HC.out.kp.size
   have HB6 : Hid (Blk (w0.drew.alloc (.cells #[.int .i64 0, .string ⟨#[]⟩] 76)) w0.heap.size 76 #[.int .i64 0, .string ⟨#[]⟩]) := hid (Blk.new _ _ _)
   replace HC := hid (HC.out.ext ((Kp.refl _ _).alloc (.cells #[.int .i64 0, .string ⟨#[]⟩] 76)))
   (refine wpT_one rfl rfl fun K hK => ?_); (change wpQuiet _ _ _ _ [] _); (refine wpQuiet_nil ?_); (refine hK _ fun K2 hK2 => ?_); clear hK K; (change wpList _ _ _ [_] _ _)
   go_wp2_with fail
   refine (mach_top _ _ _ _ _ _ _ _ (HA.out.lod' HC.out.kp HC.out.at_) r c HCS.out).mono ?_
   rintro e wc ⟨rfl, hEc⟩
   replace HB6 := hid (HB6.out.ext hEc)
   replace HC := hid (HC.out.ext hEc)
   clear hEc
   go_wp2_with fail
   (refine hK2 _ _ (HTH.out.out _ HC.out) ?_); clear hK2 K2
   (refine wpT_one rfl rfl fun K hK => ?_); (change wpQuiet _ _ _ _ [] _); (refine wpQuiet_nil ?_); (refine hK _ fun K2 hK2 => ?_); clear hK K; (change wpList _ _ _ [_] _ _)
   go_wp2_with fail
   refine (call_keeper _ _ c.f.of.of.keeper (((HA.out.lod' HC.out.kp HC.out.at_).at_ HCS.out).blk.c 0 _ rfl)).mono ?_
   rintro e we ⟨rfl, rfl⟩
   go_wp2_with fail
   (refine hK2 _ _ (HTH.out.out _ HC.out) ?_); clear hK2 K2
   (refine wpT_one rfl rfl fun K hK => ?_); (change wpQuiet _ _ _ _ [] _); (refine wpQuiet_nil ?_); (refine hK _ fun K2 hK2 => ?_); clear hK K; (change wpList _ _ _ [_] _ _)
   go_wp2_with fail
   refine (HFIND.out _ HC.out).mono ?_
   rintro e wc ⟨rfl, hEc⟩
   replace HB6 := hid (HB6.out.ext hEc)
   replace HC := hid (HC.out.ext hEc)
   clear hEc
   go_wp2_with fail
   (refine hK2 _ _ (HTH.out.out _ HC.out) ?_); clear hK2 K2
   (refine wpT_one rfl rfl fun K hK => ?_); (change wpQuiet _ _ _ _ [_, _, _] _); (repeat (go_big_quiet_step (fail))); (refine wpQuiet_nil ?_); (refine hK _ fun K2 hK2 => ?_); clear hK K; (change wpList _ _ _ [_] _ _)
   have y0 := HB6.out.c 0 (.int .i64 0) rfl
   have y1 := HB6.out.c 1 (.string ⟨#[]⟩) rfl
   have g0 := HB6.out.frozen 0
   have g1 := HB6.out.frozen 1
   have z6 := HB6.out.lt
   go_wp2_with fail
   replace HC := hid (LC.set2 HC.out hb6 (.int .i64 xk) (.string xn) hLw)
   replace HB6 := hid (HB6.out.set2 (.int .i64 xk) (.string xn))
   (refine hK2 _ _ (HTH.out.out _ HC.out) ?_); clear hK2 K2
   clear y0 y1 g0 g1 z6
   clear HTH r0
   (refine wpT_fin rfl fun K hK => ?_); (change wpQuiet _ _ _ _ [] _); (refine wpQuiet_nil ?_); (refine hK _ ?_); clear hK K
   go_wp2_with fail
   exact TAIL.out _ _ HC.out HB6.out hb6
end Go.Proofs.YtjdfceejkneofaaGreat
