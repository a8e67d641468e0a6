/- A lodge that is being made: what its maps hold behind some keepers.; Walks: a keeper is entered into a lodge in the making.; Walks: a lodge is made.; The plain functions of layer 4's second half: layouts, links.; Walks: pick.; Walks: linkClass.; Walks: a stack's push. -/
import Derived.Test.YtjdfceejkneofaaGreatJad
import Derived.BigQuiet
import Derived.Deep.QuietTactic
import Derived.Test.YtjdfceejkneofaaGreatJaa
import Derived.Test.YtjdfceejkneofaaGreatJab
import Derived.Deep.RegionLaw
import Derived.Deep.AppendLies
set_option maxRecDepth 100000
set_option maxHeartbeats 4000000
set_option linter.unusedSimpArgs false
set_option linter.unusedVariables false
namespace Go.Proofs.YtjdfceejkneofaaGreat
open Go Go.RowKit
open Go.Lib (hid)
def OwnF (p : M.Plan) (k i : Nat) (q : Int) (s : ByteArray) : Option Int :=
 if q < k then (M.ownAt p ⟨q, s⟩).map Int.ofNat else if q = k then ((p[k]?).bind fun Q => (Q.owns.take i).findIdx? fun c => decide (c.name = s)).map Int.ofNat else none
def AskF (p : M.Plan) (k i : Nat) (q : Int) (s : ByteArray) : Option Int :=
 if q < k then M.ask? p q s else if q = k then ((p[k]?).bind fun Q => ((Q.asks.take i).find? fun a => decide (a.name = s)).map M.Ask.keeper) else none
theorem keeper_nat (p : M.Plan) (k : Nat) : M.keeper? p (k : Int) = p[k]? := by
 unfold M.keeper?; rw [if_pos (by omega)]; rfl
theorem keeper_out {p : M.Plan} {q : Int} (h : q < 0 ∨ (p.length : Int) ≤ q) : M.keeper? p q = none := by
 unfold M.keeper?
 split
 · rw [List.getElem?_eq_none_iff]; omega
 · rfl
theorem own_zero (p : M.Plan) (q : Int) (s : ByteArray) : OwnF p 0 0 q s = none := by
 unfold OwnF
 split
 · unfold M.ownAt; rw [keeper_out (.inl (by simpa using ‹q < ((0 : Nat) : Int)›))]; rfl
 · split
   · simp
   · rfl
theorem ask_zero (p : M.Plan) (q : Int) (s : ByteArray) : AskF p 0 0 q s = none := by
 unfold AskF
 split
 · unfold M.ask?; rw [keeper_out (.inl (by simpa using ‹q < ((0 : Nat) : Int)›))]; rfl
 · split
   · simp
   · rfl
theorem own_step {p : M.Plan} {k i : Nat} {Q : M.Keeper} {c : M.Class} (hQ : p[k]? = some Q) (hc : Q.owns[i]? = some c) (hn : OwnF p k i k c.name = none) (q : Int) (s : ByteArray) :
    OwnF p k (i + 1) q s = if q = k ∧ s = c.name then some (i : Int) else OwnF p k i q s := by
 have hi : i < Q.owns.length := (List.getElem?_eq_some_iff.1 hc).1
 unfold OwnF at *
 rw [hQ] at hn ⊢
 simp only [Int.lt_irrefl, if_false, if_true, Option.bind_some] at hn ⊢
 by_cases h1 : q < k
 · rw [if_pos h1, if_pos h1, if_neg (by omega)]
 · rw [if_neg h1, if_neg h1]
   by_cases h2 : q = k
   · rw [if_pos h2, if_pos h2, List.take_add_one, hc]
     simp only [Option.toList_some, List.findIdx?_append, List.length_take, Nat.min_eq_left (Nat.le_of_lt hi)]
     by_cases h3 : s = c.name
     · subst h3
       rw [if_pos ⟨h2, rfl⟩]
       have : (Q.owns.take i).findIdx? (fun x => decide (x.name = c.name)) = none := by simpa using hn
       rw [this]
       simp [List.findIdx?_cons]
     · rw [if_neg (fun h => h3 h.2)]
       have h3' : ¬ c.name = s := fun h => h3 h.symm
       simp [List.findIdx?_cons, h3']
   · rw [if_neg h2, if_neg h2, if_neg (fun h => h2 h.1)]
theorem ask_step {p : M.Plan} {k i : Nat} {Q : M.Keeper} {a : M.Ask} (hQ : p[k]? = some Q) (ha : Q.asks[i]? = some a) (hn : AskF p k i k a.name = none) (q : Int) (s : ByteArray) :
    AskF p k (i + 1) q s = if q = k ∧ s = a.name then some a.keeper else AskF p k i q s := by
 unfold AskF at *
 rw [hQ] at hn ⊢
 simp only [Int.lt_irrefl, if_false, if_true, Option.bind_some] at hn ⊢
 by_cases h1 : q < k
 · rw [if_pos h1, if_pos h1, if_neg (by omega)]
 · rw [if_neg h1, if_neg h1]
   by_cases h2 : q = k
   · rw [if_pos h2, if_pos h2, List.take_add_one, ha]
     simp only [Option.toList_some, List.find?_append]
     by_cases h3 : s = a.name
     · subst h3
       rw [if_pos ⟨h2, rfl⟩]
       have : (Q.asks.take i).find? (fun x => decide (x.name = a.name)) = none := by simpa using hn
       rw [this]
       simp
     · rw [if_neg (fun h => h3 h.2)]
       have h3' : ¬ a.name = s := fun h => h3 h.symm
       simp [h3']
   · rw [if_neg h2, if_neg h2, if_neg (fun h => h2 h.1)]
theorem own_end {p : M.Plan} {k : Nat} {Q : M.Keeper} (hQ : p[k]? = some Q) (q : Int) (s : ByteArray) : OwnF p (k + 1) 0 q s = OwnF p k Q.owns.length q s := by
 unfold OwnF
 by_cases h1 : q < k
 · rw [if_pos (by omega), if_pos h1]
 · by_cases h2 : q = k
   · subst h2
     rw [if_pos (by omega), if_neg h1, if_pos rfl, hQ]
     unfold M.ownAt
     rw [keeper_nat, hQ, Option.bind_some, Option.bind_some, List.take_of_length_le (Nat.le_refl _)]
   · rw [if_neg (by omega), if_neg h1, if_neg h2]
     split
     · cases p[k + 1]? <;> simp
     · rfl
theorem ask_end {p : M.Plan} {k : Nat} {Q : M.Keeper} (hQ : p[k]? = some Q) (q : Int) (s : ByteArray) : AskF p (k + 1) 0 q s = AskF p k Q.asks.length q s := by
 unfold AskF
 by_cases h1 : q < k
 · rw [if_pos (by omega), if_pos h1]
 · by_cases h2 : q = k
   · subst h2
     rw [if_pos (by omega), if_neg h1, if_pos rfl, hQ]
     unfold M.ask?
     rw [keeper_nat, hQ, Option.bind_some, Option.bind_some, List.take_of_length_le (Nat.le_refl _)]
   · rw [if_neg (by omega), if_neg h1, if_neg h2]
     split
     · cases p[k + 1]? <;> simp
     · rfl
theorem own_all (p : M.Plan) (q : Int) (s : ByteArray) : OwnF p p.length 0 q s = (M.ownAt p ⟨q, s⟩).map Int.ofNat := by
 unfold OwnF
 by_cases h1 : q < p.length
 · rw [if_pos h1]
 · rw [if_neg h1]
   unfold M.ownAt
   rw [keeper_out (.inr (by show (p.length : Int) ≤ q; omega))]
   split
   · simp
   · rfl
theorem ask_all (p : M.Plan) (q : Int) (s : ByteArray) : AskF p p.length 0 q s = M.ask? p q s := by
 unfold AskF
 by_cases h1 : q < p.length
 · rw [if_pos h1]
 · rw [if_neg h1]
   unfold M.ask?
   rw [keeper_out (.inr (by show (p.length : Int) ≤ q; omega))]
   split
   · simp
   · rfl
theorem look_step {m : List (Key × Int)} {f g : Int → ByteArray → Option Int} {k v : Int} {n : ByteArray} (hm : ∀ q s, look m (q, s) = f q s) (hn : f k n = none)
    (hg : ∀ q s, g q s = if q = k ∧ s = n then some v else f q s) : ∀ q s, look (m ++ [((k, n), v)]) (q, s) = g q s := by
 intro q s
 rw [hg]
 by_cases h : q = k ∧ s = n
 · obtain ⟨rfl, rfl⟩ := h
   rw [if_pos ⟨rfl, rfl⟩, look_snoc_same (by rw [hm]; exact hn)]
 · rw [if_neg h, look_snoc_other (fun e => h (by simpa using e)), hm]
structure HalfAt (w : World) (l : Lodge) (p : M.Plan) (k i j : Nat) : Prop where
 ord : l.O < l.A ∧ l.A < l.D ∧ l.D < l.L
 blk : ∃ a cap, Blk w l.L 92 #[.slice a p.length cap, .map (some l.O), .map (some l.A), .map (some l.D)] ∧ SliceOf 2 KeeperL w (· < l.O) (.slice a p.length cap) p
 own : ∃ m, MapIs w l.O m ∧ ∀ q s, look m (q, s) = OwnF p k i q s
 ask : ∃ m, MapIs w l.A m ∧ ∀ q s, look m (q, s) = AskF p k j q s
 laid : MapIs w l.D []
theorem HalfAt.lt {w : World} {l : Lodge} {p : M.Plan} {k i j : Nat} (h : HalfAt w l p k i j) : l.L < w.heap.size := by
 obtain ⟨a, cap, hb, _⟩ := h.blk
 exact hb.lt
theorem HalfAt.ext {w w' : World} {l : Lodge} {p : M.Plan} {k i j : Nat} (h : HalfAt w l p k i j) (hE : Ext w w') : HalfAt w' l p k i j := by
 obtain ⟨a, cap, hb, hs⟩ := h.blk
 obtain ⟨m1, h1, e1⟩ := h.own
 obtain ⟨m2, h2, e2⟩ := h.ask
 exact ⟨h.ord, ⟨a, cap, hb.ext hE, hs.ext KeeperL.stays hE⟩, ⟨m1, h1.kp hE fun x => x, e1⟩, ⟨m2, h2.kp hE fun x => x, e2⟩, h.laid.kp hE fun x => x⟩
theorem HalfAt.updOwn {w w' : World} {l : Lodge} {p : M.Plan} {k i i' j : Nat} (h : HalfAt w l p k i j) (hk : Kp (· = l.O) w w') (hm : ∃ m, MapIs w' l.O m ∧ ∀ q s, look m (q, s) = OwnF p k i' q s) : HalfAt w' l p k i' j := by
 obtain ⟨o1, o2, o3⟩ := h.ord
 obtain ⟨a, cap, hb, hs⟩ := h.blk
 obtain ⟨m2, h2, e2⟩ := h.ask
 exact ⟨h.ord, ⟨a, cap, hb.kp hk (by omega), hs.keep KeeperL.stays (Kp.same hk fun b hb e => by omega) fun _ h => h⟩, hm, ⟨m2, h2.kp hk (by omega), e2⟩, h.laid.kp hk (by omega)⟩
theorem HalfAt.updAsk {w w' : World} {l : Lodge} {p : M.Plan} {k i j j' : Nat} (h : HalfAt w l p k i j) (hk : Kp (· = l.A) w w') (hm : ∃ m, MapIs w' l.A m ∧ ∀ q s, look m (q, s) = AskF p k j' q s) : HalfAt w' l p k i j' := by
 obtain ⟨o1, o2, o3⟩ := h.ord
 obtain ⟨a, cap, hb, hs⟩ := h.blk
 obtain ⟨m1, h1, e1⟩ := h.own
 exact ⟨h.ord, ⟨a, cap, hb.kp hk (by omega), hs.keep KeeperL.stays (Kp.same hk fun b hb e => by omega) fun _ h => h⟩, ⟨m1, h1.kp hk (by omega), e1⟩, hm, h.laid.kp hk (by omega)⟩
theorem HalfAt.done {w : World} {l : Lodge} {p : M.Plan} (h : HalfAt w l p p.length 0 0) (hok : M.lodOk p = true) : LodgeAt w l p := by
 obtain ⟨m1, h1, e1⟩ := h.own
 obtain ⟨m2, h2, e2⟩ := h.ask
 exact ⟨hok, h.ord, h.blk, ⟨m1, h1, fun k s => (e1 k s).trans (own_all p k s)⟩, ⟨m2, h2, fun k s => (e2 k s).trans (ask_all p k s)⟩, ⟨[], h.laid, fun k s v hv => by cases hv⟩⟩
theorem HalfAt.next {w : World} {l : Lodge} {p : M.Plan} {k : Nat} {Q : M.Keeper} (h : HalfAt w l p k Q.owns.length Q.asks.length) (hQ : p[k]? = some Q) : HalfAt w l p (k + 1) 0 0 := by
 obtain ⟨m1, h1, e1⟩ := h.own
 obtain ⟨m2, h2, e2⟩ := h.ask
 exact ⟨h.ord, h.blk, ⟨m1, h1, fun q s => (e1 q s).trans (own_end hQ q s).symm⟩, ⟨m2, h2, fun q s => (e2 q s).trans (ask_end hQ q s).symm⟩, h.laid⟩
theorem lodge_has_cell (w : World) (L : Nat) (a : Option Addr) (n cap : Nat) (hc : w.cell? ⟨L, 0, none⟩ = some (.slice a n cap)) (k : Int) :
    Calls Tryz.prog 26 #[.pointer (some ⟨L, 0, none⟩), .int .i64 k] w fun e w' => e = .returned (.bool (decide (0 ≤ k) && decide (k < n))) ∧ w = w' := by
 go_enter Tryz.func26, Tryz.ntmps26
 go_wp2
 · go_ret
   exact ⟨ret_bool (by rw [decide_eq_true (p := 0 ≤ k) (by omega)]; rfl), rfl⟩
 · go_ret
   exact ⟨ret_bool (by rw [decide_eq_false (p := 0 ≤ k) (by omega)]; rfl), rfl⟩
theorem HalfAt.lookOwn {w : World} {l : Lodge} {p : M.Plan} {k i j : Nat} (h : HalfAt w l p k i j) (q : Int) (s : ByteArray) :
    (Instr.lookup 90 (.map (some l.O)) (.agg #[.int .i64 q, .string s]) true).run Tryz.prog w = .ok (.tuple #[.int .i64 ((OwnF p k i q s).getD 0), .bool (OwnF p k i q s).isSome]) w := by
 obtain ⟨m, hm, e⟩ := h.own
 rw [run_lookup_ok hm, e]
theorem HalfAt.lookAsk {w : World} {l : Lodge} {p : M.Plan} {k i j : Nat} (h : HalfAt w l p k i j) (q : Int) (s : ByteArray) :
    (Instr.lookup 90 (.map (some l.A)) (.agg #[.int .i64 q, .string s]) true).run Tryz.prog w = .ok (.tuple #[.int .i64 ((AskF p k j q s).getD 0), .bool (AskF p k j q s).isSome]) w := by
 obtain ⟨m, hm, e⟩ := h.ask
 rw [run_lookup_ok hm, e]
theorem own_seen {p : M.Plan} {k i : Nat} {Q : M.Keeper} (hQ : p[k]? = some Q) (s : ByteArray) : (OwnF p k i k s).isSome = (((Q.owns.take i).map M.Class.name).any fun y => decide (y = s)) := by
 unfold OwnF
 rw [if_neg (by omega), if_pos rfl, hQ, Option.bind_some, Option.isSome_map, List.findIdx?_isSome, List.any_map]
 rfl
theorem ask_seen {p : M.Plan} {k i : Nat} {Q : M.Keeper} (hQ : p[k]? = some Q) (s : ByteArray) : (AskF p k i k s).isSome = (((Q.asks.take i).map M.Ask.name).any fun y => decide (y = s)) := by
 unfold AskF
 rw [if_neg (by omega), if_pos rfl, hQ, Option.bind_some, Option.isSome_map, List.any_map, Bool.eq_iff_iff, List.find?_isSome]
 simp
theorem fresh_round {α : Type} {name : α → ByteArray} {ok : α → Bool} {l : List α} {i : Nat} {x : α} (hx : l[i]? = some x) :
    M.freshAll name ok (l.drop i) ((l.take i).map name) = (ok x && !(((l.take i).map name).any fun y => decide (y = name x)) && M.freshAll name ok (l.drop (i + 1)) ((l.take (i + 1)).map name)) := by
 rw [drop_get hx, List.take_add_one, hx]
 simp only [M.freshAll, Option.toList_some, List.map_append, List.map_cons, List.map_nil]
abbrev KOA (l : Lodge) : Nat → Prop := fun b => b = l.O ∨ b = l.A
theorem lodge_enter (w : World) (l : Lodge) (p : M.Plan) (k : Nat) (Q : M.Keeper) (hQ : p[k]? = some Q) (h : HalfAt w l p k 0 0) :
    Calls Tryz.prog 36 #[.pointer (some ⟨l.L, 0, none⟩), .int .i64 k] w fun e w' =>
     e = .returned (.bool (M.keeperOk p Q)) ∧ Kp (KOA l) w w' ∧ (M.keeperOk p Q = true → HalfAt w' l p (k + 1) 0 0) := by
 obtain ⟨a, cap, hb, hs⟩ := h.blk
 obtain ⟨b, off, cs, rfl, hI, hkl, -, hc⟩ := hs.get hQ
 obtain ⟨vo, va, rfl, s1, s2⟩ := hkl
 obtain ⟨a1, c1, rfl, hn1, hm1⟩ := s1.form
 obtain ⟨a2, c2, rfl, hn2, hm2⟩ := s2.form
 obtain ⟨g0, g1⟩ := hc.two
 have hkp : k < p.length := (List.getElem?_eq_some_iff.1 hQ).1
 have d0 := hb.c 0 _ rfl
 have hzL := hb.lt
 have H0 := hid h
 have HQ := hid hQ
 have hE0 : Ext w (w.alloc (.cells #[.slice a1 Q.owns.length c1, .slice a2 Q.asks.length c2] 65)) := ((Kp.refl _ _).alloc _)
 have bK := Blk.new w 65 #[.slice a1 Q.owns.length c1, .slice a2 Q.asks.length c2]
 clear h hQ hc
 have HOK : Hid (M.keeperOk p Q = (decide (Q.owns.length ≤ 5) && decide (Q.asks.length ≤ 4) && M.freshAll M.Class.name M.clsOk Q.owns [] && M.freshAll M.Ask.name (fun a => M.namOk a.name && M.has p a.keeper) Q.asks [])) := hid rfl
 by_cases hl1 : 5 < Q.owns.length
 · have hF : Hid (M.keeperOk p Q = false) := hid (by rw [HOK.out, decide_eq_false (p := Q.owns.length ≤ 5) (by omega)]; rfl)
   go_enter Tryz.func36, Tryz.ntmps36
   go_wp2
   go_ret
   exact ⟨ret_bool hF.out.symm, hE0.any, fun e => by rw [hF.out] at e; cases e⟩
 by_cases hl2 : 4 < Q.asks.length
 · have hF : Hid (M.keeperOk p Q = false) := hid (by rw [HOK.out, decide_eq_false (p := Q.asks.length ≤ 4) (by omega)]; simp)
   go_enter Tryz.func36, Tryz.ntmps36
   go_wp2
   go_ret
   exact ⟨ret_bool hF.out.symm, hE0.any, fun e => by rw [hF.out] at e; cases e⟩
 have HOK2 : Hid (M.keeperOk p Q = (M.freshAll M.Class.name M.clsOk Q.owns [] && M.freshAll M.Ask.name (fun a => M.namOk a.name && M.has p a.keeper) Q.asks [])) := hid (by
  rw [HOK.out, decide_eq_true (p := Q.owns.length ≤ 5) (by omega), decide_eq_true (p := Q.asks.length ≤ 4) (by omega)]; rfl)
 clear HOK
 go_enter Tryz.func36, Tryz.ntmps36
 go_wp2
 generalize hw0 : (w.alloc (.cells #[.slice a1 Q.owns.length c1, .slice a2 Q.asks.length c2] 65)) = w0 at *
 have hw0z : w0.heap.size = w.heap.size + 1 := by rw [← hw0]; simp
 clear hw0
 go_loopw [36] (fun i wr => ∃ n : Nat, n ≤ Q.owns.length ∧ i = .int .i64 n ∧ Kp (KOA l) w0 wr ∧ Hid (HalfAt wr l p k n 0) ∧ Hid (M.freshAll M.Class.name M.clsOk Q.owns [] = M.freshAll M.Class.name M.clsOk (Q.owns.drop n) ((Q.owns.take n).map M.Class.name))) (fun i _ => Q.owns.length - (intOf i).toNat)
 case atStart => exact ⟨0, Nat.zero_le _, rfl, Kp.refl _ _, hid (H0.out.ext hE0), hid rfl⟩
 case round =>
  obtain ⟨n, hn, rfl, hK, HH, HA⟩ := hrel
  by_cases hlt : n < Q.owns.length
  · obtain ⟨x, hx⟩ := get_some hlt
    obtain ⟨b', off', cs, he, hI', hcx, -, hcc⟩ := s1.get hx
    subst he
    obtain ⟨o1, o2, o3⟩ := HH.out.ord
    have hIk : ∀ z, z < l.O → ¬ KOA l z := fun z hz e => by rcases e with e | e <;> omega
    have hcr : CellsAt wr b' (off' + n * 4) cs := (hcc.ext hE0).keep fun o v hv => hK.cellK hv (hIk _ hI')
    have hcxr := Stays.kp ClassL.stays hK hIk (Stays.ext ClassL.stays hE0 hcx)
    obtain ⟨y1, z1, y2, z2, rfl⟩ := hcx.form
    obtain ⟨e0, e1, e2, e3⟩ := hcr.four
    obtain ⟨ma, mcap, hbr, -⟩ := HH.out.blk
    have r1 := hbr.c 1 _ rfl
    have hzr := hbr.lt
    have HX := hid hx
    have HCX := hid hcxr
    have hW : Ext wr ((wr.alloc (.cells #[.string x.name, .string x.super, .slice y1 x.fields.length z1, .slice y2 x.methods.length z2] 50)).alloc (.cells #[.int .i64 k, .string x.name] 76)) := (KX.k (by repeat (first | assumption | constructor)))
    have lk := fun d => (HH.out.ext (hW.drewN d)).lookOwn k x.name
    have hseen := own_seen (i := n) HQ.out x.name
    have HFr := hid (fresh_round (name := M.Class.name) (ok := M.clsOk) hx)
    clear hx hcc hcr hcx hcxr hbr
    cases htw : OwnF p k n k x.name with
    | some v =>
     rw [htw] at lk hseen
     simp only [Option.getD_some, Option.isSome_some] at lk
     have hF : Hid (M.keeperOk p Q = false) := hid (by rw [HOK2.out, HA.out, HFr.out, ← hseen]; simp)
     clear htw hseen
     go_wp2
     go_quiet (fail)
     go_wp2
     go_ret
     exact ⟨ret_bool hF.out.symm, (hE0.any.trans hK).trans ((KX.k (by repeat (first | assumption | constructor))) : Ext wr _).any, fun e => by rw [hF.out] at e; cases e⟩
    | none =>
     have HTW := hid htw
     rw [htw] at lk hseen
     simp only [Option.getD_none, Option.isSome_none] at lk
     have bC := (Blk.new wr 50 #[.string x.name, .string x.super, .slice y1 x.fields.length z1, .slice y2 x.methods.length z2]).ext ((Kp.refl _ _).alloc (.cells #[.int .i64 k, .string x.name] 76))
     have q0 := bC.c 0 _ rfl
     have q1 := bC.c 1 _ rfl
     have q2 := bC.c 2 _ rfl
     have q3 := bC.c 3 _ rfl
     have bR := Blk.new (wr.alloc (.cells #[.string x.name, .string x.super, .slice y1 x.fields.length z1, .slice y2 x.methods.length z2] 50)) 76 #[.int .i64 k, .string x.name]
     simp only [World.size_alloc] at bR
     have HCX2 := hid (fun d => Stays.ext ClassL.stays (hW.drewN d) HCX.out)
     cases hok : M.clsOk x
     all_goals
      have HCK := hid hok
      clear hok htw
      go_wp2
      go_quiet (fail)
      go_wp2_with fail
      refine (cls_ok _ _ _ _ (HCX2.out _)).mono ?_
      rintro e w1 ⟨rfl, hB⟩
      rw [HCK.out]
      have rr1 := ((hW.drewN _).trans hB).cellE r1
      have bR2 := (bR.ext ((Kp.refl _ _).drewN _)).ext hB
      have u0 := bR2.c 0 _ rfl
      have u1 := bR2.c 1 _ rfl
      have uz := bR2.lt
      have hW1 := (hW.drewN _).trans hB
      clear e0 e1 e2 e3 q0 q1 q2 q3 r1 bC bR bR2 lk hB hW
     · have hF : Hid (M.keeperOk p Q = false) := hid (by rw [HOK2.out, HA.out, HFr.out, HCK.out]; simp)
       go_wp2
       go_ret
       exact ⟨ret_bool hF.out.symm, (hE0.any.trans hK).trans hW1.any, fun e => by rw [hF.out] at e; cases e⟩
     · go_wp2
       (refine region_tail 6 (by kernel_rfl) (by kernel_rfl) ?_); (simp only [List.take_succ_cons, List.take_zero, List.drop_succ_cons, List.drop_zero]); (repeat still_step); (refine wpStill_nil ?_)
       have hHd : HalfAt w1.drew l p k n 0 := HH.out.ext (hW1.drew)
       obtain ⟨m, hm, hlk⟩ := hHd.own
       have HHd := hid hHd
       refine wpList_mapUpdate_ref _ rfl _ _ _ rfl l.O m k x.name n rfl rfl rfl hm (by rw [hlk]; exact HTW.out) ?_
       intro w2 hm2 hk2 hz2
       go_wp2
       go_roundw
       case rel =>
        refine ⟨n + 1, by omega, by go_num, ?_, hid (HHd.out.updOwn hk2 ⟨_, hm2, look_step hlk HTW.out (own_step HQ.out HX.out HTW.out)⟩), hid ?_⟩
        · exact (hK.trans (hW1.drew).any).trans (hk2.weak fun _ _ e => .inl e)
        · rw [HA.out, HFr.out, HCK.out, ← own_seen HQ.out, HTW.out]; rfl
       case measure => simp [intOf]; omega
  · have hnl : n = Q.owns.length := by omega
    subst hnl
    have HOK3 : Hid (M.keeperOk p Q = M.freshAll M.Ask.name (fun a => M.namOk a.name && M.has p a.keeper) Q.asks []) := hid (by
     rw [HOK2.out, HA.out, List.drop_eq_nil_of_le (Nat.le_refl _)]; rfl)
    have hKx : Kp (KOA l) w wr := hE0.any.trans hK
    have hbO : b < l.O := hI
    have hIk : ∀ z, z < l.O → ¬ KOA l z := by
     obtain ⟨o1, o2, o3⟩ := HH.out.ord
     exact fun z hz e => by rcases e with e | e <;> omega
    have hzz := hK.size
    have hOz : l.A < l.L := by obtain ⟨o1, o2, o3⟩ := HH.out.ord; omega
    have bKr := bK.kp hK (fun e => by obtain ⟨o1, o2, o3⟩ := HH.out.ord; rcases e with e | e <;> omega)
    have v1 := bKr.c 1 _ rfl
    have hzK := bKr.lt
    clear HA HOK2 bK
    obtain ⟨wo, rfl⟩ : ∃ wo : World, wo = wr := ⟨_, rfl⟩
    go_wp2
    go_loopw [70] (fun i wr => ∃ n : Nat, n ≤ Q.asks.length ∧ i = .int .i64 n ∧ Kp (KOA l) w wr ∧ Hid (HalfAt wr l p k Q.owns.length n) ∧ Hid (M.freshAll M.Ask.name (fun a => M.namOk a.name && M.has p a.keeper) Q.asks [] = M.freshAll M.Ask.name (fun a => M.namOk a.name && M.has p a.keeper) (Q.asks.drop n) ((Q.asks.take n).map M.Ask.name))) (fun i _ => Q.asks.length - (intOf i).toNat)
    case atStart => exact ⟨0, Nat.zero_le _, rfl, hKx, HH, hid rfl⟩
    case round =>
     obtain ⟨n, hn, rfl, hK, HH, HA⟩ := hrel
     by_cases hlt : n < Q.asks.length
     · obtain ⟨x, hx⟩ := get_some hlt
       obtain ⟨b', off', cs, he, hI', rfl, -, hcc⟩ := s2.get hx
       subst he
       have hcr : CellsAt wr b' (off' + n * 2) [.string x.name, .int .i64 x.keeper] := hcc.keep fun o v hv => hK.cellK hv (hIk _ hI')
       obtain ⟨e0, e1⟩ := hcr.two
       obtain ⟨ma, mcap, hbr, -⟩ := HH.out.blk
       have r0 := hbr.c 0 _ rfl
       have r2 := hbr.c 2 _ rfl
       have hzr := hbr.lt
       have HX := hid hx
       have hW : Ext wr ((wr.alloc (.cells #[.string x.name, .int .i64 x.keeper] 62)).alloc (.cells #[.int .i64 k, .string x.name] 76)) := (KX.k (by repeat (first | assumption | constructor)))
       have lk := fun d => (HH.out.ext (hW.drewN d)).lookAsk k x.name
       have hseen := ask_seen (i := n) HQ.out x.name
       have HFr := hid (fresh_round (name := M.Ask.name) (ok := fun a => M.namOk a.name && M.has p a.keeper) hx)
       clear hx hcc hcr hbr
       cases htw : AskF p k n k x.name with
       | some v =>
        rw [htw] at lk hseen
        simp only [Option.getD_some, Option.isSome_some] at lk
        have hF : Hid (M.keeperOk p Q = false) := hid (by rw [HOK3.out, HA.out, HFr.out, ← hseen]; simp)
        clear htw hseen
        go_wp2
        go_quiet (fail)
        go_wp2
        go_ret
        exact ⟨ret_bool hF.out.symm, hK.trans ((KX.k (by repeat (first | assumption | constructor))) : Ext wr _).any, fun e => by rw [hF.out] at e; cases e⟩
       | none =>
        have HTW := hid htw
        rw [htw] at lk hseen
        simp only [Option.getD_none, Option.isSome_none] at lk
        cases hok : M.namOk x.name
        · have HCK := hid hok
          have hF : Hid (M.keeperOk p Q = false) := hid (by rw [HOK3.out, HA.out, HFr.out, hok]; simp)
          clear hok htw
          go_wp2
          go_quiet (fail)
          go_wp2_with (go_at_call 33; refine (nam_ok _ _).mono ?_; rintro e w1 ⟨rfl, rfl⟩; rw [HCK.out])
          go_ret
          exact ⟨ret_bool hF.out.symm, hK.trans ((KX.k (by repeat (first | assumption | constructor))) : Ext wr _).any, fun e => by rw [hF.out] at e; cases e⟩
        · have HCK := hid hok
          clear hok
          have hhas : M.has p x.keeper = (decide (0 ≤ x.keeper) && decide (x.keeper < p.length)) := rfl
          cases hok2 : M.has p x.keeper
          · have hF : Hid (M.keeperOk p Q = false) := hid (by rw [HOK3.out, HA.out, HFr.out, hok2]; simp)
            have HCK2 : Hid ((decide (0 ≤ x.keeper) && decide (x.keeper < p.length)) = false) := hid hok2
            clear hok2 htw hhas
            go_wp2
            go_quiet (fail)
            go_wp2_with (first | (go_at_call 33; refine (nam_ok _ _).mono ?_; rintro e w1 ⟨rfl, rfl⟩; rw [HCK.out]) | (go_at_call 26; refine (lodge_has_cell _ _ _ _ _ ((hW.drewN _).cellE r0) _).mono ?_; rintro e w1 ⟨rfl, rfl⟩; rw [HCK2.out]))
            go_ret
            exact ⟨ret_bool hF.out.symm, hK.trans ((KX.k (by repeat (first | assumption | constructor))) : Ext wr _).any, fun e => by rw [hF.out] at e; cases e⟩
          · have HCK2 : Hid ((decide (0 ≤ x.keeper) && decide (x.keeper < p.length)) = true) := hid hok2
            have HCK3 := hid hok2
            clear hok2 htw hhas
            go_wp2
            go_quiet (fail)
            go_wp2_with (first | (go_at_call 33; refine (nam_ok _ _).mono ?_; rintro e w1 ⟨rfl, rfl⟩; rw [HCK.out]) | (go_at_call 26; refine (lodge_has_cell _ _ _ _ _ ((hW.drewN _).cellE r0) _).mono ?_; rintro e w1 ⟨rfl, rfl⟩; rw [HCK2.out]))
            obtain ⟨m, hm, hlk⟩ := HH.out.ask
            have HHd := hid HH.out
            (refine region_tail 7 (by kernel_rfl) (by kernel_rfl) ?_); (simp only [List.take_succ_cons, List.take_zero, List.drop_succ_cons, List.drop_zero]); (repeat still_step); (refine wpStill_nil ?_)
            refine wpList_mapUpdate_ref _ rfl _ _ _ rfl l.A m k x.name x.keeper rfl rfl rfl (hm.kp ((hW.drewN _).drew) fun x => x) (by rw [hlk]; exact HTW.out) ?_
            intro w2 hm2 hk2 hz2
            have hW2 := hid (HHd.out.ext ((hW.drewN _).drew) |>.updAsk hk2 ⟨_, hm2, look_step hlk HTW.out (ask_step HQ.out HX.out HTW.out)⟩)
            have hKn := hid ((hK.trans ((hW.drewN _).drew).any).trans (hk2.weak fun _ _ e => .inr e))
            go_wp2
            go_roundw
            case rel =>
             refine ⟨n + 1, by omega, by go_num, hKn.out, hW2, hid ?_⟩
             rw [HA.out, HFr.out, HCK.out, HCK3.out, ← ask_seen HQ.out, HTW.out]; rfl
            case measure => simp [intOf]; omega
     · have hnl : n = Q.asks.length := by omega
       subst hnl
       have hF : Hid (M.keeperOk p Q = true) := hid (by rw [HOK3.out, HA.out, List.drop_eq_nil_of_le (Nat.le_refl _)]; rfl)
       go_wp2
       go_ret
       exact ⟨ret_bool hF.out.symm, hK, fun _ => HH.out.next HQ.out⟩
theorem all_drop {α : Type} {f : α → Bool} {l : List α} {k : Nat} {x : α} (hx : l[k]? = some x) : (l.drop k).all f = (f x && (l.drop (k + 1)).all f) := by
 rw [drop_get hx, List.all_cons]
theorem new_lodge (w : World) (I : Nat → Prop) (v : Value) (p : M.Plan) (h : SliceOf 2 KeeperL w I v p) (hI : ∀ b, I b → b < w.heap.size) :
    Calls Tryz.prog 23 #[.agg #[v]] w fun e w' =>
     Ext w w' ∧ ((M.lodOk p = false ∧ e = .returned (.pointer none)) ∨ (M.lodOk p = true ∧ ∃ l : Lodge, e = .returned (.pointer (some ⟨l.L, 0, none⟩)) ∧ LodgeAt w' l p ∧ w.heap.size ≤ l.O)) := by
 obtain ⟨a, cap, rfl, hn, hcap⟩ := h.form
 by_cases hl1 : p.length < 1
 · have hF : Hid (M.lodOk p = false) := hid (by unfold M.lodOk; rw [decide_eq_false (p := 1 ≤ p.length) (by omega)]; rfl)
   go_enter Tryz.func23, Tryz.ntmps23
   go_wp2
   go_ret
   exact ⟨(KX.k (by repeat (first | assumption | constructor))), .inl ⟨hF.out, rfl⟩⟩
 by_cases hl2 : 3 < p.length
 · have hF : Hid (M.lodOk p = false) := hid (by unfold M.lodOk; rw [decide_eq_false (p := p.length ≤ 3) (by omega)]; simp)
   go_enter Tryz.func23, Tryz.ntmps23
   go_wp2
   go_ret
   exact ⟨(KX.k (by repeat (first | assumption | constructor))), .inl ⟨hF.out, rfl⟩⟩
 have HK : Hid (M.lodOk p = p.all (M.keeperOk p)) := hid (by unfold M.lodOk; rw [decide_eq_true (p := 1 ≤ p.length) (by omega), decide_eq_true (p := p.length ≤ 3) (by omega)]; rfl)
 have mk : ∀ W : World, (Instr.makeMap 90 none).run Tryz.prog W = .ok (.map (some W.heap.size)) (W.alloc (.map #[] 0)) := fun W => by kernel_rfl
 have hE1 : Ext w (((((w.alloc (.cells #[.slice a p.length cap] 40)).alloc (.map #[] 0)).alloc (.map #[] 0)).alloc (.map #[] 0)).alloc (.cells #[.slice a p.length cap, .map (some (w.heap.size + 1)), .map (some (w.heap.size + 1 + 1)), .map (some (w.heap.size + 1 + 1 + 1))] 92)) := (KX.k (by repeat (first | assumption | constructor)))
 have hH : HalfAt (((((w.alloc (.cells #[.slice a p.length cap] 40)).alloc (.map #[] 0)).alloc (.map #[] 0)).alloc (.map #[] 0)).alloc (.cells #[.slice a p.length cap, .map (some (w.heap.size + 1)), .map (some (w.heap.size + 1 + 1)), .map (some (w.heap.size + 1 + 1 + 1))] 92)) ⟨w.heap.size + 1 + 1 + 1 + 1, w.heap.size + 1, w.heap.size + 1 + 1, w.heap.size + 1 + 1 + 1⟩ p 0 0 0 := by
  have e1 := MapIs.new (w.alloc (.cells #[.slice a p.length cap] 40))
  have e2 := MapIs.new ((w.alloc (.cells #[.slice a p.length cap] 40)).alloc (.map #[] 0))
  have e3 := MapIs.new (((w.alloc (.cells #[.slice a p.length cap] 40)).alloc (.map #[] 0)).alloc (.map #[] 0))
  have e4 := Blk.new ((((w.alloc (.cells #[.slice a p.length cap] 40)).alloc (.map #[] 0)).alloc (.map #[] 0)).alloc (.map #[] 0)) 92 #[.slice a p.length cap, .map (some (w.heap.size + 1)), .map (some (w.heap.size + 1 + 1)), .map (some (w.heap.size + 1 + 1 + 1))]
  simp only [World.size_alloc] at e1 e2 e3 e4
  refine ⟨⟨Nat.lt_succ_self _, Nat.lt_succ_self _, Nat.lt_succ_self _⟩, ⟨a, cap, e4, h.keep KeeperL.stays (Ext.same hE1) fun b hb => Nat.lt_succ_of_lt (hI b hb)⟩, ⟨[], e1.kp (((((Kp.refl (fun _ => False) _).alloc _).alloc _).alloc _)) fun x => x, fun q s => (own_zero p q s).symm⟩, ⟨[], e2.kp ((((Kp.refl (fun _ => False) _).alloc _).alloc _)) fun x => x, fun q s => (ask_zero p q s).symm⟩, e3.kp ((Kp.refl (fun _ => False) _).alloc _) fun x => x⟩
 go_enter Tryz.func23, Tryz.ntmps23
 go_wp2
 obtain ⟨l, hl⟩ : ∃ l : Lodge, l = ⟨w.heap.size + 1 + 1 + 1 + 1, w.heap.size + 1, w.heap.size + 1 + 1, w.heap.size + 1 + 1 + 1⟩ := ⟨_, rfl⟩
 have hL : w.heap.size + 1 + 1 + 1 + 1 = l.L := by rw [hl]
 have hO : w.heap.size < l.O ∧ w.heap.size < l.A := by rw [hl]; exact ⟨Nat.lt_succ_self _, by show w.heap.size < w.heap.size + 1 + 1; omega⟩
 rw [← hl] at hH
 generalize (((((w.alloc (.cells #[.slice a p.length cap] 40)).alloc (.map #[] 0)).alloc (.map #[] 0)).alloc (.map #[] 0)).alloc (.cells #[.slice a p.length cap, .map (some (w.heap.size + 1)), .map (some (w.heap.size + 1 + 1)), .map (some (w.heap.size + 1 + 1 + 1))] 92)) = w1 at *
 rw [hL]
 have HL := hid hl
 clear hl mk
 go_loopw [25] (fun i wr => ∃ n : Nat, n ≤ p.length ∧ i = .int .i64 n ∧ Kp (KOA l) w1 wr ∧ Hid (HalfAt wr l p n 0 0) ∧ Hid (p.all (M.keeperOk p) = (p.drop n).all (M.keeperOk p))) (fun i _ => p.length - (intOf i).toNat)
 case atStart => exact ⟨0, Nat.zero_le _, rfl, Kp.refl _ _, hid hH, hid rfl⟩
 case round =>
  obtain ⟨n, hn, rfl, hK, HH, HA⟩ := hrel
  have hEr : Ext w wr := hE1.own hK (fun b hb => by rcases hb with rfl | rfl <;> omega)
  by_cases hlt : n < p.length
  · obtain ⟨Q, hQ⟩ := get_some hlt
    have hdr := all_drop (f := M.keeperOk p) hQ
    have HDR := hid hdr
    go_wp2_with fail
    refine (lodge_enter _ _ _ _ _ hQ HH.out).mono ?_
    rintro e w2 ⟨rfl, hK2, hnext⟩
    cases hok : M.keeperOk p Q
    · have HF : Hid (M.lodOk p = false) := hid (by rw [HK.out, HA.out, HDR.out, hok]; rfl)
      clear hnext hdr
      go_wp2
      go_ret
      exact ⟨hEr.own hK2 (fun b hb => by rcases hb with rfl | rfl <;> omega), .inl ⟨HF.out, rfl⟩⟩
    · have HN := hid (hnext hok)
      have HOk := hid hok
      clear hnext hdr
      go_wp2
      go_roundw
      case rel => exact ⟨n + 1, by omega, by go_num, hK.trans hK2, HN, hid (by rw [HA.out, HDR.out, HOk.out]; rfl)⟩
      case measure => simp [intOf]; omega
  · have hnl : n = p.length := by omega
    subst hnl
    have HF : Hid (M.lodOk p = true) := hid (by rw [HK.out, HA.out, List.drop_eq_nil_of_le (Nat.le_refl _)]; rfl)
    go_wp2
    go_ret
    exact ⟨hEr, .inr ⟨HF.out, l, rfl, HH.out.done HF.out, Nat.le_of_lt hO.1⟩⟩
end Go.Proofs.YtjdfceejkneofaaGreat
namespace Go.Proofs.YtjdfceejkneofaaGreat.M
structure MRef where
 of : Ref
 at_ : Int
def pickIn (p : Plan) (n : ByteArray) : List Ref → Option MRef
 | [] => none
 | c :: r => match methodIx (cls p c) n with
  | some i => some ⟨c, i⟩
  | none => pickIn p n r
def pick (p : Plan) (r : Ref) (n : ByteArray) : Option MRef := if canLay p r then pickIn p n (chain p r) else none
def linkClass (p : Plan) (k : Int) (n m : ByteArray) : Ref × Int :=
 if has p k && namOk n && namOk m then
  (if (find p k n).2 = 1 then (if canLay p (find p k n).1 then ((find p k n).1, 1) else (zref, 4)) else (zref, 2))
 else (zref, 2)
end Go.Proofs.YtjdfceejkneofaaGreat.M
namespace Go.Proofs.YtjdfceejkneofaaGreat
open Go Go.RowKit
open Go.Lib (hid)
def mrefV (m : M.MRef) : Value := .agg #[.int .i64 m.of.keeper, .string m.of.name, .int .i64 m.at_]
def zmref : M.MRef := ⟨⟨0, M.none_⟩, 0⟩
theorem lodge_pick (w : World) (l : Lodge) (p : M.Plan) (h : LodgeAt w l p) (r : M.Ref) (n : ByteArray) :
    Calls Tryz.prog 91 #[.pointer (some ⟨l.L, 0, none⟩), .agg #[.int .i64 r.keeper, .string r.name], .string n] w fun e w' =>
     e = .returned (.tuple #[.agg #[.int .i64 ((M.pick p r n).getD zmref).of.keeper, .string ((M.pick p r n).getD zmref).of.name, .int .i64 ((M.pick p r n).getD zmref).at_], .bool (M.pick p r n).isSome]) ∧ LodgeAt w' l p ∧ Kp (· = l.D) w w' := by
 have hE0 : Ext w ((w.alloc (.cells #[.int .i64 r.keeper, .string r.name] 76)).alloc (.cells #[.int .i64 0, .string ⟨#[]⟩, .int .i64 0] 97)) := (KX.k (by repeat (first | assumption | constructor)))
 have H := hid (h.ext hE0)
 have hlt := h.lt
 have hDL : l.D < l.L := h.ord.2.2
 clear h
 have b4 := (Blk.new w 76 #[.int .i64 r.keeper, .string r.name]).ext ((Kp.refl _ _).alloc (.cells #[.int .i64 0, .string ⟨#[]⟩, .int .i64 0] 97))
 have b6 := Blk.new (w.alloc (.cells #[.int .i64 r.keeper, .string r.name] 76)) 97 #[.int .i64 0, .string ⟨#[]⟩, .int .i64 0]
 simp only [World.size_alloc] at b6
 go_enter Tryz.func91, Tryz.ntmps91
 go_wp2_with fail
 generalize ((w.alloc (.cells #[.int .i64 r.keeper, .string r.name] 76)).alloc (.cells #[.int .i64 0, .string ⟨#[]⟩, .int .i64 0] 97)) = w0 at *
 refine (lodge_canLay _ _ _ H.out r).mono ?_
 rintro e w1 ⟨rfl, hL1, hK1⟩
 have c4 := b4.kp hK1 (by omega)
 have c6 := b6.kp hK1 (by omega)
 have hKw : Kp (· = l.D) w w1 := (hE0.any).trans hK1
 have p0 := c4.c 0 _ rfl
 have p1 := c4.c 1 _ rfl
 have q0 := c6.c 0 _ rfl
 have q1 := c6.c 1 _ rfl
 have q2 := c6.c 2 _ rfl
 have f0 := c6.frozen 0
 have f1 := c6.frozen 1
 have f2 := c6.frozen 2
 have HL1 := hid hL1
 have hz6 := c6.lt
 clear b4 b6 H hE0 hL1 hK1
 cases hcan : M.canLay p r
 · have hP : M.pick p r n = none := by unfold M.pick; rw [hcan]; rfl
   have HP := hid hP
   clear hcan hP
   go_wp2
   refine bodyPost_ret (v := .tuple #[.agg #[.int .i64 0, .string ⟨#[]⟩, .int .i64 0], .bool false]) (by simp [results, Tryz.results91, go_sem, q0, q1, q2]) rfl ?_
   have hset : Kp (· = w.heap.size + 1) w1 (((w1.setCell ⟨w.heap.size + 1, 0, none⟩ (.int .i64 0)).setCell ⟨w.heap.size + 1, 1, none⟩ (.string ⟨#[]⟩)).setCell ⟨w.heap.size + 1, 2, none⟩ (.int .i64 0)) :=
    (((Kp.refl (· = w.heap.size + 1) w1).setCell (p := ⟨w.heap.size + 1, 0, none⟩) (fun _ => rfl) _).setCell (p := ⟨w.heap.size + 1, 1, none⟩) (fun _ => rfl) _).setCell (p := ⟨w.heap.size + 1, 2, none⟩) (fun _ => rfl) _
   exact ⟨by rw [HP.out]; rfl, HL1.out.kp hset (fun k hk e => by omega), hKw.own hset (fun k hk => by omega)⟩
 · have hP : M.pick p r n = M.pickIn p n (M.chain p r) := by unfold M.pick; rw [hcan]; rfl
   have HP := hid hP
   clear hcan hP
   go_wp2_with fail
   refine (lodge_chain _ _ _ HL1.out _).mono ?_
   rintro e w2 ⟨⟨v, rfl, hs⟩, hB⟩
   obtain ⟨a, cap, rfl, hn, hcap⟩ := hs.form
   have HO : Hid (∀ x ∈ M.chain p r, ∃ c, M.cls? p x = some c) := hid chain_owned
   have HL2 := hid (HL1.out.ext hB)
   have c62 := c6.ext hB
   have hK2 : Kp (· = l.D) w w2 := hKw.trans hB.any
   clear p0 p1 q0 q1 q2 f0 f1 f2 hz6 c4 c6 hKw hB HL1
   generalize M.chain p r = xs at *
   go_wp2
   go_loopw [20] (fun i wr => ∃ k : Nat, k ≤ xs.length ∧ i = .int .i64 k ∧ Ext w2 wr ∧ Hid (M.pickIn p n xs = M.pickIn p n (xs.drop k))) (fun i _ => xs.length - (intOf i).toNat)
   case atStart => exact ⟨0, Nat.zero_le _, rfl, Kp.refl _ _, hid rfl⟩
   case round =>
    obtain ⟨k, hk, rfl, hE, HA⟩ := hrel
    have c6r := c62.ext hE
    have q0 := c6r.c 0 _ rfl
    have q1 := c6r.c 1 _ rfl
    have q2 := c6r.c 2 _ rfl
    have f0 := c6r.frozen 0
    have f1 := c6r.frozen 1
    have f2 := c6r.frozen 2
    have hz6 := c6r.lt
    have hset : Hid (∀ W (u v t : Value), Ext w2 W → Kp (· = l.D) w (((W.setCell ⟨w.heap.size + 1, 0, none⟩ u).setCell ⟨w.heap.size + 1, 1, none⟩ v).setCell ⟨w.heap.size + 1, 2, none⟩ t) ∧ LodgeAt (((W.setCell ⟨w.heap.size + 1, 0, none⟩ u).setCell ⟨w.heap.size + 1, 1, none⟩ v).setCell ⟨w.heap.size + 1, 2, none⟩ t) l p) := hid (fun W u v t hW => by
     have hset : Kp (· = w.heap.size + 1) W (((W.setCell ⟨w.heap.size + 1, 0, none⟩ u).setCell ⟨w.heap.size + 1, 1, none⟩ v).setCell ⟨w.heap.size + 1, 2, none⟩ t) :=
      (((Kp.refl (· = w.heap.size + 1) W).setCell (p := ⟨w.heap.size + 1, 0, none⟩) (fun _ => rfl) _).setCell (p := ⟨w.heap.size + 1, 1, none⟩) (fun _ => rfl) _).setCell (p := ⟨w.heap.size + 1, 2, none⟩) (fun _ => rfl) _
     exact ⟨(hK2.trans hW.any).own hset (fun k hk => by omega), (HL2.out.ext hW).kp hset (fun k hk e => by omega)⟩)
    by_cases hlt : k < xs.length
    · obtain ⟨x, hx⟩ := get_some hlt
      obtain ⟨b, off, cs, rfl, hI, rfl, -, hc⟩ := hs.get hx
      obtain ⟨g0, g1⟩ := (hc.ext hE).two
      obtain ⟨c, hcx⟩ := HO.out x (List.mem_of_getElem? hx)
      have HX := hid hx
      have HCX := hid hcx
      have hstep : Hid (M.pickIn p n xs = match M.methodIx c n with | some i => some ⟨x, i⟩ | none => M.pickIn p n (xs.drop (k + 1))) := hid (by
       rw [HA.out, drop_get hx]
       have hcc : M.cls p x = c := by unfold M.cls; rw [hcx]; rfl
       rw [← hcc]; rfl)
      clear hx hc hcx
      have bx := Blk.new wr 76 #[.int .i64 x.keeper, .string x.name]
      go_wp2_with fail
      refine (lodge_class _ _ _ (HL2.out.ext (hE.alloc (.cells #[.int .i64 x.keeper, .string x.name] 76))) _ _ _ HCX.out).mono ?_
      rintro e w3 ⟨⟨cs, hcl, rfl⟩, hB3⟩
      have HCL := hid (Stays.ext ClassL.stays hB3 hcl)
      have hE3 : Ext wr w3 := ((Kp.refl (fun _ => False) wr).alloc (.cells #[.int .i64 x.keeper, .string x.name] 76)).trans hB3
      have bx3 := bx.ext hB3
      have c63 := c6r.ext hE3
      clear q0 q1 q2 f0 f1 f2 hz6 g0 g1 bx
      go_wp2_with fail
      refine (method_at _ _ _ _ HCL.out _).mono ?_
      rintro e w4 ⟨rfl, hB4⟩
      have bx4 := bx3.ext hB4
      have x0 := bx4.c 0 _ rfl
      have x1 := bx4.c 1 _ rfl
      have xz := bx4.lt
      have c64 := c63.ext hB4
      have q0 := c64.c 0 _ rfl
      have q1 := c64.c 1 _ rfl
      have q2 := c64.c 2 _ rfl
      have f0 := c64.frozen 0
      have f1 := c64.frozen 1
      have f2 := c64.frozen 2
      have hz6 := c64.lt
      have hE4 := (hE.trans hE3).trans hB4
      clear bx3 bx4 c63 c64 c6r
      cases hix : M.methodIx c n with
      | none =>
       have HS := hid (hstep.out.trans (by rw [hix]))
       simp only [ixI, Option.elim]
       clear hix
       go_wp2
       go_roundw
       case rel => exact ⟨k + 1, by omega, by go_num, hE4, hid HS.out⟩
       case measure => simp [intOf]; omega
      | some i =>
       have HS := hid (hstep.out.trans (by rw [hix]))
       simp only [ixI, Option.elim]
       clear hix
       have hi0 : (0 : Int) ≤ (i : Int) := by omega
       go_wp2
       refine bodyPost_ret (v := .tuple #[.agg #[.int .i64 x.keeper, .string x.name, .int .i64 i], .bool true]) (by simp [results, Tryz.results91, go_sem, q0, q1, q2]) rfl ?_
       have := hset.out w4 (.int .i64 x.keeper) (.string x.name) (.int .i64 i) hE4
       exact ⟨by rw [HP.out, HS.out]; rfl, this.2, this.1⟩
    · go_wp2
      refine bodyPost_ret (v := .tuple #[.agg #[.int .i64 0, .string ⟨#[]⟩, .int .i64 0], .bool false]) (by simp [results, Tryz.results91, go_sem, q0, q1, q2]) rfl ?_
      have := hset.out wr (.int .i64 0) (.string ⟨#[]⟩) (.int .i64 0) hE
      exact ⟨by rw [HP.out, HA.out, List.drop_eq_nil_of_le (by omega)]; rfl, this.2, this.1⟩
def ErrV (w : World) (ev : Value) (code : Int) : Prop := (code = 1 ∧ ev = Value.nilIface) ∨ (code ≠ 1 ∧ ∃ b, ev = .iface 170 (.pointer (some ⟨b, 0, none⟩)) ∧ Blk w b 172 #[.int .i64 code])
theorem lodge_linkClass (w : World) (l : Lodge) (p : M.Plan) (h : LodgeAt w l p) (k : Int) (n m : ByteArray) :
    Calls Tryz.prog 95 #[.pointer (some ⟨l.L, 0, none⟩), .int .i64 k, .string n, .string m] w fun e w' =>
     (∃ ev, e = .returned (.tuple #[.agg #[.int .i64 (M.linkClass p k n m).1.keeper, .string (M.linkClass p k n m).1.name], ev]) ∧ ErrV w' ev (M.linkClass p k n m).2) ∧ LodgeAt w' l p ∧ Kp (· = l.D) w w' := by
 have hE0 : Ext w (w.alloc (.cells #[.int .i64 0, .string ⟨#[]⟩] 76)) := (KX.k (by repeat (first | assumption | constructor)))
 have H := hid (h.ext hE0)
 have H0 := hid h
 have hlt := h.lt
 have hDL : l.D < l.L := h.ord.2.2
 clear h
 have b8 := Blk.new w 76 #[.int .i64 0, .string ⟨#[]⟩]
 have c0 := b8.c 0 _ rfl
 have c1 := b8.c 1 _ rfl
 have hno : Hid (¬ (M.has p k && M.namOk n && M.namOk m) = true → M.linkClass p k n m = (M.zref, 2)) := hid (fun h => by unfold M.linkClass; rw [if_neg h])
 have hyes : Hid ((M.has p k && M.namOk n && M.namOk m) = true → M.linkClass p k n m = (if (M.find p k n).2 = 1 then (if M.canLay p (M.find p k n).1 then ((M.find p k n).1, 1) else (M.zref, 4)) else (M.zref, 2))) := hid (fun h => by unfold M.linkClass; rw [if_pos h])
 have FIN : Hid (∀ (e : Ending) (w' : World) (b : Nat), M.linkClass p k n m = (M.zref, 2) → e = .returned (.tuple #[.agg #[.int .i64 0, .string ⟨#[]⟩], .iface 170 (.pointer (some ⟨b, 0, none⟩))]) → Blk w' b 172 #[.int .i64 2] → LodgeAt w' l p → Kp (· = l.D) w w' →
     (∃ ev, e = .returned (.tuple #[.agg #[.int .i64 (M.linkClass p k n m).1.keeper, .string (M.linkClass p k n m).1.name], ev]) ∧ ErrV w' ev (M.linkClass p k n m).2) ∧ LodgeAt w' l p ∧ Kp (· = l.D) w w') := hid (fun e w' b e1 e2 e3 e4 e5 => by
  rw [e1]
  exact ⟨⟨_, e2, .inr ⟨by decide, b, rfl, e3⟩⟩, e4, e5⟩)
 cases h1 : M.has p k
 · have H1 := hid h1
   have HN : Hid (M.linkClass p k n m = (M.zref, 2)) := hid (hno.out (by rw [h1]; simp))
   clear h1
   go_enter Tryz.func95, Tryz.ntmps95
   go_wp2_with (go_at_call 26; refine (lodge_has _ _ _ H.out _).mono ?_; rintro e w1 ⟨rfl, rfl⟩; rw [H1.out])
   refine bodyPost_ret (v := .tuple #[.agg #[.int .i64 0, .string ⟨#[]⟩], .iface 170 (.pointer (some ⟨w.heap.size + 1, 0, none⟩))]) (by simp [results, Tryz.results95, go_sem, c0, c1]) rfl ?_
   refine FIN.out _ _ _ HN.out rfl ?_ (H0.out.ext (KX.k (by repeat (first | assumption | constructor)))) ((KX.k (by repeat (first | assumption | constructor))) : Ext w _).any
   have := Blk.new (w.alloc (.cells #[.int .i64 0, .string ⟨#[]⟩] 76)) 172 #[.int .i64 2]
   simpa only [World.size_alloc] using this
 have H1 := hid h1
 cases h2 : M.namOk n
 · have H2 := hid h2
   have HN : Hid (M.linkClass p k n m = (M.zref, 2)) := hid (hno.out (by rw [h2]; simp))
   clear h1 h2
   go_enter Tryz.func95, Tryz.ntmps95
   go_wp2_with (first | (go_at_call 26; refine (lodge_has _ _ _ H.out _).mono ?_; rintro e w1 ⟨rfl, rfl⟩; rw [H1.out]) | (go_at_call 33; refine (nam_ok _ _).mono ?_; rintro e w1 ⟨rfl, rfl⟩; rw [H2.out]))
   refine bodyPost_ret (v := .tuple #[.agg #[.int .i64 0, .string ⟨#[]⟩], .iface 170 (.pointer (some ⟨w.heap.size + 1, 0, none⟩))]) (by simp [results, Tryz.results95, go_sem, c0, c1]) rfl ?_
   refine FIN.out _ _ _ HN.out rfl ?_ (H0.out.ext (KX.k (by repeat (first | assumption | constructor)))) ((KX.k (by repeat (first | assumption | constructor))) : Ext w _).any
   have := Blk.new (w.alloc (.cells #[.int .i64 0, .string ⟨#[]⟩] 76)) 172 #[.int .i64 2]
   simpa only [World.size_alloc] using this
 have H2 := hid h2
 cases h3 : M.namOk m
 · have H3 := hid h3
   have HN : Hid (M.linkClass p k n m = (M.zref, 2)) := hid (hno.out (by rw [h3]; simp))
   clear h1 h2 h3
   go_enter Tryz.func95, Tryz.ntmps95
   go_wp2_with fail
   refine (lodge_has _ _ _ H.out _).mono ?_
   rintro e w1 ⟨rfl, rfl⟩
   rw [H1.out]
   go_wp2_with fail
   refine (nam_ok _ _).mono ?_
   rintro e w1 ⟨rfl, rfl⟩
   rw [H2.out]
   go_wp2_with fail
   refine (nam_ok _ _).mono ?_
   rintro e w1 ⟨rfl, rfl⟩
   rw [H3.out]
   go_wp2
   refine bodyPost_ret (v := .tuple #[.agg #[.int .i64 0, .string ⟨#[]⟩], .iface 170 (.pointer (some ⟨w.heap.size + 1, 0, none⟩))]) (by simp [results, Tryz.results95, go_sem, c0, c1]) rfl ?_
   refine FIN.out _ _ _ HN.out rfl ?_ (H0.out.ext (KX.k (by repeat (first | assumption | constructor)))) ((KX.k (by repeat (first | assumption | constructor))) : Ext w _).any
   have := Blk.new (w.alloc (.cells #[.int .i64 0, .string ⟨#[]⟩] 76)) 172 #[.int .i64 2]
   simpa only [World.size_alloc] using this
 have H3 := hid h3
 have HY := hid (hyes.out (by rw [h1, h2, h3]; rfl))
 clear h1 h2 h3 hno hyes
 go_enter Tryz.func95, Tryz.ntmps95
 go_wp2_with fail
 refine (lodge_has _ _ _ H.out _).mono ?_
 rintro e w1 ⟨rfl, rfl⟩
 rw [H1.out]
 go_wp2_with fail
 refine (nam_ok _ _).mono ?_
 rintro e w1 ⟨rfl, rfl⟩
 rw [H2.out]
 go_wp2_with fail
 refine (nam_ok _ _).mono ?_
 rintro e w1 ⟨rfl, rfl⟩
 rw [H3.out]
 go_wp2_with fail
 refine (lodge_find _ _ _ H.out _ _).mono ?_
 rintro e w1 ⟨rfl, hB⟩
 have b81 := b8.ext hB
 have q0 := b81.c 0 _ rfl
 have q1 := b81.c 1 _ rfl
 have f0 := b81.frozen 0
 have f1 := b81.frozen 1
 have hz := b81.lt
 have hE1 : Ext w w1 := hE0.trans hB
 have HL1 := hid (H0.out.ext hE1)
 clear c0 c1 H hB b8
 have HSET : Hid (∀ (W : World) (u v : Value), Kp (· = w.heap.size) W ((W.setCell ⟨w.heap.size, 0, none⟩ u).setCell ⟨w.heap.size, 1, none⟩ v)) := hid (fun W u v => ((Kp.refl (· = w.heap.size) W).setCell (p := ⟨w.heap.size, 0, none⟩) (fun _ => rfl) _).setCell (p := ⟨w.heap.size, 1, none⟩) (fun _ => rfl) _)
 have HBLK : Hid (∀ (W : World) (u v x : Value), Blk (((W.setCell ⟨w.heap.size, 0, none⟩ u).setCell ⟨w.heap.size, 1, none⟩ v).alloc (.cells #[x] 172)) W.heap.size 172 #[x]) := hid (fun W u v x => by
  have := Blk.new ((W.setCell ⟨w.heap.size, 0, none⟩ u).setCell ⟨w.heap.size, 1, none⟩ v) 172 #[x]
  simpa using this)
 generalize M.find p k n = F at *
 obtain ⟨⟨fk, fn⟩, code⟩ := F
 simp only at *
 by_cases hc : code = 1
 · subst hc
   have bF := Blk.new w1 76 #[.int .i64 fk, .string fn]
   go_wp2_with fail
   refine (lodge_canLay _ _ _ (HL1.out.ext ((Kp.refl _ _).alloc (.cells #[.int .i64 fk, .string fn] 76))) ⟨fk, fn⟩).mono ?_
   rintro e w2 ⟨rfl, hL2, hK2⟩
   have hD1 : l.D < w1.heap.size := by have := hE1.size; omega
   have bF2 := bF.kp hK2 (by omega)
   have b82 := (b81.ext ((Kp.refl _ _).alloc (.cells #[.int .i64 fk, .string fn] 76))).kp hK2 (by omega)
   have u0 := bF2.c 0 _ rfl
   have u1 := bF2.c 1 _ rfl
   have uz := bF2.lt
   have r0 := b82.c 0 _ rfl
   have r1 := b82.c 1 _ rfl
   have e0 := b82.frozen 0
   have e1 := b82.frozen 1
   have ez := b82.lt
   have hKw : Kp (· = l.D) w w2 := ((hE1.alloc _).any).trans hK2
   clear q0 q1 f0 f1 b81 bF hK2
   have hset : Kp (· = w.heap.size) w2 ((w2.setCell ⟨w.heap.size, 0, none⟩ (.int .i64 0)).setCell ⟨w.heap.size, 1, none⟩ (.string ⟨#[]⟩)) := ((Kp.refl (· = w.heap.size) w2).setCell (p := ⟨w.heap.size, 0, none⟩) (fun _ => rfl) _).setCell (p := ⟨w.heap.size, 1, none⟩) (fun _ => rfl) _
   clear hset
   have HL2 := hid hL2
   cases hcan : M.canLay p ⟨fk, fn⟩
   · have HN : Hid (M.linkClass p k n m = (M.zref, 4)) := hid (by rw [HY.out, hcan]; rfl)
     clear hcan
     go_wp2
     refine bodyPost_ret (v := .tuple #[.agg #[.int .i64 0, .string ⟨#[]⟩], .iface 170 (.pointer (some ⟨w2.heap.size, 0, none⟩))]) (by simp [results, Tryz.results95, go_sem, r0, r1, ez]) rfl ?_
     have hset := HSET.out w2 (.int .i64 0) (.string ⟨#[]⟩)
     rw [HN.out]
     exact ⟨⟨_, rfl, .inr ⟨by decide, _, rfl, HBLK.out w2 _ _ _⟩⟩, (HL2.out.kp hset (fun j hj e => by omega)).ext ((Kp.refl _ _).alloc _), (hKw.own hset (fun j hj => by omega)).alloc _⟩
   · have HN : Hid (M.linkClass p k n m = (⟨fk, fn⟩, 1)) := hid (by rw [HY.out, hcan]; rfl)
     clear hcan
     go_wp2
     refine bodyPost_ret (v := .tuple #[.agg #[.int .i64 fk, .string fn], Value.nilIface]) (by simp [results, Tryz.results95, go_sem, r0, r1, ez]) rfl ?_
     have hset := HSET.out w2 (.int .i64 fk) (.string fn)
     rw [HN.out]
     exact ⟨⟨_, rfl, .inl ⟨rfl, rfl⟩⟩, HL2.out.kp hset (fun j hj e => by omega), hKw.own hset (fun j hj => by omega)⟩
 · have hc' : (code != 1) = true := bne_iff_ne.2 hc
   have HN : Hid (M.linkClass p k n m = (M.zref, 2)) := hid (by rw [HY.out, if_neg hc])
   clear hc HY
   go_wp2
   refine bodyPost_ret (v := .tuple #[.agg #[.int .i64 0, .string ⟨#[]⟩], .iface 170 (.pointer (some ⟨w1.heap.size + 1, 0, none⟩))]) (by simp [results, Tryz.results95, go_sem, q0, q1, hz]) rfl ?_
   have hset := HSET.out w1 (.int .i64 0) (.string ⟨#[]⟩)
   refine FIN.out _ _ _ HN.out rfl ?_ ((HL1.out.kp hset (fun j hj e => by omega)).ext (((Kp.refl _ _).alloc _).alloc _)) (((hE1.any.own hset (fun j hj => by omega)).alloc _).alloc _)
   have := Blk.new (((w1.setCell ⟨w.heap.size, 0, none⟩ (.int .i64 0)).setCell ⟨w.heap.size, 1, none⟩ (.string ⟨#[]⟩)).alloc (.cells #[.int .i64 fk, .string fn] 76)) 172 #[.int .i64 2]
   simpa using this
theorem elem_val : Elem 103 34 2 := elem_of (z := .agg #[.int .i64 0, .int .i64 0]) (bytes := 16) Tryz.underlying103 (by kernel_rfl) rfl (by decide) (by decide)
theorem CellsAt.ofB {w : World} {b : Nat} {t : TypeId} {cs : Array Value} (h : Blk w b t cs) : CellsAt w b 0 cs.toList := by
 intro j v hj
 rw [Nat.zero_add]
 exact h.c j v (by simpa using hj)
theorem CellsAt.newA {W : World} {g : Nat} (t : TypeId) (cs : Array Value) (h : W.heap.size = g) : CellsAt (W.alloc (.cells cs t)) g 0 cs.toList := by
 subst h
 exact CellsAt.ofB (Blk.new W t cs)
theorem owns_val {w : World} {base e k n : Nat} {v : Value} {xs : List Value} (h : w.ownsRow base e k v n xs) : ∃ a c, v = .slice a n c := by
 rcases h.2 with ⟨rfl, rfl⟩ | ⟨g, c, cur, rfl, _⟩
 · exact ⟨_, _, rfl⟩
 · exact ⟨_, _, rfl⟩
theorem owns_lt {w : World} {base e k n : Nat} {v : Value} {xs : List Value} (h : w.ownsRow base e k v n xs) {g : Nat} (hg : v.ownBlock = some g) : base ≤ g ∧ g < w.heap.size := h.lt g hg
theorem step_append_one {t e k : Nat} (E : Elem t e k) {ops : Array Oper} {o : Oper} {a : Act} {w : World} {K : Act → World → Prop} {Q : Exit → Act → World → Prop} {E' : Prop} (hgd : o.guard = none) (s x : Operand)
    (ho : o.op = .call { callee := .builtin .append, args := #[s, x], argTypes := #[t, t] }) (base : Nat) (v : Value) (n : Nat) (xs : List Value) (hs : a.eval s = v) (hown : w.ownsRow base e k v n xs)
    (g c : Nat) (news : List Value) (hx : a.eval x = .slice (some ⟨g, 0, none⟩) 1 c) (hl : news.length = k) (hnews : CellsAt w g 0 news) (h1 : ∀ u ∈ news, u.oneCell' = true)
    (hn : n + 1 ≤ 4294967296) (hbase : base ≤ w.heap.size)
    (h : ∀ g' c' w', w'.ownsRow base e k (.slice (some ⟨g', 0, none⟩) (n + 1) c') (n + 1) (xs ++ news) → Kp (fun b => v.ownBlock = some b) w w' → (v.ownBlock = some g' ∨ w.heap.size = g') → K (a.put o.dst (.slice (some ⟨g', 0, none⟩) (n + 1) c')) w') :
    if Region.wanted o (yielded ops a.tmps) = true then Oper.wp Tryz.prog o a w K Q else E' := by
 obtain ⟨i, z, bytes, ht, hi, hz, hsz, hby, hzs, hk, hb⟩ := E
 refine step_append_lies w hgd s x t ho base e i z k bytes ht hi hz hsz hby hzs hk v n xs hs hown ⟨g, 0, none⟩ 1 c news hx (by omega) ?_ h1 (by omega) (by unfold maxLen; omega) ?_ hbase w.heap.size rfl ?_
 · intro j u hj
   have := hnews j u hj
   rw [Nat.zero_add] at this
   unfold Addr.add
   split
   · rename_i hj0; subst hj0; exact this
   · simpa using this
 · have : (n + 1) * bytes ≤ 4294967296 * 4096 := Nat.mul_le_mul hn hb
   omega
 · intro g' c' w' h2 h3 h4 h5
   exact h g' c' w' h2 ⟨h3.os, h3.tape, h3.output, h3.size, fun k hk hd => h3.block k hk (fun e => hd e.symm)⟩ (h4.imp id Eq.symm)
theorem wpList_append_at {t e k : Nat} (E : Elem t e k) {ops : Array Oper} {rest : List Oper} {o : Oper} {a : Act} {w : World} {Q : Exit → Act → World → Prop} (hgd : o.guard = none) (s x : Operand)
    (ho : o.op = .call { callee := .builtin .append, args := #[s, x], argTypes := #[t, t] }) (base : Nat) (v : Value) (n : Nat) (xs : List Value) (hs : a.eval s = v) (hown : w.ownsRow base e k v n xs)
    (g c : Nat) (news : List Value) (hx : a.eval x = .slice (some ⟨g, 0, none⟩) 1 c) (hl : news.length = k) (hnews : CellsAt w g 0 news) (h1 : ∀ u ∈ news, u.oneCell' = true)
    (hn : n + 1 ≤ 4294967296) (hbase : base ≤ w.heap.size)
    (h : ∀ g' c' w', w'.ownsRow base e k (.slice (some ⟨g', 0, none⟩) (n + 1) c') (n + 1) (xs ++ news) → Kp (fun b => v.ownBlock = some b) w w' → (v.ownBlock = some g' ∨ w.heap.size = g') → wpList Tryz.prog ops Q rest (a.put o.dst (.slice (some ⟨g', 0, none⟩) (n + 1) c')) w') :
    wpList Tryz.prog ops Q (o :: rest) a w := by
 obtain ⟨i, z, bytes, ht, hi, hz, hsz, hby, hzs, hk, hb⟩ := E
 refine wpList_append_lies w hgd s x t ho base e i z k bytes ht hi hz hsz hby hzs hk v n xs hs hown ⟨g, 0, none⟩ 1 c news hx (by omega) ?_ h1 (by omega) (by unfold maxLen; omega) ?_ hbase w.heap.size rfl ?_
 · intro j u hj
   have := hnews j u hj
   rw [Nat.zero_add] at this
   unfold Addr.add
   split
   · rename_i hj0; subst hj0; exact this
   · simpa using this
 · have : (n + 1) * bytes ≤ 4294967296 * 4096 := Nat.mul_le_mul hn hb
   omega
 · intro g' c' w' h2 h3 h4 h5
   exact h g' c' w' h2 ⟨h3.os, h3.tape, h3.output, h3.size, fun k hk hd => h3.block k hk (fun e => hd e.symm)⟩ (h4.imp id Eq.symm)
theorem stack_push_full (w : World) (k o : Nat) (T : TypeId) (cs : Array Value) (vs : Value) (n : Nat) (most : Int) (hB : Blk w k T cs) (h0 : cs[o]? = some vs) (h1 : cs[o + 1]? = some (.int .i64 most)) (hv : ∃ a c, vs = .slice a n c) (x y : Int) (hlt : most ≤ (n : Int)) :
    Calls Tryz.prog 107 #[.pointer (some ⟨k, o, none⟩), .agg #[.int .i64 x, .int .i64 y]] w fun e w' => e = .returned (.bool false) ∧ Ext w w' := by
 obtain ⟨a, c, rfl⟩ := hv
 have c0 := hB.c o _ h0
 have c1 := hB.c (o + 1) _ h1
 have hz := cell_lt c0
 clear hB h0 h1
 go_enter Tryz.func107, Tryz.ntmps107
 go_wp2
 go_quiet (fail)
 go_wp2
 go_ret
 exact ⟨rfl, (KX.k (by repeat (first | assumption | constructor)))⟩
theorem stack_push (w : World) (k o B : Nat) (T : TypeId) (cs : Array Value) (vs : Value) (n : Nat) (xs : List Value) (most : Int) (hB : Blk w k T cs) (h0 : cs[o]? = some vs) (h1 : cs[o + 1]? = some (.int .i64 most))
    (x y : Int) (own : w.ownsRow B 34 2 vs n xs) (hn : n ≤ 1000) (hlt : (n : Int) < most) (hne : vs.ownBlock ≠ some k) (hb : B ≤ w.heap.size) :
    Calls Tryz.prog 107 #[.pointer (some ⟨k, o, none⟩), .agg #[.int .i64 x, .int .i64 y]] w fun e w' =>
     e = .returned (.bool true) ∧ ∃ g c, w'.ownsRow B 34 2 (.slice (some ⟨g, 0, none⟩) (n + 1) c) (n + 1) (xs ++ [.int .i64 x, .int .i64 y]) ∧ (vs.ownBlock = some g ∨ w.heap.size ≤ g) ∧
      Blk w' k T (cs.setIfInBounds o (.slice (some ⟨g, 0, none⟩) (n + 1) c)) ∧ Kp (fun b => b = k ∨ vs.ownBlock = some b) w w' := by
 obtain ⟨a, c, rfl⟩ := owns_val own
 have c0 := hB.c o _ h0
 have c1 := hB.c (o + 1) _ h1
 have f0 := hB.frozen o
 have hz := cell_lt c0
 have HB := hid hB
 have HO := hid own
 have HNE := hid hne
 have H0 := hid h0
 clear hB h0 h1 own hne
 have hlt' : (most ≤ (n : Int)) = False := by simp; omega
 have hnn : n + 1 ≤ 4294967296 := by omega
 have hE : ∀ W, Ext w W → W.ownsRow B 34 2 (.slice a n c) n xs := fun W hW => owns_kp HO.out hW fun _ _ _ x => x
 have HE := hid hE
 clear hE
 go_enter Tryz.func107, Tryz.ntmps107
 go_wp2
 go_quiet (fail)
 go_wp2
 clear c1 hlt'
 go_region_law (refine step_append_one elem_val rfl (.tmp 19) (.tmp 21) rfl B (.slice a n c) n xs rfl (HE.out _ (KX.k (by repeat (first | assumption | constructor)))) (w.heap.size + 1) 1 [.int .i64 x, .int .i64 y] (by simp [Act.eval]) rfl (CellsAt.newA _ _ (by simp)) (by simp [Value.oneCell']) hnn (by simp; omega) ?_; intro g c' w1 hO1 hK1 hg1; have hB1 := (HB.out.ext (KX.k (by repeat (first | assumption | constructor)))).kp hK1 HNE.out; have d0 := hB1.c o _ H0.out; have e0 := hB1.frozen o; have z1 := hB1.lt; have HB1 := hid hB1; have HO1 := hid hO1; have HK1 := hid hK1; have HG1 := hid hg1; clear hO1 hK1 hg1 hB1 c0 f0 hz)
 all_goals
  go_wp2
  go_ret
  refine ⟨rfl, g, c', owns_kp HO1.out ((Kp.refl (· = k) _).setCell (fun _ => rfl) _) (fun q hq _ e => ?_), ?_, HB1.out.set_ _ _, ?_⟩
  · cases hq
    have e' : g = k := e
    subst e'
    rcases HG1.out with h | h
    · exact HNE.out h
    · have := HB.out.lt; simp at h; omega
  · rcases HG1.out with h | h
    · exact .inl h
    · right; simp at h; omega
  · refine Kp.setCell (Kp.trans (((KX.k (by repeat (first | assumption | constructor))) : Ext w _).any) (HK1.out.weak fun b _ hb => .inr hb)) (fun _ => .inl rfl) _
end Go.Proofs.YtjdfceejkneofaaGreat
