/- Walks: slices are cloned.; Walks: the reference's words.; Walks: what the reference lets be turned, and its text.; A region that draws its order, whose operations only read and whose callees leav; A region that draws its order, in which some operations write: those that only r; Walks: the reference's text of what is turned.; The plain words of a line that is read; what the reference reads as a keeper's n; Eight cells that are stored. -/
import Derived.Test.YtkndccgackohnaaGreatDoorChgReada
import Derived.Deep.Quiet
import Derived.Deep.RegionWith
import Derived.Deep.RegionHeld3
import Derived.StillTailTactics
set_option maxRecDepth 100000
set_option maxHeartbeats 4000000
set_option linter.unusedSimpArgs false
set_option linter.unusedVariables false
namespace Go.Proofs.YtkndccgackohnaaGreatDoor
open Go Go.RowKit
open Go.Lib (hid)
def valCs (v : M.Val) : List Value := [.int .i64 v.kind, .int .i64 v.n]
def ValL : Lies M.Val := fun _ _ x cs => cs = valCs x
theorem ValL.stays : Stays ValL := fun _ _ _ _ _ _ _ _ h => h
def tagCs (t : M.Tag) : List Value := [.int .i64 t.kind, .string t.name]
def intCs (n : Int) : List Value := [.int .i64 n]
theorem elem_tag : Elem 119 146 2 := elem_of (z := .agg #[.int .i64 0, .string ⟨#[]⟩]) (bytes := 24) Tryz.underlying119 (by kernel_rfl) rfl (by decide) (by decide)
theorem flat_get {α : Type} {enc : α → List Value} {k : Nat} (hek : ∀ x, (enc x).length = k) : ∀ (l : List α) (j : Nat) (u : Value), (l.flatMap enc)[j]? = some u → ∃ i r x, l[i]? = some x ∧ (enc x)[r]? = some u ∧ j = i * k + r := by
 intro l
 induction l with
 | nil => intro j u h; simp at h
 | cons x t ih =>
  intro j u h
  rw [List.flatMap_cons] at h
  rcases Nat.lt_or_ge j (enc x).length with hj | hj
  · rw [List.getElem?_append_left hj] at h
    exact ⟨0, j, x, rfl, h, by omega⟩
  · rw [List.getElem?_append_right hj] at h
    obtain ⟨i, r, y, h1, h2, h3⟩ := ih _ _ h
    refine ⟨i + 1, r, y, by simpa using h1, h2, ?_⟩
    rw [hek] at h3 hj
    rw [Nat.succ_mul]; omega
theorem flat_len {α : Type} {enc : α → List Value} {k : Nat} (hek : ∀ x, (enc x).length = k) (l : List α) : (l.flatMap enc).length = l.length * k := by
 induction l with
 | nil => simp
 | cons x t ih => rw [List.flatMap_cons, List.length_append, ih, hek, List.length_cons, Nat.succ_mul]; omega
theorem flat_one {α : Type} {enc : α → List Value} (h1 : ∀ x, ∀ u ∈ enc x, u.oneCell' = true) (l : List α) : ∀ u ∈ l.flatMap enc, u.oneCell' = true := by
 intro u hu
 obtain ⟨x, _, hx⟩ := List.mem_flatMap.1 hu
 exact h1 x u hx
theorem SliceOf.flat {α : Type} {k : Nat} {R : Lies α} {enc : α → List Value} (hR : ∀ w I x cs, R w I x cs → cs = enc x) (hek : ∀ x, (enc x).length = k) {w : World} {I : Nat → Prop} {ad : Addr} {n cap : Nat} {xs : List α}
    (h : SliceOf k R w I (.slice (some ad) n cap) xs) : ∀ j u, (xs.flatMap enc)[j]? = some u → w.cell? (ad.add j) = some u := by
 intro j u hu
 obtain ⟨i, r, x, h1, h2, rfl⟩ := flat_get hek xs j u hu
 obtain ⟨b, off, cs, e, _, hr, hl, hc⟩ := h.get h1
 cases e
 have e2 := hR _ _ _ _ hr
 subst e2
 have := hc r u h2
 unfold Addr.add
 split
 · rename_i h0
   have e1 : i * k = 0 := by omega
   have e3 : r = 0 := by omega
   rw [e1, e3] at this
   exact this
 · simpa [Nat.add_assoc] using this
theorem one_val (x : M.Val) : ∀ u ∈ valCs x, u.oneCell' = true := by simp [valCs, Value.oneCell']
theorem one_tag (x : M.Tag) : ∀ u ∈ tagCs x, u.oneCell' = true := by simp [tagCs, Value.oneCell']
theorem one_int (x : Int) : ∀ u ∈ intCs x, u.oneCell' = true := by simp [intCs, Value.oneCell']
structure Flat (w : World) (k : Nat) (v : Value) (n : Nat) (xs : List Value) : Prop where
 len : xs.length = n * k
 ex : ∃ a c, v = .slice a n c ∧ (a = none → n = 0) ∧ ∀ ad, a = some ad → ∀ j u, xs[j]? = some u → w.cell? (ad.add j) = some u
 one : ∀ u ∈ xs, u.oneCell' = true
theorem SliceOf.toFlat {α : Type} {k : Nat} {R : Lies α} {enc : α → List Value} (hR : ∀ w I x cs, R w I x cs → cs = enc x) (hek : ∀ x, (enc x).length = k) (h1 : ∀ x, ∀ u ∈ enc x, u.oneCell' = true) {w : World} {I : Nat → Prop} {v : Value} {xs : List α}
    (h : SliceOf k R w I v xs) : Flat w k v xs.length (xs.flatMap enc) := by
 obtain ⟨a, c, rfl, _⟩ := h.form
 refine ⟨flat_len hek xs, ⟨a, c, rfl, ?_, ?_⟩, flat_one h1 xs⟩
 · rintro rfl
   cases xs with
   | nil => rfl
   | cons x r =>
    obtain ⟨_, _, _, e, _⟩ := h.get (i := 0) (x := x) rfl
    cases e
 · rintro ad rfl
   exact h.flat hR hek
theorem owns_flat {w : World} {base e k n : Nat} {v : Value} {xs : List Value} (h : w.ownsRow base e k v n xs) (h1 : ∀ u ∈ xs, u.oneCell' = true) : Flat w k v n xs := by
 refine ⟨h.1, ?_, h1⟩
 rcases h.2 with ⟨rfl, rfl⟩ | ⟨g, c, cur, rfl, _⟩
 · exact ⟨none, 0, rfl, fun _ => rfl, fun _ e => by cases e⟩
 · exact ⟨_, c, rfl, (fun e => by cases e), fun ad e => by cases e; exact h.cells rfl⟩
theorem owns_flat_drop {w : World} {base e k n c g : Nat} {xs : List Value} (h : w.ownsRow base e k (.slice (some ⟨g, 0, none⟩) n c) n xs) (h1 : ∀ u ∈ xs, u.oneCell' = true) {i : Nat} (c' : Nat) :
    Flat w k (.slice (some ⟨g, i * k, none⟩) (n - i) c') (n - i) (xs.drop (i * k)) := by
 refine ⟨by rw [List.length_drop, h.1, Nat.sub_mul], ⟨_, c', rfl, (fun e => by cases e), fun ad e j u hu => ?_⟩, fun u hu => h1 u (List.mem_of_mem_drop hu)⟩
 cases e
 rw [List.getElem?_drop] at hu
 have := h.cells (g := g) rfl _ _ hu
 unfold Addr.add at this ⊢
 split at this <;> split
 · rename_i h2 h3; rw [show i * k = 0 by omega]; exact this
 · omega
 · rename_i h2 h3; rw [h3] at this; simpa using this
 · simpa using this
theorem cell_lt' {w : World} {ad : Addr} {v : Value} (h : w.cell? ad = some v) : ad.block < w.heap.size := by
 rcases Nat.lt_or_ge ad.block w.heap.size with h1 | h1
 · exact h1
 · simp [World.cell?, Array.getElem?_eq_none h1] at h
theorem Flat.ext {w w' : World} {k n : Nat} {v : Value} {xs : List Value} (h : Flat w k v n xs) (hE : Ext w w') : Flat w' k v n xs := by
 obtain ⟨h1, ⟨a, c, e, h2, h3⟩, h4⟩ := h
 exact ⟨h1, ⟨a, c, e, h2, fun ad ea j u hu => (World.cell?_of_block (hE.block _ (cell_lt' (h3 ad ea j u hu)) fun x => x)).trans (h3 ad ea j u hu)⟩, h4⟩
theorem wpList_append_flat {t e k : Nat} (E : Elem t e k) (w : World) {ops : Array Oper} {rest : List Oper} {o : Oper} {a : Act} {Q : Exit → Act → World → Prop} (hgd : o.guard = none) (s x : Operand)
    (ho : o.op = .call { callee := .builtin .append, args := #[s, x], argTypes := #[t, t] }) (base : Nat) (v : Value) (n : Nat) (xs : List Value) (hs : a.eval s = v) (hown : w.ownsRow base e k v n xs)
    (ad : Addr) (m c : Nat) (news : List Value) (hx : a.eval x = .slice (some ad) m c) (hf : Flat w k (.slice (some ad) m c) m news)
    (hn : n + m ≤ 8589934592) (hbase : base ≤ w.heap.size)
    (h : ∀ v' w', w'.ownsRow base e k v' (n + m) (xs ++ news) → Kp (fun b => v.ownBlock = some b) w w' → wpList Tryz.prog ops Q rest (a.put o.dst v') w') :
    wpList Tryz.prog ops Q (o :: rest) a w := by
 obtain ⟨i, z, bytes, ht, hi, hz, hsz, hby, hzs, hk, hb⟩ := E
 obtain ⟨f1, ⟨a1, c1, e1, _, f2⟩, f3⟩ := hf
 cases e1
 refine wpList_append_own w hgd s x t ho base e i z k bytes ht hi hz hsz hby hzs hk v n xs hs hown ad m c news hx f1 (f2 ad rfl) f3 (by unfold maxLen; omega) ?_ hbase ?_
 · have : (n + m) * bytes ≤ 8589934592 * 4096 := Nat.mul_le_mul hn hb
   omega
 · intro v' w' h2 h3 _
   exact h v' w' h2 ⟨h3.os, h3.tape, h3.output, h3.size, fun k hk hd => h3.block k hk (fun e => hd e.symm)⟩
theorem owns_empty (W : World) (e k : Nat) (B : Nat) (hB : B ≤ W.heap.size) (g : Nat) (hg : W.heap.size = g) : (W.alloc (.cells #[] e)).ownsRow B e k (.slice (some ⟨g, 0, none⟩) 0 0) 0 [] := by
 subst hg
 exact ⟨by simp, .inr ⟨_, 0, #[], rfl, hB, heap_alloc_new W _, Nat.le_refl _, by simp, by simp, by simp⟩⟩
end Go.Proofs.YtkndccgackohnaaGreatDoor
namespace Go.Proofs.YtkndccgackohnaaGreatDoor
open Go Go.RowKit
open Go.Lib (hid)
def strCs (s : ByteArray) : List Value := [.string s]
def StrL : Lies ByteArray := fun _ _ x cs => cs = strCs x
theorem StrL.stays : Stays StrL := fun _ _ _ _ _ _ _ _ h => h
theorem one_str (x : ByteArray) : ∀ u ∈ strCs x, u.oneCell' = true := by simp [strCs, Value.oneCell']
theorem elem_str : Elem 40 9 1 := elem_of (z := .string ⟨#[]⟩) (bytes := 16) Tryz.underlying40 (by kernel_rfl) rfl (by decide) (by decide)
namespace M
theorem bs_app (a b : List UInt8) : bs a ++ bs b = bs (a ++ b) := by
 apply ByteArray.ext
 apply Array.toList_inj.1
 simp [bs]
theorem bs_one (s : ByteArray) (k : Nat) (h : k < s.size) : s.extract k (k + 1) = bs [s[k]] := by
 apply ByteArray.ext
 apply Array.toList_inj.1
 rw [Lib.extract_data]
 have hl : k < s.data.toList.length := by simpa using h
 rw [List.drop_eq_getElem_cons hl]
 simp [bs]
 rfl
theorem words_step {s : ByteArray} {k : Nat} (h : k < s.size) : s.data.toList.drop k = s[k] :: s.data.toList.drop (k + 1) := by
 have hl : k < s.data.toList.length := by simpa using h
 rw [List.drop_eq_getElem_cons hl]
 rfl
end M
theorem sp_words (s : ByteArray) (w : World) (hs : s.size ≤ 4000000000) :
    Calls Tryz.prog 18 #[.string s] w fun e w' => (∃ v, e = .returned v ∧ SliceOf 1 StrL w' (fun b => w.heap.size ≤ b ∧ b < w'.heap.size) v (M.words s)) ∧ Ext w w' := by
 have hO : (w.alloc (.cells #[] 9)).ownsRow w.heap.size 9 1 (.slice (some ⟨w.heap.size, 0, none⟩) 0 0) 0 [] := owns_empty w 9 1 w.heap.size (Nat.le_refl _) _ rfl
 have HO := hid hO
 clear hO
 go_enter Tryz.func18, Tryz.ntmps18
 go_wp2_with fail
 go_loopw [3, 4, 5] (fun o c i wr => ∃ (k : Nat) (cur : List UInt8) (ps : List ByteArray), k ≤ s.size ∧ i = .int .i64 k ∧ c = .string (M.bs cur) ∧ cur.length ≤ k ∧ ps.length ≤ k ∧ Hid (ps.map (·.data.toList) ++ M.wordsGo cur (s.data.toList.drop k) = M.wordsGo [] s.data.toList) ∧
     wr.ownsRow w.heap.size 9 1 o ps.length (ps.flatMap strCs) ∧ Ext w wr) (fun _ _ i _ => s.size - (intOf i).toNat)
 case atStart => exact ⟨0, [], [], Nat.zero_le _, rfl, rfl, Nat.le_refl _, Nat.le_refl _, hid (by simp), HO.out, (Kp.refl _ _).alloc _⟩
 case round =>
  obtain ⟨k, cur, ps, hk, rfl, rfl, hcl, hpl, HW, hown, hE⟩ := hrel
  obtain ⟨oa, oc, rfl⟩ := owns_val hown
  have HOW := hid hown
  have HE := hid hE
  clear hown hE
  have hcz := bs_size cur
  by_cases hlt : k < s.size
  · have HST := hid (M.words_step hlt)
    by_cases hsp : ((s[k]).toNat : Int) = 32
    · go_wp2_with (refine wpList_append_at elem_str rfl (.tmp 17) (.tmp 19) rfl w.heap.size (.slice oa ps.length oc) ps.length (ps.flatMap strCs) rfl (owns_kp (D := fun _ => False) HOW.out ((Kp.refl _ _).alloc _) fun _ _ _ x => x) wr.heap.size 1 (strCs (M.bs cur)) rfl rfl (CellsAt.newA _ _ rfl) (one_str _) (by omega) (by have := HE.out.size; simp; omega) ?_; rintro g9 c9 w9 hO9 hK9 hg9)
      have hE9 : Ext w w9 := Kp.own (HE.out.alloc _) hK9 (fun b hb => (owns_lt HOW.out hb).1)
      go_round
      case rel =>
       refine ⟨k + 1, [], ps ++ [M.bs cur], by omega, by go_num, rfl, by simp, by simp; omega, hid ?_, by simpa using hO9, hE9⟩
       have h1 : s[k] = 32 := by
        apply UInt8.toNat_inj.1
        simp; omega
       have h2 := HW.out
       rw [HST.out, M.wordsGo, if_pos h1] at h2
       rw [← h2]
       simp [M.bs]
      case measure => simp [intOf]; omega
    · have hx := M.bs_one s k hlt
      have hz1 := bs_size [s[k]]
      simp only [List.length_singleton] at hz1
      go_wp2_with fail
      go_round
      case rel =>
       refine ⟨k + 1, cur ++ [s[k]], ps, by omega, by go_num, by rw [M.bs_app], by simp; omega, by omega, hid ?_, HOW.out, HE.out⟩
       have h1 : s[k] ≠ 32 := fun e => hsp (by rw [e]; rfl)
       have h2 := HW.out
       rw [HST.out, M.wordsGo, if_neg h1] at h2
       exact h2
      case measure => simp [intOf]; omega
  · go_wp2_with (refine wpList_append_at elem_str rfl (.tmp 28) (.tmp 30) rfl w.heap.size (.slice oa ps.length oc) ps.length (ps.flatMap strCs) rfl (owns_kp (D := fun _ => False) HOW.out ((Kp.refl _ _).alloc _) fun _ _ _ x => x) wr.heap.size 1 (strCs (M.bs cur)) rfl rfl (CellsAt.newA _ _ rfl) (one_str _) (by omega) (by have := HE.out.size; simp; omega) ?_; rintro g9 c9 w9 hO9 hK9 hg9)
    have hE9 : Ext w w9 := Kp.own (HE.out.alloc _) hK9 (fun b hb => (owns_lt HOW.out hb).1)
    go_ret
    refine ⟨⟨_, rfl, ?_⟩, hE9⟩
    have hk2 : k = s.size := by omega
    have h2 := HW.out
    rw [hk2, List.drop_of_length_le (by simp), M.wordsGo] at h2
    have hw : M.words s = ps ++ [M.bs cur] := by
     unfold M.words
     rw [← h2, List.map_append, List.map_map]
     congr 1
     exact List.map_id _
    rw [hw]
    have h3 := SliceOf.of_owns (R := StrL) (I := fun b => w.heap.size ≤ b ∧ b < w9.heap.size) strCs (l := ps ++ [M.bs cur]) hO9 (by simp) (by simp) (fun _ _ => rfl) (fun _ _ => rfl) (fun b h1 h2 => ⟨h1, h2⟩) (by simp; omega)
    simpa using h3
end Go.Proofs.YtkndccgackohnaaGreatDoor
namespace Go.Proofs.YtkndccgackohnaaGreatDoor
open Go Go.RowKit
open Go.Lib (hid)
namespace M
def clsNone (nm su : ByteArray) (n1 n2 : Nat) : Bool := decide (nm = none_) && (decide (su = none_) && (decide (n1 = 0) && decide (n2 = 0)))
end M
theorem sp_none (nm su : ByteArray) (a1 : Option Addr) (n1 c1 : Nat) (a2 : Option Addr) (n2 c2 : Nat) (w : World) :
    Calls Tryz.prog 35 #[.agg #[.string nm, .string su, .slice a1 n1 c1, .slice a2 n2 c2]] w fun e w' => e = .returned (.bool (M.clsNone nm su n1 n2)) ∧ Ext w w' := by
 unfold M.clsNone
 rw [← toList_isEmpty nm, ← toList_isEmpty su]
 cases h1 : nm.toList.isEmpty
 · go_enter Tryz.func35, Tryz.ntmps35
   go_wp2_with fail
   go_ret
   exact ⟨rfl, (by repeat (first | with_reducible exact Kp.refl _ _ | with_reducible assumption | with_reducible refine Kp.alloc ?_ _ | with_reducible refine Kp.drew ?_ | with_reducible refine Kp.drewN ?_ _ | with_reducible refine Kp.setCell ?_ (fun h => absurd h (by simp <;> omega)) _ | with_reducible refine Kp.trans ?_ (by with_reducible assumption) | exact Kp.refl _ _ | assumption | refine Kp.alloc ?_ _ | refine Kp.drew ?_ | refine Kp.drewN ?_ _ | (refine Kp.setCell ?_ (fun h => absurd h (by simp; done)) _) | (refine Kp.setCell ?_ (fun h => absurd h (by simp; omega)) _) | refine Kp.trans ?_ (by assumption)))⟩
 cases h2 : su.toList.isEmpty
 · go_enter Tryz.func35, Tryz.ntmps35
   go_wp2_with fail
   go_ret
   exact ⟨rfl, (by repeat (first | with_reducible exact Kp.refl _ _ | with_reducible assumption | with_reducible refine Kp.alloc ?_ _ | with_reducible refine Kp.drew ?_ | with_reducible refine Kp.drewN ?_ _ | with_reducible refine Kp.setCell ?_ (fun h => absurd h (by simp <;> omega)) _ | with_reducible refine Kp.trans ?_ (by with_reducible assumption) | exact Kp.refl _ _ | assumption | refine Kp.alloc ?_ _ | refine Kp.drew ?_ | refine Kp.drewN ?_ _ | (refine Kp.setCell ?_ (fun h => absurd h (by simp; done)) _) | (refine Kp.setCell ?_ (fun h => absurd h (by simp; omega)) _) | refine Kp.trans ?_ (by assumption)))⟩
 by_cases h3 : n1 = 0
 · subst h3
   by_cases h4 : n2 = 0
   · subst h4
     go_enter Tryz.func35, Tryz.ntmps35
     go_wp2_with fail
     go_ret
     exact ⟨rfl, (by repeat (first | with_reducible exact Kp.refl _ _ | with_reducible assumption | with_reducible refine Kp.alloc ?_ _ | with_reducible refine Kp.drew ?_ | with_reducible refine Kp.drewN ?_ _ | with_reducible refine Kp.setCell ?_ (fun h => absurd h (by simp <;> omega)) _ | with_reducible refine Kp.trans ?_ (by with_reducible assumption) | exact Kp.refl _ _ | assumption | refine Kp.alloc ?_ _ | refine Kp.drew ?_ | refine Kp.drewN ?_ _ | (refine Kp.setCell ?_ (fun h => absurd h (by simp; done)) _) | (refine Kp.setCell ?_ (fun h => absurd h (by simp; omega)) _) | refine Kp.trans ?_ (by assumption)))⟩
   · have h4' : ((n2 : Int) == 0) = false := beq_eq_false_iff_ne.2 (by omega)
     have H4 : Hid (decide (n2 = 0) = false) := hid (decide_eq_false h4)
     clear h4
     go_enter Tryz.func35, Tryz.ntmps35
     go_wp2_with fail
     go_ret
     exact ⟨by rw [H4.out]; rfl, (by repeat (first | with_reducible exact Kp.refl _ _ | with_reducible assumption | with_reducible refine Kp.alloc ?_ _ | with_reducible refine Kp.drew ?_ | with_reducible refine Kp.drewN ?_ _ | with_reducible refine Kp.setCell ?_ (fun h => absurd h (by simp <;> omega)) _ | with_reducible refine Kp.trans ?_ (by with_reducible assumption) | exact Kp.refl _ _ | assumption | refine Kp.alloc ?_ _ | refine Kp.drew ?_ | refine Kp.drewN ?_ _ | (refine Kp.setCell ?_ (fun h => absurd h (by simp; done)) _) | (refine Kp.setCell ?_ (fun h => absurd h (by simp; omega)) _) | refine Kp.trans ?_ (by assumption)))⟩
 · have h3' : ((n1 : Int) == 0) = false := beq_eq_false_iff_ne.2 (by omega)
   have H3 : Hid (decide (n1 = 0) = false) := hid (decide_eq_false h3)
   clear h3
   go_enter Tryz.func35, Tryz.ntmps35
   go_wp2_with fail
   go_ret
   exact ⟨by rw [H3.out]; rfl, (by repeat (first | with_reducible exact Kp.refl _ _ | with_reducible assumption | with_reducible refine Kp.alloc ?_ _ | with_reducible refine Kp.drew ?_ | with_reducible refine Kp.drewN ?_ _ | with_reducible refine Kp.setCell ?_ (fun h => absurd h (by simp <;> omega)) _ | with_reducible refine Kp.trans ?_ (by with_reducible assumption) | exact Kp.refl _ _ | assumption | refine Kp.alloc ?_ _ | refine Kp.drew ?_ | refine Kp.drewN ?_ _ | (refine Kp.setCell ?_ (fun h => absurd h (by simp; done)) _) | (refine Kp.setCell ?_ (fun h => absurd h (by simp; omega)) _) | refine Kp.trans ?_ (by assumption)))⟩
def chgCs (c : M.Chg) (nm su : ByteArray) (a1 : Option Addr) (n1 c1 : Nat) (a2 : Option Addr) (n2 c2 : Nat) : List Value :=
 [.int .i64 c.kind, .int .i64 c.keeper, .string c.name, .int .i64 c.dst, .string nm, .string su, .slice a1 n1 c1, .slice a2 n2 c2]
theorem sp_chg_ok (c : M.Chg) (hk1 : c.kind ≠ 1) (nm su : ByteArray) (a1 : Option Addr) (n1 c1 : Nat) (a2 : Option Addr) (n2 c2 : Nat) (w : World) :
    Calls Tryz.prog 16 #[.agg (chgCs c nm su a1 n1 c1 a2 n2 c2).toArray] w fun e w' => e = .returned (.bool (M.chgOk c && M.clsNone nm su n1 n2)) ∧ Ext w w' := by
 obtain ⟨kind, keeper, name, dst⟩ := c
 simp only [chgCs] at hk1 ⊢
 obtain ⟨w0, hw0⟩ : ∃ w0, w0 = w.alloc (.cells #[.int .i64 kind, .int .i64 keeper, .string name, .int .i64 dst, .string nm, .string su, .slice a1 n1 c1, .slice a2 n2 c2] 27) := ⟨_, rfl⟩
 have hE0 : Ext w w0 := by rw [hw0]; exact (by repeat (first | with_reducible exact Kp.refl _ _ | with_reducible assumption | with_reducible refine Kp.alloc ?_ _ | with_reducible refine Kp.drew ?_ | with_reducible refine Kp.drewN ?_ _ | with_reducible refine Kp.setCell ?_ (fun h => absurd h (by simp <;> omega)) _ | with_reducible refine Kp.trans ?_ (by with_reducible assumption) | exact Kp.refl _ _ | assumption | refine Kp.alloc ?_ _ | refine Kp.drew ?_ | refine Kp.drewN ?_ _ | (refine Kp.setCell ?_ (fun h => absurd h (by simp; done)) _) | (refine Kp.setCell ?_ (fun h => absurd h (by simp; omega)) _) | refine Kp.trans ?_ (by assumption)))
 have hb : Blk w0 w.heap.size 27 #[.int .i64 kind, .int .i64 keeper, .string name, .int .i64 dst, .string nm, .string su, .slice a1 n1 c1, .slice a2 n2 c2] := by rw [hw0]; exact Blk.new _ _ _
 have HE0 := hid hE0
 have HB := hid hb
 have HW0 := hid hw0
 clear hE0 hb hw0
 have hk1' : (kind != 1) = true := by simpa using hk1
 have hk1e : (kind == 1) = false := beq_eq_false_iff_ne.2 hk1
 have HV : Hid (M.chgOk ⟨kind, keeper, name, dst⟩ = ((decide (0 ≤ keeper) && decide (keeper ≤ 2)) && (M.namOk name && (if kind = 3 then decide (0 ≤ dst) && decide (dst ≤ 2) else (decide (kind = 2) || decide (kind = 4)) && decide (dst = 0))))) := hid (by unfold M.chgOk; rw [Bool.and_assoc])
 have c0 := HB.out.c 0 (.int .i64 kind) rfl
 have c1' := HB.out.c 1 (.int .i64 keeper) rfl
 have c2' := HB.out.c 2 (.string name) rfl
 have c3 := HB.out.c 3 (.int .i64 dst) rfl
 have c4 := HB.out.c 4 (.string nm) rfl
 have c5 := HB.out.c 5 (.string su) rfl
 have c6 := HB.out.c 6 (.slice a1 n1 c1) rfl
 have c7 := HB.out.c 7 (.slice a2 n2 c2) rfl
 have cz := HB.out.lt
 have HIN := fun W => hid (sp_in keeper 0 2 W)
 have HNM := fun W => hid (sp_nam_ok name W)
 cases h1 : (decide (0 ≤ keeper) && decide (keeper ≤ 2))
 · simp only [h1] at HIN HV
   go_enter Tryz.func16, Tryz.ntmps16
   go_wp2_with fail
   rw [← HW0.out]
   refine (HIN w0).out.mono ?_
   rintro e w1 ⟨rfl, rfl⟩
   go_wp2_with fail
   go_ret
   exact ⟨by rw [HV.out]; rfl, HE0.out⟩
 cases h2 : M.namOk name
 · simp only [h1, h2] at HIN HNM HV
   go_enter Tryz.func16, Tryz.ntmps16
   go_wp2_with fail
   rw [← HW0.out]
   refine (HIN w0).out.mono ?_
   rintro e w1 ⟨rfl, rfl⟩
   go_wp2_with fail
   refine (HNM w0).out.mono ?_
   rintro e w1 ⟨rfl, rfl⟩
   go_wp2_with fail
   go_ret
   exact ⟨by rw [HV.out]; rfl, HE0.out⟩
 simp only [h1, h2] at HIN HNM HV
 have HNO := fun W => hid (sp_none nm su a1 n1 c1 a2 n2 c2 W)
 cases h3 : M.clsNone nm su n1 n2
 · simp only [h3] at HNO
   have HR : Hid ((M.chgOk ⟨kind, keeper, name, dst⟩ && false) = false) := hid (Bool.and_false _)
   go_enter Tryz.func16, Tryz.ntmps16
   go_wp2_with fail
   rw [← HW0.out]
   refine (HIN w0).out.mono ?_
   rintro e w1 ⟨rfl, rfl⟩
   go_wp2_with fail
   refine (HNM w0).out.mono ?_
   rintro e w1 ⟨rfl, rfl⟩
   go_wp2_with fail
   refine (HNO w0).out.mono ?_
   rintro e w1 ⟨rfl, hE1⟩
   have hb1 := HB.out.ext hE1
   have d0 := hb1.c 0 (.int .i64 kind) rfl
   have d3 := hb1.c 3 (.int .i64 dst) rfl
   have dz := hb1.lt
   have HE1 := hid (HE0.out.trans hE1)
   clear hb1 hE1
   go_wp2_with fail
   go_ret
   exact ⟨by rw [HR.out]; rfl, HE1.out⟩
 simp only [h3] at HNO
 rw [Bool.and_true]
 by_cases hk3 : kind = 3
 · have hk3e : (kind == 3) = true := beq_iff_eq.2 hk3
   have HR : Hid (M.chgOk ⟨kind, keeper, name, dst⟩ = (decide (0 ≤ dst) && decide (dst ≤ 2))) := hid (by rw [HV.out, if_pos hk3]; rfl)
   have HIN2 := fun W => hid (sp_in dst 0 2 W)
   clear hk3 hk1
   go_enter Tryz.func16, Tryz.ntmps16
   go_wp2_with fail
   rw [← HW0.out]
   refine (HIN w0).out.mono ?_
   rintro e w1 ⟨rfl, rfl⟩
   go_wp2_with fail
   refine (HNM w0).out.mono ?_
   rintro e w1 ⟨rfl, rfl⟩
   go_wp2_with fail
   refine (HNO w0).out.mono ?_
   rintro e w1 ⟨rfl, hE1⟩
   have hb1 := HB.out.ext hE1
   have d0 := hb1.c 0 (.int .i64 kind) rfl
   have d3 := hb1.c 3 (.int .i64 dst) rfl
   have dz := hb1.lt
   have HE1 := hid (HE0.out.trans hE1)
   clear hb1 hE1
   go_wp2_with fail
   refine (HIN2 w1).out.mono ?_
   rintro e w2 ⟨rfl, rfl⟩
   go_wp2_with fail
   go_ret
   exact ⟨by rw [HR.out]; rfl, HE1.out⟩
 have hk3e : (kind == 3) = false := beq_eq_false_iff_ne.2 hk3
 have HR : Hid (M.chgOk ⟨kind, keeper, name, dst⟩ = ((decide (kind = 2) || decide (kind = 4)) && decide (dst = 0))) := hid (by rw [HV.out, if_neg hk3]; rfl)
 cases h4 : (kind == 2)
 · cases h5 : (kind == 4)
   · have HR2 : Hid (M.chgOk ⟨kind, keeper, name, dst⟩ = false) := hid (by rw [HR.out, decide_eq_false (beq_eq_false_iff_ne.1 h4), decide_eq_false (beq_eq_false_iff_ne.1 h5)]; rfl)
     clear hk3 hk1
     go_enter Tryz.func16, Tryz.ntmps16
     go_wp2_with fail
     rw [← HW0.out]
     refine (HIN w0).out.mono ?_
     rintro e w1 ⟨rfl, rfl⟩
     go_wp2_with fail
     refine (HNM w0).out.mono ?_
     rintro e w1 ⟨rfl, rfl⟩
     go_wp2_with fail
     refine (HNO w0).out.mono ?_
     rintro e w1 ⟨rfl, hE1⟩
     have hb1 := HB.out.ext hE1
     have d0 := hb1.c 0 (.int .i64 kind) rfl
     have d3 := hb1.c 3 (.int .i64 dst) rfl
     have dz := hb1.lt
     have HE1 := hid (HE0.out.trans hE1)
     clear hb1 hE1
     go_wp2_with fail
     go_ret
     exact ⟨by rw [HR2.out]; rfl, HE1.out⟩
   · cases h6 : (dst == 0)
     all_goals
      have HR2 : Hid (M.chgOk ⟨kind, keeper, name, dst⟩ = (dst == 0)) := hid (by rw [HR.out, decide_eq_true (beq_iff_eq.1 h5), Bool.or_true, Bool.true_and]; by_cases e : dst = 0 <;> simp [e])
      rw [h6] at HR2
      clear hk3 hk1
      go_enter Tryz.func16, Tryz.ntmps16
      go_wp2_with fail
      rw [← HW0.out]
      refine (HIN w0).out.mono ?_
      rintro e w1 ⟨rfl, rfl⟩
      go_wp2_with fail
      refine (HNM w0).out.mono ?_
      rintro e w1 ⟨rfl, rfl⟩
      go_wp2_with fail
      refine (HNO w0).out.mono ?_
      rintro e w1 ⟨rfl, hE1⟩
      have hb1 := HB.out.ext hE1
      have d0 := hb1.c 0 (.int .i64 kind) rfl
      have d3 := hb1.c 3 (.int .i64 dst) rfl
      have dz := hb1.lt
      have HE1 := hid (HE0.out.trans hE1)
      clear hb1 hE1
      go_wp2_with fail
      go_ret
      exact ⟨by rw [HR2.out]; rfl, HE1.out⟩
 · cases h6 : (dst == 0)
   all_goals
    have HR2 : Hid (M.chgOk ⟨kind, keeper, name, dst⟩ = (dst == 0)) := hid (by rw [HR.out, decide_eq_true (beq_iff_eq.1 h4), Bool.true_or, Bool.true_and]; by_cases e : dst = 0 <;> simp [e])
    rw [h6] at HR2
    clear hk3 hk1
    go_enter Tryz.func16, Tryz.ntmps16
    go_wp2_with fail
    rw [← HW0.out]
    refine (HIN w0).out.mono ?_
    rintro e w1 ⟨rfl, rfl⟩
    go_wp2_with fail
    refine (HNM w0).out.mono ?_
    rintro e w1 ⟨rfl, rfl⟩
    go_wp2_with fail
    refine (HNO w0).out.mono ?_
    rintro e w1 ⟨rfl, hE1⟩
    have hb1 := HB.out.ext hE1
    have d0 := hb1.c 0 (.int .i64 kind) rfl
    have d3 := hb1.c 3 (.int .i64 dst) rfl
    have dz := hb1.lt
    have HE1 := hid (HE0.out.trans hE1)
    clear hb1 hE1
    go_wp2_with fail
    go_ret
    exact ⟨by rw [HR2.out]; rfl, HE1.out⟩
end Go.Proofs.YtkndccgackohnaaGreatDoor
namespace Go.Proofs.YtkndccgackohnaaGreatDoor
open Go Go.RowKit
open Go.Lib (hid)
structure Cls (C : World → Prop) (T : Type) (f : T → World) : Prop where
 inn : ∀ s, C (f s)
 out : ∀ W, C W → ∃ s, W = f s
theorem Cls.ex (C : World → Prop) (w : World) (h : C w) : ∃ (T : Type) (f : T → World), Nonempty T ∧ Cls C T f := ⟨{ W : World // C W }, Subtype.val, ⟨⟨w, h⟩⟩, fun s => s.2, fun W h => ⟨⟨W, h⟩, rfl⟩⟩
theorem region_in {P : Program} {id : Nat} {Q : Exit → Act → World → Prop} {a : Act} {w : World} {l : List Oper} {T : Type} (f : T → World) (h0 : ∃ s, w.drew = f s) (hm : P.follows .mixedOrders = true) (hB : Region.lexB .any l.toArray = true)
    (h : wpQuiet P l.toArray (fun w' => ∃ s, w' = f s) (fun a' => ∀ w', (∃ s, w' = f s) → Q .normal a' w') l a) : (Code.region id l.toArray true).wp P Q a w :=
 wp_region_quiet (C := fun w' => ∃ s, w' = f s) hm hB h0 (by simpa using h)
end Go.Proofs.YtkndccgackohnaaGreatDoor
namespace Go.Proofs.YtkndccgackohnaaGreatDoor
open Go Go.RowKit
def pureOp (o : Oper) : Bool :=
 match o.op with
 | .move _ | .assign _ | .load _ _ | .fieldAddr _ _ _ | .indexAddr _ _ _ | .binOp _ _ _ _ _ | .unOp _ _ _ | .field _ _ _ | .build _ _ | .extract _ _ | .slice _ _ _ _ _ | .nilCheck _ | .index _ _ _ | .pick _ _ _ => true
 | .call c => (match c.callee with | .builtin .len => true | _ => false)
 | _ => false
theorem not_enter_v {P : Program} {w w' : World} {s : Sem Value} {f : FuncId} {args : Array Value} : Sem.run P (do pure (Next.value (← s)) : Sem Next) w ≠ .ok (.enter f args) w' := by
 simp only [Sem.run_bind]
 cases Sem.run P s w <;> simp [Result.andThen]
theorem not_enter_bind {α : Type} {P : Program} {w w' : World} {s : Sem α} {k : α → Sem Next} {f : FuncId} {args : Array Value} (h : ∀ x w1, Sem.run P (k x) w1 ≠ .ok (.enter f args) w') : Sem.run P (s >>= k) w ≠ .ok (.enter f args) w' := by
 rw [Sem.run_bind]
 cases Sem.run P s w with
 | ok x w1 => exact h x w1
 | halt _ _ => simp [Result.andThen]
theorem pure_noEnter {P : Program} {o : Oper} (h : pureOp o = true) (a : Act) (w w' : World) (f : FuncId) (args : Array Value) : (execOp a.eval o).run P w ≠ .ok (.enter f args) w' := by
 unfold pureOp at h
 unfold execOp
 split at h
 any_goals (rename_i he; simp only [he]; first | exact not_enter_v | (simp; done))
 case h_12 =>
  rename_i he
  simp only [he]
  split
  any_goals (first | (simp; done) | (simp [runtimePanic]; done))
  split
  any_goals (first | (simp; done) | (simp [runtimePanic]; done))
  refine not_enter_bind fun _ _ => not_enter_bind fun _ _ => ?_
  split
  · refine not_enter_bind fun _ _ => ?_
    simp
  · simp
 case h_14 =>
  rename_i he
  simp only [he]
  refine not_enter_bind fun _ _ => ?_
  simp
 case h_15 =>
  rename_i c he
  simp only [he]
  split at h
  · rename_i hc
    simp only [resolve, hc, Sem.run_bind, Sem.run_pure, Result.andThen_ok, invoke, builtin]
    cases Sem.run P (Builtin.len_ c.argTypes o.type (Array.map a.eval c.args)) w <;> simp [Result.andThen]
  · cases h
 case h_16 => cases h
section
variable {P : Program} {ops : Array Oper} {md : Region.Mode} {Q : Exit → Act → World → Prop} {C : World → Prop} {n : Nat}
def YieldsC (P : Program) (ops : Array Oper) (C : World → Prop) (o : Oper) (v : Value) (a : Act) : Prop :=
 (Region.wanted o (yielded ops a.tmps) = true ∧ ∀ w, C w → (execOp a.eval o).run P w = .ok (.value v) w ∨ ((execOp a.eval o).run P w = .ok .skip w ∧ v = undef)) ∨
 (Region.wanted o (yielded ops a.tmps) = false ∧ v = undef)
theorem yieldsC_of_quiet {o : Oper} {a : Act} {K : Act → Prop} (hp : pureOp o = true) (h : if Region.wanted o (yielded ops a.tmps) then o.quiet P a C K else K (a.put o.dst undef)) : ∃ v, YieldsC P ops C o v a ∧ K (a.put o.dst v) := by
 cases hw : Region.wanted o (yielded ops a.tmps)
 · rw [hw] at h
   exact ⟨undef, .inr ⟨hw, rfl⟩, by simpa using h⟩
 · rw [hw] at h
   obtain ⟨v, h1, h2⟩ : o.quiet P a C K := by simpa using h
   refine ⟨v, .inl ⟨hw, fun w hw' => ?_⟩, h2⟩
   have h3 := h1 w hw'
   unfold Oper.quietAt at h3
   generalize hr : (execOp a.eval o).run P w = r at h3
   unfold Oper.quietUpon at h3
   split at h3
   · obtain ⟨rfl, rfl⟩ := h3; exact .inl rfl
   · obtain ⟨rfl, rfl⟩ := h3; exact .inr ⟨rfl, rfl⟩
   · exact absurd hr (pure_noEnter hp a _ _ _ _)
   · exact h3.elim
theorem YieldsC.wpOp {i : Nat} {o : Oper} {v : Value} {a : Act} (hi : ops[i]? = some o) (hy : YieldsC P ops C o v a) {K : Act → World → Prop} {w : World} (hC : C w) (h : K (a.put o.dst v) w) : wpOp P ops Q i K a w := by
 unfold Go.wpOp
 simp only [hi]
 rcases hy with ⟨hw, hv⟩ | ⟨hw, rfl⟩
 · simp only [hw, if_true]
   rcases hv w hC with e | ⟨e, rfl⟩
   · simp only [Oper.wp, e, Oper.upon]; exact .inl h
   · simp only [Oper.wp, e, Oper.upon]; exact .inl h
 · simp only [hw, Bool.false_eq_true, if_false]; exact h
theorem YieldsC.of_same {o : Oper} {v : Value} {a a' : Act} (hy : YieldsC P ops C o v a) (he : execOp a'.eval o = execOp a.eval o)
    (hw : Region.wanted o (yielded ops a'.tmps) = Region.wanted o (yielded ops a.tmps)) : YieldsC P ops C o v a' := by
 unfold YieldsC at *
 rw [he, hw]
 exact hy
theorem wpOp_putC {j : Nat} {oi oj : Oper} {v : Value} (hj : ops[j]? = some oj) (hap : oi.apart ops oj = true)
    (hsi : ∀ cs b, oi.op ≠ .select cs b) (hsj : ∀ cs b, oj.op ≠ .select cs b)
    (hQ : ∀ c a w, Q (.panic c) (a.put oi.dst v) w → Q (.panic c) a w) {K : Act → World → Prop} {a : Act} {w : World}
    (hy : YieldsC P ops C oi v a) (h : wpOp P ops Q j K (a.put oi.dst v) w) :
    wpOp P ops Q j (fun a' w' => YieldsC P ops C oi v a' ∧ K (a'.put oi.dst v) w') a w := by
 obtain ⟨h1, h2, h3⟩ := Oper.apart_spec hap
 have keep : ∀ (a : Act), YieldsC P ops C oi v a → ∀ u, YieldsC P ops C oi v (a.put oj.dst u) := fun a hy u =>
  hy.of_same (execOp_put oi hsi a oj.dst u h3) (wanted_put oi a oj.dst u h3)
 have keepD : ∀ d, YieldsC P ops C oi v { a with defers := d :: a.defers } := fun d => hy.of_same rfl rfl
 unfold wpOp at *
 simp only [hj] at *
 rw [wanted_put oj a oi.dst v h1] at h
 split
 · rename_i hw
   simp only [hw, if_true] at h
   rcases h with h | ⟨hasks, hlets⟩
   case inr => exact .inr ⟨by unfold Oper.asks at *; rw [execOp_put oj hsj a oi.dst v h1] at hasks; exact hasks, hlets⟩
   refine .inl ?_
   unfold Oper.wp at *
   rw [execOp_put oj hsj a oi.dst v h1] at h
   generalize (execOp a.eval oj).run P w = r at *
   cases r with
   | ok n w' =>
    cases n <;> simp only [Oper.upon] at h ⊢
    case value u => exact ⟨keep a hy u, by rw [← Act.put_comm a v u h2]; exact h⟩
    case skip => exact ⟨keep a hy _, by rw [← Act.put_comm a v undef h2]; exact h⟩
    case defer d =>
     refine ⟨keep _ (keepD d) _, ?_⟩
     rw [← Act.put_comm _ v undef h2, ← Act.put_defers]
     exact h
    case enter f args =>
     refine Calls.mono h fun e w'' he => ?_
     cases e with
     | returned u => exact ⟨keep a hy u, by rw [← Act.put_comm a v u h2]; exact he⟩
     | panicked c => exact hQ _ _ _ he
     | outgrown => exact he
    case row row args => exact Rows.mono h fun u w'' he => ⟨keep a hy u, by rw [← Act.put_comm a v u h2]; exact he⟩
   | halt x w' =>
    cases x <;> simp only [Oper.upon] at h ⊢
    case panic u => exact hQ _ _ _ h
 · rename_i hw
   simp only [hw] at h
   exact ⟨keep a hy _, by rw [← Act.put_comm a v undef h2]; exact h⟩
def wpAnyC (P : Program) (md : Region.Mode) (ops : Array Oper) (n : Nat) (C : World → Prop) (Q : Exit → Act → World → Prop) : Nat → Array Bool → Act → World → Prop
 | 0, listed, a, w => Region.ready md ops listed = [] ∧ Q .normal a w
 | fuel + 1, listed, a, w =>
  (Region.ready md ops listed = [] → Q .normal a w) ∧
  ∀ i ∈ Region.ready md ops listed, wpOp P ops Q i (fun a' w' => (i < n → C w') ∧ wpAnyC P md ops n C Q fuel (listed.setIfInBounds i true) a' w') a w
theorem wpAny_of_C : ∀ (fuel : Nat) (listed : Array Bool) (a : Act) (w : World), wpAnyC P md ops n C Q fuel listed a w → wpAny P md ops Q fuel listed a w
 | 0, _, _, _, h => h
 | fuel + 1, _, _, _, h => ⟨h.1, fun i hi => wpOp_mono (fun a' w' h' => wpAny_of_C fuel _ a' w' h'.2) (h.2 i hi)⟩
theorem wpAnyC_first {i : Nat} {oi : Oper} {v : Value} (hi : ops[i]? = some oi) (hsel : ∀ (j : Nat) (o : Oper) cs b, ops[j]? = some o → o.op ≠ .select cs b)
    (hQ : ∀ c a w, Q (.panic c) (a.put oi.dst v) w → Q (.panic c) a w) (htail : ∀ j, n ≤ j → Region.waitsFor md ops j i = true ∨ ops[j]? = none) :
    ∀ (fuel : Nat) (listed : Array Bool) (a : Act) (w : World),
     (∀ j oj, ops[j]? = some oj → j ≠ i → listed.getD j true = false → (∀ e ∈ oj.after, Region.binds md e = true → e.on ≠ i) → oi.apart ops oj = true) →
     i ∈ Region.ready md ops listed → YieldsC P ops C oi v a → C w → i < n →
     wpAnyC P md ops n C Q fuel (listed.setIfInBounds i true) (a.put oi.dst v) w → wpAnyC P md ops n C Q (fuel + 1) listed a w := by
 intro fuel
 induction fuel with
 | zero =>
  intro listed a w _ hr hy hC hin H
  refine ⟨fun h => (by rw [h] at hr; cases hr), fun j hj => ?_⟩
  by_cases hji : j = i
  · subst hji; exact hy.wpOp hi hC ⟨fun _ => hC, H⟩
  · have := ready_mono hj hji
    rw [H.1] at this
    cases this
 | succ fuel ih =>
  intro listed a w hfree hr hy hC hin H
  refine ⟨fun h => (by rw [h] at hr; cases hr), fun j hj => ?_⟩
  by_cases hji : j = i
  · subst hji; exact hy.wpOp hi hC ⟨fun _ => hC, H⟩
  · have h1 := H.2 j (ready_mono hj hji)
    obtain ⟨hjun, oj, hoj, hall⟩ := mem_ready.1 hj
    have hnot : ∀ e ∈ oj.after, Region.binds md e = true → e.on ≠ i := fun e he hb heq => by
     have h1 := hall e he hb
     have h0 := (mem_ready.1 hr).1
     rw [heq] at h1
     rcases Nat.lt_or_ge i listed.size with h' | h'
     · simp [h'] at h0 h1; rw [h0] at h1; cases h1
     · simp [Array.getElem?_eq_none h'] at h1
    have hjn : j < n := by
     rcases Nat.lt_or_ge j n with h | h
     · exact h
     · rcases htail j h with hw | hw
       · obtain ⟨oj', hoj', e, he, hb, heq⟩ := Region.waitsFor_spec hw
         rw [hoj] at hoj'
         cases hoj'
         exact absurd heq (hnot e he hb)
       · rw [hoj] at hw; cases hw
    have h2 := wpOp_putC hoj (hfree j oj hoj hji hjun hnot) (fun cs b => hsel i oi cs b hi) (fun cs b => hsel j oj cs b hoj) hQ hy h1
    have hfree' : ∀ k ok, ops[k]? = some ok → k ≠ i → (listed.setIfInBounds j true).getD k true = false →
        (∀ e ∈ ok.after, Region.binds md e = true → e.on ≠ i) → oi.apart ops ok = true := fun k ok hk hki hun hno => by
     refine hfree k ok hk hki ?_ hno
     by_cases hjk : j = k
     · subst hjk; exact hjun
     · rw [getD_set_ne true hjk] at hun; exact hun
    refine wpOp_mono (fun a' w' h3 => ⟨fun _ => h3.2.1 hjn, ih (listed.setIfInBounds j true) a' w' hfree' (ready_mono hr (Ne.symm hji)) h3.1 (h3.2.1 hjn) hin ?_⟩) h2
    rw [Array.setIfInBounds_comm _ _ hji]
    exact h3.2.2
def okQ (md : Region.Mode) (ops : Array Oper) (n : Nat) : List Nat → Array Bool → Option (Array Bool)
 | [], listed => some listed
 | i :: q, listed =>
  if decide (i < n) && (Region.ready md ops listed).contains i && Region.free md ops listed i && ((ops[i]?).map pureOp).getD false then okQ md ops n q (listed.setIfInBounds i true) else none
def mixB (md : Region.Mode) (ops : Array Oper) (n : Nat) : List (List Nat × Nat) → List Nat → Array Bool → Bool
 | [], q, listed => match okQ md ops n q listed with
  | some L => Region.seqB md ops (ops.size - n) n L
  | none => false
 | (q, i) :: r, q', listed => match okQ md ops n q listed with
  | some L => decide (Region.ready md ops L = [i]) && decide (i < n) && mixB md ops n r q' (L.setIfInBounds i true)
  | none => false
def costs : List (List Nat × Nat) → List Nat → Nat
 | [], q => q.length
 | (q, _) :: r, q' => q.length + 1 + costs r q'
def tailB (md : Region.Mode) (ops : Array Oper) (n : Nat) : Bool := (List.range ops.size).all fun j => decide (j < n) || (List.range n).all fun i => Region.waitsFor md ops j i
def goodB (ops : Array Oper) (n : Nat) (segs : List (List Nat × Nat)) (q : List Nat) : Bool :=
 Region.noSelect ops && tailB .any ops n && decide (costs segs q = n) && decide (n ≤ ops.size) && mixB .any ops n segs q (Array.replicate ops.size false)
def wpMix (P : Program) (l : List Oper) (C : World → Prop) (Q : Exit → Act → World → Prop) (fin : Act → World → Prop) : List (List Nat × Nat) → List Nat → Act → World → Prop
 | [], q, a, w => wpQuiet P l.toArray C (fun a' => fin a' w) (q.filterMap (l[·]?)) a
 | (q, i) :: r, q', a, w => wpQuiet P l.toArray C (fun a' => wpList P l.toArray (Exit.then (fun a'' w' => C w' ∧ wpMix P l C Q fin r q' a'' w') Q) (l[i]?).toList a' w) (q.filterMap (l[·]?)) a
theorem tail_spec (h : tailB md ops n = true) {i : Nat} (hi : i < n) (j : Nat) (hj : n ≤ j) : Region.waitsFor md ops j i = true ∨ ops[j]? = none := by
 rcases Nat.lt_or_ge j ops.size with hlt | hge
 · unfold tailB at h
   have h1 := List.all_eq_true.1 h j (List.mem_range.2 hlt)
   simp only [Bool.or_eq_true, decide_eq_true_eq, List.all_eq_true] at h1
   rcases h1 with h1 | h1
   · omega
   · exact .inl (h1 i (List.mem_range.2 hi))
 · exact .inr (Array.getElem?_eq_none hge)
theorem quiet_sound {l : List Oper} (hs : Region.noSelect l.toArray = true) (ht : tailB md l.toArray n = true) (hQ : ∀ c a d v w, Q (.panic c) (a.put d v) w → Q (.panic c) a w) {K : Act → Prop} {w : World} (hC : C w) (fuel : Nat) (L : Array Bool)
    (hK : ∀ a', K a' → wpAnyC P md l.toArray n C Q fuel L a' w) : ∀ (q : List Nat) (listed : Array Bool) (a : Act), okQ md l.toArray n q listed = some L →
    wpQuiet P l.toArray C K (q.filterMap (l[·]?)) a → wpAnyC P md l.toArray n C Q (fuel + q.length) listed a w
 | [], listed, a, ho, h => by
  simp only [okQ, Option.some.injEq] at ho
  subst ho
  exact hK a h
 | i :: q, listed, a, ho, h => by
  unfold okQ at ho
  split at ho
  · rename_i hb
    simp only [Bool.and_eq_true, decide_eq_true_eq] at hb
    obtain ⟨⟨⟨h1, h2⟩, h3⟩, h4⟩ := hb
    cases hoi : l[i]? with
    | none => simp [hoi] at h4
    | some o =>
     have hoi' : l.toArray[i]? = some o := by simpa using hoi
     have hp : pureOp o = true := by simpa [hoi] using h4
     rw [List.filterMap_cons, hoi] at h
     simp only [wpQuiet] at h
     obtain ⟨v, hy, hk⟩ := yieldsC_of_quiet hp h
     have := quiet_sound hs ht hQ hC fuel L hK q _ _ ho hk
     exact wpAnyC_first hoi' (Region.noSelect_spec hs) (fun c a w => hQ c a _ _ w) (tail_spec ht h1) _ _ _ _ (Region.free_spec hoi' h3) (by simpa using h2) hy hC h1 this
  · cases ho
theorem seqC_sound {l : List Oper} : ∀ (t : List Oper) (k : Nat) (listed : Array Bool) (a : Act) (w : World), n ≤ k → (∀ j, t[j]? = l[k + j]?) →
    Region.seqB md l.toArray t.length k listed = true → wpList P l.toArray Q t a w → wpAnyC P md l.toArray n C Q t.length listed a w
 | [], _, _, _, _, _, _, hB, h => ⟨by simpa [Region.seqB] using hB, h⟩
 | o :: t, k, listed, a, w, hk, hl, hB, h => by
  have h0 : l.toArray[k]? = some o := by simpa using (hl 0).symm
  simp only [List.length_cons, Region.seqB, Bool.and_eq_true, decide_eq_true_eq] at hB
  refine ⟨fun h1 => (by rw [hB.1] at h1; cases h1), fun i hi => ?_⟩
  rw [hB.1] at hi
  have hik : i = k := by simpa using hi
  subst hik
  have hw : wpOp P l.toArray Q i (wpList P l.toArray Q t) a w := by unfold wpOp; simp only [h0]; exact h
  exact wpOp_mono (fun a' w' h' => ⟨fun hlt => absurd hlt (Nat.not_lt.2 hk), seqC_sound t (i + 1) _ a' w' (by omega) (fun j => by have := hl (j + 1); simpa [Nat.add_assoc, Nat.add_comm 1 j] using this) hB.2 h'⟩) hw
theorem wp_then {o : Oper} {a : Act} {w : World} {next K : Act → World → Prop} (h : o.wp P a w next (Exit.then K Q)) : o.wp P a w next Q := by
 unfold Oper.wp at *
 generalize (execOp a.eval o).run P w = r at *
 cases r with
 | ok n w' =>
  cases n <;> simp only [Oper.upon] at h ⊢
  case value u => exact h
  case skip => exact h
  case defer d => exact h
  case enter f args =>
   refine Calls.mono h fun e w'' he => ?_
   cases e with
   | returned u => exact he
   | panicked c => exact he
   | outgrown => exact he
  case row row args => exact h
 | halt x w' =>
  cases x <;> simp only [Oper.upon] at h ⊢
  case panic u => exact h
theorem mix_sound {l : List Oper} (hs : Region.noSelect l.toArray = true) (ht : tailB md l.toArray n = true) (hQ : ∀ c a d v w, Q (.panic c) (a.put d v) w → Q (.panic c) a w) (hn : n ≤ l.length) : ∀ (segs : List (List Nat × Nat)) (q' : List Nat) (listed : Array Bool) (a : Act) (w : World), C w →
    mixB md l.toArray n segs q' listed = true → wpMix P l C Q (fun a' w' => wpList P l.toArray Q (l.drop n) a' w') segs q' a w → wpAnyC P md l.toArray n C Q ((l.length - n) + costs segs q') listed a w
 | [], q', listed, a, w, hC, hB, h => by
  unfold mixB at hB
  split at hB
  · rename_i L hL
    refine quiet_sound hs ht hQ hC _ L (fun a' hk => ?_) q' listed a hL h
    have := seqC_sound (md := md) (C := C) (l := l) (l.drop n) n L a' w (Nat.le_refl _) (fun j => by simp [List.getElem?_drop]) (by simpa using hB) hk
    simpa using this
  · cases hB
 | (q, i) :: r, q', listed, a, w, hC, hB, h => by
  unfold mixB at hB
  split at hB
  · rename_i L hL
    simp only [Bool.and_eq_true, decide_eq_true_eq] at hB
    obtain ⟨⟨hr, hin⟩, hB⟩ := hB
    have e : l.length - n + costs ((q, i) :: r) q' = ((l.length - n + costs r q') + 1) + q.length := by simp [costs]; omega
    rw [e]
    refine quiet_sound hs ht hQ hC _ L (fun a' hk => ?_) q listed a hL h
    refine ⟨fun h1 => (by rw [hr] at h1; cases h1), fun j hj => ?_⟩
    rw [hr] at hj
    have hji : j = i := by simpa using hj
    subst hji
    cases hoi : l[j]? with
    | none =>
     exfalso
     have : j ∈ Region.ready md l.toArray L := by rw [hr]; simp
     obtain ⟨_, o, ho, _⟩ := mem_ready.1 this
     simp [hoi] at ho
    | some o =>
     rw [hoi] at hk
     simp only [Option.toList, wpList] at hk
     unfold wpOp
     have hoi' : l.toArray[j]? = some o := by simpa using hoi
     simp only [hoi']
     have step : ∀ a'' w', C w' ∧ wpMix P l C Q (fun a' w' => wpList P l.toArray Q (l.drop n) a' w') r q' a'' w' → (j < n → C w') ∧ wpAnyC P md l.toArray n C Q (l.length - n + costs r q') (L.setIfInBounds j true) a'' w' :=
      fun a'' w' h3 => ⟨fun _ => h3.1, mix_sound hs ht hQ hn r q' _ a'' w' h3.1 hB h3.2⟩
     split
     · rename_i hw
       rw [if_pos hw] at hk
       rcases hk with hk | hk
       · left
         exact Oper.wp_mono (fun a'' w' h' => step a'' w' h') (wp_then hk)
       · right; exact hk
     · rename_i hw
       rw [if_neg hw] at hk
       exact step _ _ hk
  · cases hB
end
theorem wpMix_nil {P : Program} {l : List Oper} {C : World → Prop} {Q : Exit → Act → World → Prop} {fin : Act → World → Prop} {q : List Nat} {a : Act} {w : World} {qs : List Oper} (he : q.filterMap (l[·]?) = qs)
    (h : ∀ K : Act → Prop, (∀ a', fin a' w → K a') → wpQuiet P l.toArray C K qs a) : wpMix P l C Q fin [] q a w := by
 subst he
 exact h _ fun _ h => h
theorem wpMix_cons {P : Program} {l : List Oper} {C : World → Prop} {Q : Exit → Act → World → Prop} {fin : Act → World → Prop} {q : List Nat} {i : Nat} {r : List (List Nat × Nat)} {q' : List Nat} {a : Act} {w : World} {qs os : List Oper} (he : q.filterMap (l[·]?) = qs) (ho : (l[i]?).toList = os)
    (h : ∀ K : Act → Prop, (∀ a', (∀ K2 : Act → World → Prop, (∀ a'' w', C w' → wpMix P l C Q fin r q' a'' w' → K2 a'' w') → wpList P l.toArray (Exit.then K2 Q) os a' w) → K a') → wpQuiet P l.toArray C K qs a) : wpMix P l C Q fin ((q, i) :: r) q' a w := by
 subst he ho
 refine h _ fun a' h2 => ?_
 exact h2 _ fun _ _ h3 h4 => ⟨h3, h4⟩
theorem region_mix {P : Program} {id : Nat} {Q : Exit → Act → World → Prop} {a : Act} {w : World} {l : List Oper} {T : Type} (f : T → World) (n : Nat) (segs : List (List Nat × Nat)) (q : List Nat) (h0 : ∃ s, w.drew = f s) (hm : P.follows .mixedOrders = true) (hB : goodB l.toArray n segs q = true)
    (hQ : ∀ c a d v w, Q (.panic c) (a.put d v) w → Q (.panic c) a w)
    (h : wpMix P l (fun w' => ∃ s, w' = f s) Q (fun a' w' => wpList P l.toArray Q (l.drop n) a' w') segs q a w.drew) : (Code.region id l.toArray true).wp P Q a w := by
 unfold goodB at hB
 simp only [Bool.and_eq_true, decide_eq_true_eq] at hB
 obtain ⟨⟨⟨⟨h1, h2⟩, h3⟩, h4⟩, h5⟩ := hB
 refine wp_region_any hm (wpAny_of_C (C := fun w' => ∃ s, w' = f s) (n := n) _ _ _ _ ?_)
 have := mix_sound (C := fun w' => ∃ s, w' = f s) (md := .any) h1 h2 hQ (by simpa using h4) segs q _ a w.drew h0 h5 h
 have e : l.length - n + costs segs q = l.toArray.size := by
  have : n ≤ l.length := by simpa using h4
  simp; omega
 rw [e] at this
 exact this
end Go.Proofs.YtkndccgackohnaaGreatDoor
namespace Go.Proofs.YtkndccgackohnaaGreatDoor
open Go Go.RowKit
open Go.Lib (hid)
theorem digit_size (n : Int) : (M.bs (M.digit n)).size = 1 := rfl
theorem name_size {s : ByteArray} (h : M.namOk s = true) : s.size ≤ 6 := by
 unfold M.namOk at h
 simp only [Bool.and_eq_true, decide_eq_true_eq] at h
 omega
namespace M
theorem lit_bs (l : List UInt8) : (⟨⟨l⟩⟩ : ByteArray) = bs l := rfl
theorem app_bs (s : ByteArray) (l : List UInt8) : s ++ bs l = bs (s.data.toList ++ l) := bs_app s.data.toList l
end M
def chgOut (c : M.Chg) (n : Bool) : ByteArray := if (M.chgOk c && n) = true then M.bs (M.chgLine c) else M.bs []
theorem chg_two {keeper : Int} {name t : ByteArray} (pre : List UInt8) (ht : t = M.bs (M.digit keeper)) :
    M.bs pre ++ (M.bs [32] ++ t ++ M.bs [32] ++ name) = M.bs (pre ++ 32 :: (M.digit keeper ++ 32 :: name.data.toList)) := by
 subst ht
 apply ByteArray.ext
 apply Array.toList_inj.1
 simp [M.bs]
theorem chg_three {keeper dst : Int} {name t u : ByteArray} (pre : List UInt8) (ht : t = M.bs (M.digit keeper)) (hu : u = M.bs (M.digit dst)) :
    M.bs pre ++ (M.bs [32] ++ t ++ M.bs [32] ++ name) ++ M.bs [32] ++ u = M.bs (pre ++ 32 :: (M.digit keeper ++ 32 :: (name.data.toList ++ 32 :: M.digit dst))) := by
 subst ht hu
 apply ByteArray.ext
 apply Array.toList_inj.1
 simp [M.bs]
theorem sp_chg_text (c : M.Chg) (hk1 : c.kind ≠ 1) (nm su : ByteArray) (a1 : Option Addr) (n1 c1 : Nat) (a2 : Option Addr) (n2 c2 : Nat) (w : World) :
    Calls Tryz.prog 13 #[.agg (chgCs c nm su a1 n1 c1 a2 n2 c2).toArray] w fun e w' => e = .returned (.string (chgOut c (M.clsNone nm su n1 n2))) ∧ Ext w w' := by
 have hok := fun W => sp_chg_ok c hk1 nm su a1 n1 c1 a2 n2 c2 W
 obtain ⟨kind, keeper, name, dst⟩ := c
 simp only [chgCs] at hk1 hok ⊢
 obtain ⟨w0, hw0⟩ : ∃ w0, w0 = w.alloc (.cells #[.int .i64 kind, .int .i64 keeper, .string name, .int .i64 dst, .string nm, .string su, .slice a1 n1 c1, .slice a2 n2 c2] 27) := ⟨_, rfl⟩
 have hE0 : Ext w w0 := by rw [hw0]; exact (by repeat (first | with_reducible exact Kp.refl _ _ | with_reducible assumption | with_reducible refine Kp.alloc ?_ _ | with_reducible refine Kp.drew ?_ | with_reducible refine Kp.drewN ?_ _ | with_reducible refine Kp.setCell ?_ (fun h => absurd h (by simp <;> omega)) _ | with_reducible refine Kp.trans ?_ (by with_reducible assumption) | exact Kp.refl _ _ | assumption | refine Kp.alloc ?_ _ | refine Kp.drew ?_ | refine Kp.drewN ?_ _ | (refine Kp.setCell ?_ (fun h => absurd h (by simp; done)) _) | (refine Kp.setCell ?_ (fun h => absurd h (by simp; omega)) _) | refine Kp.trans ?_ (by assumption)))
 have hb : Blk w0 w.heap.size 27 #[.int .i64 kind, .int .i64 keeper, .string name, .int .i64 dst, .string nm, .string su, .slice a1 n1 c1, .slice a2 n2 c2] := by rw [hw0]; exact Blk.new _ _ _
 have HE0 := hid hE0
 have HB := hid hb
 have HW0 := hid hw0
 clear hE0 hb hw0
 have HOK := fun W => hid (hok W)
 clear hok
 cases hB : (M.chgOk ⟨kind, keeper, name, dst⟩ && M.clsNone nm su n1 n2)
 · rw [hB] at HOK
   have HR : Hid (chgOut ⟨kind, keeper, name, dst⟩ (M.clsNone nm su n1 n2) = M.bs []) := hid (by unfold chgOut; rw [hB]; rfl)
   go_enter Tryz.func13, Tryz.ntmps13
   go_wp2_with fail
   rw [← HW0.out]
   refine (HOK w0).out.mono ?_
   rintro e w1 ⟨rfl, hE1⟩
   go_wp2_with fail
   go_ret
   exact ⟨by rw [HR.out]; rfl, HE0.out.trans hE1⟩
 rw [hB] at HOK
 have HR : Hid (chgOut ⟨kind, keeper, name, dst⟩ (M.clsNone nm su n1 n2) = M.bs (M.chgLine ⟨kind, keeper, name, dst⟩)) := hid (by unfold chgOut; rw [hB]; rfl)
 obtain ⟨g0, g2, gn, gk⟩ := M.chgOk_parts (Bool.and_eq_true_iff.1 hB).1
 simp only at g0 g2 gn gk
 have hns := name_size gn
 have GN := hid gn
 clear gn
 have HPL := fun W => hid (sp_plain keeper W (by omega) (by omega))
 go_enter Tryz.func13, Tryz.ntmps13
 go_wp2_with fail
 rw [← HW0.out]
 refine (HOK w0).out.mono ?_
 rintro e w1 ⟨rfl, hE1⟩
 have HB1 := hid (HB.out.ext hE1)
 have HE1 := hid (HE0.out.trans hE1)
 clear hE1
 obtain ⟨T, f, hneT, HT⟩ := Cls.ex (fun W' => Ext w1 W') w1 (Kp.refl _ _)
 have r1 := fun z => (HB1.out.ext (HT.inn z)).c 1 (.int .i64 keeper) rfl
 have r2 := fun z => (HB1.out.ext (HT.inn z)).c 2 (.string name) rfl
 have HTH := hid HT
 clear HT
 go_wp2_with fail
 (refine region_mix f 8 [([0, 1, 5, 6], 2)] [3, 4, 7] (HTH.out.out _ ?_) (by kernel_rfl) (by kernel_rfl) (fun _ _ d _ _ h => by cases d <;> exact h) ?_)
 · exact (Kp.refl _ _).drew
 (refine wpMix_cons rfl rfl fun K hK => ?_); (change wpQuiet _ _ _ _ [_, _, _, _] _); (repeat (go_big_quiet_step (fail))); (refine wpQuiet_nil ?_); (refine hK _ fun K2 hK2 => ?_); clear hK K; (change wpList _ _ _ [_] _ _)
 go_wp2_with fail
 refine (HPL _).out.mono ?_
 rintro e w2 ⟨⟨t, rfl, ht, -⟩, hE2⟩
 obtain rfl := ht g0 g2
 have HE2 : Hid (Ext w1 w2) := hid (((Kp.refl _ _).drew : Ext w1 w1.drew).trans hE2)
 clear hE2 ht
 have hz1 := digit_size keeper
 go_wp2_with fail
 (refine hK2 _ _ (HTH.out.out _ HE2.out) ?_); clear hK2 K2
 (refine wpMix_nil rfl fun K hK => ?_); (change wpQuiet _ _ _ _ [_, _, _] _); (repeat (go_big_quiet_step (fail))); (refine wpQuiet_nil ?_); (refine hK _ ?_); clear hK K
 have c0 := (HB1.out.ext HE2.out).c 0 (.int .i64 kind) rfl
 have c3 := (HB1.out.ext HE2.out).c 3 (.int .i64 dst) rfl
 have cz := (HB1.out.ext HE2.out).lt
 have HE2w := hid (HE1.out.trans HE2.out)
 clear r1 r2 HTH hB
 rcases gk with ⟨hk, gd0, gd2⟩ | ⟨hk | hk, -⟩
 · subst hk
   have hl : M.chgLine ⟨3, keeper, name, dst⟩ = M.askW ++ 32 :: (M.digit keeper ++ 32 :: (name.data.toList ++ 32 :: M.digit dst)) := by simp [M.chgLine]
   have HL := hid hl
   clear hl
   have hz2 := digit_size dst
   go_wp2_with fail
   refine (sp_plain dst w2 (by omega) (by omega)).mono ?_
   rintro e w3 ⟨⟨u, rfl, hu, -⟩, hE3⟩
   obtain rfl := hu gd0 gd2
   go_wp2_with fail
   go_ret
   exact ⟨by rw [HR.out, HL.out, ← chg_three (name := name) M.askW rfl rfl]; rfl, HE2w.out.trans hE3⟩
 · subst hk
   have hl : M.chgLine ⟨2, keeper, name, dst⟩ = M.takeW ++ 32 :: (M.digit keeper ++ 32 :: name.data.toList) := by simp [M.chgLine]
   have HL := hid hl
   clear hl
   go_wp2_with fail
   go_ret
   exact ⟨by rw [HR.out, HL.out, ← chg_two (name := name) M.takeW rfl]; rfl, HE2w.out⟩
 · subst hk
   have hl : M.chgLine ⟨4, keeper, name, dst⟩ = M.freeW ++ 32 :: (M.digit keeper ++ 32 :: name.data.toList) := by simp [M.chgLine]
   have HL := hid hl
   clear hl
   go_wp2_with fail
   go_ret
   exact ⟨by rw [HR.out, HL.out, ← chg_two (name := name) M.freeW rfl]; rfl, HE2w.out⟩
end Go.Proofs.YtkndccgackohnaaGreatDoor
namespace Go.Proofs.YtkndccgackohnaaGreatDoor
open Go Go.RowKit
namespace M
def kindOf (x : ByteArray) : Int := if x = bs takeW then 2 else if x = bs askW then 3 else if x = bs freeW then 4 else 0
theorem kindOf_take : kindOf (bs takeW) = 2 := if_pos rfl
theorem kindOf_ask : kindOf (bs askW) = 3 := by decide +kernel
theorem kindOf_free : kindOf (bs freeW) = 4 := by decide +kernel
theorem says_shape {c : Chg} {s : ByteArray} (h : chgOk c = true) (hs : chgText c = s) :
    (c.kind = 2 ∧ c.dst = 0 ∧ words s = [bs takeW, bs (digit c.keeper), c.name]) ∨ (c.kind = 3 ∧ words s = [bs askW, bs (digit c.keeper), c.name, bs (digit c.dst)]) ∨ (c.kind = 4 ∧ c.dst = 0 ∧ words s = [bs freeW, bs (digit c.keeper), c.name]) := by
 subst hs
 rcases (chgOk_parts h).2.2.2 with ⟨hk, -⟩ | ⟨hk | hk, hd⟩
 · exact .inr (.inl ⟨hk, words_ask h hk⟩)
 · exact .inl ⟨hk, hd, words_take h hk⟩
 · exact .inr (.inr ⟨hk, hd, words_free h hk⟩)
theorem says_yes {c : Chg} {s : ByteArray} (hw : (words s).length ≠ 1) (h : chgText c = s) : Says s (some c) := ⟨chgText_ok h hw, h⟩
theorem says_three {s x0 x1 x2 : ByteArray} {n : Int} {ok : Bool} (hw : words s = [x0, x1, x2]) (h1 : Reads x1 n ok) (hno : ok = false ∨ chgText ⟨kindOf x0, n, x2, 0⟩ ≠ s) : Says s none := by
 rintro ⟨c, hc, hs⟩
 obtain ⟨g0, g2, -⟩ := chgOk_parts hc
 obtain ⟨k, p, nm, d⟩ := c
 rcases says_shape hc hs with ⟨hk, hd, hx⟩ | ⟨hk, hx⟩ | ⟨hk, hd, hx⟩
 · rw [hw] at hx
   simp only [List.cons.injEq, and_true] at hx hk hd g0 g2
   obtain ⟨rfl, rfl, rfl⟩ := hx
   obtain ⟨rfl, rfl⟩ := h1.2 p g0 g2 rfl
   subst hk hd
   rw [kindOf_take] at hno
   exact hno.elim (fun e => by cases e) (fun e => e hs)
 · rw [hw] at hx
   simp at hx
 · rw [hw] at hx
   simp only [List.cons.injEq, and_true] at hx hk hd g0 g2
   obtain ⟨rfl, rfl, rfl⟩ := hx
   obtain ⟨rfl, rfl⟩ := h1.2 p g0 g2 rfl
   subst hk hd
   rw [kindOf_free] at hno
   exact hno.elim (fun e => by cases e) (fun e => e hs)
theorem says_four {s x0 x1 x2 x3 : ByteArray} {n m : Int} {ok ok3 : Bool} (hw : words s = [x0, x1, x2, x3]) (h1 : Reads x1 n ok) (h3 : Reads x3 m ok3) (hno : ok = false ∨ ok3 = false ∨ chgText ⟨kindOf x0, n, x2, m⟩ ≠ s) : Says s none := by
 rintro ⟨c, hc, hs⟩
 obtain ⟨g0, g2, -, g4⟩ := chgOk_parts hc
 obtain ⟨k, p, nm, d⟩ := c
 rcases says_shape hc hs with ⟨hk, hd, hx⟩ | ⟨hk, hx⟩ | ⟨hk, hd, hx⟩
 · rw [hw] at hx
   simp at hx
 · rw [hw] at hx
   simp only [List.cons.injEq, and_true] at hx hk g0 g2 g4
   obtain ⟨rfl, rfl, rfl, rfl⟩ := hx
   obtain ⟨rfl, rfl⟩ := h1.2 p g0 g2 rfl
   obtain ⟨rfl, rfl⟩ := h3.2 d (by omega) (by omega) rfl
   subst hk
   rw [kindOf_ask] at hno
   exact hno.elim (fun e => by cases e) (fun e => e.elim (fun e => by cases e) (fun e => e hs))
 · rw [hw] at hx
   simp at hx
theorem says_four_no {s x0 x1 x2 x3 : ByteArray} {n : Int} (hw : words s = [x0, x1, x2, x3]) (h1 : Reads x1 n false) : Says s none := by
 rintro ⟨c, hc, hs⟩
 obtain ⟨g0, g2, -⟩ := chgOk_parts hc
 rcases says_shape hc hs with ⟨-, -, hx⟩ | ⟨-, hx⟩ | ⟨-, -, hx⟩ <;> rw [hw] at hx
 · simp at hx
 · simp only [List.cons.injEq, and_true] at hx
   exact absurd (h1.2 _ g0 g2 hx.2.1).2 (by simp)
 · simp at hx
theorem says_len {s : ByteArray} (h : (words s).length < 3 ∨ 4 < (words s).length) : Says s none := by
 rintro ⟨c, hc, hs⟩
 rcases says_shape hc hs with ⟨-, -, hx⟩ | ⟨-, hx⟩ | ⟨-, -, hx⟩ <;> rw [hx] at h <;> simp at h
theorem says_kind {s x0 : ByteArray} {r : List ByteArray} (hw : words s = x0 :: r) (h : (kindOf x0 = 0) ∨ (kindOf x0 = 3 ∧ r.length ≠ 3) ∨ (kindOf x0 = 2 ∧ r.length ≠ 2) ∨ (kindOf x0 = 4 ∧ r.length ≠ 2)) : Says s none := by
 rintro ⟨c, hc, hs⟩
 rcases says_shape hc hs with ⟨-, -, hx⟩ | ⟨-, hx⟩ | ⟨-, -, hx⟩ <;> rw [hw] at hx <;> obtain ⟨rfl, rfl⟩ := List.cons.inj hx
 · rw [kindOf_take] at h; simp at h
 · rw [kindOf_ask] at h; simp at h
 · rw [kindOf_free] at h; simp at h
end M
theorem sp_read (s : ByteArray) (w : World) (hs : s.size ≤ 4000000000) :
    Calls Tryz.prog 19 #[.string s] w fun e w' => (∃ n b, e = .returned (.tuple #[.int .i64 n, .bool b]) ∧ M.Reads s n b) ∧ Ext w w' := by
 by_cases h : ∃ d, 0 ≤ d ∧ d ≤ 2 ∧ s = M.bs (M.digit d)
 · obtain ⟨d, h0, h2, rfl⟩ := h
   refine (sp_read_digit d h0 h2 w).mono ?_
   rintro e w1 ⟨rfl, hE⟩
   exact ⟨⟨_, _, rfl, fun _ _ _ => rfl, fun d' g0 g2 hd => ⟨(M.digit_inj g0 g2 h0 h2 (M.bs_inj hd)), rfl⟩⟩, hE⟩
 · refine (sp_read_any s w hs).mono ?_
   rintro e w1 ⟨⟨n, b, rfl, hr, -⟩, hE⟩
   exact ⟨⟨_, _, rfl, hr, fun d g0 g2 hd => absurd ⟨d, g0, g2, hd⟩ h⟩, hE⟩
theorem StrL.three {w : World} {I : Nat → Prop} {a : Option Addr} {c : Nat} {x y z : ByteArray} (h : SliceOf 1 StrL w I (.slice a 3 c) [x, y, z]) :
    ∃ b off, a = some ⟨b, off, none⟩ ∧ w.cell? ⟨b, off, none⟩ = some (.string x) ∧ w.cell? ⟨b, off + 1, none⟩ = some (.string y) ∧ w.cell? ⟨b, off + 2, none⟩ = some (.string z) ∧ 3 ≤ c := by
 obtain ⟨b, off, cs, e, -, rfl, -, h0⟩ := h.get (i := 0) rfl
 obtain ⟨b1, off1, cs1, e1, -, rfl, -, h1⟩ := h.get (i := 1) rfl
 obtain ⟨b2, off2, cs2, e2, -, rfl, -, h2⟩ := h.get (i := 2) rfl
 rw [e] at e1 e2
 cases e1; cases e2
 obtain ⟨a', c', e3, hc, -⟩ := h.form
 cases e3
 exact ⟨b, off, e, by simpa using h0.one, by simpa using h1.one, by simpa using h2.one, hc⟩
theorem StrL.four {w : World} {I : Nat → Prop} {a : Option Addr} {c : Nat} {x y z u : ByteArray} (h : SliceOf 1 StrL w I (.slice a 4 c) [x, y, z, u]) :
    ∃ b off, a = some ⟨b, off, none⟩ ∧ w.cell? ⟨b, off, none⟩ = some (.string x) ∧ w.cell? ⟨b, off + 1, none⟩ = some (.string y) ∧ w.cell? ⟨b, off + 2, none⟩ = some (.string z) ∧ w.cell? ⟨b, off + 3, none⟩ = some (.string u) ∧ 4 ≤ c := by
 obtain ⟨b, off, cs, e, -, rfl, -, h0⟩ := h.get (i := 0) rfl
 obtain ⟨b1, off1, cs1, e1, -, rfl, -, h1⟩ := h.get (i := 1) rfl
 obtain ⟨b2, off2, cs2, e2, -, rfl, -, h2⟩ := h.get (i := 2) rfl
 obtain ⟨b3, off3, cs3, e3, -, rfl, -, h3⟩ := h.get (i := 3) rfl
 rw [e] at e1 e2 e3
 cases e1; cases e2; cases e3
 obtain ⟨a', c', e4, hc, -⟩ := h.form
 cases e4
 exact ⟨b, off, e, by simpa using h0.one, by simpa using h1.one, by simpa using h2.one, by simpa using h3.one, hc⟩
end Go.Proofs.YtkndccgackohnaaGreatDoor
namespace Go.Proofs.YtkndccgackohnaaGreatDoor
open Go Go.RowKit
open Go.Lib (hid)
theorem Kp.set8 {D : Nat → Prop} {w : World} {b : Nat} (hD : D b) (v0 v1 v2 v3 v4 v5 v6 v7 : Value) : Kp D w ((((((((w.setCell ⟨b, 0, none⟩ v0).setCell ⟨b, 1, none⟩ v1).setCell ⟨b, 2, none⟩ v2).setCell ⟨b, 3, none⟩ v3).setCell ⟨b, 4, none⟩ v4).setCell ⟨b, 5, none⟩ v5).setCell ⟨b, 6, none⟩ v6).setCell ⟨b, 7, none⟩ v7) :=
 (((((((((Kp.refl D w).setCell (p := ⟨b, 0, none⟩) (fun _ => hD) v0).setCell (p := ⟨b, 1, none⟩) (fun _ => hD) v1).setCell (p := ⟨b, 2, none⟩) (fun _ => hD) v2).setCell (p := ⟨b, 3, none⟩) (fun _ => hD) v3).setCell (p := ⟨b, 4, none⟩) (fun _ => hD) v4).setCell (p := ⟨b, 5, none⟩) (fun _ => hD) v5).setCell (p := ⟨b, 6, none⟩) (fun _ => hD) v6).setCell (p := ⟨b, 7, none⟩) (fun _ => hD) v7)
theorem Blk.set8 {w : World} {b : Nat} {t : TypeId} {u0 u1 u2 u3 u4 u5 u6 u7 : Value} (h : Blk w b t #[u0, u1, u2, u3, u4, u5, u6, u7]) (v0 v1 v2 v3 v4 v5 v6 v7 : Value) : Blk ((((((((w.setCell ⟨b, 0, none⟩ v0).setCell ⟨b, 1, none⟩ v1).setCell ⟨b, 2, none⟩ v2).setCell ⟨b, 3, none⟩ v3).setCell ⟨b, 4, none⟩ v4).setCell ⟨b, 5, none⟩ v5).setCell ⟨b, 6, none⟩ v6).setCell ⟨b, 7, none⟩ v7) b t #[v0, v1, v2, v3, v4, v5, v6, v7] := by
 have h0 : Blk (w.setCell ⟨b, 0, none⟩ v0) b t #[v0, u1, u2, u3, u4, u5, u6, u7] := h.set_ 0 v0
 have h1 : Blk ((w.setCell ⟨b, 0, none⟩ v0).setCell ⟨b, 1, none⟩ v1) b t #[v0, v1, u2, u3, u4, u5, u6, u7] := h0.set_ 1 v1
 have h2 : Blk (((w.setCell ⟨b, 0, none⟩ v0).setCell ⟨b, 1, none⟩ v1).setCell ⟨b, 2, none⟩ v2) b t #[v0, v1, v2, u3, u4, u5, u6, u7] := h1.set_ 2 v2
 have h3 : Blk ((((w.setCell ⟨b, 0, none⟩ v0).setCell ⟨b, 1, none⟩ v1).setCell ⟨b, 2, none⟩ v2).setCell ⟨b, 3, none⟩ v3) b t #[v0, v1, v2, v3, u4, u5, u6, u7] := h2.set_ 3 v3
 have h4 : Blk (((((w.setCell ⟨b, 0, none⟩ v0).setCell ⟨b, 1, none⟩ v1).setCell ⟨b, 2, none⟩ v2).setCell ⟨b, 3, none⟩ v3).setCell ⟨b, 4, none⟩ v4) b t #[v0, v1, v2, v3, v4, u5, u6, u7] := h3.set_ 4 v4
 have h5 : Blk ((((((w.setCell ⟨b, 0, none⟩ v0).setCell ⟨b, 1, none⟩ v1).setCell ⟨b, 2, none⟩ v2).setCell ⟨b, 3, none⟩ v3).setCell ⟨b, 4, none⟩ v4).setCell ⟨b, 5, none⟩ v5) b t #[v0, v1, v2, v3, v4, v5, u6, u7] := h4.set_ 5 v5
 have h6 : Blk (((((((w.setCell ⟨b, 0, none⟩ v0).setCell ⟨b, 1, none⟩ v1).setCell ⟨b, 2, none⟩ v2).setCell ⟨b, 3, none⟩ v3).setCell ⟨b, 4, none⟩ v4).setCell ⟨b, 5, none⟩ v5).setCell ⟨b, 6, none⟩ v6) b t #[v0, v1, v2, v3, v4, v5, v6, u7] := h5.set_ 6 v6
 have h7 : Blk ((((((((w.setCell ⟨b, 0, none⟩ v0).setCell ⟨b, 1, none⟩ v1).setCell ⟨b, 2, none⟩ v2).setCell ⟨b, 3, none⟩ v3).setCell ⟨b, 4, none⟩ v4).setCell ⟨b, 5, none⟩ v5).setCell ⟨b, 6, none⟩ v6).setCell ⟨b, 7, none⟩ v7) b t #[v0, v1, v2, v3, v4, v5, v6, v7] := h6.set_ 7 v7
 exact h7
end Go.Proofs.YtkndccgackohnaaGreatDoor
