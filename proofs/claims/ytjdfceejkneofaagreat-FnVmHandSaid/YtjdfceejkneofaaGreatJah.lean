/- Plain facts: what stands in a chain has a chain of its own; where a field that is linked stands in w; Plain facts on runs: what is good stays good.; Plain facts on runs: a step of a good run is a good run, or its end.; Walks: layout. -/
import Derived.Test.YtjdfceejkneofaaGreatJab
import Derived.Test.YtjdfceejkneofaaGreatJag
set_option maxRecDepth 100000
set_option maxHeartbeats 4000000
set_option linter.unusedSimpArgs false
set_option linter.unusedVariables false
namespace Go.Proofs.YtjdfceejkneofaaGreat.M
theorem pathGo_end {p : Plan} {n : ByteArray} : ∀ {f : Nat} {asked : List Int} {k : Int}, asked.getLastD 0 = k → (pathGo p n f asked k).2 = 1 →
    ask? p ((pathGo p n f asked k).1.getLastD 0) n = none
 | 0, _, _, _, h => by simp [pathGo] at h
 | f + 1, asked, k, hl, h => by
  unfold pathGo at h ⊢
  split at h
  · rename_i h1
    split at h
    · rename_i h2
      simp only [h2, if_true]
      rw [hl]; exact h1
    · simp at h
  · rename_i next h1
    split at h
    · simp at h
    · rename_i h2
      simp only [h2, if_false, Bool.false_eq_true]
      exact pathGo_end (by simp) h
theorem resolve_name {p : Plan} {k : Int} {n : ByteArray} (h : (resolve p k n).2 = 1) : (resolve p k n).1.name = n ∧ (path p k n).2 = 1 ∧ (resolve p k n).1.keeper = (path p k n).1.getLastD 0 := by
 unfold resolve at h ⊢
 split at h
 · rename_i hp; rw [if_pos hp]; exact ⟨rfl, hp, rfl⟩
 · rename_i hp; exact absurd h hp
theorem resolve_self {p : Plan} {k : Int} {n : ByteArray} (h : (resolve p k n).2 = 1) : resolve p (resolve p k n).1.keeper (resolve p k n).1.name = ((resolve p k n).1, 1) := by
 obtain ⟨h1, h2, h3⟩ := resolve_name h
 obtain ⟨c, hc⟩ := resolve_owned h
 have hb := cls_has hc
 have ha : ask? p (resolve p k n).1.keeper (resolve p k n).1.name = none := by
  rw [h1, h3]
  unfold path at h2 ⊢
  split at h2
  · rename_i hk; rw [if_pos hk]; exact pathGo_end rfl h2
  · simp at h2
 have hp : path p (resolve p k n).1.keeper (resolve p k n).1.name = ([(resolve p k n).1.keeper], 1) := by
  unfold path
  rw [if_pos (has_iff.2 hb)]
  unfold pathGo
  rw [ha]
  simp only
  rw [if_pos (by unfold owned; show (cls? p (resolve p k n).1).isSome = true; rw [hc]; rfl)]
 generalize (resolve p k n).1 = x at hp
 unfold resolve
 rw [hp]
 rfl
theorem loadable_of {p : Plan} {x : Ref} (h : resolve p x.keeper x.name = (x, 1)) (hc : ∃ g l, climbGo p g x = some l ∧ l.length ≤ 6) : loadable p x = true ∧ ∃ g l, climbGo p g x = some l ∧ chain p x = l := by
 obtain ⟨g, l, h1, h2⟩ := hc
 have h6 : climb p x = some l := climbGo_more _ _ _ h1 6 h2
 have hl : loadable p x = true := by
  unfold loadable find
  rw [h]
  simp [h6]
 exact ⟨hl, g, l, h1, by unfold chain; rw [if_pos hl, h6]; rfl⟩
theorem loadable_resolve {p : Plan} {r : Ref} (h : loadable p r = true) : resolve p r.keeper r.name = (r, 1) ∧ ∃ l, climb p r = some l ∧ chain p r = l := by
 have h0 := h
 unfold loadable find at h
 by_cases hc : (resolve p r.keeper r.name).2 = 1
 · rw [if_pos hc] at h
   split at h
   · rename_i h2
     simp at h
     have e : resolve p r.keeper r.name = (r, 1) := Prod.ext h hc
     rw [e] at h2
     obtain ⟨l, hl⟩ := Option.isSome_iff_exists.1 h2
     exact ⟨e, l, hl, by unfold chain; rw [if_pos h0, hl]; rfl⟩
   · simp at h
 · rw [if_neg hc] at h
   simp at h
   exact absurd h.1 hc
theorem climbGo_resolved {p : Plan} : ∀ (f : Nat) (r : Ref) (l : List Ref), climbGo p f r = some l → resolve p r.keeper r.name = (r, 1) → ∀ x ∈ l, resolve p x.keeper x.name = (x, 1) := by
 intro f
 induction f with
 | zero => intro r l h; simp [climbGo] at h
 | succ f ih =>
  intro r l h hr x hx
  unfold climbGo at h
  split at h
  · cases h; simp at hx; subst hx; exact hr
  · split at h
    · rename_i h2
      cases hc : climbGo p f (resolve p r.keeper (super p r)).1 with
      | none => rw [hc] at h; simp at h
      | some rs =>
       rw [hc] at h
       simp at h
       subst h
       rcases List.mem_cons.1 hx with rfl | hx
       · exact hr
       · exact ih _ _ hc (resolve_self h2) x hx
    · cases h
theorem chain_mem {p : Plan} {r x : Ref} (h : x ∈ chain p r) : loadable p x = true ∧ ∃ pre, chain p r = pre ++ chain p x := by
 have hl : loadable p r = true := by
  unfold chain at h
  split at h
  · rename_i h1; exact h1
  · simp at h
 obtain ⟨e, l, h1, h2⟩ := loadable_resolve hl
 rw [h2] at h ⊢
 obtain ⟨i, hi⟩ := List.getElem?_of_mem h
 obtain ⟨g, hg⟩ := climbGo_suffix _ _ _ h1 i x hi
 have h6 := climbGo_len _ _ _ h1
 obtain ⟨a, g', l', b1, b2⟩ := loadable_of (climbGo_resolved _ _ _ h1 e x h) ⟨g, _, hg, by simp; omega⟩
 refine ⟨a, l.take i, ?_⟩
 rw [b2, climbGo_one b1 hg, List.take_append_drop]
theorem chain_head {p : Plan} {r : Ref} (h : loadable p r = true) : ∃ t, chain p r = r :: t := by
 obtain ⟨e, l, h1, h2⟩ := loadable_resolve h
 rw [h2]
 exact climbGo_head _ _ _ h1
theorem chain_owned {p : Plan} {r x : Ref} (h : x ∈ chain p r) : ∃ c, cls? p x = some c := by
 obtain ⟨e, _⟩ := loadable_resolve (chain_mem h).1
 have := resolve_owned (p := p) (k := x.keeper) (n := x.name) (by rw [e])
 rwa [e] at this
def fieldsTo (p : Plan) (r : Ref) : Nat := (layoutGo p (chain p r).reverse []).length
theorem layoutGo_len (p : Plan) : ∀ (L : List Ref) (acc : List FRef), (layoutGo p L acc).length = acc.length + (L.map fun c => (cls p c).fields.length).sum := by
 intro L
 induction L with
 | nil => intro acc; simp [layoutGo]
 | cons c r ih => intro acc; unfold layoutGo; rw [ih, addFields_len]; simp; omega
theorem firstGo_skip (p : Plan) (c : Ref) : ∀ (L K : List Ref) (n : Nat), c ∉ L → firstGo p c (L ++ c :: K) n = n + (L.map fun c => (cls p c).fields.length).sum := by
 intro L
 induction L with
 | nil => intro K n _; simp [firstGo]
 | cons d r ih =>
  intro K n h
  simp only [List.mem_cons, not_or] at h
  simp only [List.cons_append, firstGo]
  rw [if_neg (fun e => h.1 e.symm), ih _ _ h.2]
  simp; omega
theorem layout_bound {p : Plan} {r : Ref} {i : Nat} {f : FRef} (h : (layout p r)[i]? = some f) : i < fieldsTo p f.of := by
 obtain ⟨_, hm, _, j, fd, h1, h2, _⟩ := layout_at h
 obtain ⟨hl, pre, hp⟩ := chain_mem hm
 obtain ⟨t, ht⟩ := chain_head hl
 have hn := chain_nodup p f.of
 rw [ht, List.nodup_cons] at hn
 have e : firstField p f.of r = ((t.reverse).map fun c => (cls p c).fields.length).sum := by
  unfold firstField
  rw [hp, ht, List.reverse_append, List.reverse_cons, List.append_assoc, List.singleton_append, firstGo_skip _ _ _ _ _ (by simpa using hn.1), Nat.zero_add]
 have hj := (List.getElem?_eq_some_iff.1 h1).1
 unfold fieldsTo
 rw [layoutGo_len, ht, List.reverse_cons, List.map_append, List.sum_append]
 simp
 rw [e] at h2
 simp at h2
 omega
theorem under_bound {p : Plan} {low top : Ref} (hc : canLay p low = true) (h : under p low top = true) : fieldsTo p top ≤ (layout p low).length := by
 unfold under at h
 obtain ⟨_, pre, hp⟩ := chain_mem (by simpa using h)
 unfold layout fieldsTo
 rw [if_pos hc, hp, List.reverse_append, layoutGo_append]
 obtain ⟨t, e⟩ := layoutGo_pre p pre.reverse (layoutGo p (chain p top).reverse [])
 rw [e]
 simp
theorem canLay_chain {p : Plan} {r : Ref} (h : canLay p r = true) : loadable p r = true ∧ r ∈ chain p r := by
 have hl : loadable p r = true := by
  unfold canLay at h
  cases hl : loadable p r
  · unfold chain at h; rw [hl] at h; simp at h
  · rfl
 obtain ⟨t, e⟩ := chain_head hl
 exact ⟨hl, by rw [e]; simp⟩
theorem getIn_found {p : Plan} {k : Int} {m : ByteArray} {r : Ref} : ∀ {l : List FRef}, (getIn p k m r l).2 = 1 → (getIn p k m r l).1 ∈ l
 | [], h => by simp [getIn] at h
 | f :: l, h => by
  unfold getIn at h ⊢
  split at h
  · rename_i h1
    rw [if_pos h1]
    split at h
    · rename_i h2; rw [if_pos h2]; simp
    · simp at h
  · rename_i h1
    rw [if_neg h1]
    exact List.mem_cons_of_mem _ (getIn_found h)
theorem get_found {p : Plan} {k : Int} {n m : ByteArray} (h : (get p k n m).2 = 1) : ∃ (r : Ref) (i : Nat), (layout p r)[i]? = some (get p k n m).1 := by
 unfold get at h ⊢
 split at h
 · rename_i h1
   rw [if_pos h1]
   obtain ⟨i, hi⟩ := List.getElem?_of_mem (getIn_found h)
   exact ⟨_, i, hi⟩
 · rename_i h1; exact absurd h h1
theorem get_bound {p : Plan} {k : Int} {n m : ByteArray} (h : (get p k n m).2 = 1) {o : Ref} (hc : canLay p o = true) (hu : under p o (get p k n m).1.of = true) :
    0 ≤ (get p k n m).1.at_ ∧ (get p k n m).1.at_.toNat < (layout p o).length := by
 obtain ⟨r, i, hi⟩ := get_found h
 have h1 := (layout_at hi).2.2.1
 have h2 := layout_bound hi
 have h3 := under_bound hc hu
 omega
theorem pickIn_found {p : Plan} {n : ByteArray} : ∀ {l : List Ref} {x : MRef}, pickIn p n l = some x → x.of ∈ l ∧ ∃ i : Nat, x.at_ = i ∧ methodIx (cls p x.of) n = some i
 | [], x, h => by simp [pickIn] at h
 | c :: r, x, h => by
  unfold pickIn at h
  split at h
  · rename_i i hi; cases h; exact ⟨by simp, i, rfl, hi⟩
  · obtain ⟨h1, h2⟩ := pickIn_found h; exact ⟨List.mem_cons_of_mem _ h1, h2⟩
theorem pick_found {p : Plan} {r : Ref} {n : ByteArray} {x : MRef} (h : pick p r n = some x) : canLay p r = true ∧ x.of ∈ chain p r ∧ ∃ i c m, x.at_ = (i : Nat) ∧ cls? p x.of = some c ∧ c.methods[i]? = some m ∧ m.name = n ∧ method? p x = some m := by
 unfold pick at h
 split at h
 · rename_i hc
   obtain ⟨h1, i, h2, h3⟩ := pickIn_found h
   obtain ⟨c, hcl⟩ := chain_owned h1
   have e : cls p x.of = c := by unfold cls; rw [hcl]; rfl
   rw [e] at h3
   unfold methodIx at h3
   rw [List.findIdx?_eq_some_iff_getElem] at h3
   obtain ⟨hlt, h4, _⟩ := h3
   exact ⟨hc, h1, i, c, c.methods[i], h2, hcl, List.getElem?_eq_getElem hlt, by simpa using h4, by
    unfold method?; rw [h2, if_pos (Int.natCast_nonneg i), e]; exact List.getElem?_eq_getElem hlt⟩
 · cases h
theorem call_found {p : Plan} {k : Int} {n m : ByteArray} (h : (call p k n m).2 = 1) : ∃ r, pick p r m = some (call p k n m).1 := by
 unfold call at h ⊢
 split at h
 · rename_i h1
   rw [if_pos h1]
   cases hp : pick p (linkClass p k n m).1 m with
   | none => rw [hp] at h; simp at h
   | some x =>
    rw [hp] at h
    refine ⟨_, hp.trans ?_⟩
    simp only at h ⊢
    split at h
    · rename_i h2; rw [if_pos h2]
    · simp at h
 · rename_i h1; exact absurd h h1
theorem hasMethod_found {p : Plan} {x : MRef} (h : hasMethod p x = true) : canLay p x.of = true ∧ ∃ i c m, x.at_ = (i : Nat) ∧ cls? p x.of = some c ∧ c.methods[i]? = some m ∧ method? p x = some m := by
 unfold hasMethod at h
 simp only [Bool.and_eq_true, decide_eq_true_eq] at h
 obtain ⟨⟨h1, h2⟩, h3⟩ := h
 obtain ⟨c, hcl⟩ := chain_owned (canLay_chain h1).2
 have e : cls p x.of = c := by unfold cls; rw [hcl]; rfl
 rw [e] at h3
 have hlt : x.at_.toNat < c.methods.length := by omega
 exact ⟨h1, x.at_.toNat, c, c.methods[x.at_.toNat], by omega, hcl, List.getElem?_eq_getElem hlt, by
  unfold method?; rw [if_pos h2, e]; exact List.getElem?_eq_getElem hlt⟩
end Go.Proofs.YtjdfceejkneofaaGreat.M
namespace Go.Proofs.YtjdfceejkneofaaGreat.M
structure Good (p : Plan) (s : St) : Prop where
 heap : heapOk p s.heap = true
 frames : ∀ f ∈ s.frames, frameOk p f s.heap.length = true
 nf : s.frames.length ≤ 8
 outs : s.outs.length ≤ 40
 outsOk : ∀ n ∈ s.outs, numOk n = true
 back : valOk s.back s.heap.length = true
theorem frameOk_iff {p : Plan} {f : Fr} {n : Nat} : frameOk p f n = true ↔ hasMethod p f.of = true ∧ 0 ≤ f.pc ∧ f.pc < (method p f.of).code.length ∧ (f.locals.length : Int) = (method p f.of).locals ∧
    (f.stack.length : Int) ≤ (method p f.of).stack ∧ (∀ v ∈ f.locals, valOk v n = true) ∧ (∀ v ∈ f.stack, valOk v n = true) := by
 unfold frameOk
 simp only [Bool.and_eq_true, decide_eq_true_eq, List.all_eq_true, and_assoc]
theorem heapOk_iff {p : Plan} {h : List VObj} : heapOk p h = true ↔ h.length ≤ 12 ∧ ∀ o ∈ h, canLay p o.of = true ∧ o.fields.length = (layout p o.of).length ∧ ∀ v ∈ o.fields, valOk v h.length = true := by
 unfold heapOk
 simp only [Bool.and_eq_true, decide_eq_true_eq, List.all_eq_true, and_assoc]
theorem valOk_mono {v : Val} {n m : Nat} (h : valOk v n = true) (hnm : n ≤ m) : valOk v m = true := by
 unfold valOk at *
 split at h
 · rename_i h1; rw [if_pos h1]; exact h
 · rename_i h1
   rw [if_neg h1]
   split at h
   · rename_i h2; rw [if_pos h2]; exact h
   · rename_i h2
     rw [if_neg h2]
     split at h
     · rename_i h3
       rw [if_pos h3]
       simp only [Bool.and_eq_true, decide_eq_true_eq] at *
       omega
     · cases h
theorem valOk_ref {v : Val} {n : Nat} (h : valOk v n = true) (hk : v.kind = 2) : 0 ≤ v.n ∧ v.n < n := by
 unfold valOk at h
 rw [hk] at h
 simpa using h
theorem valOk_num {v : Val} {n : Nat} (h : valOk v n = true) (hk : v.kind = 1) : -9999 ≤ v.n ∧ v.n ≤ 9999 := by
 unfold valOk numOk at h
 rw [hk] at h
 simpa using h
theorem valOk_null (n : Nat) : valOk nullVal n = true := by simp [valOk, nullVal]
theorem valOk_zero (n : Nat) : valOk zval n = true := by simp [valOk, zval]
theorem valOk_numVal {k : Int} (n : Nat) (h : numOk k = true) : valOk (numVal k) n = true := by
 unfold valOk numVal
 simpa using h
theorem valOk_mk {k : Int} (n : Nat) (h1 : 0 ≤ k) (h2 : k < n) : valOk ⟨2, k⟩ n = true := by
 unfold valOk
 simp
 omega
theorem top_of {s : St} {r : List Fr} {t : Fr} (h : s.frames = r ++ [t]) : top s = t := by unfold top; rw [h]; simp
theorem onTop_of {s : St} {r : List Fr} {t : Fr} (h : s.frames = r ++ [t]) (f : Fr → Fr) : onTop s f = { s with frames := r ++ [f t] } := by unfold onTop; rw [h]; simp
theorem frames_top {s : St} (h : s.frames ≠ []) : ∃ r t, s.frames = r ++ [t] := ⟨s.frames.dropLast, s.frames.getLast h, (List.dropLast_concat_getLast h).symm⟩
section
variable {p : Plan} {s : St} {r : List Fr} {t : Fr}
theorem Good.top (hG : Good p s) (h : s.frames = r ++ [t]) : frameOk p t s.heap.length = true := hG.frames t (by rw [h]; simp)
theorem Good.turn (hG : Good p s) (h : s.frames = r ++ [t]) {t' : Fr} (ht : frameOk p t' s.heap.length = true) : Good p { s with frames := r ++ [t'] } := by
 refine ⟨hG.heap, ?_, ?_, hG.outs, hG.outsOk, hG.back⟩
 · intro f hf
   rcases List.mem_append.1 hf with hf | hf
   · exact hG.frames f (by rw [h]; exact List.mem_append_left _ hf)
   · simp at hf; subst hf; exact ht
 · have := hG.nf; rw [h] at this; simpa using this
def Fine (p : Plan) (x : Int × St) : Prop := 1 ≤ x.1 ∧ x.1 ≤ 10 ∧ Good p x.2 ∧ (x.1 = 1 → x.2.frames ≠ []) ∧ x.2.status = 1
theorem jump_fine (hG : Good p s) (h : s.frames = r ++ [t]) (hs : s.status = 1) {tgt : Int} (h0 : 0 ≤ tgt) : Fine p (jump p tgt s) := by
 have ht := hG.top h
 have ht' := frameOk_iff.1 ht
 unfold jump
 rw [top_of h, onTop_of h]
 split
 · exact ⟨by simp, by simp, hG, fun e => by simp at e, hs⟩
 · rename_i hlt
   refine ⟨by simp, by simp, hG.turn h (frameOk_iff.2 ⟨ht'.1, h0, by simp only; omega, ht'.2.2.2.1, ht'.2.2.2.2.1, ht'.2.2.2.2.2.1, ht'.2.2.2.2.2.2⟩), fun _ => by simp, hs⟩
theorem next_fine (hG : Good p s) (h : s.frames = r ++ [t]) (hs : s.status = 1) : Fine p (next p s) := by
 have ht' := frameOk_iff.1 (hG.top h)
 unfold next
 rw [top_of h]
 exact jump_fine hG h hs (by omega)
theorem push_fine (hG : Good p s) (h : s.frames = r ++ [t]) (hs : s.status = 1) {v : Val} (hv : valOk v s.heap.length = true) : Fine p (push p v s) := by
 have ht' := frameOk_iff.1 (hG.top h)
 unfold push
 rw [top_of h, onTop_of h]
 split
 · exact ⟨by simp, by simp, hG, fun e => by simp at e, hs⟩
 · rename_i hlt
   refine next_fine (r := r) (t := { t with stack := t.stack ++ [v] }) (hG.turn h (frameOk_iff.2 ⟨ht'.1, ht'.2.1, ht'.2.2.1, ht'.2.2.2.1, by simp; omega, ht'.2.2.2.2.2.1, ?_⟩)) rfl hs
   intro u hu
   rcases List.mem_append.1 hu with hu | hu
   · exact ht'.2.2.2.2.2.2 u hu
   · simp at hu; subst hu; exact hv
theorem popAll_some {c : Nat} (h : s.frames = r ++ [t]) {vs : List Val} {s1 : St} (hp : popAll c s = some (vs, s1)) :
    c ≤ t.stack.length ∧ vs = t.stack.drop (t.stack.length - c) ∧ vs.length = c ∧ s1 = { s with frames := r ++ [{ t with stack := t.stack.take (t.stack.length - c) }] } := by
 unfold popAll at hp
 rw [top_of h, onTop_of h] at hp
 split at hp
 · cases hp
 · cases hp
   refine ⟨by omega, rfl, by simp; omega, rfl⟩
theorem Good.popped (hG : Good p s) (h : s.frames = r ++ [t]) (n : Nat) : Good p { s with frames := r ++ [{ t with stack := t.stack.take n }] } := by
 have ht' := frameOk_iff.1 (hG.top h)
 refine hG.turn h (frameOk_iff.2 ⟨ht'.1, ht'.2.1, ht'.2.2.1, ht'.2.2.2.1, ?_, ht'.2.2.2.2.2.1, fun u hu => ht'.2.2.2.2.2.2 u (List.mem_of_mem_take hu)⟩)
 have : (t.stack.take n).length ≤ t.stack.length := by simp; omega
 have := ht'.2.2.2.2.1
 simp only
 omega
theorem popAll_good {c : Nat} (hG : Good p s) (h : s.frames = r ++ [t]) {vs : List Val} {s1 : St} (hp : popAll c s = some (vs, s1)) :
    vs.length = c ∧ (∀ v ∈ vs, valOk v s.heap.length = true) ∧ Good p s1 ∧ s1.frames = r ++ [{ t with stack := t.stack.take (t.stack.length - c) }] ∧ s1.heap = s.heap ∧ s1.outs = s.outs ∧ s1.back = s.back ∧ s1.status = s.status := by
 obtain ⟨h1, h2, h3, rfl⟩ := popAll_some h hp
 refine ⟨h3, fun v hv => ?_, hG.popped h _, rfl, rfl, rfl, rfl, rfl⟩
 subst h2
 exact (frameOk_iff.1 (hG.top h)).2.2.2.2.2.2 v (List.mem_of_mem_drop hv)
theorem pop_good (hG : Good p s) (h : s.frames = r ++ [t]) {v : Val} {s1 : St} (hp : pop s = some (v, s1)) :
    valOk v s.heap.length = true ∧ Good p s1 ∧ s1.frames = r ++ [{ t with stack := t.stack.take (t.stack.length - 1) }] ∧ s1.heap = s.heap ∧ s1.outs = s.outs ∧ s1.back = s.back ∧ s1.status = s.status := by
 unfold pop at hp
 rw [Option.map_eq_some_iff] at hp
 obtain ⟨⟨vs, s2⟩, h1, h2⟩ := hp
 cases h2
 obtain ⟨a1, a2, a3⟩ := popAll_good hG h h1
 refine ⟨?_, a3⟩
 match vs, a1 with
 | [x], _ => exact a2 x (by simp)
theorem Fine.bad {n : Int} (hG : Good p s) (hs : s.status = 1) (h1 : 1 < n) (h2 : n ≤ 10) : Fine p (n, s) := ⟨by simp only; omega, h2, hG, fun e => by simp only at e; omega, hs⟩
theorem object_lt (v : Val) (q : Ref) (s : St) : object p v q s = 1 ∨ (1 < object p v q s ∧ object p v q s ≤ 10) := by
 unfold object
 split
 · right; decide
 · split
   · right; decide
   · split
     · left; rfl
     · right; decide
theorem object_one {v : Val} {q : Ref} (h : object p v q s = 1) : v.kind = 2 ∧ under p (ofAt s.heap v.n) q = true := by
 unfold object at h
 split at h
 · cases h
 · split at h
   · cases h
   · rename_i h1
     split at h
     · rename_i h2; exact ⟨by omega, h2⟩
     · cases h
theorem heap_at {n : Int} (h0 : 0 ≤ n) (h1 : n < s.heap.length) : ∃ o, s.heap[n.toNat]? = some o ∧ o ∈ s.heap ∧ ofAt s.heap n = o.of ∧ fieldsAt s.heap n = o.fields := by
 have hlt : n.toNat < s.heap.length := by omega
 refine ⟨s.heap[n.toNat], List.getElem?_eq_getElem hlt, List.getElem_mem _, ?_, ?_⟩
 · unfold ofAt; rw [List.getElem?_eq_getElem hlt]; rfl
 · unfold fieldsAt; rw [List.getElem?_eq_getElem hlt]; rfl
theorem field_place (hG : Good p s) {k : Int} {n m : ByteArray} (hg : (get p k n m).2 = 1) {v : Val} (hv : valOk v s.heap.length = true) (ho : object p v (get p k n m).1.of s = 1) :
    0 ≤ v.n ∧ v.n < s.heap.length ∧ 0 ≤ (get p k n m).1.at_ ∧ ∃ o, s.heap[v.n.toNat]? = some o ∧ o ∈ s.heap ∧ fieldsAt s.heap v.n = o.fields ∧ (get p k n m).1.at_.toNat < o.fields.length := by
 obtain ⟨h1, h2⟩ := object_one ho
 obtain ⟨h3, h4⟩ := valOk_ref hv h1
 obtain ⟨o, h5, h6, h7, h8⟩ := heap_at (s := s) h3 h4
 rw [h7] at h2
 have := (heapOk_iff.1 hG.heap).2 o h6
 obtain ⟨b1, b2⟩ := get_bound hg this.1 h2
 exact ⟨h3, h4, b1, o, h5, h6, h8, by rw [this.2.1]; exact b2⟩
theorem fresh_ok {q : Ref} (n : Nat) : ∀ v ∈ (fresh p q).fields, valOk v n = true := by
 intro v hv
 unfold fresh at hv
 simp only [List.mem_map] at hv
 obtain ⟨f, _, rfl⟩ := hv
 split
 · exact valOk_numVal n (by decide)
 · exact valOk_null n
theorem Good.grow (hG : Good p s) {q : Ref} (hq : canLay p q = true) (hn : s.heap.length < 12) : Good p { s with heap := s.heap ++ [fresh p q] } := by
 have hle : s.heap.length ≤ (s.heap ++ [fresh p q]).length := by simp
 obtain ⟨_, h2⟩ := heapOk_iff.1 hG.heap
 refine ⟨heapOk_iff.2 ⟨by simp; omega, ?_⟩, ?_, hG.nf, hG.outs, hG.outsOk, valOk_mono hG.back hle⟩
 · intro o ho
   rcases List.mem_append.1 ho with ho | ho
   · obtain ⟨a, b, c⟩ := h2 o ho
     exact ⟨a, b, fun v hv => valOk_mono (c v hv) hle⟩
   · simp at ho; subst ho
     exact ⟨hq, by simp [fresh], fresh_ok _⟩
 · intro f hf
   obtain ⟨a1, a2, a3, a4, a5, a6, a7⟩ := frameOk_iff.1 (hG.frames f hf)
   exact frameOk_iff.2 ⟨a1, a2, a3, a4, a5, fun v hv => valOk_mono (a6 v hv) hle, fun v hv => valOk_mono (a7 v hv) hle⟩
theorem Good.set (hG : Good p s) {n a : Int} {v : Val} (hv : valOk v s.heap.length = true) : Good p { s with heap := setField s.heap n a v } := by
 have hl : (setField s.heap n a v).length = s.heap.length := by simp [setField]
 obtain ⟨h1, h2⟩ := heapOk_iff.1 hG.heap
 refine ⟨heapOk_iff.2 ⟨by rw [hl]; exact h1, ?_⟩, ?_, hG.nf, hG.outs, hG.outsOk, ?_⟩
 · intro o ho
   rw [hl]
   obtain ⟨i, hi⟩ := List.getElem?_of_mem ho
   unfold setField at hi
   rw [List.getElem?_modify] at hi
   cases ho' : s.heap[i]? with
   | none => rw [ho'] at hi; simp at hi
   | some o' =>
    rw [ho'] at hi
    obtain ⟨b1, b2, b3⟩ := h2 o' (List.mem_of_getElem? ho')
    simp at hi
    subst hi
    split
    · refine ⟨b1, by simpa using b2, ?_⟩
      intro u hu
      rcases List.mem_or_eq_of_mem_set hu with hu | rfl
      · exact b3 u hu
      · exact hv
    · exact ⟨b1, b2, b3⟩
 · intro f hf
   simp only [hl]
   exact hG.frames f hf
 · simp only [hl]
   exact hG.back
end
end Go.Proofs.YtjdfceejkneofaaGreat.M
namespace Go.Proofs.YtjdfceejkneofaaGreat.M
theorem cls_ok {p : Plan} (hok : lodOk p = true) {r : Ref} {c : Class} (h : cls? p r = some c) : clsOk c = true := by
 unfold cls? at h
 rw [Option.bind_eq_some_iff] at h
 obtain ⟨q, hq, h2⟩ := h
 have h3 := keeper_ok hok hq
 unfold keeperOk at h3
 simp only [Bool.and_eq_true] at h3
 exact freshAll_ok h3.1.2 c (List.mem_of_find?_eq_some h2)
theorem mth_of_cls {c : Class} (h : clsOk c = true) : ∀ m ∈ c.methods, mthOk m = true := by
 unfold clsOk at h
 simp only [Bool.and_eq_true] at h
 exact freshAll_ok h.2
theorem method_ok {p : Plan} (hok : lodOk p = true) {x : MRef} (h : hasMethod p x = true) : mthOk (method p x) = true ∧ method? p x = some (method p x) := by
 obtain ⟨_, i, c, m, h1, h2, h3, h4⟩ := hasMethod_found h
 have e : method p x = m := by unfold method; rw [h4]; rfl
 rw [e]
 exact ⟨mth_of_cls (cls_ok hok h2) m (List.mem_of_getElem? h3), h4⟩
structure MthIs (m : Method) : Prop where
 args : (m.args.length : Int) + 1 ≤ m.locals
 args3 : m.args.length ≤ 3
 locals : m.locals ≤ 6
 stack1 : 1 ≤ m.stack
 stack : m.stack ≤ 5
 code1 : 1 ≤ m.code.length
 code : m.code.length ≤ 16
 ins : ∀ i ∈ m.code, insIn m i = true
 ret : kndOk m.ret = true
 kinds : ∀ k ∈ m.args, kndOk k = true
 maps : m.maps.length ≤ 5
 mapOk : ∀ f ∈ m.maps, mapOk m f = true
theorem mapsFrom_ok {m : Method} : ∀ {l : List SMap} {n : Int}, mapsFrom m n l = true → ∀ f ∈ l, mapOk m f = true
 | [], _, _ => by simp
 | x :: r, n, h => by
  unfold mapsFrom at h
  simp only [Bool.and_eq_true] at h
  intro f hf
  rcases List.mem_cons.1 hf with rfl | hf
  · exact h.1.2
  · exact mapsFrom_ok h.2 f hf
theorem mth_is {m : Method} (h : mthOk m = true) : MthIs m := by
 unfold mthOk codeOk mapsOk at h
 simp only [Bool.and_eq_true, decide_eq_true_eq, List.all_eq_true] at h
 obtain ⟨⟨⟨⟨⟨⟨⟨⟨⟨_, h2⟩, h3⟩, h4⟩, h5⟩, h6⟩, h7⟩, h8⟩, ⟨⟨h9, h10⟩, h11⟩⟩, h12, h13⟩ := h
 exact ⟨h5, h2, h6, h7, h8, h9, h10, h11, h3, h4, h12, mapsFrom_ok h13⟩
theorem chainLaid_of {p : Plan} : ∀ {l k : List Ref}, chainLaid p (l ++ k) = true → chainLaid p k = true ∧ ∀ a ∈ l, ∀ b ∈ k, pairLaid p a b = true
 | [], k, h => ⟨h, by simp⟩
 | x :: l, k, h => by
  simp only [List.cons_append, chainLaid, Bool.and_eq_true, List.all_eq_true] at h
  obtain ⟨h1, h2⟩ := chainLaid_of h.2
  refine ⟨h1, fun a ha b hb => ?_⟩
  rcases List.mem_cons.1 ha with rfl | ha
  · exact h.1 b (List.mem_append_right _ hb)
  · exact h2 a ha b hb
theorem canLay_up {p : Plan} {r x : Ref} (hc : canLay p r = true) (h : x ∈ chain p r) : canLay p x = true := by
 obtain ⟨hl, pre, hp⟩ := chain_mem h
 obtain ⟨t, ht⟩ := chain_head hl
 unfold canLay at hc ⊢
 simp only [Bool.and_eq_true, Bool.not_eq_true', List.isEmpty_eq_false_iff] at hc ⊢
 rw [hp] at hc
 exact ⟨by rw [ht]; simp, (chainLaid_of hc.2).1⟩
theorem methodIx_find {c : Class} {n : ByteArray} {i : Nat} {m : Method} (h : methodIx c n = some i) (hm : c.methods[i]? = some m) : c.methods.find? (fun x => x.name = n) = some m := by
 unfold methodIx at h
 have : ∀ (l : List Method) (i : Nat) (m : Method), l.findIdx? (fun x => decide (x.name = n)) = some i → l[i]? = some m → l.find? (fun x => decide (x.name = n)) = some m := by
  intro l
  induction l with
  | nil => intro i m h; simp at h
  | cons x r ih =>
   intro i m h hm
   rw [List.findIdx?_cons] at h
   rw [List.find?_cons]
   cases hx : decide (x.name = n)
   · rw [hx] at h
     simp only [Bool.false_eq_true, if_false, Option.map_eq_some_iff] at h
     obtain ⟨j, hj, rfl⟩ := h
     exact ih j m hj (by simpa using hm)
   · rw [hx] at h
     simp only [if_true, Option.some.injEq] at h
     subst h
     simpa using hm
 exact this _ _ _ h hm
theorem pick_args {p : Plan} {r o : Ref} {n : ByteArray} {x y : MRef} (hx : pick p r n = some x) (hu : under p o x.of = true) (hy : pick p o n = some y) : (method p y).args = (method p x).args := by
 have hxx := hx
 have hyy := hy
 unfold pick at hx hy
 split at hx
 · split at hy
   · rename_i hcr hco
     obtain ⟨a1, i, a2, a3⟩ := pickIn_found hx
     obtain ⟨b1, j, b2, b3⟩ := pickIn_found hy
     obtain ⟨hl, pre, hp⟩ := chain_mem (p := p) (r := o) (x := x.of) (by unfold under at hu; simpa using hu)
     obtain ⟨t, ht⟩ := chain_head hl
     have hco' := hco
     unfold canLay at hco
     simp only [Bool.and_eq_true] at hco
     rw [hp] at hco
     obtain ⟨_, _, i', c, m, e1, e2, e3, e4, e5⟩ := pick_found hxx
     obtain ⟨_, _, j', d, q, f1, f2, f3, f4, f5⟩ := pick_found hyy
     have em : method p x = m := by unfold method; rw [e5]; rfl
     have eq' : method p y = q := by unfold method; rw [f5]; rfl
     rw [em, eq']
     have hcx : cls p x.of = c := by unfold cls; rw [e2]; rfl
     have hcy : cls p y.of = d := by unfold cls; rw [f2]; rfl
     rw [hp, ht] at hy
     by_cases hm : y.of ∈ pre
     · have hpl := (chainLaid_of hco.2).2 y.of hm x.of (by rw [ht]; simp)
       unfold pairLaid at hpl
       simp only [Bool.and_eq_true, List.all_eq_true] at hpl
       have hq := hpl.2 q (by rw [hcy]; exact List.mem_of_getElem? f3)
       unfold methodLaid at hq
       rw [a2] at e1
       have ei := Int.ofNat.inj e1
       subst ei
       rw [f4, hcx, methodIx_find (by rw [← hcx]; exact a3) e3] at hq
       simp only [Bool.and_eq_true, decide_eq_true_eq] at hq
       exact hq.1.2
     · have : ∀ (l : List Ref), pickIn p n (l ++ x.of :: t) = some y → y.of ∉ l → y = x := by
        intro l
        induction l with
        | nil =>
         intro h _
         simp only [List.nil_append, pickIn, a3] at h
         cases h
         obtain ⟨xo, xa⟩ := x
         simp at a2; subst a2; rfl
        | cons z l ih =>
         intro h hn
         simp only [List.cons_append, pickIn] at h
         split at h
         · cases h; simp at hn
         · exact ih h (fun hh => hn (List.mem_cons_of_mem _ hh))
       have := this pre hy hm
       subst this
       rw [e5] at f5
       cases f5; rfl
   · cases hy
 · cases hx
theorem pick_has {p : Plan} {r : Ref} {n : ByteArray} {x : MRef} (h : pick p r n = some x) : hasMethod p x = true := by
 obtain ⟨h1, h2, i, c, m, h3, h4, h5, h6, h7⟩ := pick_found h
 unfold hasMethod
 have e : cls p x.of = c := by unfold cls; rw [h4]; rfl
 rw [canLay_up h1 h2, h3, e]
 have := (List.getElem?_eq_some_iff.1 h5).1
 simp
 omega
section
variable {p : Plan} {s : St} {r : List Fr} {t : Fr}
theorem enter_fine (hok : lodOk p = true) (hG : Good p s) (hs : s.status = 1) {lk : Bool} {x : MRef} {vs : List Val} (hx : hasMethod p x = true) (hv : ∀ v ∈ vs, valOk v s.heap.length = true) (hl : (vs.length : Int) ≤ (method p x).locals) :
    Fine p (enter p lk x vs s) := by
 unfold enter
 split
 · exact Fine.bad hG hs (by decide) (by decide)
 · rename_i h8
   split
   · exact Fine.bad hG hs (by decide) (by decide)
   · split
     · have hm := mth_is (method_ok hok hx).1
       refine ⟨by simp, by simp, ⟨hG.heap, ?_, by simp; omega, hG.outs, hG.outsOk, hG.back⟩, fun _ => by simp, hs⟩
       intro f hf
       rcases List.mem_append.1 hf with hf | hf
       · exact hG.frames f hf
       · simp only [List.mem_singleton] at hf
         subst hf
         refine frameOk_iff.2 ⟨hx, by simp, by simp only; have := hm.code1; omega, by simp; omega, by simp; have := hm.stack1; omega, ?_, by simp⟩
         intro v hv'
         rcases List.mem_append.1 hv' with hv' | hv'
         · exact hv v hv'
         · rw [List.mem_replicate] at hv'
           rw [hv'.2]; exact valOk_zero _
     · exact Fine.bad hG hs (by decide) (by decide)
theorem ins_a {m : Method} {i : Ins} (h : insIn m i = true) : insOk i = true ∧ ((i.op = 2 ∨ i.op = 3) → 0 ≤ i.a ∧ i.a < m.locals) ∧ ((i.op = 11 ∨ i.op = 12 ∨ i.op = 13) → 0 ≤ i.a ∧ i.a < m.code.length) ∧ (i.op = 1 → numOk i.a = true) ∧ (1 ≤ i.op ∧ i.op ≤ 15) ∧
    ((i.op = 6 ∨ i.op = 15) → namOk i.name = true) ∧ ((i.op = 7 ∨ i.op = 8 ∨ i.op = 9) → namOk i.name = true ∧ namOk i.member = true) := by
 unfold insIn at h
 simp only [Bool.and_eq_true] at h
 have h1 := h.1
 refine ⟨h1, ?_, ?_, ?_, ?_, ?_, ?_⟩
 · intro ho
   have h2 := h.2
   rw [if_pos ho] at h2
   simp only [decide_eq_true_eq] at h2
   unfold insOk isNum at h1
   rcases ho with ho | ho <;> rw [ho] at h1 <;> simp [numLeast, numMost] at h1 <;> omega
 · intro ho
   have h2 := h.2
   rw [if_neg (by omega), if_pos ho] at h2
   simp only [decide_eq_true_eq] at h2
   unfold insOk isNum at h1
   rcases ho with ho | ho | ho <;> rw [ho] at h1 <;> simp [numLeast, numMost] at h1 <;> omega
 · intro ho
   unfold insOk isNum at h1
   rw [ho] at h1
   simp [numLeast, numMost] at h1
   unfold numOk
   simp
   omega
 · unfold insOk isNum isCls isMem isPln at h1
   simp only [Bool.or_eq_true, beq_iff_eq] at h1
   repeat' split at h1
   all_goals first | omega | cases h1
 · intro ho
   unfold insOk isNum isCls at h1
   rcases ho with ho | ho <;> rw [ho] at h1 <;> simp at h1 <;> exact h1.2
 · intro ho
   unfold insOk isNum isCls isMem at h1
   rcases ho with ho | ho | ho <;> rw [ho] at h1 <;> simp at h1 <;> exact ⟨h1.1.2, h1.2⟩
theorem doIns_fine (hok : lodOk p = true) (hG : Good p s) (h : s.frames = r ++ [t]) (hs : s.status = 1) {lk : Bool} {i : Ins} (hi : insIn (method p t.of) i = true) : Fine p (doIns p lk i s) := by
 have bad : ∀ n : Int, 1 < n → n ≤ 10 → Fine p (n, s) := fun n h1 h2 => Fine.bad hG hs h1 h2
 obtain ⟨_, i2, i3, i4, i5, _, _⟩ := ins_a hi
 have ht := frameOk_iff.1 (hG.top h)
 have hpop : ∀ {v s1}, pop s = some (v, s1) → valOk v s.heap.length = true ∧ Good p s1 ∧ s1.frames = r ++ [{ t with stack := t.stack.take (t.stack.length - 1) }] ∧ s1.heap = s.heap ∧ s1.outs = s.outs ∧ s1.back = s.back ∧ s1.status = 1 := fun hp => by
  obtain ⟨a1, a2, a3, a4, a5, a6, a7⟩ := pop_good hG h hp
  exact ⟨a1, a2, a3, a4, a5, a6, a7.trans hs⟩
 unfold doIns
 by_cases e1 : i.op = 1
 · rw [if_pos e1]
   exact push_fine hG h hs (valOk_numVal _ (i4 e1))
 rw [if_neg e1]
 by_cases e2 : i.op = 2
 · rw [if_pos e2]
   rw [top_of h]
   split
   · exact bad _ (by decide) (by decide)
   · refine push_fine hG h hs ?_
     have hlt : i.a.toNat < t.locals.length := by have := i2 (.inl e2); omega
     rw [List.getElem?_eq_getElem hlt]
     exact ht.2.2.2.2.2.1 _ (List.getElem_mem _)
 rw [if_neg e2]
 by_cases e3 : i.op = 3
 · rw [if_pos e3]
   split
   · exact bad _ (by decide) (by decide)
   · rename_i v s1 hp
     obtain ⟨a1, a2, a3, a4, a5, a6, a7⟩ := hpop hp
     have ht2 := frameOk_iff.1 (a2.top a3)
     rw [onTop_of a3]
     refine next_fine (r := r) (a2.turn a3 (frameOk_iff.2 ⟨ht2.1, ht2.2.1, ht2.2.2.1, by simp; exact ht.2.2.2.1, ht2.2.2.2.2.1, ?_, ht2.2.2.2.2.2.2⟩)) rfl a7
     intro u hu
     rcases List.mem_or_eq_of_mem_set hu with hu | rfl
     · exact ht2.2.2.2.2.2.1 u hu
     · rw [a4]; exact a1
 rw [if_neg e3]
 by_cases e4 : i.op = 4
 · rw [if_pos e4]
   split
   · rename_i a b s1 hp
     obtain ⟨a1, a2, a3, a4, a5, a6, a7, a8⟩ := popAll_good hG h hp
     split
     · split
       · rename_i hn
         exact push_fine a3 a4 (a8.trans hs) (valOk_numVal _ hn)
       · exact Fine.bad a3 (a8.trans hs) (by decide) (by decide)
     · exact Fine.bad a3 (a8.trans hs) (by decide) (by decide)
   · exact bad _ (by decide) (by decide)
 rw [if_neg e4]
 by_cases e5 : i.op = 5
 · rw [if_pos e5]
   exact push_fine hG h hs (valOk_null _)
 rw [if_neg e5]
 by_cases e6 : i.op = 6
 · rw [if_pos e6]
   split
   · rename_i hc
     split
     · exact bad _ (by decide) (by decide)
     · rename_i h12
       unfold class_ at hc
       simp only [Bool.and_eq_true] at hc
       refine push_fine (r := r) (t := t) (hG.grow hc.2 (by omega)) h hs ?_
       exact valOk_mk _ (by simp) (by simp; omega)
   · exact bad _ (by decide) (by decide)
 rw [if_neg e6]
 by_cases e7 : i.op = 7
 · rw [if_pos e7]
   split
   · rename_i hg
     split
     · exact bad _ (by decide) (by decide)
     · rename_i v s1 hp
       obtain ⟨a1, a2, a3, a4, a5, a6, a7⟩ := hpop hp
       split
       · rename_i ho
         obtain ⟨_, _, _, o, b1, b2, b3, b4⟩ := field_place a2 hg (by rw [a4]; exact a1) ho
         refine push_fine a2 a3 a7 ?_
         rw [b3, List.getElem?_eq_getElem b4]
         exact ((heapOk_iff.1 a2.heap).2 o b2).2.2 _ (List.getElem_mem _)
       · rename_i ho
         rcases object_lt (p := p) v (get p (top s).of.of.keeper i.name i.member).1.of s1 with h1 | h1
         · exact absurd h1 ho
         · exact Fine.bad a2 a7 h1.1 h1.2
   · exact bad _ (by decide) (by decide)
 rw [if_neg e7]
 by_cases e8 : i.op = 8
 · rw [if_pos e8]
   split
   · split
     · rename_i o v s1 hp
       obtain ⟨a1, a2, a3, a4, a5, a6, a7, a8⟩ := popAll_good hG h hp
       have a8' := a8.trans hs
       split
       · split
         · exact next_fine (r := r) (a3.set (by rw [a5]; exact a2 v (by simp))) a4 a8'
         · rename_i ho
           rcases object_lt (p := p) o (get p (top s).of.of.keeper i.name i.member).1.of s1 with h1 | h1
           · exact absurd h1 ho
           · exact Fine.bad a3 a8' h1.1 h1.2
       · exact Fine.bad a3 a8' (by decide) (by decide)
     · exact bad _ (by decide) (by decide)
   · exact bad _ (by decide) (by decide)
 rw [if_neg e8]
 by_cases e9 : i.op = 9
 · rw [if_pos e9]
   split
   · rename_i hc
     split
     · rename_i vs s1 hp
       obtain ⟨a1, a2, a3, a4, a5, a6, a7, a8⟩ := popAll_good hG h hp
       have a8' := a8.trans hs
       split
       · rename_i ho
         split
         · rename_i x hx
           obtain ⟨o1, o2⟩ := object_one ho
           obtain ⟨q, hq⟩ := call_found hc
           have hargs := pick_args hq o2 hx
           have hm := mth_is (method_ok hok (pick_has hx)).1
           refine enter_fine hok a3 a8' (pick_has hx) (by rw [a5]; exact a2) ?_
           have := hm.args
           rw [a1, ← hargs]
           simpa using this
         · exact Fine.bad a3 a8' (by decide) (by decide)
       · rename_i ho
         rcases object_lt (p := p) (vs.headD zval) (call p (top s).of.of.keeper i.name i.member).1.of s1 with h1 | h1
         · exact absurd h1 ho
         · exact Fine.bad a3 a8' h1.1 h1.2
     · exact bad _ (by decide) (by decide)
   · exact bad _ (by decide) (by decide)
 rw [if_neg e9]
 by_cases e10 : i.op = 10
 · rw [if_pos e10]
   split
   · exact bad _ (by decide) (by decide)
   · rename_i v s1 hp
     obtain ⟨a1, a2, a3, a4, a5, a6, a7⟩ := hpop hp
     split
     · split
       · exact Fine.bad (s := { s1 with back := v }) ⟨a2.heap, a2.frames, a2.nf, a2.outs, a2.outsOk, by rw [a4]; exact a1⟩ a7 (by decide) (by decide)
       · rename_i hn
         have hr : r ≠ [] := by
          rintro rfl
          rw [a3] at hn
          simp at hn
         obtain ⟨r', t', rfl⟩ : ∃ r' t', r = r' ++ [t'] := ⟨r.dropLast, r.getLast hr, (List.dropLast_concat_getLast hr).symm⟩
         have hd : s1.frames.dropLast = r' ++ [t'] := by rw [a3]; simp
         refine push_fine (s := { s1 with frames := s1.frames.dropLast }) (r := r') (t := t') ⟨a2.heap, ?_, ?_, a2.outs, a2.outsOk, a2.back⟩ hd a7 (by rw [a4]; exact a1)
         · intro f hf
           exact a2.frames f (List.dropLast_subset _ hf)
         · have := a2.nf
           simp only [List.length_dropLast]; omega
     · exact Fine.bad a2 a7 (by decide) (by decide)
 rw [if_neg e10]
 by_cases e11 : i.op = 11
 · rw [if_pos e11]
   split
   · exact bad _ (by decide) (by decide)
   · rename_i v s1 hp
     obtain ⟨a1, a2, a3, a4, a5, a6, a7⟩ := hpop hp
     split
     · split
       · exact jump_fine a2 a3 a7 (i3 (.inl e11)).1
       · exact next_fine a2 a3 a7
     · exact Fine.bad a2 a7 (by decide) (by decide)
 rw [if_neg e11]
 by_cases e12 : i.op = 12
 · rw [if_pos e12]
   split
   · exact bad _ (by decide) (by decide)
   · rename_i v s1 hp
     obtain ⟨a1, a2, a3, a4, a5, a6, a7⟩ := hpop hp
     split
     · split
       · exact jump_fine a2 a3 a7 (i3 (.inr (.inl e12))).1
       · exact next_fine a2 a3 a7
     · exact Fine.bad a2 a7 (by decide) (by decide)
 rw [if_neg e12]
 by_cases e13 : i.op = 13
 · rw [if_pos e13]
   exact jump_fine hG h hs (i3 (.inr (.inr e13))).1
 rw [if_neg e13]
 by_cases e14 : i.op = 14
 · rw [if_pos e14]
   split
   · exact bad _ (by decide) (by decide)
   · rename_i v s1 hp
     obtain ⟨a1, a2, a3, a4, a5, a6, a7⟩ := hpop hp
     split
     · rename_i hk
       split
       · rename_i ho
         refine next_fine (r := r) (s := { s1 with outs := s1.outs ++ [v.n] }) ⟨a2.heap, a2.frames, a2.nf, by simp; omega, ?_, a2.back⟩ a3 a7
         intro n hn
         rcases List.mem_append.1 hn with hn | hn
         · exact a2.outsOk n hn
         · simp at hn; subst hn
           have := valOk_num a1 hk
           unfold numOk; simp; omega
       · exact next_fine a2 a3 a7
     · exact Fine.bad a2 a7 (by decide) (by decide)
 rw [if_neg e14]
 · split
   · exact bad _ (by decide) (by decide)
   · rename_i v s1 hp
     obtain ⟨a1, a2, a3, a4, a5, a6, a7⟩ := hpop hp
     split
     · split
       · exact push_fine a2 a3 a7 (by rw [a4]; exact a1)
       · split
         · split
           · exact push_fine a2 a3 a7 (by rw [a4]; exact a1)
           · exact Fine.bad a2 a7 (by decide) (by decide)
         · exact Fine.bad a2 a7 (by decide) (by decide)
     · exact Fine.bad a2 a7 (by decide) (by decide)
structure Runs (p : Plan) (s : St) : Prop where
 good : Good p s
 st : 1 ≤ s.status ∧ s.status ≤ 10
 goes : s.status = 1 ↔ s.frames ≠ []
theorem runs_iff {p : Plan} {s : St} : vmOk p s = true ↔ Runs p s := by
 unfold vmOk
 simp only [Bool.and_eq_true, decide_eq_true_eq, List.all_eq_true, beq_iff_eq]
 constructor
 · rintro ⟨⟨⟨⟨⟨⟨⟨⟨⟨h1, h2⟩, h3⟩, h4⟩, h5⟩, h6⟩, h7⟩, h8⟩, h9⟩, h10⟩
   refine ⟨⟨h9, h8, h5, h4, h7, h10⟩, ⟨h1, h2⟩, ?_⟩
   rw [Bool.eq_iff_iff] at h6
   simp only [decide_eq_true_eq] at h6
   rw [← h6, List.length_pos_iff]
 · rintro ⟨⟨h9, h8, h5, h4, h7, h10⟩, ⟨h1, h2⟩, h6⟩
   refine ⟨⟨⟨⟨⟨⟨⟨⟨⟨h1, h2⟩, (heapOk_iff.1 h9).1⟩, h4⟩, h5⟩, ?_⟩, h7⟩, h8⟩, h9⟩, h10⟩
   rw [Bool.eq_iff_iff]
   simp only [decide_eq_true_eq]
   rw [h6, List.length_pos_iff]
theorem Fine.runs {x : Int × St} (h : Fine p x) : Runs p (end_ x.1 x.2) := by
 obtain ⟨n, s⟩ := x
 obtain ⟨h1, h2, hG, h3, h4⟩ := h
 unfold end_
 simp only at *
 split
 · rename_i e; exact ⟨hG, by omega, by simp [h4, h3 e]⟩
 · rename_i e
   exact ⟨⟨hG.heap, by simp, by simp, hG.outs, hG.outsOk, hG.back⟩, ⟨h1, h2⟩, by simp [e]⟩
theorem step_ins (hok : lodOk p = true) (hR : Runs p s) (hs : s.status = 1) : ∃ r t i, s.frames = r ++ [t] ∧ frameOk p t s.heap.length = true ∧ (method p t.of).code[t.pc.toNat]? = some i ∧ insIn (method p t.of) i = true := by
 obtain ⟨r, t, h⟩ := frames_top (hR.goes.1 hs)
 have ht := hR.good.top h
 obtain ⟨h1, h2, h3, _⟩ := frameOk_iff.1 ht
 have hlt : t.pc.toNat < (method p t.of).code.length := by omega
 exact ⟨r, t, _, h, ht, List.getElem?_eq_getElem hlt, (mth_is (method_ok hok h1).1).ins _ (List.getElem_mem _)⟩
theorem step_runs (hok : lodOk p = true) (hR : Runs p s) (lk : Bool) : Runs p (step p lk s) := by
 unfold step
 split
 · rename_i hs
   obtain ⟨r, t, i, h, _, h2, h3⟩ := step_ins hok hR hs
   refine Fine.runs ?_
   unfold stepped
   rw [top_of h, h2]
   exact doIns_fine hok hR.good h hs h3
 · exact hR
end
end Go.Proofs.YtjdfceejkneofaaGreat.M
namespace Go.Proofs.YtjdfceejkneofaaGreat
open Go Go.RowKit
open Go.Lib (hid)
attribute [local go_sem] Oper.semAt_some
theorem cls_fields {p : M.Plan} (hok : M.lodOk p = true) {r : M.Ref} {c : M.Class} (h : M.cls? p r = some c) : c.fields.length ≤ 3 := by
 have := M.cls_ok hok h
 unfold M.clsOk at this
 simp only [Bool.and_eq_true, decide_eq_true_eq] at this
 exact this.1.1.1.2
theorem layout_small {p : M.Plan} (hok : M.lodOk p = true) (L : List M.Ref) : (M.layoutGo p L []).length ≤ L.length * 3 := by
 rw [M.layoutGo_len]
 induction L with
 | nil => simp
 | cons c r ih =>
  have : (M.cls p c).fields.length ≤ 3 := by
   unfold M.cls
   cases h : M.cls? p c with
   | none => simp [M.zcls]
   | some d => exact cls_fields hok h
  simp only [List.map_cons, List.sum_cons, List.length_cons, List.length_nil] at ih ⊢
  omega
theorem layoutGo_snoc (p : M.Plan) (L : List M.Ref) (c : M.Ref) : M.layoutGo p (L ++ [c]) [] = M.addFields c (M.cls p c).fields (M.layoutGo p L []) := by
 rw [M.layoutGo_append]; rfl
theorem refs_inside {w : World} {I : Nat → Prop} {v : Value} {xs : List M.Ref} (h : SliceOf 2 RefL w I v xs) : SliceOf 2 RefL w (fun b => I b ∧ b < w.heap.size) v xs := by
 obtain ⟨a, cap, e, h1, h2, h3⟩ := h
 refine ⟨a, cap, e, h1, h2, fun i x hx => ?_⟩
 obtain ⟨b, off, cs, ea, hI, rfl, hl, hc⟩ := h3 i x hx
 exact ⟨b, off, _, ea, ⟨hI, cell_lt hc.two.1⟩, rfl, hl, hc⟩
def LayI (p : M.Plan) (w2 : World) (bb S : Nat) (pre : List (Int × M.Ref)) (W : World) : Prop :=
 ∃ v', Blk W bb 190 #[v'] ∧ W.ownsRow S 159 5 v' (M.layoutGo p (pre.map Prod.snd) []).length ((M.layoutGo p (pre.map Prod.snd) []).flatMap frefCs) ∧ Kp (· = bb) w2 W
theorem lodge_layout (w : World) (l : Lodge) (p : M.Plan) (h : LodgeAt w l p) (r : M.Ref) :
    Calls Tryz.prog 80 #[.pointer (some ⟨l.L, 0, none⟩), .agg #[.int .i64 r.keeper, .string r.name]] w fun e w' =>
     (∃ v, e = .returned v ∧ SliceOf 5 FRefL w' (fun b => w.heap.size ≤ b) v (M.layout p r)) ∧ LodgeAt w' l p ∧ Kp (· = l.D) w w' := by
 have hDw := h.dlt
 have hLw := h.lt
 have hO := h.ord
 have hE0 : Ext w ((w.alloc (.cells #[.pointer (some ⟨l.L, 0, none⟩)] 71)).alloc (.cells #[.int .i64 r.keeper, .string r.name] 76)) := (KX.k (by repeat (first | assumption | constructor)))
 have H := hid (h.ext hE0)
 have b2 := (Blk.new w 71 #[.pointer (some ⟨l.L, 0, none⟩)]).ext ((Kp.refl _ _).alloc (.cells #[.int .i64 r.keeper, .string r.name] 76))
 have b3 := Blk.new (w.alloc (.cells #[.pointer (some ⟨l.L, 0, none⟩)] 71)) 76 #[.int .i64 r.keeper, .string r.name]
 simp only [World.size_alloc] at b3
 have HE0 := hid hE0
 clear h hE0
 refine (callsIn_wide (n := 10)).1 ?_
 refine callsIn_of_wp_marks Tryz.func80 rfl trivial ?_ rfl
 simp only [Tryz.ntmps80, List.size_toArray, List.length_cons, List.length_nil, Nat.reduceAdd, Nat.reduceSub, Array.replicate_succ, Array.replicate_zero, List.push_toArray, List.append_toArray, List.nil_append, List.cons_append]
 have q2 := b2.c 0 (.pointer (some ⟨l.L, 0, none⟩)) rfl
 have q3 := b3.c 0 (.int .i64 r.keeper) rfl
 have q4 := b3.c 1 (.string r.name) rfl
 cases hcan : M.canLay p r
 all_goals
  have HC := hid hcan
  clear hcan
  gi_wp2_with fail
  refine ⟨trivial, ?_⟩
  refine (callsIn_wide.2 (lodge_canLay _ _ _ H.out r)).mono ?_
  rintro e w1 ⟨rfl, hL1, hK1⟩
  rw [HC.out]
  have hz1 : w.heap.size + 1 < w1.heap.size := by have := hK1.size; simp at this; omega
  have hz0 : w.heap.size < w1.heap.size := by omega
  have b21 := b2.kp hK1 (by omega)
  have b31 := b3.kp hK1 (by omega)
  have HK1 : Hid (Kp (· = l.D) w w1) := hid (HE0.out.any.trans hK1)
  have HL1 := hid hL1
  have p2 := b21.c 0 (.pointer (some ⟨l.L, 0, none⟩)) rfl
  have p3 := b31.c 0 (.int .i64 r.keeper) rfl
  have p4 := b31.c 1 (.string r.name) rfl
  clear q2 q3 q4 hK1 hL1
 · have HV : Hid (M.layout p r = []) := hid (by unfold M.layout; rw [HC.out]; rfl)
   gi_wp2_with fail
   refine ⟨.slice none 0 0, by simp [results, Tryz.f80, go_sem], ⟨_, rfl, by rw [HV.out]; exact SliceOf.nil _ _ _ _⟩, HL1.out, HK1.out⟩
 · have HV : Hid (M.layout p r = M.layoutGo p (M.chain p r).reverse []) := hid (by unfold M.layout; rw [HC.out]; rfl)
   have b5 := Blk.new w1 190 #[.slice none 0 0]
   gi_wp2_with fail
   refine ⟨trivial, ?_⟩
   refine (callsIn_wide.2 (lodge_chain _ _ _ (HL1.out.ext (KX.k (by repeat (first | assumption | constructor)))) r)).mono ?_
   rintro e w2 ⟨⟨v, rfl, hs⟩, hE2⟩
   obtain ⟨a, cap, rfl, hn, hcap⟩ := hs.form
   gi_wp2_with fail
   refine ⟨trivial, ?_⟩
   refine (callsIn_wide.2 (backward_ref _ _ _ _)).mono ?_
   rintro e w3 ⟨rfl, rfl⟩
   gi_wp2_with fail
   have hz2 := hE2.size
   simp only [World.size_alloc] at hz2
   have bb2 := b5.ext hE2
   have HL2 : Hid (LodgeAt w2 l p) := hid ((HL1.out.ext (KX.k (by repeat (first | assumption | constructor)))).ext hE2)
   have HK2 : Hid (Kp (· = l.D) w w2) := hid (HK1.out.trans (((KX.k (by repeat (first | assumption | constructor))) : Ext w1 _).any.trans hE2.any))
   have B2 := hid (And.intro ((b21.ext (KX.k (by repeat (first | assumption | constructor)))).ext hE2) ((b31.ext (KX.k (by repeat (first | assumption | constructor)))).ext hE2))
   have hbb : w1.heap.size < w2.heap.size := by omega
   clear b2 b3 b21 b31 b5 p2 p3 p4 hE2
   generalize hbbe : w1.heap.size = bb at *
   have HS := hid hs
   have HLEN : Hid ((M.chain p r).length ≤ 6) := hid (M.chain_len p r)
   have HOWN : Hid (∀ x ∈ M.chain p r, ∃ c, M.cls? p x = some c) := hid fun x hx => M.chain_owned hx
   clear hs
   generalize M.chain p r = xs at *
   refine range_kp (gf := 133) (lb := #[.pointer (some ⟨w2.heap.size, 0, none⟩)]) (α := Int × M.Ref) rfl (enters_of Tryz.func133 (by kernel_rfl) rfl) (encs := encBR) (fun x => rfl)
    (Bb := fun k => k = bb ∨ w2.heap.size + 3 ≤ k)
    (backward_iter xs w2.heap.size (.slice a xs.length cap) (fun b => bb + 1 ≤ b ∧ b < w2.heap.size) _ ?hBd) ?hIt ?hD1 ?hD2 ?hB1 ?hB2
    (LayI p w2 bb (w2.heap.size + 3)) (fun _ _ _ => False) ?hI ?hIx ?h0 ?hIB
    (fun pre x W a₁ W₁ => LayI p w2 bb (w2.heap.size + 3) pre W ∧ (∃ rest, backTo xs xs.length = pre ++ x :: rest) ∧
     w2.heap.size + 2 < W.heap.size ∧ W₁ = W.alloc (.cells #[.int .i64 x.2.keeper, .string x.2.name] 76) ∧
     a₁ = { tmps := #[.pointer (some ⟨l.L, 0, none⟩), .agg #[.int .i64 r.keeper, .string r.name], .pointer (some ⟨w.heap.size, 0, none⟩), .pointer (some ⟨w.heap.size + 1, 0, none⟩), .slice none 0 0, .pointer (some ⟨bb, 0, none⟩), undef, .pointer (some ⟨W.heap.size, 0, none⟩),
      .pointer (some ⟨l.L, 0, none⟩), .agg #[.int .i64 r.keeper, .string r.name], .bool true, .bool false, .pointer (some ⟨l.L, 0, none⟩), .agg #[.int .i64 r.keeper, .string r.name], .slice a xs.length cap, .func (.func 133) #[] #[.pointer (some ⟨w2.heap.size, 0, none⟩)],
      .int .i64 x.1, .agg #[.int .i64 x.2.keeper, .string x.2.name], undef, undef, undef, undef, undef, undef, undef, undef], defers := [] }) ?hassign ?hAx ?hbody ?hdone ?hstop
   case hBd =>
    intro k hk
    have hk' : (k = bb ∨ w2.heap.size + 3 ≤ k) ∨ k = (w2.alloc (.cells #[.slice a xs.length cap] 73)).heap.size + 1 := hk
    simp only [World.size_alloc] at hk'
    omega
   case hIt =>
    intro W hW
    refine ⟨(Blk.new _ _ _).ext hW, ?_⟩
    refine (refs_inside HS.out).keep RefL.stays (Ext.same (((Kp.refl _ w2).alloc _ : Ext w2 _).trans hW)) (fun b hb => ?_)
    have := hb.1
    simp only [World.size_alloc] at this
    exact ⟨by omega, hb.2⟩
   case hD1 => exact fun h => h
   case hD2 => exact fun h => h
   case hB1 => simp only [World.size_alloc]; omega
   case hB2 => simp only [World.size_alloc]; omega
   case hI =>
    rintro s A B ⟨v', e1, e2, e3⟩ hk
    simp only [World.size_alloc] at hk
    exact ⟨v', e1.kp hk (by simp; omega), owns_kp e2 hk (fun g _ hg h => by simp at h; omega), e3.own hk (fun k hk => by simp at hk; omega)⟩
   case hIx => exact fun _ _ _ _ h => h.elim
   case h0 => exact ⟨.slice none 0 0, bb2.ext (KX.k (by repeat (first | assumption | constructor))), World.ownsRow_nil _ _ _ _, ((KX.k (by repeat (first | assumption | constructor))) : Ext w2 _).any⟩
   case hIB => exact fun _ _ _ => trivial
   case hassign =>
    intro pre x W K hnx hi hlt hK
    simp only [encBR]
    simp only [World.size_alloc] at hlt
    gi_wp2
   case hAx =>
    rintro pre x W a₁ W₁ ⟨_, _, _, rfl, _⟩
    exact ((Kp.refl _ W).alloc _)
   case hbody =>
    rintro pre x W a₁ W₁ W₂ ⟨⟨v', e1, e2, e3⟩, hnx, hlt, rfl, rfl⟩ hk12 hsz2
    simp only [World.size_alloc] at hk12 hsz2
    obtain ⟨rest, hrest⟩ := hnx
    have hxm : x.2 ∈ xs := by
     have := congrArg (List.map Prod.snd) hrest
     rw [backTo_snd _ _ (Nat.le_refl _), List.take_length] at this
     have h2 : x.2 ∈ xs.reverse := by rw [this]; simp
     simpa using h2
    have hlenp : (pre.map Prod.snd).length ≤ 6 := by
     have := congrArg List.length hrest
     have h2 := congrArg List.length (backTo_snd xs xs.length (Nat.le_refl _))
     simp at this h2
     have := HLEN.out
     simp; omega
    obtain ⟨c, hcl⟩ := HOWN.out _ hxm
    have hKW : Kp (· = bb) w2 W₂ := (e3.alloc _).own hk12 (fun k hk => by omega)
    have hLW : LodgeAt W₂ l p := HL2.out.kp hKW (fun k hk e => by omega)
    obtain ⟨cs, hcs, hcall⟩ := class_fixed _ l p hLW x.2.keeper x.2.name c hcl
    obtain ⟨a1, c1, a2, c2, rfl⟩ := hcs.form
    obtain ⟨vf', vm', he', sf, -⟩ := hcs
    simp only [List.cons.injEq, and_true, true_and] at he'
    obtain ⟨rfl, rfl⟩ := he'
    have hfl : ∀ W, (Instr.field 50 (.agg #[.string c.name, .string c.super, .slice a1 c.fields.length c1, .slice a2 c.methods.length c2]) 2).run Tryz.prog W = .ok (.slice a1 c.fields.length c1) W := (fun W => by kernel_rfl)
    have cb := (Blk.new W 76 #[.int .i64 x.2.keeper, .string x.2.name]).kp hk12 (by omega)
    have u0 := cb.c 0 (.int .i64 x.2.keeper) rfl
    have u1 := cb.c 1 (.string x.2.name) rfl
    have uz := cb.lt
    have t2 := (B2.out.1.kp hKW (by omega)).c 0 (.pointer (some ⟨l.L, 0, none⟩)) rfl
    have tz := cell_lt t2
    have g1 := (e1.ext ((Kp.refl _ W).alloc _)).kp hk12 (by omega)
    have g2 := owns_kp (owns_kp (D := fun _ => False) e2 ((Kp.refl _ W).alloc (.cells #[.int .i64 x.2.keeper, .string x.2.name] 76)) (fun _ _ _ h => h)) hk12 (fun g _ hg => by omega)
    have HG := hid (And.intro g1 (And.intro g2 hKW))
    have HSF := hid sf
    have HCA := hid hcall
    have HLW := hid hLW
    have HF3 := hid (cls_fields hLW.ok hcl)
    have HCL := hid hcl
    have hzz : w2.heap.size + 3 ≤ W₂.heap.size := by omega
    have hv7 : ¬ v'.ownBlock = some W.heap.size := fun e => by have := (e2.lt _ e).2; omega
    have hvB : ∀ q, v'.ownBlock = some q → w2.heap.size + 3 ≤ q := fun q hq => (e2.lt _ hq).1
    obtain ⟨T, f, hneT, HT⟩ := Cls.ex (fun W' => Kp (fun k => k = bb ∨ v'.ownBlock = some k) W₂ W') _ (Kp.refl _ _)
    have r2 := fun s => ((B2.out.1.kp hKW (by omega)).kp (HT.inn s) (by intro h; rcases h with h | h; (· omega); (· have := hvB _ h; omega))).c 0 (.pointer (some ⟨l.L, 0, none⟩)) rfl
    have r7 := fun s => (cb.kp (HT.inn s) (by intro h; rcases h with h | h; (· omega); (· exact hv7 h))).c 0 (.int .i64 x.2.keeper) rfl
    have r8 := fun s => (cb.kp (HT.inn s) (by intro h; rcases h with h | h; (· omega); (· exact hv7 h))).c 1 (.string x.2.name) rfl
    have HTH := hid HT
    have HVB := hid hvB
    clear e1 e2 e3 cb g1 g2 hKW sf hcall hLW hcl hk12 hsz2 bb2 t2 u0 u1 HT hvB hv7
    gi_wp2_with fail
    (refine region_mixI f 6 [([0, 1, 2], 3), ([4], 5)] [] (HTH.out.out _ ?_) (fun _ => trivial) (by kernel_rfl) (by kernel_rfl) (by kernel_rfl) (fun _ _ d _ _ h => by cases d <;> exact h) ?_)
    · exact (Kp.refl _ _).drew
    (refine wpMixI_cons rfl rfl fun K hK => ?_); (change wpQuiet _ _ _ _ [_, _, _] _); (repeat (go_big_quiet_step (fail))); (refine wpQuiet_nil ?_); (refine hK _ fun K2 hK2 => ?_); clear hK K; (change wpListIn _ _ _ _ _ [_] _ _)
    gi_wp2_with fail
    refine ⟨trivial, ?_⟩
    refine (CallsIn.inRound _ (callsIn_wide.2 (HCA.out _ ((Kp.refl _ _).drew)))).mono ?_
    rintro e w4 ⟨rfl, hE4⟩
    have hK4 : ∀ D : Nat → Prop, Kp D W₂ w4 := fun D => (((Kp.refl _ W₂).drew : Ext W₂ _).trans hE4).any
    gi_wp2_with fail
    (refine hK2 _ _ (HTH.out.out _ (hK4 _)) ?_); clear hK2 K2
    (refine wpMixI_cons rfl rfl fun K hK => ?_); (change wpQuiet _ _ _ _ [_] _); (repeat (go_big_quiet_step (fail))); (refine wpQuiet_nil ?_); (refine hK _ fun K2 hK2 => ?_); clear hK K; (change wpListIn _ _ _ _ _ [_] _ _)
    gi_wp2_with fail
    refine ⟨trivial, ?_⟩
    have hkp4 : Ext W₂ w4 := hK4 _
    refine (CallsIn.inRound _ (callsIn_wide.2 (builder_add w4 bb (w2.heap.size + 3) v' _ x.2 (· < l.O) _ c.fields (HG.out.1.ext hkp4) (owns_kp (D := fun _ => False) HG.out.2.1 hkp4 fun _ _ _ x => x) (SliceOf.ext HSF.out FieldL.stays hkp4) (fun b hb => by omega) (by have := hkp4.size; omega) ?hl (fun e => by have := HVB.out _ e; omega)))).mono ?_
    case hl =>
     have h1 := HF3.out
     have h2 := layout_small HLW.out.ok (pre.map Prod.snd)
     omega
    rintro e w5 ⟨rfl, v5, hB5, hO5, hn5, hK5⟩
    have HR5 := hid (And.intro hB5 (And.intro hO5 (And.intro hn5 hK5)))
    have hK5' : Kp (fun k => k = bb ∨ v'.ownBlock = some k) W₂ w5 := (hK4 _).trans hK5
    clear hB5 hO5 hn5 hK5 hE4 hK4
    gi_wp2_with fail
    (refine hK2 _ _ (HTH.out.out _ hK5') ?_); clear hK2 K2
    (refine wpMixI_nil rfl fun K hK => ?_); (change wpQuiet _ _ _ _ [] _); (refine wpQuiet_nil ?_); (refine hK _ ?_); clear hK K
    gi_wp2_with fail
    have hcx : M.cls p x.2 = c := by unfold M.cls; rw [HCL.out]; rfl
    refine ⟨hK5'.weak ?_, v5, HR5.out.1, ?_, (HG.out.2.2.mix hK5' ?_)⟩
    · intro k hk h
      rcases h with h | h
      · exact .inl h
      · exact .inr (HVB.out _ h)
    · rw [List.map_append, List.map_cons, List.map_nil, layoutGo_snoc, hcx, M.addFields_len]
      exact HR5.out.2.1
    · intro k hk h
      rcases h with h | h
      · exact h
      · have := HVB.out _ h; omega
   case hdone =>
    rintro ys W rfl ⟨v', e1, e2, e3⟩ hK
    obtain ⟨va, vc, rfl⟩ := owns_val e2
    have k0 := e1.c 0 _ rfl
    have HE := hid (And.intro e1 (And.intro e2 e3))
    clear e1 e2 e3 bb2
    simp only [Exit.inBlock, Exit.then]
    gi_wp2
    obtain ⟨e1, e2, e3⟩ := HE.out
    refine ⟨by simp, .inl ⟨_, _, rfl, run_takeDeferred hK, ?_⟩⟩
    have hk6 := Kp.putObj W (w2.alloc (.cells #[.slice a xs.length cap] 73)).heap.size (.deferred none)
    have hsz2 : (w2.alloc (.cells #[.slice a xs.length cap] 73)).heap.size = w2.heap.size + 1 := by simp
    refine ⟨.slice va (M.layoutGo p ((backTo xs xs.length).map Prod.snd) []).length vc, by simp [results, Tryz.f80, go_sem], ⟨_, rfl, ?_⟩, ?_, ?_⟩
    · have hsnd : (backTo xs xs.length).map Prod.snd = xs.reverse := by rw [backTo_snd _ _ (Nat.le_refl _), List.take_length]
      rw [HV.out, ← hsnd]
      have h1 := layout_small HL2.out.ok ((backTo xs xs.length).map Prod.snd)
      have h2 : ((backTo xs xs.length).map Prod.snd).length = xs.length := by rw [hsnd, List.length_reverse]
      have h3 := HLEN.out
      exact SliceOf.of_owns (base := w2.heap.size + 3) frefCs (owns_kp e2 hk6 (fun g _ hg => by omega)) rfl rfl (fun _ _ => rfl) (fun _ _ => rfl) (fun b h h' => by show w.heap.size ≤ b; omega) (by omega)
    · exact (HL2.out.kp e3 (fun k hk e => by omega)).kp hk6 (fun k hk e => by omega)
    · exact ((HK2.out.own e3 (fun k hk => by omega))).own hk6 (fun k hk => by omega)
   case hstop => exact fun _ _ _ _ h => h.elim
end Go.Proofs.YtjdfceejkneofaaGreat
