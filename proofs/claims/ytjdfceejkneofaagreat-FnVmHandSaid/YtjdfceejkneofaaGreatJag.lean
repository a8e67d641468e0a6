/- Plain facts on chains and layouts: no class stands twice in a chain; where a field of a layout comes; Walks: layoutBuilder.add.; Walks: slices.Backward over classes' references, as an iterator.; A range over a function in whose rounds a panic may come up.; The same inside a fence that lets all functions in (also in a round of a range over a function). -/
import Derived.Test.YtjdfceejkneofaaGreatJaf
import Derived.Test.YtjdfceejkneofaaGreatJac
import Derived.Sort.LoopGhostIn
set_option maxRecDepth 100000
set_option maxHeartbeats 4000000
set_option linter.unusedSimpArgs false
set_option linter.unusedVariables false
namespace Go.Proofs.YtjdfceejkneofaaGreat.M
theorem climbGo_head {p : Plan} : ∀ (f : Nat) (r : Ref) (l : List Ref), climbGo p f r = some l → ∃ t, l = r :: t := by
 intro f
 cases f with
 | zero => intro r l h; simp [climbGo] at h
 | succ f =>
  intro r l h
  unfold climbGo at h
  split at h
  · cases h; exact ⟨[], rfl⟩
  · split at h
    · cases hg : climbGo p f (resolve p r.keeper (super p r)).1 with
      | none => rw [hg] at h; simp at h
      | some rs => rw [hg] at h; simp at h; exact ⟨rs, h.symm⟩
    · cases h
theorem climbGo_more {p : Plan} : ∀ (f : Nat) (r : Ref) (l : List Ref), climbGo p f r = some l → ∀ g, l.length ≤ g → climbGo p g r = some l := by
 intro f
 induction f with
 | zero => intro r l h; simp [climbGo] at h
 | succ f ih =>
  intro r l h g hg
  obtain ⟨t, rfl⟩ := climbGo_head _ _ _ h
  cases g with
  | zero => simp at hg
  | succ g =>
   unfold climbGo at h ⊢
   split at h
   · rename_i h1; rw [if_pos h1]; exact h
   · rename_i h1
     rw [if_neg h1]
     split at h
     · rename_i h2
       rw [if_pos h2]
       cases hc : climbGo p f (resolve p r.keeper (super p r)).1 with
       | none => rw [hc] at h; simp at h
       | some rs =>
        rw [hc] at h
        simp at h
        subst h
        rw [ih _ _ hc g (by simp at hg; omega)]
        simp
     · cases h
theorem climbGo_suffix {p : Plan} : ∀ (f : Nat) (r : Ref) (l : List Ref), climbGo p f r = some l → ∀ i x, l[i]? = some x → ∃ g, climbGo p g x = some (l.drop i) := by
 intro f
 induction f with
 | zero => intro r l h; simp [climbGo] at h
 | succ f ih =>
  intro r l h i x hx
  cases i with
  | zero =>
   obtain ⟨t, rfl⟩ := climbGo_head _ _ _ h
   simp at hx; subst hx
   exact ⟨f + 1, h⟩
  | succ i =>
   unfold climbGo at h
   split at h
   · cases h; simp at hx
   · split at h
     · cases hc : climbGo p f (resolve p r.keeper (super p r)).1 with
       | none => rw [hc] at h; simp at h
       | some rs =>
        rw [hc] at h
        simp at h
        subst h
        simpa using ih _ _ hc i x (by simpa using hx)
     · cases h
theorem climbGo_one {p : Plan} {f g : Nat} {r : Ref} {a b : List Ref} (ha : climbGo p f r = some a) (hb : climbGo p g r = some b) : a = b := by
 have h1 := climbGo_more _ _ _ ha (max a.length b.length) (Nat.le_max_left _ _)
 have h2 := climbGo_more _ _ _ hb (max a.length b.length) (Nat.le_max_right _ _)
 rw [h1] at h2
 exact Option.some.inj h2
theorem climbGo_nodup {p : Plan} (f : Nat) (r : Ref) (l : List Ref) (h : climbGo p f r = some l) : l.Nodup := by
 refine List.pairwise_iff_getElem.2 ?_
 intro i j hi hj hij he
 obtain ⟨g1, e1⟩ := climbGo_suffix _ _ _ h i l[i] (List.getElem?_eq_getElem hi)
 obtain ⟨g2, e2⟩ := climbGo_suffix _ _ _ h j l[i] (by rw [he]; exact List.getElem?_eq_getElem hj)
 have := congrArg List.length (climbGo_one e1 e2)
 simp at this
 omega
theorem nodup_rev {α : Type} {l : List α} (h : l.Nodup) : l.reverse.Nodup :=
 List.pairwise_reverse.2 (h.imp fun h => fun e => h e.symm)
theorem chain_nodup (p : Plan) (r : Ref) : (chain p r).Nodup := by
 unfold chain
 split
 · unfold climb
   cases h : climbGo p 6 r with
   | none => simp
   | some l => exact climbGo_nodup _ _ _ h
 · simp
theorem climbGo_len {p : Plan} : ∀ (f : Nat) (r : Ref) (l : List Ref), climbGo p f r = some l → l.length ≤ f := by
 intro f
 induction f with
 | zero => intro r l h; simp [climbGo] at h
 | succ f ih =>
  intro r l h
  unfold climbGo at h
  split at h
  · cases h; simp
  · split at h
    · cases hc : climbGo p f (resolve p r.keeper (super p r)).1 with
      | none => rw [hc] at h; simp at h
      | some rs => rw [hc] at h; simp at h; subst h; have := ih _ _ hc; simp; omega
    · cases h
theorem chain_len (p : Plan) (r : Ref) : (chain p r).length ≤ 6 := by
 unfold chain
 split
 · unfold climb
   cases h : climbGo p 6 r with
   | none => simp
   | some l => exact climbGo_len _ _ _ h
 · simp
theorem addFields_len (c : Ref) : ∀ (fs : List Field) (acc : List FRef), (addFields c fs acc).length = acc.length + fs.length := by
 intro fs
 induction fs with
 | nil => intro acc; rfl
 | cons f r ih => intro acc; unfold addFields; rw [ih]; simp; omega
theorem addFields_at (c : Ref) : ∀ (fs : List Field) (acc : List FRef) (i : Nat) (f : FRef), (addFields c fs acc)[i]? = some f →
    acc[i]? = some f ∨ ∃ j fd, fs[j]? = some fd ∧ i = acc.length + j ∧ f = ⟨c, i, fd.kind⟩ := by
 intro fs
 induction fs with
 | nil => intro acc i f h; exact .inl h
 | cons fd r ih =>
  intro acc i f h
  unfold addFields at h
  rcases ih _ _ _ h with h1 | ⟨j, fd', h1, h2, h3⟩
  · rcases Nat.lt_or_ge i acc.length with hi | hi
    · rw [List.getElem?_append_left hi] at h1; exact .inl h1
    · rw [List.getElem?_append_right hi] at h1
      have hz : i - acc.length = 0 := by
       rcases Nat.eq_zero_or_pos (i - acc.length) with h0 | h0
       · exact h0
       · rw [List.getElem?_eq_none (by simp; omega)] at h1; cases h1
      rw [hz] at h1
      simp at h1
      refine .inr ⟨0, fd, rfl, by omega, ?_⟩
      rw [← h1, show i = acc.length by omega]
  · exact .inr ⟨j + 1, fd', by simpa using h1, by simp at h2; omega, h3⟩
theorem addFields_pre (c : Ref) : ∀ (fs : List Field) (acc : List FRef), ∃ t, addFields c fs acc = acc ++ t := by
 intro fs
 induction fs with
 | nil => intro acc; exact ⟨[], by simp [addFields]⟩
 | cons fd r ih =>
  intro acc
  unfold addFields
  obtain ⟨t, e⟩ := ih (acc ++ [⟨c, acc.length, fd.kind⟩])
  exact ⟨_, by rw [e, List.append_assoc]⟩
theorem layoutGo_pre (p : Plan) : ∀ (L : List Ref) (acc : List FRef), ∃ t, layoutGo p L acc = acc ++ t := by
 intro L
 induction L with
 | nil => intro acc; exact ⟨[], by simp [layoutGo]⟩
 | cons c r ih =>
  intro acc
  unfold layoutGo
  obtain ⟨t, e⟩ := ih (addFields c (cls p c).fields acc)
  obtain ⟨t', e'⟩ := addFields_pre c (cls p c).fields acc
  exact ⟨t' ++ t, by rw [e, e', List.append_assoc]⟩
theorem layoutGo_append (p : Plan) : ∀ (L K : List Ref) (acc : List FRef), layoutGo p (L ++ K) acc = layoutGo p K (layoutGo p L acc) := by
 intro L
 induction L with
 | nil => intro K acc; rfl
 | cons c r ih => intro K acc; simp only [List.cons_append, layoutGo]; rw [ih]
theorem layoutGo_at (p : Plan) : ∀ (L : List Ref) (acc : List FRef), L.Nodup → ∀ (i : Nat) (f : FRef), (layoutGo p L acc)[i]? = some f →
    acc[i]? = some f ∨ ∃ c ∈ L, ∃ j fd, (cls p c).fields[j]? = some fd ∧ i = firstGo p c L acc.length + j ∧ f = ⟨c, i, fd.kind⟩ := by
 intro L
 induction L with
 | nil => intro acc _ i f h; exact .inl h
 | cons c r ih =>
  intro acc hn i f h
  unfold layoutGo at h
  rw [List.nodup_cons] at hn
  rcases ih _ hn.2 _ _ h with h1 | ⟨c', hc', j, fd, h1, h2, h3⟩
  · rcases addFields_at _ _ _ _ _ h1 with h1 | ⟨j, fd, h1, h2, h3⟩
    · exact .inl h1
    · exact .inr ⟨c, by simp, j, fd, h1, by simp [firstGo]; exact h2, h3⟩
  · refine .inr ⟨c', by simp [hc'], j, fd, h1, ?_, h3⟩
    unfold firstGo
    rw [if_neg (by rintro rfl; exact hn.1 hc'), ← addFields_len]
    exact h2
theorem layout_at {p : Plan} {r : Ref} {i : Nat} {f : FRef} (h : (layout p r)[i]? = some f) :
    canLay p r = true ∧ f.of ∈ chain p r ∧ f.at_ = i ∧ ∃ j fd, (cls p f.of).fields[j]? = some fd ∧ i = firstField p f.of r + j ∧ f.kind = fd.kind := by
 unfold layout at h
 split at h
 · rename_i hc
   rcases layoutGo_at p _ _ (nodup_rev (chain_nodup p r)) _ _ h with h1 | ⟨c, hc', j, fd, h1, h2, rfl⟩
   · simp at h1
   · exact ⟨hc, List.mem_reverse.1 hc', rfl, j, fd, h1, h2, rfl⟩
 · simp at h
theorem fieldName_at {p : Plan} {r : Ref} {f : FRef} {j : Nat} {fd : Field} (h1 : (cls p f.of).fields[j]? = some fd) (h2 : f.at_ = ((firstField p f.of r + j : Nat) : Int)) :
    fieldName p r f = fd.name := by
 unfold fieldName
 rw [show (f.at_ - firstField p f.of r).toNat = j by omega, h1]
 rfl
end Go.Proofs.YtjdfceejkneofaaGreat.M
namespace Go.Proofs.YtjdfceejkneofaaGreat
open Go Go.RowKit
open Go.Lib (hid)
def frefCs (f : M.FRef) : List Value := [.int .i64 f.of.keeper, .string f.of.name, .int .i64 f.at_, .int .i64 f.kind.kind, .string f.kind.name]
def FRefL : Lies M.FRef := fun _ _ x cs => cs = frefCs x
theorem FRefL.stays : Stays FRefL := fun _ _ _ _ _ _ _ _ h => h
theorem one_fref (x : M.FRef) : ∀ u ∈ frefCs x, u.oneCell' = true := by simp [frefCs, Value.oneCell']
theorem elem_fref : Elem 147 159 5 := elem_of (z := .agg #[.int .i64 0, .string ⟨#[]⟩, .int .i64 0, .int .i64 0, .string ⟨#[]⟩]) (bytes := 56) Tryz.underlying147 (by kernel_rfl) rfl (by decide) (by decide)
theorem addFields_take {c : M.Ref} {fs : List M.Field} {acc : List M.FRef} {k : Nat} {x : M.Field} (hx : fs[k]? = some x) :
    M.addFields c (fs.take (k + 1)) acc = M.addFields c (fs.take k) acc ++ [⟨c, (M.addFields c (fs.take k) acc).length, x.kind⟩] := by
 rw [List.take_add_one, hx]
 have : ∀ (l : List M.Field) (acc : List M.FRef), M.addFields c (l ++ [x]) acc = M.addFields c l acc ++ [⟨c, (M.addFields c l acc).length, x.kind⟩] := by
  intro l
  induction l with
  | nil => intro acc; rfl
  | cons y r ih => intro acc; simp only [List.cons_append, M.addFields]; rw [ih]
 exact this _ _
theorem Kp.mix {D D' : Nat → Prop} {w a b : World} (h : Kp D w a) (hk : Kp D' a b) (hD : ∀ k, k < w.heap.size → D' k → D k) : Kp D w b :=
 ⟨hk.os.trans h.os, hk.tape.trans h.tape, hk.output.trans h.output, Nat.le_trans h.size hk.size,
  fun k hkw hd => (hk.block k (Nat.lt_of_lt_of_le hkw h.size) (fun x => hd (hD k hkw x))).trans (h.block k hkw hd)⟩
theorem CellsAt.newD {W : World} {g : Nat} (t : TypeId) (cs : Array Value) (h : W.heap.size = g) : CellsAt (W.alloc (.cells cs t)).drew g 0 cs.toList := (CellsAt.newA t cs h).ext ((Kp.refl _ _).drew)
theorem builder_add (w : World) (bb B : Nat) (vs : Value) (acc : List M.FRef) (c : M.Ref) (I : Nat → Prop) (vf : Value) (fs : List M.Field) (hB : Blk w bb 190 #[vs]) (own : w.ownsRow B 159 5 vs acc.length (acc.flatMap frefCs))
    (hf : SliceOf 3 FieldL w I vf fs) (hI : ∀ b, I b → b < B ∧ b ≠ bb) (hbB : B ≤ w.heap.size) (hlen : acc.length + fs.length ≤ 1000) (hne : vs.ownBlock ≠ some bb) :
    Calls Tryz.prog 106 #[.pointer (some ⟨bb, 0, none⟩), .agg #[.int .i64 c.keeper, .string c.name], vf] w fun e w' =>
     e = .returned (.tuple #[]) ∧ ∃ vs', Blk w' bb 190 #[vs'] ∧ w'.ownsRow B 159 5 vs' (acc.length + fs.length) ((M.addFields c fs acc).flatMap frefCs) ∧ vs'.ownBlock ≠ some bb ∧ Kp (fun b => b = bb ∨ vs.ownBlock = some b) w w' := by
 obtain ⟨va, vc, rfl, hn, hcap⟩ := hf.form
 have hz := hB.lt
 have b4 := Blk.new w 76 #[.int .i64 c.keeper, .string c.name]
 have hE0 : Ext w (w.alloc (.cells #[.int .i64 c.keeper, .string c.name] 76)) := (KX.k (by repeat (first | assumption | constructor)))
 have HF := hid hf
 have HI := hid hI
 have HNE := hid hne
 have R0 : Hid (Blk (w.alloc (.cells #[.int .i64 c.keeper, .string c.name] 76)) bb 190 #[vs] ∧ (w.alloc (.cells #[.int .i64 c.keeper, .string c.name] 76)).ownsRow B 159 5 vs acc.length ((M.addFields c (fs.take 0) acc).flatMap frefCs) ∧ (∀ g, vs.ownBlock = some g → vs.ownBlock = some g ∨ w.heap.size < g) ∧
     Kp (fun b => b = bb ∨ vs.ownBlock = some b) w (w.alloc (.cells #[.int .i64 c.keeper, .string c.name] 76)) ∧ Blk (w.alloc (.cells #[.int .i64 c.keeper, .string c.name] 76)) w.heap.size 76 #[.int .i64 c.keeper, .string c.name]) :=
  hid ⟨hB.ext hE0, owns_kp (D := fun _ => False) own hE0 fun _ _ _ x => x, fun g h => .inl h, hE0.any, b4⟩
 have HBV : Hid (∀ g, vs.ownBlock = some g → B ≤ g ∧ g < w.heap.size) := hid fun g hg => own.lt g hg
 clear hB own hf hI hne b4 hE0
 go_enter Tryz.func106, Tryz.ntmps106
 go_wp2
 go_loopw [10] (fun i wr => ∃ (k m : Nat) (v' : Value), k ≤ fs.length ∧ i = .int .i64 k ∧ Hid (m = acc.length + k) ∧ Hid (Blk wr bb 190 #[v'] ∧ wr.ownsRow B 159 5 v' m ((M.addFields c (fs.take k) acc).flatMap frefCs) ∧
     (∀ g, v'.ownBlock = some g → vs.ownBlock = some g ∨ w.heap.size < g) ∧ Kp (fun b => b = bb ∨ vs.ownBlock = some b) w wr ∧ Blk wr w.heap.size 76 #[.int .i64 c.keeper, .string c.name])) (fun i _ => fs.length - (intOf i).toNat)
 case atStart => exact ⟨0, acc.length, vs, Nat.zero_le _, rfl, hid rfl, R0⟩
 case round =>
  obtain ⟨k, m, v', hk, rfl, HM, HR⟩ := hrel
  by_cases hlt : k < fs.length
  · obtain ⟨x, hx⟩ := get_some hlt
    obtain ⟨b, off, cs, rfl, hIb, rfl, -, hc⟩ := HF.out.get hx
    have hbB2 := (HI.out b hIb).1
    have hbb2 := (HI.out b hIb).2
    have hsame : Same (· = b) w wr := Kp.same HR.out.2.2.2.1 (fun q hq e => by
     subst hq
     rcases e with rfl | e
     · exact hbb2 rfl
     · have := HBV.out _ e; omega)
    have hc' := hc.keep fun o v hv => hsame b o v rfl hv
    obtain ⟨g0, g1, g2⟩ := hc'.three
    have gz := cell_lt g0
    have hsz : w.heap.size ≤ wr.heap.size := HR.out.2.2.2.1.size
    have HX := hid hx
    clear hx hc hc' hsame
    have hown := HR.out.2.1
    obtain ⟨a, cp, rfl⟩ := owns_val hown
    have hne' : (Value.slice a m cp).ownBlock ≠ some bb := fun e => by
     rcases HR.out.2.2.1 _ e with h | h
     · exact HNE.out h
     · omega
    obtain ⟨W0, hW0⟩ : ∃ W0, W0 = wr.alloc (.cells #[.string x.name, .int .i64 x.kind.kind, .string x.kind.name] 70) := ⟨_, rfl⟩
    have hE0 : Ext wr W0 := by rw [hW0]; exact (KX.k (by repeat (first | assumption | constructor)))
    have b7 : Blk W0 wr.heap.size 70 #[.string x.name, .int .i64 x.kind.kind, .string x.kind.name] := by rw [hW0]; exact Blk.new _ _ _
    have b1 := HR.out.1.ext hE0
    have b4 := HR.out.2.2.2.2.ext hE0
    have hz0 : W0.heap.size = wr.heap.size + 1 := by rw [hW0]; simp
    obtain ⟨T, f, hneT, HT⟩ := Cls.ex (fun W => Kp (fun b => (Value.slice a m cp).ownBlock = some b) W0 W) _ (Kp.refl _ _)
    have hv7 : ¬ (Value.slice a m cp).ownBlock = some wr.heap.size := fun e => by have := (hown.lt _ e).2; omega
    have hv4 : ¬ (Value.slice a m cp).ownBlock = some w.heap.size := fun e => by
     rcases HR.out.2.2.1 _ e with h | h
     · have := (HBV.out _ h).2; omega
     · omega
    have r0 := fun s => (b1.kp (HT.inn s) hne').c 0 (.slice a m cp) rfl
    have r4 := fun s => (b4.kp (HT.inn s) hv4).c 0 (.int .i64 c.keeper) rfl
    have r5 := fun s => (b4.kp (HT.inn s) hv4).c 1 (.string c.name) rfl
    have r7 := fun s => (b7.kp (HT.inn s) hv7).c 1 (.int .i64 x.kind.kind) rfl
    have r8 := fun s => (b7.kp (HT.inn s) hv7).c 2 (.string x.kind.name) rfl
    have HTH := hid HT
    have HB1 := hid b1
    have HE0 := hid hE0
    have HNE' := hid hne'
    have HO0 := hid (owns_kp (D := fun _ => False) hown hE0 fun _ _ _ x => x)
    have HW0 := hid hW0
    have HSZ := hid hz0
    have hmn : m + 1 ≤ 4294967296 := by have := HM.out; omega
    clear b1 b4 b7 hown hne' hv7 hv4 HT hE0 hz0
    go_wp2
    rw [← HW0.out]
    clear hW0 g0 g1 g2
    (refine region_mix f 16 [([0, 1, 2, 3, 4, 5, 6, 7, 8, 9, 10, 11, 12, 13], 14), ([], 15)] [] (HTH.out.out _ ?_) (by kernel_rfl) (by kernel_rfl) (fun _ _ d _ _ h => by cases d <;> exact h) ?_)
    · exact (Kp.refl _ _).drew
    (refine wpMix_cons rfl rfl fun K hK => ?_); (change wpQuiet _ _ _ _ [_, _, _, _, _, _, _, _, _, _, _, _, _, _] _); (repeat (go_big_quiet_step (fail))); (refine wpQuiet_nil ?_); (refine hK _ fun K2 hK2 => ?_); clear hK K; (change wpList _ _ _ [_] _ _)
    go_wp2_with fail
    (refine hK2 _ _ (HTH.out.out _ (KX.k (by repeat (first | assumption | constructor)))) ?_); clear hK2 K2
    (refine wpMix_cons rfl rfl fun K hK => ?_); (change wpQuiet _ _ _ _ [] _); (refine wpQuiet_nil ?_); (refine hK _ fun K2 hK2 => ?_); clear hK K; (change wpList _ _ _ [_] _ _)
    refine wpList_append_at elem_fref rfl (.tmp 18) (.tmp 28) rfl B (.slice a m cp) m _ rfl (owns_kp (D := fun _ => False) HO0.out (KX.k (by repeat (first | assumption | constructor))) fun _ _ _ x => x) W0.heap.size 1 (frefCs ⟨c, m, x.kind⟩) rfl rfl (CellsAt.newD _ _ rfl) (one_fref _) hmn ?_ ?_
    · have := HSZ.out; simp; omega
    intro g2 c2 w1 hO1 hK1 hg2
    have HG2 : Hid ((Value.slice a m cp).ownBlock = some g2 ∨ w.heap.size < g2) := hid (by
     rcases hg2 with h | h
     · exact .inl h
     · right; have := HSZ.out; simp at h; omega)
    clear hg2
    change K2 _ _
    have hKW : Kp (fun b => (Value.slice a m cp).ownBlock = some b) W0 w1 := ((KX.k (by repeat (first | assumption | constructor))) : Ext W0 _).any.trans hK1
    (refine hK2 _ _ (HTH.out.out _ hKW) ?_); clear hK2 K2
    have hB1 := HB1.out.kp hKW HNE'.out
    have d0 := hB1.c 0 (.slice a m cp) rfl
    have e0 := hB1.frozen 0
    have z1 := hB1.lt
    have HB2 := hid hB1
    have HO2 := hid hO1
    have HKW := hid hKW
    clear hO1 hK1 hKW hB1 r0 r4 r5 r7 r8
    (refine wpMix_nil rfl fun K hK => ?_); (change wpQuiet _ _ _ _ [] _); (refine wpQuiet_nil ?_); (refine hK _ ?_); clear hK K
    go_wp2
    have hst : ∀ D : Nat → Prop, D bb → ∀ v, Kp D w1 (w1.setCell ⟨bb, 0, none⟩ v) := fun D hD v => (Kp.refl D w1).setCell (p := ⟨bb, 0, none⟩) (fun _ => hD) v
    have hgb : g2 ≠ bb := fun e => by
     subst e
     rcases HG2.out with h | h
     · exact HNE'.out h
     · omega
    have hwb : ¬ w.heap.size = bb := by omega
    have hlen2 : (M.addFields c (fs.take k) acc).length = m := by rw [M.addFields_len, HM.out, List.length_take]; omega
    refine ⟨⟨k + 1, m + 1, .slice (some ⟨g2, 0, none⟩) (m + 1) c2, by omega, by go_num, hid (by have := HM.out; omega), hid ⟨?_, ?_, ?_, ?_, ?_⟩⟩, by simp [intOf]; omega⟩
    · exact HB2.out.set_ 0 _
    · rw [addFields_take HX.out, List.flatMap_append, hlen2]
      have h2 := owns_kp HO2.out (hst (· = bb) rfl (.slice (some ⟨g2, 0, none⟩) (m + 1) c2)) (fun q hq _ e => by cases hq; exact hgb e)
      simpa using h2
    · intro q hq
      cases hq
      rcases HG2.out with h | h
      · rcases HR.out.2.2.1 _ h with h | h
        · exact .inl h
        · exact .inr h
      · exact .inr h
    · refine ((HR.out.2.2.2.1.trans HE0.out.any).mix HKW.out (fun q hq e => ?_)).trans (hst _ (.inl rfl) _)
      rcases HR.out.2.2.1 _ e with h | h
      · exact .inr h
      · omega
    · exact ((HR.out.2.2.2.2.ext HE0.out).kp HKW.out (fun e => by
       rcases HR.out.2.2.1 _ e with h | h
       · have := (HBV.out _ h).2; omega
       · omega)).kp (hst (· = bb) rfl _) hwb
  · have hkl : k = fs.length := by omega
    subst hkl
    go_wp2
    ((try simp only [Exit.inBlock, Exit.then]); (first | refine bodyPost_ret (results_none rfl _ _ _) rfl ?_ | refine bodyPost_end (results_none rfl _ _ _) rfl ?_))
    refine ⟨rfl, v', HR.out.1, ?_, ?_, HR.out.2.2.2.1⟩
    · have h2 := HR.out.2.1
      rw [HM.out, List.take_length] at h2
      exact h2
    · intro e
      rcases HR.out.2.2.1 _ e with h | h
      · exact HNE.out h
      · omega
end Go.Proofs.YtjdfceejkneofaaGreat
namespace Go.Proofs.YtjdfceejkneofaaGreat
open Go Go.RowKit
open Go.Lib (hid)
attribute [local go_sem] Oper.semAt_some
theorem backward_ref (w : World) (a : Option Addr) (n c : Nat) :
    Calls Tryz.prog 105 #[.slice a n c] w fun e w' =>
     e = .returned (.func (.func 133) #[] #[.pointer (some ⟨w.heap.size, 0, none⟩)]) ∧ w.alloc (.cells #[.slice a n c] 73) = w' := by
 go_enter Tryz.func105, Tryz.ntmps105
 go_wp2
 go_ret
 exact ⟨rfl, rfl⟩
def backTo {α : Type} (l : List α) : Nat → List (Int × α)
 | 0 => []
 | n + 1 => (match l[n]? with | some x => [((n : Int), x)] | none => []) ++ backTo l n
theorem backTo_succ {α : Type} {l : List α} {n : Nat} {x : α} (h : l[n]? = some x) : backTo l (n + 1) = ((n : Int), x) :: backTo l n := by
 simp [backTo, h]
theorem backTo_snd {α : Type} (l : List α) : ∀ n, n ≤ l.length → (backTo l n).map Prod.snd = (l.take n).reverse
 | 0, _ => by simp [backTo]
 | n + 1, h => by
  rw [backTo_succ (List.getElem?_eq_getElem (show n < l.length by omega)), List.take_succ_eq_append_getElem (show n < l.length by omega), List.map_cons, backTo_snd l n (by omega), List.reverse_append]
  rfl
def encBR (x : Int × M.Ref) : Array Value := #[.int .i64 x.1, .agg #[.int .i64 x.2.keeper, .string x.2.name]]
theorem backward_iter (refs : List M.Ref) (Vb : Nat) (v : Value) (I Bd : Nat → Prop) (hBd : ∀ k, Bd k → k ≠ Vb ∧ ¬ I k) :
    Iter Tryz.prog 133 #[.pointer (some ⟨Vb, 0, none⟩)] encBR (fun _ => False) Bd
     (fun xs => xs = backTo refs refs.length) (fun pre => ∃ rest, backTo refs refs.length = pre ++ rest) (fun _ => True)
     (fun W => Blk W Vb 73 #[v] ∧ SliceOf 2 RefL W I v refs) (fun pre x => ∃ rest, backTo refs refs.length = pre ++ x :: rest) := by
 intro lp J Jx W ⟨hbV, hsl⟩ hJ hJx hN hY hJ0
 obtain ⟨a, cap, rfl, hn, hcap⟩ := hsl.form
 refine callsIn_of_wp Tryz.func133 rfl trivial ?_ rfl
 simp only [Tryz.ntmps133, List.size_toArray, List.length_cons, List.length_nil, Nat.reduceAdd, Nat.reduceSub, Array.replicate_succ, Array.replicate_zero, List.push_toArray, List.append_toArray, List.nil_append, List.cons_append]
 have c0 := hbV.c 0 (.slice a refs.length cap) rfl
 have hw : IntKind.i64.wrap ((refs.length : Int) - 1) = (refs.length : Int) - 1 := IntWalk.i64_in _ (by omega)
 gi_wp2
 clear hw
 gi_loopg [3] refs.length (fun m i wr => ∃ pre : List (Int × M.Ref), ((m = 0 ∧ i = .int .i64 (-1)) ∨ ∃ k : Nat, m = k + 1 ∧ i = .int .i64 k) ∧ m ≤ refs.length ∧ Hid (backTo refs refs.length = pre ++ backTo refs m) ∧ Hid (J pre wr ∧ Blk wr Vb 73 #[.slice a refs.length cap] ∧ SliceOf 2 RefL wr I (.slice a refs.length cap) refs))
 case atStart =>
  refine ⟨[], ?_, Nat.le_refl _, hid (by simp), hid ⟨hJ0, hbV, hsl⟩⟩
  rcases Nat.eq_zero_or_pos refs.length with h0 | h0
  · left; exact ⟨h0, by rw [h0]; rfl⟩
  · right; exact ⟨refs.length - 1, by omega, by congr 1; omega⟩
 case round =>
  obtain ⟨pre, hm, hmn, HB, HJ⟩ := hrel
  rcases hm with ⟨rfl, rfl⟩ | ⟨k, rfl, rfl⟩
  · have HS : Hid (backTo refs refs.length = pre) := hid (by rw [HB.out]; simp [backTo])
    gi_wp2
    ((try simp only [Exit.inBlock, Exit.then]); (first | refine bodyPost_ret (results_none rfl _ _ _) rfl ?_ | refine bodyPost_end (results_none rfl _ _ _) rfl ?_))
    exact ⟨⟨_, rfl⟩, .inl ⟨pre, HS.out.symm, HJ.out.1⟩⟩
  · obtain ⟨x, hx⟩ := get_some (show k < refs.length by omega)
    obtain ⟨hj, hb, hs⟩ := HJ.out
    obtain ⟨b, off, cs, rfl, hI, rfl, -, hc⟩ := hs.get hx
    obtain ⟨g0, g1⟩ := hc.two
    have d0 := hb.c 0 (.slice (some ⟨b, off, none⟩) refs.length cap) rfl
    have hk0 : (0 : Int) ≤ (k : Int) := by omega
    have hk1 : (k : Int) < refs.length := by omega
    have hd : decide ((0 : Int) ≤ (k : Int)) = true := decide_eq_true hk0
    have HBX : Hid (backTo refs refs.length = (pre ++ [((k : Int), x)]) ++ backTo refs k) := hid (by rw [HB.out, backTo_succ hx, List.append_assoc]; rfl)
    obtain ⟨fn, tmps, assign, body, hy, hR⟩ := hY pre ((k : Int), x) wr ⟨backTo refs k, by rw [HBX.out, List.append_assoc]; rfl⟩ hj
    simp only [encBR] at hy hR
    have HY := hid hY
    have HJJ := hid (And.intro hJ hJx)
    have HH := hid (And.intro hBd (And.intro hb hs))
    have hw : IntKind.i64.wrap ((k : Int) - 1) = (k : Int) - 1 := IntWalk.i64_in _ (by omega)
    clear hY hJ hJx hN hBd hb hs hsl hx hc hj hbV
    gi_wp2_with fail
    refine hR.mono ?_
    rintro e W1 ⟨hkp, (⟨rfl, hj1⟩ | ⟨rfl, hjx⟩)⟩
    · have hb1 := HH.out.2.1.kp hkp (fun hb => (HH.out.1 _ hb).1 rfl)
      have hs1 := HH.out.2.2.keep RefL.stays (Kp.same hkp fun q hq hb => (HH.out.1 _ hb).2 hq) (fun _ h => h)
      have HJ1 := hid (And.intro hj1 (And.intro hb1 hs1))
      clear hj1 hb1 hs1 hkp g0 g1 d0 hy hR hd
      gi_wp2_with fail
      gi_roundg k
      case measure => omega
      case rel =>
       refine ⟨pre ++ [((k : Int), x)], ?_, by omega, HBX, HJ1⟩
       cases k with
       | zero => left; exact ⟨rfl, rfl⟩
       | succ k => right; exact ⟨k, rfl, by congr 1; omega⟩
    · gi_wp2_with fail
      ((try simp only [Exit.inBlock, Exit.then]); (first | refine bodyPost_ret (results_none rfl _ _ _) rfl ?_ | refine bodyPost_end (results_none rfl _ _ _) rfl ?_))
      exact ⟨⟨_, rfl⟩, .inr ⟨_, ⟨_, HBX.out⟩, hjx⟩⟩
end Go.Proofs.YtjdfceejkneofaaGreat
namespace Go
variable {F : Fence} {n : Nat} {P : Program}
def roundPostP (P : Program) (l : Nat) (R : Ending → World → Prop) : Exit → Act → World → Prop
 | .panic chain, a, w => a.defers = [] ∧ R (.panicked chain) w
 | e, a, w => roundPost P l R e a w
theorem roundIn_of_wpInP {l : Nat} {f : FuncId} {tmps : Array Value} {assign body : Code} {w : World} {R : Ending → World → Prop} (hF : F.fn f) (hf : ∃ fn, P.funcs[f]? = some fn)
    (h : assign.wpIn (F.inRound l) n P (Exit.then (fun a₁ w₁ => ∃ w₂, (Instr.beginRound l).run P w₁ = .ok () w₂ ∧ body.wpIn (F.inRound l) n P (roundPostP P l R) a₁ w₂) (fun _ _ _ => False))
     { tmps := tmps, defers := [] } w) :
    RoundIn F n P l f tmps assign body w R := by
 refine ⟨hF, fun c cs hr => ?_⟩
 let b : Frame := { (default : Frame) with fn := f, kind := .normal, roundOf := some l }
 have hb0 : Frame.round l f tmps assign body .normal = b.atR { tmps := tmps, defers := [] } [.code assign, .beginRound, .code body] := by
  simp [Frame.round, Frame.atR, b]
 have hr' : (F.inRound l).room ((c :: cs).length + 1 + n) := hr
 have hF' : (F.inRound l).fn b.fn := hF
 obtain ⟨e, a₁, w₁, hq, harr⟩ := h b [.beginRound, .code body] (c :: cs) rfl hF' hr'
 rw [← hb0] at harr
 cases e with
 | normal =>
  obtain ⟨w₂, hbr, hbody⟩ := hq
  have s1 : StepsIn (Machine.fenced P (F.inRound l)) P (lone (b.atR a₁ [.beginRound, .code body]) (c :: cs) w₁) (lone (b.atR a₁ [.code body]) (c :: cs) w₂) :=
   .one (fenced_calm (fr := b.atR a₁ [.beginRound, .code body]) hF' hr' rfl) (stepR_beginRound rfl hbr)
  obtain ⟨e₂, a₂, w₃, hq₂, harr₂⟩ := hbody b [] (c :: cs) rfl hF' hr'
  cases e₂ with
  | normal =>
   obtain ⟨v, w₄, hend, hR⟩ := hq₂
   exact ⟨.returned v, w₄, hR, (StepsIn.trans harr s1).trans (StepsIn.trans harr₂ (.one (fenced_calm (fr := b.atR a₂ []) hF' hr' rfl) (stepR_round_end rfl rfl hend)))⟩
  | ret =>
   obtain ⟨v, w₄, hend, hR⟩ := hq₂
   obtain ⟨k₁, hs⟩ := harr₂.2 rfl
   exact ⟨.returned v, w₄, hR, (StepsIn.trans harr s1).trans (StepsIn.trans hs (.one (fenced_calm (fr := b.atR a₂ (.code .ret :: k₁)) hF' hr' rfl) (stepR_round_ret rfl rfl hend)))⟩
  | exit id =>
   obtain ⟨v, w₄, hend, hR⟩ := hq₂
   obtain ⟨k₁, hk, hs⟩ := harr₂.2 rfl rfl
   exact ⟨.returned v, w₄, hR, (StepsIn.trans harr s1).trans (StepsIn.trans hs (.one (fenced_calm (fr := b.atR a₂ (.code (.exit id) :: k₁)) hF' hr' rfl) (stepR_round_exit rfl rfl hk hend)))⟩
  | goto t =>
   obtain ⟨v, w₄, hend, hR⟩ := hq₂
   obtain ⟨k₁, hk, hs⟩ := harr₂.2 rfl rfl
   exact ⟨.returned v, w₄, hR, (StepsIn.trans harr s1).trans (StepsIn.trans hs (.one (fenced_calm (fr := b.atR a₂ (.code (.goto t) :: k₁)) hF' hr' rfl) (stepR_round_goto rfl rfl hk hend)))⟩
  | panic chain =>
   obtain ⟨hd, hR⟩ := hq₂
   obtain ⟨todo, hs⟩ := harr₂
   have hl : ({ b.atR a₂ todo with mode := .panicking chain } : Frame).leaving P w₃ (.panicked chain) := ⟨rfl, hd, hf⟩
   exact ⟨.panicked chain, w₃, hR, (StepsIn.trans harr s1).trans (StepsIn.trans hs (.one (fenced_leaving (n := n) hF' hr' hl) (step_leave_panicked hl)))⟩
  | outgrown => exact hq₂.elim
 | exit id => exact hq.elim
 | goto t => exact hq.elim
 | ret => exact hq.elim
 | panic chain => exact hq.elim
 | outgrown => exact hq.elim
def Code.wpAt (f : FuncId) (P : Program) (c : Code) (Q : Exit → Act → World → Prop) (a : Act) (w : World) : Prop :=
 ∀ (b : Frame) (k : List Item) (cs : List Frame), b.roundOf = none → b.fn = f → ∃ e a' w', Q e a' w' ∧ ArrivesIn (Machine.fenced P Fence.wide) P (lone (b.atR a (.code c :: k)) cs w) b k cs e a' w'
theorem wpAt_of_in {f : FuncId} {c : Code} {Q : Exit → Act → World → Prop} {a : Act} {w : World} (h : c.wpIn Fence.wide n P Q a w) : c.wpAt f P Q a w :=
 fun b k cs hro _ => h b k cs hro trivial (room_wide _)
theorem wpAt_seq {f : FuncId} {x y : Code} {Q : Exit → Act → World → Prop} {a : Act} {w : World} (h : x.wpAt f P (Exit.then (y.wpAt f P Q) Q) a w) : (Code.seq x y).wpAt f P Q a w := by
 intro b k cs hro hb
 have one : StepsIn (Machine.fenced P Fence.wide) P (lone (b.atR a (.code (.seq x y) :: k)) cs w) (lone (b.atR a (.code x :: .code y :: k)) cs w) := .one (fenced_wide _ _) stepR_seq
 obtain ⟨e, a₁, w₁, hq, harr⟩ := h b (.code y :: k) cs hro hb
 by_cases hn : e = .normal
 · subst hn
   obtain ⟨e₂, a₂, w₂, hq₂, harr₂⟩ := hq b k cs hro hb
   exact ⟨e₂, a₂, w₂, hq₂, .of_steps (one.trans harr) harr₂⟩
 · refine ⟨e, a₁, w₁, ?_, .of_steps one (.pass (x := .code y) rfl (fun _ _ => .inl hn) harr)⟩
   cases e <;> first | exact absurd rfl hn | exact hq
theorem wpAt_seq_in {f : FuncId} {x y : Code} {Q : Exit → Act → World → Prop} {a : Act} {w : World} (h : x.wpIn Fence.wide n P (Exit.then (y.wpAt f P Q) Q) a w) : (Code.seq x y).wpAt f P Q a w := wpAt_seq (wpAt_of_in h)
theorem wpAt_seq_in_k {f : FuncId} {x y : Code} {Q : Exit → Act → World → Prop} {a : Act} {w : World} (h : ∀ K : Act → World → Prop, (∀ a w, y.wpAt f P Q a w → K a w) → x.wpIn Fence.wide n P (Exit.then K Q) a w) : (Code.seq x y).wpAt f P Q a w :=
 wpAt_seq_in (h _ fun _ _ h => h)
theorem wpAt_block {f : FuncId} {id : Nat} {c : Code} {Q : Exit → Act → World → Prop} {a : Act} {w : World}
    (h : c.wpAt f P (fun e a w => (∀ x, e ≠ .exit x) ∧ (∀ x, e ≠ .goto x) ∧ Q e a w) a w) : (Code.block id c).wpAt f P Q a w := by
 intro b k cs hro hb
 have one : StepsIn (Machine.fenced P Fence.wide) P (lone (b.atR a (.code (.block id c) :: k)) cs w) (lone (b.atR a (.code c :: .inBlock id :: k)) cs w) := .one (fenced_wide _ _) stepR_block
 obtain ⟨e, a₁, w₁, ⟨h1, h2, hq⟩, harr⟩ := h b (.inBlock id :: k) cs hro hb
 refine ⟨e, a₁, w₁, hq, ?_⟩
 cases e with
 | normal => exact one.trans (StepsIn.trans harr (.one (fenced_wide _ _) stepR_inBlock))
 | ret => exact .of_steps one (show ArrivesIn _ P _ b k cs .ret a₁ w₁ from ⟨harr.1, harr.2⟩)
 | panic ch => exact .of_steps one (show ArrivesIn _ P _ b k cs (.panic ch) a₁ w₁ from harr)
 | outgrown => exact .of_steps one (show ArrivesIn _ P _ b k cs .outgrown a₁ w₁ from harr)
 | exit x => exact absurd rfl (h1 x)
 | goto x => exact absurd rfl (h2 x)
def panicPost (R : Ending → World → Prop) : Exit → Act → World → Prop
 | .panic c, a, w => a.defers = [] ∧ R (.panicked c) w
 | .outgrown, _, w => R .outgrown w
 | _, _, _ => False
theorem wpAt_seq_p {f : FuncId} {fn : Func} {x y : Code} {R : Ending → World → Prop} {a : Act} {w : World} (h : ∀ K : Act → World → Prop, (∀ a w, y.wpAt f P (bodyPostM Fence.wide n P fn R) a w → K a w) → x.wp P (Exit.then K (panicPost R)) a w) :
    (Code.seq x y).wpAt f P (bodyPostM Fence.wide n P fn R) a w := by
 refine wpAt_seq_in (n := n) (wpIn_mono (wpIn_wide.2 (h _ fun _ _ h => h)) ?_)
 intro e a w hq
 cases e with
 | normal => exact hq
 | panic c =>
  obtain ⟨hd, hR⟩ := hq
  show LeavesInM _ _ _ _ _ _ a.defers _ _
  rw [hd]
  exact hR
 | outgrown => exact hq
 | ret => exact hq.elim
 | exit x => exact hq.elim
 | goto x => exact hq.elim
def endPost (ds : List Deferred) (R : Ending → World → Prop) : Exit → Act → World → Prop
 | .normal, a, w => a.defers = ds ∧ R (.returned (.tuple #[])) w
 | .panic c, a, w => a.defers = ds ∧ R (.panicked c) w
 | _, _, _ => False
theorem wpAt_end {f : FuncId} {c : Code} {ds : List Deferred} {R : Ending → World → Prop} {Q : Exit → Act → World → Prop} {a : Act} {w : World} (h : c.wp P (endPost ds R) a w)
    (hN : ∀ a w, a.defers = ds → R (.returned (.tuple #[])) w → Q .normal a w) (hP : ∀ c a w, a.defers = ds → R (.panicked c) w → Q (.panic c) a w) : c.wpAt f P Q a w := by
 refine wpAt_of_in (n := 10) (wpIn_mono (wpIn_wide.2 h) ?_)
 intro e a w hq
 cases e with
 | normal => exact hN _ _ hq.1 hq.2
 | panic c => exact hP _ _ _ hq.1 hq.2
 | outgrown => exact hq.elim
 | ret => exact hq.elim
 | exit x => exact hq.elim
 | goto x => exact hq.elim
theorem callsIn_of_wpAt_marks {f : FuncId} {fn : Func} {c : Code} {args : Array Value} {w : World} {R : Ending → World → Prop}
    (hf : P.funcs[f]? = some fn) (hb : fn.body = some c)
    (h : c.wpAt f P (bodyPostM Fence.wide n P fn R) { tmps := args ++ Array.replicate (fn.ntmps - args.size) undef, defers := [] } w) : CallsIn Fence.wide n P f args w R := by
 refine ⟨trivial, fun cs hr => ?_⟩
 obtain ⟨b, hbe⟩ : ∃ b : Frame, b = { (default : Frame) with fn := f, kind := .normal, roundOf := none } := ⟨_, rfl⟩
 have hfn : b.fn = f := by rw [hbe]
 have hro : b.roundOf = none := by rw [hbe]
 have hkd : b.kind = .normal := by rw [hbe]
 have henter : Frame.enter P f args .normal = b.atR { tmps := args ++ Array.replicate (fn.ntmps - args.size) undef, defers := [] } [.code c] := by
  simp [Frame.enter, Frame.atR, hf, hb, hbe]
 have leave : ∀ (fr : Frame) (u : FrameMode) (a' : Act) (w' : World), fr.fn = f → fr.kind = .normal → fr.mode = u → fr.defers = a'.defers → fr.tmps = a'.tmps → LeavesInM Fence.wide n P fn a'.tmps R a'.defers u w' →
     StepsIn (Machine.fenced P Fence.wide) P (lone (Frame.enter P f args .normal) cs w) (lone fr cs w') →
     ∃ e w' fr, R e w' ∧ ComesIn (Machine.fenced P Fence.wide) P (lone (Frame.enter P f args .normal) cs w) (lone fr cs w') e ∧ fr.fn = f ∧ fr.leaving P w' e := by
  intro fr u a' w' h1 h2 h3 h4 h5 hl hs
  obtain ⟨e', w'', fr', hR, hs', hfn', hl'⟩ := leaves_stepsInM a'.defers u w' fr cs h3 h4 h5 (h1 ▸ hf) h2 trivial hr hl
  exact ⟨e', w'', fr', hR, ComesIn.of_steps hs hs', hfn'.trans h1, hl'⟩
 obtain ⟨e, a', w', hq, harr⟩ := h b [] cs hro hfn
 rw [← henter] at harr
 cases e with
 | normal => exact leave { b.atR a' [] with mode := .returning } .returning a' w' hfn hkd rfl rfl rfl hq (StepsIn.trans harr (.one (fenced_wide _ _) (stepR_end hro)))
 | ret =>
  obtain ⟨todo, hs⟩ := harr.1 hro
  exact leave { b.atR a' todo with mode := .returning } .returning a' w' hfn hkd rfl rfl rfl hq hs
 | panic chain =>
  obtain ⟨todo, hs⟩ := harr
  exact leave { b.atR a' todo with mode := .panicking chain } (.panicking chain) a' w' hfn hkd rfl rfl rfl hq hs
 | exit id => exact hq.elim
 | goto l => exact hq.elim
 | outgrown => exact ⟨.outgrown, w', b, hq, harr.resolve_left (by simp [hkd]), hfn, trivial⟩
theorem wpAt_rangeFunc {g : Operand} {ps : Array Tmp} {assign body : Code} {Q : Exit → Act → World → Prop} {a : Act} {w : World} {fn : FuncId}
    (h : ∃ (l : Nat) (mark : List Deferred) (w₁ : World) (d : Deferred) (w₁' : World) (f : FuncId) (args : Array Value) (w₂ : World),
     (Instr.enterLoop fn a.tmps ps assign body none).run P w = .ok (l, mark) w₁ ∧ (resolve a.eval (rangeCall g l) 0).run P w₁ = .ok d w₁' ∧ (invoke d.target d.args).run P w₁' = .ok (.enter f args) w₂ ∧
     CallsIn Fence.wide (n - 1) P f args w₂ (rangePost Fence.wide n P l Q { a with defers := mark ++ a.defers })) :
    (Code.rangeFunc g ps assign body).wpAt fn P Q a w := by
 obtain ⟨l, mark, w₁, d, w₁', f, args, w₂, he, hres, hinv, hF, hcall⟩ := h
 intro b k cs hro hb
 subst hb
 rw [← hro] at he
 have henter := stepR_rangeFunc (P := P) (b := b) (a := a) (k := k) (cs := cs) (w := w) he hres hinv
 obtain ⟨e, w₃, fr, hR, hsteps, hfn, hleave⟩ := hcall (b.atR { a with defers := mark ++ a.defers } (.inRangeFunc l :: k) :: cs) (room_wide _)
 cases e with
 | outgrown =>
  obtain ⟨a₀, w₀, hq⟩ := hR
  exact ⟨.outgrown, a₀, w₀, hq, .inr (Outgrown.of_steps (.one henter) hsteps)⟩
 | panicked chain =>
  have hout := step_leave_panicked (c := b.atR { a with defers := mark ++ a.defers } (.inRangeFunc l :: k)) (cs := cs) hleave
  rw [Frame.raise_atR] at hout
  exact ⟨.panic chain, _, w₃, hR, .inRangeFunc l :: k, .head (fenced_wide _ _) henter (StepsIn.trans hsteps (.one (fenced_wide _ _) hout))⟩
 | returned v =>
  obtain ⟨jump, w₄, hend, hj⟩ := hR
  have hout := step_leave_returned (c := b.atR { a with defers := mark ++ a.defers } (.inRangeFunc l :: k)) (cs := cs) hleave
  rw [finish_atR_inRangeFunc] at hout
  have back : StepsIn (Machine.fenced P Fence.wide) P (lone (b.atR a (.code (.rangeFunc g ps assign body) :: k)) cs w) (lone (b.atR { a with defers := mark ++ a.defers } ((jump.map Item.code).toList ++ k)) cs w₄) :=
   .head (fenced_wide _ _) henter (StepsIn.trans hsteps (.head (fenced_wide _ _) hout (.one (fenced_wide _ _) (stepR_endRangeFunc hend))))
  cases jump with
  | none => exact ⟨.normal, _, w₄, hj, back⟩
  | some c =>
   obtain ⟨e', a'', w₅, hq, harr⟩ := hj b k cs hro trivial (room_wide _)
   exact ⟨e', a'', w₅, hq, .of_steps back harr⟩
end Go
namespace Go.Proofs.YtjdfceejkneofaaGreat
open Go Go.RowKit
def IterP {α : Type} (P : Program) (gf : Nat) (lb : Array Value) (encs : α → Array Value) (Dit Bd : Nat → Prop) (S Sp Bnd : List α → Prop) (It0 : World → Prop) (Nx : List α → α → Prop := fun _ _ => True) : Prop :=
 ∀ (l : Nat) (J Jx : List α → World → Prop) (Jp : List PanicEntry → List α → World → Prop) (W : World), It0 W → (∀ s A B, J s A → Kp Dit A B → J s B) → (∀ s A B, Jx s A → Kp Dit A B → Jx s B) → (∀ c s A B, Jp c s A → Kp Dit A B → Jp c s B) → (∀ s A, J s A → Bnd s) →
  (∀ pre x W1, Nx pre x → J pre W1 → YieldAt Fence.wide 8 P l (encs x) W1 fun e W' => Kp Bd W1 W' ∧ ((e = .returned (.bool true) ∧ J (pre ++ [x]) W') ∨ (e = .returned (.bool false) ∧ Jx (pre ++ [x]) W') ∨ ∃ c, e = .panicked c ∧ Jp c (pre ++ [x]) W')) →
  J [] W → CallsIn Fence.wide 9 P gf (#[.func (.yield l) #[] #[]] ++ lb) W fun e W' => ((∃ v, e = .returned v) ∧ ((∃ xs, S xs ∧ J xs W') ∨ (∃ pre, Sp pre ∧ Jx pre W'))) ∨ ∃ c pre, e = .panicked c ∧ Sp pre ∧ Jp c pre W'
def roundEndP {α : Type} (Bb : Nat → Prop) (I : List α → World → Prop) (Ix : Code → List α → World → Prop) (Ip : List PanicEntry → List α → World → Prop) (xs : List α) (W : World) : Exit → Act → World → Prop
 | .panic c, a, W' => a.defers = [] ∧ Kp Bb W W' ∧ Ip c xs W'
 | e, a, W' => roundEnd Bb I Ix xs W e a W'
theorem range_kpP {α : Type} {P : Program} {g : Operand} {ps : Array Tmp} {assign body : Code} {Q : Exit → Act → World → Prop} {a : Act} {w : World} {gf : Nat} {lb : Array Value}
    (hg : a.eval g = .func (.func gf) #[] lb) (eg : ∀ args w, (callFunc gf args).run P w = .ok (.enter gf args) w) {encs : α → Array Value} (hps : ∀ x, (encs x).size = ps.size)
    {S Sp Bnd : List α → Prop} {Dit Bb : Nat → Prop} {It0 : World → Prop} {Nx : List α → α → Prop} (hseq : IterP P gf lb encs Dit (fun k => Bb k ∨ k = w.heap.size + 1) S Sp Bnd It0 Nx)
    (hIt : ∀ W, Ext w W → It0 W) (hD1 : ¬ Dit w.heap.size) (hD2 : ¬ Dit (w.heap.size + 1)) (hB1 : ¬ Bb w.heap.size) (hB2 : ¬ Bb (w.heap.size + 1))
    (I : List α → World → Prop) (Ix : Code → List α → World → Prop) (Ip : List PanicEntry → List α → World → Prop) {fn : FuncId} (hfn : ∃ f, P.funcs[fn]? = some f) (hIp : ∀ c s A B, Ip c s A → Kp (fun k => Dit k ∨ k = w.heap.size + 1) A B → Ip c s B)
    (hI : ∀ s A B, I s A → Kp (fun k => Dit k ∨ k = w.heap.size + 1) A B → I s B) (hIx : ∀ c s A B, Ix c s A → Kp (fun k => Dit k ∨ k = w.heap.size + 1) A B → Ix c s B) (h0 : I [] w) (hIB : ∀ s A, I s A → Bnd s)
    (Ax : List α → α → World → Act → World → Prop)
    (hassign : ∀ (pre : List α) (x : α) (W : World) (K : Act → World → Prop), Nx pre x → I pre W → w.heap.size + 1 < W.heap.size → (∀ a₁ W₁, Ax pre x W a₁ W₁ → K a₁ W₁) →
     assign.wpIn (Fence.wide.inRound (w.heap.size + 1)) 8 P (Exit.then K (fun _ _ _ => False)) { tmps := (ps.zip (encs x)).foldl (fun t (p, v) => t.setIfInBounds p v) a.tmps, defers := [] } W)
    (hAx : ∀ pre x W a₁ W₁, Ax pre x W a₁ W₁ → Kp Bb W W₁)
    (hbody : ∀ (pre : List α) (x : α) (W : World) (a₁ : Act) (W₁ W₂ : World), Ax pre x W a₁ W₁ → Kp (· = w.heap.size + 1) W₁ W₂ → W₂.heap.size = W₁.heap.size →
     body.wpIn (Fence.wide.inRound (w.heap.size + 1)) 8 P (roundEndP Bb I Ix Ip (pre ++ [x]) W₂) a₁ W₂)
    (hdone : ∀ (xs : List α) (W : World), S xs → I xs W → W.heap[w.heap.size]? = some (.deferred (some [])) → Q .normal { a with defers := { target := .collected w.heap.size, args := #[] } :: a.defers } W)
    (hstop : ∀ (c : Code) (pre : List α) (W : World), Sp pre → Ix c pre W → W.heap[w.heap.size]? = some (.deferred (some [])) → c.wpIn Fence.wide 10 P Q { a with defers := { target := .collected w.heap.size, args := #[] } :: a.defers } W)
    (hpanic : ∀ (c : List PanicEntry) (pre : List α) (W : World), Sp pre → Ip c pre W → W.heap[w.heap.size]? = some (.deferred (some [])) → Q (.panic c) { a with defers := { target := .collected w.heap.size, args := #[] } :: a.defers } W) :
    (Code.rangeFunc g ps assign body).wpAt fn P Q a w := by
 refine wpAt_rangeFunc (n := 10) ?_
 obtain ⟨rec, hrec⟩ : ∃ rec : LoopState → Option Code → Loop, rec = fun st pe => { state := st, pending := pe, fn, tmps := a.tmps, params := ps, assign, body, defers := w.heap.size } := ⟨_, rfl⟩
 obtain ⟨W1, hW1⟩ : ∃ W1, (w.alloc (.deferred (some []))).alloc (.loop (rec .ready none)) = W1 := ⟨_, rfl⟩
 have hL1 : W1.heap[w.heap.size + 1]? = some (.loop (rec .ready none)) := by
  rw [← hW1]; have := World.alloc_heap_new (w.alloc (.deferred (some []))) (.loop (rec .ready none)); rwa [World.size_alloc] at this
 have hK1 : W1.heap[w.heap.size]? = some (.deferred (some [])) := by
  rw [← hW1]; exact (Below.heap_alloc _ _ _ (by simp)).trans (World.alloc_heap_new w _)
 have hE1 : Ext w W1 := by rw [← hW1]; exact ((Kp.refl _ _).alloc _).alloc _
 have hI1 : I [] W1 := hI _ _ _ h0 hE1.any
 have keep : ∀ {D : Nat → Prop} {A B : World} {o : Obj} {k : Nat}, Kp D A B → ¬ D k → A.heap[k]? = some o → B.heap[k]? = some o := fun h hd ho =>
  (h.block _ (Array.getElem?_eq_some_iff.1 ho).1 hd).trans ho
 refine ⟨w.heap.size + 1, [{ target := .collected w.heap.size, args := #[] }], W1, { target := .fn (.func gf) lb, args := #[.func (.yield (w.heap.size + 1)) #[] #[]] }, W1, gf,
  #[.func (.yield (w.heap.size + 1)) #[] #[]] ++ lb, W1, ?_, ?_, ?_, ?_⟩
 · rw [← hW1, hrec]; exact run_enterLoop_outer _ _ _ _ _
 · simp only [resolve, hg]
   simp [go_sem]
 · simp [invoke, go_sem, eg]
 · refine (hseq (w.heap.size + 1)
    (fun pre W => I pre W ∧ W.heap[w.heap.size + 1]? = some (.loop (rec .ready none)) ∧ W.heap[w.heap.size]? = some (.deferred (some [])))
    (fun pre W => ∃ c, Ix c pre W ∧ W.heap[w.heap.size + 1]? = some (.loop (rec .done (some c))) ∧ W.heap[w.heap.size]? = some (.deferred (some [])))
    (fun c pre W => Ip c pre W ∧ W.heap[w.heap.size]? = some (.deferred (some [])))
    W1 (hIt _ hE1)
    (fun s A B hs hk => ⟨hI s A B hs.1 (hk.weak fun _ _ h => .inl h), keep hk hD2 hs.2.1, keep hk hD1 hs.2.2⟩)
    (fun s A B hs hk => by
     obtain ⟨c, hc, hl, hd⟩ := hs
     exact ⟨c, hIx c s A B hc (hk.weak fun _ _ h => .inl h), keep hk hD2 hl, keep hk hD1 hd⟩)
    (fun c s A B hs hk => ⟨hIp c s A B hs.1 (hk.weak fun _ _ h => .inl h), keep hk hD1 hs.2⟩)
    (fun s A hs => hIB s A hs.1) ?_ ⟨hI1, hL1, hK1⟩).mono ?_
   · rintro pre x W hnx ⟨hi, hl, hk⟩
     have hlt : w.heap.size + 1 < W.heap.size := (Array.getElem?_eq_some_iff.1 hl).1
     have hy := run_yield (P := P) (args := encs x) hl (by rw [hrec]; exact hps x)
     rw [hrec] at hy
     refine ⟨fn, _, assign, body, hy, roundIn_of_wpInP trivial hfn (hassign pre x W _ hnx hi hlt ?_)⟩
     intro a₁ W₁ hax
     have hkp := hAx _ _ _ _ _ hax
     have hl1 : W₁.heap[w.heap.size + 1]? = some (.loop (rec .ready none)) := keep hkp hB2 hl
     have hk1 : W₁.heap[w.heap.size]? = some (.deferred (some [])) := keep hkp hB1 hk
     refine ⟨_, run_beginRound hl1 (by rw [hrec]), ?_⟩
     have hlt1 : w.heap.size + 1 < W₁.heap.size := (Array.getElem?_eq_some_iff.1 hl1).1
     have hl2 : (W₁.putObj (w.heap.size + 1) (.loop { rec .ready none with state := .busy })).heap[w.heap.size + 1]? = some (.loop { rec .ready none with state := .busy }) := World.putObj_heap_same hlt1
     have hk2 : (W₁.putObj (w.heap.size + 1) (.loop { rec .ready none with state := .busy })).heap[w.heap.size]? = some (.deferred (some [])) := (World.putObj_heap_other (by omega)).trans hk1
     refine wpIn_mono (hbody pre x W a₁ W₁ _ hax (Kp.putObj _ _ _) (by simp)) ?_
     have kpAll : ∀ (W3 : World), Kp Bb (W₁.putObj (w.heap.size + 1) (.loop { rec .ready none with state := .busy })) W3 → ∀ o, Kp (fun k => Bb k ∨ k = w.heap.size + 1) W (W3.putObj (w.heap.size + 1) o) := fun W3 h3 o =>
      (((hkp.weak fun _ _ h => .inl h).trans ((Kp.putObj _ _ _).weak fun _ _ h => .inr h)).trans (h3.weak fun _ _ h => .inl h)).trans ((Kp.putObj _ _ _).weak fun _ _ h => .inr h)
     have fin : ∀ (jump : Option Code) (W3 : World), Kp Bb (W₁.putObj (w.heap.size + 1) (.loop { rec .ready none with state := .busy })) W3 →
         (Instr.endRound (w.heap.size + 1) jump).run P W3 = .ok (.bool jump.isNone) (W3.putObj (w.heap.size + 1) (.loop (rec (if jump.isNone then .ready else .done) jump))) ∧
         (W3.putObj (w.heap.size + 1) (.loop (rec (if jump.isNone then .ready else .done) jump))).heap[w.heap.size + 1]? = some (.loop (rec (if jump.isNone then .ready else .done) jump)) ∧
         (W3.putObj (w.heap.size + 1) (.loop (rec (if jump.isNone then .ready else .done) jump))).heap[w.heap.size]? = some (.deferred (some [])) := fun jump W3 hk3 => by
      have hl3 := keep hk3 hB2 hl2
      have := run_endRound (P := P) jump hl3
      rw [hrec] at this ⊢
      exact ⟨this, World.putObj_heap_same (Array.getElem?_eq_some_iff.1 hl3).1, (World.putObj_heap_other (by omega)).trans (keep hk3 hB1 hk2)⟩
     have tr : ∀ (W3 : World) (o : Obj), Kp (fun k => Dit k ∨ k = w.heap.size + 1) W3 (W3.putObj (w.heap.size + 1) o) := fun W3 o => (Kp.putObj _ _ _).weak fun _ _ h => .inr h
     rintro e a3 W3 hp
     cases e with
     | normal =>
      obtain ⟨hk3, hi3⟩ := hp
      obtain ⟨hr, hl4, hk4⟩ := fin none W3 hk3
      exact ⟨_, _, hr, kpAll _ hk3 _, .inl ⟨rfl, hI _ _ _ hi3 (tr _ _), hl4, hk4⟩⟩
     | ret =>
      obtain ⟨hk3, hi3⟩ := hp
      obtain ⟨hr, hl4, hk4⟩ := fin (some .ret) W3 hk3
      exact ⟨_, _, hr, kpAll _ hk3 _, .inr (.inl ⟨rfl, .ret, hIx _ _ _ _ hi3 (tr _ _), hl4, hk4⟩)⟩
     | exit id =>
      obtain ⟨hk3, hi3⟩ := hp
      obtain ⟨hr, hl4, hk4⟩ := fin (some (.exit id)) W3 hk3
      exact ⟨_, _, hr, kpAll _ hk3 _, .inr (.inl ⟨rfl, .exit id, hIx _ _ _ _ hi3 (tr _ _), hl4, hk4⟩)⟩
     | goto t =>
      obtain ⟨hk3, hi3⟩ := hp
      obtain ⟨hr, hl4, hk4⟩ := fin (some (.goto t)) W3 hk3
      exact ⟨_, _, hr, kpAll _ hk3 _, .inr (.inl ⟨rfl, .goto t, hIx _ _ _ _ hi3 (tr _ _), hl4, hk4⟩)⟩
     | panic ch =>
      obtain ⟨hd, hk3, hi3⟩ := hp
      exact ⟨hd, ((hkp.weak fun _ _ h => .inl h).trans ((Kp.putObj _ _ _).weak fun _ _ h => .inr h)).trans (hk3.weak fun _ _ h => .inl h), .inr (.inr ⟨ch, rfl, hi3, keep hk3 hB1 hk2⟩)⟩
     | outgrown => exact hp.elim
   · rintro e W2 (⟨⟨v, rfl⟩, (⟨xs, hS, hi, hl, hk⟩ | ⟨pre, hSp, c, hi, hl, hk⟩)⟩ | ⟨c, pre, rfl, hSp, hi, hk⟩)
     · exact ⟨none, _, by have := run_endLoop (P := P) hl (by rw [hrec]; simp); rw [hrec] at this; exact this,
        hdone xs _ hS (hI _ _ _ hi ((Kp.putObj _ _ _).weak fun _ _ h => .inr h)) ((World.putObj_heap_other (by omega)).trans hk)⟩
     · exact ⟨some c, _, by have := run_endLoop (P := P) hl (by rw [hrec]; simp); rw [hrec] at this; exact this,
        hstop c pre _ hSp (hIx _ _ _ _ hi ((Kp.putObj _ _ _).weak fun _ _ h => .inr h)) ((World.putObj_heap_other (by omega)).trans hk)⟩
     · exact hpanic c pre _ hSp hi hk
end Go.Proofs.YtjdfceejkneofaaGreat
namespace Go.Proofs.YtjdfceejkneofaaGreat
open Go Go.RowKit
def noDefer (ops : Array Oper) : Bool := ops.all fun o => match o.op with | .defer _ => false | _ => true
theorem noDefer_spec {ops : Array Oper} (h : noDefer ops = true) (j : Nat) (o : Oper) (ho : ops[j]? = some o) (c : Call) : o.op ≠ .defer c := by
 intro heq
 have := Array.all_eq_true_iff_forall_mem.1 h o (Array.mem_of_getElem? ho)
 simp [heq] at this
section
variable {F : Fence} {m : Nat} {P : Program} {ops : Array Oper} {md : Region.Mode} {Q : Exit → Act → World → Prop} {C : World → Prop} {n : Nat}
theorem YieldsC.wpOpIn (hF : ∀ f, F.fn f) {i : Nat} {o : Oper} {v : Value} {a : Act} (hnd : ∀ c, o.op ≠ .defer c) (hi : ops[i]? = some o) (hy : YieldsC P ops C o v a) {K : Act → World → Prop} {w : World} (hC : C w) (h : K (a.put o.dst v) w) : wpOpIn F m P ops Q i K a w := by
 unfold Go.wpOpIn
 simp only [hi]
 rcases hy with ⟨hw, hv⟩ | ⟨hw, rfl⟩
 · simp only [hw, if_true]
   refine ⟨fun f _ => hF f, ?_⟩
   rw [Oper.semAt_eq _ _ _ hnd]
   rcases hv w hC with e | ⟨e, rfl⟩
   · rw [e]; exact h
   · rw [e]; exact h
 · simp only [hw, Bool.false_eq_true, if_false]; exact ⟨fun f _ => hF f, h⟩
theorem wpOpIn_putC (hF : ∀ f, F.fn f) {j : Nat} {oi oj : Oper} {v : Value} (hnd : ∀ c, oj.op ≠ .defer c) (hj : ops[j]? = some oj) (hap : oi.apart ops oj = true)
    (hsi : ∀ cs b, oi.op ≠ .select cs b) (hsj : ∀ cs b, oj.op ≠ .select cs b)
    (hQ : ∀ c a w, Q (.panic c) (a.put oi.dst v) w → Q (.panic c) a w) {K : Act → World → Prop} {a : Act} {w : World}
    (hy : YieldsC P ops C oi v a) (h : wpOpIn F m P ops Q j K (a.put oi.dst v) w) :
    wpOpIn F m P ops Q j (fun a' w' => YieldsC P ops C oi v a' ∧ K (a'.put oi.dst v) w') a w := by
 obtain ⟨h1, h2, h3⟩ := Oper.apart_spec hap
 have keep : ∀ (a : Act), YieldsC P ops C oi v a → ∀ u, YieldsC P ops C oi v (a.put oj.dst u) := fun a hy u =>
  hy.of_same (execOp_put oi hsi a oj.dst u h3) (wanted_put oi a oj.dst u h3)
 unfold wpOpIn at *
 simp only [hj] at *
 rw [wanted_put oj a oi.dst v h1, about_put oj w a oi.dst v h1] at h
 split
 · rename_i hw
   simp only [hw, if_true] at h
   unfold Oper.wpIn at *
   refine ⟨fun f _ => hF f, ?_⟩
   have h := h.2
   rw [Oper.semAt_eq _ _ _ hnd, execOp_put oj hsj a oi.dst v h1] at h
   rw [Oper.semAt_eq _ _ _ hnd]
   generalize (execOp a.eval oj).run P w = r at *
   cases r with
   | ok x w' =>
    cases x <;> simp only [Oper.uponIn] at h ⊢
    case value u => exact ⟨keep a hy u, by rw [← Act.put_comm a v u h2]; exact h⟩
    case skip => exact ⟨keep a hy _, by rw [← Act.put_comm a v undef h2]; exact h⟩
    case defer d =>
     refine ⟨(hy.of_same rfl rfl : YieldsC P ops C oi v { a with defers := d :: a.defers }).of_same (execOp_put oi hsi _ oj.dst undef h3) (wanted_put oi _ oj.dst undef h3), ?_⟩
     rw [← Act.put_comm _ v undef h2, ← Act.put_defers]
     exact h
    case enter f args =>
     refine ⟨h.1, CallsIn.mono h.2 fun e w'' he => ?_⟩
     cases e with
     | returned u => exact ⟨keep a hy u, by rw [← Act.put_comm a v u h2]; exact he⟩
     | panicked c => exact hQ _ _ _ he
     | outgrown => exact he
    case row row args => exact ⟨h.1, RowsIn.mono h.2 fun u w'' he => ⟨keep a hy u, by rw [← Act.put_comm a v u h2]; exact he⟩⟩
    case round l f tmps assign body =>
     refine ⟨h.1, RoundIn.mono h.2 fun e w'' he => ?_⟩
     cases e with
     | returned u => exact ⟨keep a hy u, by rw [← Act.put_comm a v u h2]; exact he⟩
     | panicked c => exact hQ _ _ _ he
     | outgrown => exact he
   | halt x w' =>
    cases x <;> simp only [Oper.uponIn] at h ⊢
    case panic u => exact hQ _ _ _ h
 · rename_i hw
   simp only [hw] at h
   exact ⟨fun f _ => hF f, keep a hy _, by rw [← Act.put_comm a v undef h2]; exact h.2⟩
def wpAnyCI (F : Fence) (m : Nat) (P : Program) (md : Region.Mode) (ops : Array Oper) (n : Nat) (C : World → Prop) (Q : Exit → Act → World → Prop) : Nat → Array Bool → Act → World → Prop
 | 0, listed, a, w => Region.ready md ops listed = [] ∧ Q .normal a w
 | fuel + 1, listed, a, w =>
  (Region.ready md ops listed = [] → Q .normal a w) ∧
  ∀ i ∈ Region.ready md ops listed, wpOpIn F m P ops Q i (fun a' w' => (i < n → C w') ∧ wpAnyCI F m P md ops n C Q fuel (listed.setIfInBounds i true) a' w') a w
theorem wpAnyIn_of_C : ∀ (fuel : Nat) (listed : Array Bool) (a : Act) (w : World), wpAnyCI F m P md ops n C Q fuel listed a w → wpAnyIn F m P md ops Q fuel listed a w
 | 0, _, _, _, h => h
 | fuel + 1, _, _, _, h => ⟨h.1, fun i hi => wpOpIn_mono (fun a' w' h' => wpAnyIn_of_C fuel _ a' w' h'.2) (h.2 i hi)⟩
theorem wpAnyCI_first (hF : ∀ f, F.fn f) (hnd : ∀ (j : Nat) (o : Oper), ops[j]? = some o → ∀ c, o.op ≠ .defer c) {i : Nat} {oi : Oper} {v : Value} (hi : ops[i]? = some oi) (hsel : ∀ (j : Nat) (o : Oper) cs b, ops[j]? = some o → o.op ≠ .select cs b)
    (hQ : ∀ c a w, Q (.panic c) (a.put oi.dst v) w → Q (.panic c) a w) (htail : ∀ j, n ≤ j → Region.waitsFor md ops j i = true ∨ ops[j]? = none) :
    ∀ (fuel : Nat) (listed : Array Bool) (a : Act) (w : World),
     (∀ j oj, ops[j]? = some oj → j ≠ i → listed.getD j true = false → (∀ e ∈ oj.after, Region.binds md e = true → e.on ≠ i) → oi.apart ops oj = true) →
     i ∈ Region.ready md ops listed → YieldsC P ops C oi v a → C w → i < n →
     wpAnyCI F m P md ops n C Q fuel (listed.setIfInBounds i true) (a.put oi.dst v) w → wpAnyCI F m P md ops n C Q (fuel + 1) listed a w := by
 intro fuel
 induction fuel with
 | zero =>
  intro listed a w _ hr hy hC hin H
  refine ⟨fun h => (by rw [h] at hr; cases hr), fun j hj => ?_⟩
  by_cases hji : j = i
  · subst hji; exact hy.wpOpIn hF (hnd _ _ hi) hi hC ⟨fun _ => hC, H⟩
  · have := ready_mono hj hji
    rw [H.1] at this
    cases this
 | succ fuel ih =>
  intro listed a w hfree hr hy hC hin H
  refine ⟨fun h => (by rw [h] at hr; cases hr), fun j hj => ?_⟩
  by_cases hji : j = i
  · subst hji; exact hy.wpOpIn hF (hnd _ _ hi) hi hC ⟨fun _ => hC, H⟩
  · have h1 := H.2 j (ready_mono hj hji)
    obtain ⟨hjun, oj, hoj, hall⟩ := mem_ready.1 hj
    have hnot : ∀ e ∈ oj.after, Region.binds md e = true → e.on ≠ i := fun e he hb heq => by
     have h1 := hall e he hb
     have h0 := (mem_ready.1 hr).1
     rw [heq] at h1
     rcases Nat.lt_or_ge i listed.size with h' | h'
     · simp [h'] at h0 h1; rw [h0] at h1; cases h1
     · simp [Array.getElem?_eq_none h'] at h1
    have hjn : j < n := by
     rcases Nat.lt_or_ge j n with h | h
     · exact h
     · rcases htail j h with hw | hw
       · obtain ⟨oj', hoj', e, he, hb, heq⟩ := Region.waitsFor_spec hw
         rw [hoj] at hoj'
         cases hoj'
         exact absurd heq (hnot e he hb)
       · rw [hoj] at hw; cases hw
    have h2 := wpOpIn_putC hF (hnd _ _ hoj) hoj (hfree j oj hoj hji hjun hnot) (fun cs b => hsel i oi cs b hi) (fun cs b => hsel j oj cs b hoj) hQ hy h1
    have hfree' : ∀ k ok, ops[k]? = some ok → k ≠ i → (listed.setIfInBounds j true).getD k true = false →
        (∀ e ∈ ok.after, Region.binds md e = true → e.on ≠ i) → oi.apart ops ok = true := fun k ok hk hki hun hno => by
     refine hfree k ok hk hki ?_ hno
     by_cases hjk : j = k
     · subst hjk; exact hjun
     · rw [getD_set_ne true hjk] at hun; exact hun
    refine wpOpIn_mono (fun a' w' h3 => ⟨fun _ => h3.2.1 hjn, ih (listed.setIfInBounds j true) a' w' hfree' (ready_mono hr (Ne.symm hji)) h3.1 (h3.2.1 hjn) hin ?_⟩) h2
    rw [Array.setIfInBounds_comm _ _ hji]
    exact h3.2.2
def wpMixI (F : Fence) (m : Nat) (P : Program) (l : List Oper) (C : World → Prop) (Q : Exit → Act → World → Prop) (fin : Act → World → Prop) : List (List Nat × Nat) → List Nat → Act → World → Prop
 | [], q, a, w => wpQuiet P l.toArray C (fun a' => fin a' w) (q.filterMap (l[·]?)) a
 | (q, i) :: r, q', a, w => wpQuiet P l.toArray C (fun a' => wpListIn F m P l.toArray (Exit.then (fun a'' w' => C w' ∧ wpMixI F m P l C Q fin r q' a'' w') Q) (l[i]?).toList a' w) (q.filterMap (l[·]?)) a
theorem quiet_soundI (hF : ∀ f, F.fn f) {l : List Oper} (hnd : noDefer l.toArray = true) (hs : Region.noSelect l.toArray = true) (ht : tailB md l.toArray n = true) (hQ : ∀ c a d v w, Q (.panic c) (a.put d v) w → Q (.panic c) a w) {K : Act → Prop} {w : World} (hC : C w) (fuel : Nat) (L : Array Bool)
    (hK : ∀ a', K a' → wpAnyCI F m P md l.toArray n C Q fuel L a' w) : ∀ (q : List Nat) (listed : Array Bool) (a : Act), okQ md l.toArray n q listed = some L →
    wpQuiet P l.toArray C K (q.filterMap (l[·]?)) a → wpAnyCI F m P md l.toArray n C Q (fuel + q.length) listed a w
 | [], listed, a, ho, h => by
  simp only [okQ, Option.some.injEq] at ho
  subst ho
  exact hK a h
 | i :: q, listed, a, ho, h => by
  unfold okQ at ho
  split at ho
  · rename_i hb
    simp only [Bool.and_eq_true, decide_eq_true_eq] at hb
    obtain ⟨⟨⟨h1, h2⟩, h3⟩, h4⟩ := hb
    cases hoi : l[i]? with
    | none => simp [hoi] at h4
    | some o =>
     have hoi' : l.toArray[i]? = some o := by simpa using hoi
     have hp : pureOp o = true := by simpa [hoi] using h4
     rw [List.filterMap_cons, hoi] at h
     simp only [wpQuiet] at h
     obtain ⟨v, hy, hk⟩ := yieldsC_of_quiet hp h
     have := quiet_soundI hF hnd hs ht hQ hC fuel L hK q _ _ ho hk
     exact wpAnyCI_first hF (noDefer_spec hnd) hoi' (Region.noSelect_spec hs) (fun c a w => hQ c a _ _ w) (tail_spec ht h1) _ _ _ _ (Region.free_spec hoi' h3) (by simpa using h2) hy hC h1 this
  · cases ho
theorem seqC_soundI {l : List Oper} : ∀ (t : List Oper) (k : Nat) (listed : Array Bool) (a : Act) (w : World), n ≤ k → (∀ j, t[j]? = l[k + j]?) →
    Region.seqB md l.toArray t.length k listed = true → wpListIn F m P l.toArray Q t a w → wpAnyCI F m P md l.toArray n C Q t.length listed a w
 | [], _, _, _, _, _, _, hB, h => ⟨by simpa [Region.seqB] using hB, h⟩
 | o :: t, k, listed, a, w, hk, hl, hB, h => by
  have h0 : l.toArray[k]? = some o := by simpa using (hl 0).symm
  simp only [List.length_cons, Region.seqB, Bool.and_eq_true, decide_eq_true_eq] at hB
  refine ⟨fun h1 => (by rw [hB.1] at h1; cases h1), fun i hi => ?_⟩
  rw [hB.1] at hi
  have hik : i = k := by simpa using hi
  subst hik
  have hw : wpOpIn F m P l.toArray Q i (wpListIn F m P l.toArray Q t) a w := by unfold wpOpIn; simp only [h0]; exact h
  exact wpOpIn_mono (fun a' w' h' => ⟨fun hlt => absurd hlt (Nat.not_lt.2 hk), seqC_soundI t (i + 1) _ a' w' (by omega) (fun j => by have := hl (j + 1); simpa [Nat.add_assoc, Nat.add_comm 1 j] using this) hB.2 h'⟩) hw
theorem wp_thenI {o : Oper} {a : Act} {w : World} {next K : Act → World → Prop} (h : o.wpIn F m P a w next (Exit.then K Q)) : o.wpIn F m P a w next Q := by
 unfold Oper.wpIn at *
 refine ⟨h.1, ?_⟩
 replace h := h.2
 generalize (o.semAt F.round a.eval).run P w = r at *
 cases r with
 | ok n w' =>
  cases n <;> simp only [Oper.uponIn] at h ⊢
  case value u => exact h
  case skip => exact h
  case defer d => exact h
  case enter f args =>
   refine ⟨h.1, CallsIn.mono h.2 fun e w'' he => ?_⟩
   cases e with
   | returned u => exact he
   | panicked c => exact he
   | outgrown => exact he
  case row row args => exact h
  case round l f tmps assign body =>
   refine ⟨h.1, RoundIn.mono h.2 fun e w'' he => ?_⟩
   cases e with
   | returned u => exact he
   | panicked c => exact he
   | outgrown => exact he
 | halt x w' =>
  cases x <;> simp only [Oper.uponIn] at h ⊢
  case panic u => exact h
theorem mix_soundI (hF : ∀ f, F.fn f) {l : List Oper} (hnd : noDefer l.toArray = true) (hs : Region.noSelect l.toArray = true) (ht : tailB md l.toArray n = true) (hQ : ∀ c a d v w, Q (.panic c) (a.put d v) w → Q (.panic c) a w) (hn : n ≤ l.length) : ∀ (segs : List (List Nat × Nat)) (q' : List Nat) (listed : Array Bool) (a : Act) (w : World), C w →
    mixB md l.toArray n segs q' listed = true → wpMixI F m P l C Q (fun a' w' => wpListIn F m P l.toArray Q (l.drop n) a' w') segs q' a w → wpAnyCI F m P md l.toArray n C Q ((l.length - n) + costs segs q') listed a w
 | [], q', listed, a, w, hC, hB, h => by
  unfold mixB at hB
  split at hB
  · rename_i L hL
    refine quiet_soundI hF hnd hs ht hQ hC _ L (fun a' hk => ?_) q' listed a hL h
    have := seqC_soundI (F := F) (m := m) (md := md) (C := C) (l := l) (l.drop n) n L a' w (Nat.le_refl _) (fun j => by simp [List.getElem?_drop]) (by simpa using hB) hk
    simpa using this
  · cases hB
 | (q, i) :: r, q', listed, a, w, hC, hB, h => by
  unfold mixB at hB
  split at hB
  · rename_i L hL
    simp only [Bool.and_eq_true, decide_eq_true_eq] at hB
    obtain ⟨⟨hr, hin⟩, hB⟩ := hB
    have e : l.length - n + costs ((q, i) :: r) q' = ((l.length - n + costs r q') + 1) + q.length := by simp [costs]; omega
    rw [e]
    refine quiet_soundI hF hnd hs ht hQ hC _ L (fun a' hk => ?_) q listed a hL h
    refine ⟨fun h1 => (by rw [hr] at h1; cases h1), fun j hj => ?_⟩
    rw [hr] at hj
    have hji : j = i := by simpa using hj
    subst hji
    cases hoi : l[j]? with
    | none =>
     exfalso
     have : j ∈ Region.ready md l.toArray L := by rw [hr]; simp
     obtain ⟨_, o, ho, _⟩ := mem_ready.1 this
     simp [hoi] at ho
    | some o =>
     rw [hoi] at hk
     simp only [Option.toList, wpListIn] at hk
     unfold wpOpIn
     have hoi' : l.toArray[j]? = some o := by simpa using hoi
     simp only [hoi']
     have step : ∀ a'' w', C w' ∧ wpMixI F m P l C Q (fun a' w' => wpListIn F m P l.toArray Q (l.drop n) a' w') r q' a'' w' → (j < n → C w') ∧ wpAnyCI F m P md l.toArray n C Q (l.length - n + costs r q') (L.setIfInBounds j true) a'' w' :=
      fun a'' w' h3 => ⟨fun _ => h3.1, mix_soundI hF hnd hs ht hQ hn r q' _ a'' w' h3.1 hB h3.2⟩
     split
     · rename_i hw
       rw [if_pos hw] at hk
       exact Oper.wpIn_mono (fun a'' w' h' => step a'' w' h') (wp_thenI hk)
     · rename_i hw
       rw [if_neg hw] at hk
       exact ⟨fun f _ => hF f, step _ _ hk.2⟩
  · cases hB
end
theorem wpMixI_nil {F : Fence} {m : Nat} {P : Program} {l : List Oper} {C : World → Prop} {Q : Exit → Act → World → Prop} {fin : Act → World → Prop} {q : List Nat} {a : Act} {w : World} {qs : List Oper} (he : q.filterMap (l[·]?) = qs)
    (h : ∀ K : Act → Prop, (∀ a', fin a' w → K a') → wpQuiet P l.toArray C K qs a) : wpMixI F m P l C Q fin [] q a w := by
 subst he
 exact h _ fun _ h => h
theorem wpMixI_cons {F : Fence} {m : Nat} {P : Program} {l : List Oper} {C : World → Prop} {Q : Exit → Act → World → Prop} {fin : Act → World → Prop} {q : List Nat} {i : Nat} {r : List (List Nat × Nat)} {q' : List Nat} {a : Act} {w : World} {qs os : List Oper} (he : q.filterMap (l[·]?) = qs) (ho : (l[i]?).toList = os)
    (h : ∀ K : Act → Prop, (∀ a', (∀ K2 : Act → World → Prop, (∀ a'' w', C w' → wpMixI F m P l C Q fin r q' a'' w' → K2 a'' w') → wpListIn F m P l.toArray (Exit.then K2 Q) os a' w) → K a') → wpQuiet P l.toArray C K qs a) : wpMixI F m P l C Q fin ((q, i) :: r) q' a w := by
 subst he ho
 refine h _ fun a' h2 => ?_
 exact h2 _ fun _ _ h3 h4 => ⟨h3, h4⟩
theorem region_mixI {F : Fence} {m : Nat} {P : Program} {id : Nat} {Q : Exit → Act → World → Prop} {a : Act} {w : World} {l : List Oper} {T : Type} (f : T → World) (n : Nat) (segs : List (List Nat × Nat)) (q : List Nat) (h0 : ∃ s, w.drew = f s) (hF : ∀ f, F.fn f) (hnd : noDefer l.toArray = true) (hm : P.follows .mixedOrders = true) (hB : goodB l.toArray n segs q = true)
    (hQ : ∀ c a d v w, Q (.panic c) (a.put d v) w → Q (.panic c) a w)
    (h : wpMixI F m P l (fun w' => ∃ s, w' = f s) Q (fun a' w' => wpListIn F m P l.toArray Q (l.drop n) a' w') segs q a w.drew) : (Code.region id l.toArray true).wpIn F m P Q a w := by
 unfold goodB at hB
 simp only [Bool.and_eq_true, decide_eq_true_eq] at hB
 obtain ⟨⟨⟨⟨h1, h2⟩, h3⟩, h4⟩, h5⟩ := hB
 refine wpIn_region_any hm (wpAnyIn_of_C (C := fun w' => ∃ s, w' = f s) (n := n) _ _ _ _ ?_)
 have := mix_soundI hF hnd (C := fun w' => ∃ s, w' = f s) (md := .any) h1 h2 hQ (by simpa using h4) segs q _ a w.drew h0 h5 h
 have e : l.length - n + costs segs q = l.toArray.size := by
  have : n ≤ l.length := by simpa using h4
  simp; omega
 rw [e] at this
 exact this
end Go.Proofs.YtjdfceejkneofaaGreat
