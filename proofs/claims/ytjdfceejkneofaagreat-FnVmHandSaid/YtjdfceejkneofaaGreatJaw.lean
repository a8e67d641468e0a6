/- Walks: loMain. (Printed by gen_lo3.py.); Plain facts: the plans of the laws on main's run are valid, and what the runs come to.; A plan lies in blocks that are there.; From a law's walk to its row. -/
import Derived.Test.YtjdfceejkneofaaGreatJav
import Derived.Test.YtjdfceejkneofaaGreatJat
import Derived.KernelRfl
import Derived.Test.YtjdfceejkneofaaGreatRows
import Derived.ProofKit
import Derived.Carry
set_option maxRecDepth 100000
set_option maxHeartbeats 4000000
set_option linter.unusedSimpArgs false
set_option linter.unusedVariables false
namespace Go.Proofs.YtjdfceejkneofaaGreat
open Go Go.RowKit
open Go.Lib (hid)
namespace M
def mainCls (code : List Ins) (maps : List SMap) : Class := ⟨mainN, none_, [], [⟨runN, [⟨1, none_⟩], ⟨1, none_⟩, 3, 3, code, maps⟩]⟩
def mainPlan (more : List Class) (code : List Ins) (maps : List SMap) : Plan := [⟨more ++ [mainCls code maps], []⟩]
end M
theorem agg_plan : Agg 40 1 := ⟨_, Tryz.underlying40, by kernel_rfl⟩
theorem elem_class : Elem 52 50 4 := elem_of (z := .agg #[.string ⟨#[]⟩, .string ⟨#[]⟩, .slice none 0 0, .slice none 0 0]) (bytes := 80) Tryz.underlying52 (by kernel_rfl) rfl (by decide) (by decide)
theorem one_css {w : World} {I : Nat → Prop} : ∀ {more : List M.Class} {css : List (List Value)}, LiesAll ClassL w I more css → ∀ u ∈ css.flatten, u.oneCell' = true
 | [], [], _ => by simp
 | _ :: _, c :: css, h => by
  obtain ⟨a1, c1, a2, c2, rfl⟩ := ClassL.form h.1
  have ih := one_css h.2
  intro u hu
  rw [List.flatten_cons, List.mem_append] at hu
  rcases hu with hu | hu
  · simp at hu; rcases hu with rfl | rfl | rfl | rfl <;> rfl
  · exact ih u hu
 | [], _ :: _, h => h.elim
 | _ :: _, [], h => h.elim
theorem css_flat {k : Nat} : ∀ {css : List (List Value)}, (∀ c ∈ css, c.length = k) → css.flatten.length = css.length * k
 | [], _ => by simp
 | c :: r, h => by
  rw [List.flatten_cons, List.length_append, css_flat (fun c hc => h c (List.mem_cons_of_mem _ hc)), h c (by simp), List.length_cons, Nat.succ_mul]; omega
theorem css_split {k : Nat} (hk : 0 < k) : ∀ {css : List (List Value)}, (∀ c ∈ css, c.length = k) → ∀ j u, css.flatten[j]? = some u → ∃ i r c, css[i]? = some c ∧ c[r]? = some u ∧ j = i * k + r
 | [], _, j, u, h => by simp at h
 | c :: t, h, j, u, hu => by
  have hc := h c (by simp)
  rw [List.flatten_cons] at hu
  rcases Nat.lt_or_ge j c.length with hj | hj
  · rw [List.getElem?_append_left hj] at hu
    exact ⟨0, j, c, rfl, hu, by omega⟩
  · rw [List.getElem?_append_right hj] at hu
    obtain ⟨i, r, d, h1, h2, h3⟩ := css_split hk (fun c hc => h c (List.mem_cons_of_mem _ hc)) _ _ hu
    exact ⟨i + 1, r, d, by simpa using h1, h2, by rw [Nat.succ_mul]; omega⟩
theorem SliceOf.classes {w : World} {I : Nat → Prop} {ad : Addr} {n c : Nat} {more : List M.Class} (h : SliceOf 4 ClassL w I (.slice (some ad) n c) more) (hne : more ≠ []) : ∃ css, (∀ c ∈ css, c.length = 4) ∧ LiesAll ClassL w I more css ∧ css.length = more.length ∧ n = more.length ∧ Flat w 4 (.slice (some ad) n c) n css.flatten := by
 obtain ⟨css, h1, h2, h3, h4⟩ := h.css
 obtain ⟨a, cap, e, -⟩ := h.form
 cases e
 refine ⟨css, h2, h3, h1, rfl, by rw [css_flat h2, h1], ⟨_, _, rfl, (fun e => by cases e), fun ad' e j u hu => ?_⟩, one_css h3⟩
 cases e
 obtain ⟨i, r, d, e1, e2, rfl⟩ := css_split (by omega) h2 j u hu
 obtain ⟨b, off, rfl, -, hc⟩ := h4 ad _ _ rfl i d e1
 have := hc r u e2
 unfold Addr.add
 split
 · rename_i h0
   have e3 : i * 4 = 0 := by omega
   have e4 : r = 0 := by omega
   rw [e3, e4] at this
   exact this
 · simpa [Nat.add_assoc] using this
theorem main_owns_at {W : World} {J : Nat → Prop} {B g9 c9 a10 a16 cvc xvc : Nat} {cva xva : Option Addr} {more : List M.Class} {code : List M.Ins} {maps : List M.SMap} {css : List (List Value)} (hO : W.ownsRow B 50 4 (.slice (some ⟨g9, 0, none⟩) (more.length + 1) c9) (more.length + 1) (css.flatten ++ [.string ⟨#[109, 97, 105, 110]⟩, .string ⟨#[]⟩, .slice none 0 0, .slice (some ⟨a16, 0, none⟩) 1 1]))
    (hk : ∀ c ∈ css, c.length = 4) (hR : LiesAll ClassL W J more css) (b10 : Blk W a10 55 #[.int .i64 1, .string ⟨#[]⟩]) (b16 : Blk W a16 60 #[.string ⟨#[114, 117, 110]⟩, .slice (some ⟨a10, 0, none⟩) 1 1, .int .i64 1, .string ⟨#[]⟩, .int .i64 3, .int .i64 3, .slice cva code.length cvc, .slice xva maps.length xvc])
    (hc : SliceOf 4 InsL W J (.slice cva code.length cvc) code) (hx : SliceOf 3 SMapL W J (.slice xva maps.length xvc) maps) (hl : more.length ≤ 10) (j9 : J g9) (j10 : J a10) (j16 : J a16) :
    SliceOf 4 ClassL (W.alloc (.cells #[.slice (some ⟨g9, 0, none⟩) (more.length + 1) c9, .slice none 0 0] 65)) J (.slice (some ⟨g9, 0, none⟩) (more.length + 1) c9) (more ++ [M.mainCls code maps]) := by
 have hE : Ext W (W.alloc (.cells #[.slice (some ⟨g9, 0, none⟩) (more.length + 1) c9, .slice none 0 0] 65)) := (Kp.refl _ _).alloc _
 have hkn : SliceOf 2 KindL W J (.slice (some ⟨a10, 0, none⟩) 1 1) [⟨1, M.none_⟩] := SliceOf.row (R := KindL) (xs := [⟨1, M.none_⟩]) [[.int .i64 1, .string ⟨#[]⟩]] (CellsAt.ofB b10) rfl (by simp) ⟨rfl, trivial⟩ j10 (by simp) (by simp)
 have hmt : SliceOf 8 MethodL W J (.slice (some ⟨a16, 0, none⟩) 1 1) [⟨M.runN, [⟨1, M.none_⟩], ⟨1, M.none_⟩, 3, 3, code, maps⟩] :=
  SliceOf.row (R := MethodL) (xs := [⟨M.runN, [⟨1, M.none_⟩], ⟨1, M.none_⟩, 3, 3, code, maps⟩]) [[.string ⟨#[114, 117, 110]⟩, .slice (some ⟨a10, 0, none⟩) 1 1, .int .i64 1, .string ⟨#[]⟩, .int .i64 3, .int .i64 3, .slice cva code.length cvc, .slice xva maps.length xvc]] (CellsAt.ofB b16) rfl (by simp) ⟨⟨_, _, _, rfl, hkn, hc, hx⟩, trivial⟩ j16 (by simp) (by simp)
 have hcl : ClassL W J (M.mainCls code maps) [.string ⟨#[109, 97, 105, 110]⟩, .string ⟨#[]⟩, .slice none 0 0, .slice (some ⟨a16, 0, none⟩) 1 1] := ⟨_, _, rfl, SliceOf.nil _ _ _ _, hmt⟩
 have hrow : CellsAt W g9 0 (css.flatten ++ [.string ⟨#[109, 97, 105, 110]⟩, .string ⟨#[]⟩, .slice none 0 0, .slice (some ⟨a16, 0, none⟩) 1 1]) := fun j u hj => by
  have := hO.cells (g := g9) rfl j u hj
  unfold Addr.add at this
  split at this
  · rename_i h0; subst h0; exact this
  · simpa using this
 have hcap : more.length + 1 ≤ c9 := by
  obtain ⟨g, c, e, -, -, hc⟩ := owns_form hO (by omega)
  cases e; exact hc
 have how : SliceOf 4 ClassL W J (.slice (some ⟨g9, 0, none⟩) (more ++ [M.mainCls code maps]).length c9) (more ++ [M.mainCls code maps]) :=
  SliceOf.row (R := ClassL) (css ++ [[.string ⟨#[109, 97, 105, 110]⟩, .string ⟨#[]⟩, .slice none 0 0, .slice (some ⟨a16, 0, none⟩) 1 1]]) hrow (by simp) (fun c hc' => by
   rcases List.mem_append.1 hc' with h | h
   · exact hk c h
   · simp at h; subst h; rfl) (hR.snoc hcl) j9 (by simpa using hcap) (by simp; omega)
 rw [List.length_append, List.length_singleton] at how
 exact how.ext ClassL.stays hE
def MainAt (w w' : World) (I : Nat → Prop) (v : Value) (more : List M.Class) (code : List M.Ins) (maps : List M.SMap) : Prop :=
 ∃ kb a n c, v = .slice (some ⟨kb, 0, none⟩) 1 1 ∧ Blk w' kb 65 #[.slice a n c, .slice none 0 0] ∧ w.heap.size + 1 ≤ kb ∧ SliceOf 4 ClassL w' (fun b => (I b ∨ w.heap.size + 1 ≤ b) ∧ b < kb) (.slice a n c) (more ++ [M.mainCls code maps])
theorem MainAt.plan {w w' : World} {I : Nat → Prop} {v : Value} {more : List M.Class} {code : List M.Ins} {maps : List M.SMap} (h : MainAt w w' I v more code maps) : SliceOf 2 KeeperL w' (fun b => I b ∨ w.heap.size + 1 ≤ b) v (M.mainPlan more code maps) := by
 obtain ⟨kb, a, n, c, rfl, hb, hk, hs⟩ := h
 exact SliceOf.row (R := KeeperL) (xs := [⟨more ++ [M.mainCls code maps], []⟩]) [[.slice a n c, .slice none 0 0]] (CellsAt.ofB hb) rfl (by simp) ⟨⟨_, _, rfl, hs.keep ClassL.stays (fun _ _ _ _ h => h) (fun _ h => h.1), SliceOf.nil _ _ _ _⟩, trivial⟩ (.inr hk) (by simp) (by simp)
theorem lo_main_at (w : World) (I : Nat → Prop) (hI : ∀ b, I b → b < w.heap.size) (mad : Addr) (mvc : Nat) (more : List M.Class) (cva : Option Addr) (cvc : Nat) (xva : Option Addr) (xvc : Nat) (code : List M.Ins) (maps : List M.SMap) (hm : SliceOf 4 ClassL w I (.slice (some mad) more.length mvc) more) (hl : more.length ≤ 10) (hne : more ≠ [])
    (hc : SliceOf 4 InsL w I (.slice cva code.length cvc) code) (hx : SliceOf 3 SMapL w I (.slice xva maps.length xvc) maps) :
    Calls Tryz.prog 13 #[.slice (some mad) more.length mvc, .slice cva code.length cvc, .slice xva maps.length xvc] w fun e w' => (∃ v, e = .returned (.agg #[v]) ∧ MainAt w w' I v more code maps) ∧ Ext w w' := by
 have hmn := hm.form
 obtain ⟨css, hck, hcl, hcn, -, hfl⟩ := hm.classes hne
 obtain ⟨w1, hw1⟩ : ∃ w1, w1 = w.alloc (.cells #[.slice none 0 0] 40) := ⟨_, rfl⟩
 have hE1 : Ext w w1 := by rw [hw1]; exact (KX.k (by repeat (first | assumption | constructor)))
 have b6 : Blk w1 w.heap.size 40 #[.slice none 0 0] := by rw [hw1]; exact Blk.new _ _ _
 have hz1 : w1.heap.size = w.heap.size + 1 := by rw [hw1]; simp
 have HE1 := hid hE1
 have HB6 := hid b6
 have HW1 := hid hw1
 have HZ1 := hid hz1
 have HCK := hid hck
 have HCL := hid hcl
 have HC := hid hc
 have HX := hid hx
 have HI := hid hI
 clear hE1 b6 hw1 hz1 hck hcl hc hx hI
 have HFL := hid hfl
 have HNE := hid hne
 have HCN := hid hcn
 clear hfl hm hne hcn hmn
 go_enter Tryz.func13, Tryz.ntmps13
 go_wp2_with fail
 rw [← HW1.out]
 refine (lo_kind w1).mono ?_
 rintro e w2 ⟨rfl, hE2⟩
 obtain ⟨w3, hw3⟩ : ∃ w3, w3 = w2.alloc (.cells #[.int .i64 1, .string ⟨#[]⟩] 55) := ⟨_, rfl⟩
 have hE3 : Ext w2 w3 := by rw [hw3]; exact (KX.k (by repeat (first | assumption | constructor)))
 have b10 : Blk w3 w2.heap.size 55 #[.int .i64 1, .string ⟨#[]⟩] := by rw [hw3]; exact Blk.new _ _ _
 have HE3 := hid (HE1.out.trans (hE2.trans hE3))
 have HZ2 := hid hE2.size
 have HB10 := hid b10
 have HB63 := hid (HB6.out.ext (hE2.trans hE3))
 have HZ3 : Hid (w3.heap.size = w2.heap.size + 1) := hid (by rw [hw3]; simp)
 have HW3 := hid hw3
 clear hE2 hE3 b10 hw3 HB6
 go_wp2_with fail
 rw [← HW3.out]
 refine (lo_kind w3).mono ?_
 rintro e w4 ⟨rfl, hE4⟩
 obtain ⟨w5, hw5⟩ : ∃ w5, w5 = ((w4.alloc (.cells #[.string ⟨#[114, 117, 110]⟩, .slice (some ⟨w2.heap.size, 0, none⟩) 1 1, .int .i64 1, .string ⟨#[]⟩, .int .i64 3, .int .i64 3, .slice cva code.length cvc, .slice xva maps.length xvc] 60)).alloc (.cells #[.string ⟨#[114, 117, 110]⟩, .slice (some ⟨w2.heap.size, 0, none⟩) 1 1, .int .i64 1, .string ⟨#[]⟩, .int .i64 3, .int .i64 3, .slice cva code.length cvc, .slice xva maps.length xvc] 60)).alloc (.cells #[.string ⟨#[109, 97, 105, 110]⟩, .string ⟨#[]⟩, .slice none 0 0, .slice (some ⟨w4.heap.size + 1, 0, none⟩) 1 1] 50) := ⟨_, rfl⟩
 have hE5 : Ext w4 w5 := by rw [hw5]; exact (KX.k (by repeat (first | assumption | constructor)))
 have b16 : Blk w5 (w4.heap.size + 1) 60 #[.string ⟨#[114, 117, 110]⟩, .slice (some ⟨w2.heap.size, 0, none⟩) 1 1, .int .i64 1, .string ⟨#[]⟩, .int .i64 3, .int .i64 3, .slice cva code.length cvc, .slice xva maps.length xvc] := by rw [hw5]; exact Blk.ext (w := (w4.alloc (.cells #[.string ⟨#[114, 117, 110]⟩, .slice (some ⟨w2.heap.size, 0, none⟩) 1 1, .int .i64 1, .string ⟨#[]⟩, .int .i64 3, .int .i64 3, .slice cva code.length cvc, .slice xva maps.length xvc] 60)).alloc (.cells #[.string ⟨#[114, 117, 110]⟩, .slice (some ⟨w2.heap.size, 0, none⟩) 1 1, .int .i64 1, .string ⟨#[]⟩, .int .i64 3, .int .i64 3, .slice cva code.length cvc, .slice xva maps.length xvc] 60)) (Blk.newAt _ _ (by simp)) ((Kp.refl _ _).alloc _)
 have b8 : Blk w5 (w4.heap.size + 1 + 1) 50 #[.string ⟨#[109, 97, 105, 110]⟩, .string ⟨#[]⟩, .slice none 0 0, .slice (some ⟨w4.heap.size + 1, 0, none⟩) 1 1] := by rw [hw5]; exact Blk.newAt _ _ (by simp)
 have hz5 : w5.heap.size = w4.heap.size + 3 := by rw [hw5]; simp
 have HE5 := hid (HE3.out.trans (hE4.trans hE5))
 have HZ4 := hid hE4.size
 have HZ5 := hid hz5
 have HB65 := hid (HB63.out.ext (hE4.trans hE5))
 have HB105 := hid (HB10.out.ext (hE4.trans hE5))
 have HB16 := hid b16
 have HW5 := hid hw5
 obtain ⟨T, f, hneT, HT⟩ := Cls.ex (fun W' => Ext w5 W') _ (Kp.refl _ _)
 have r0 := fun z => (b8.ext (HT.inn z)).c 0 (.string ⟨#[109, 97, 105, 110]⟩) rfl
 have r1 := fun z => (b8.ext (HT.inn z)).c 1 (.string ⟨#[]⟩) rfl
 have r2 := fun z => (b8.ext (HT.inn z)).c 2 (.slice none 0 0) rfl
 have r3 := fun z => (b8.ext (HT.inn z)).c 3 (.slice (some ⟨w4.heap.size + 1, 0, none⟩) 1 1) rfl
 have HTH := hid HT
 clear hE4 hE5 b16 b8 hz5 hw5 HT HB63 HB10
 go_wp2_with fail
 rw [← HW5.out]
 rename_i K hK
 have tail : ∀ (a18 a20 a22 : Value) (B g9 c9 : Nat) (W : World), w5.heap.size ≤ B → Ext w5 W → W.ownsRow B 50 4 (.slice (some ⟨g9, 0, none⟩) (more.length + 1) c9) (more.length + 1) (css.flatten ++ [.string ⟨#[109, 97, 105, 110]⟩, .string ⟨#[]⟩, .slice none 0 0, .slice (some ⟨w4.heap.size + 1, 0, none⟩) 1 1]) →
     K { tmps := #[.slice (some mad) more.length mvc, .slice cva code.length cvc, .slice xva maps.length xvc, undef, undef, undef, .pointer (some ⟨w.heap.size, 0, none⟩), .pointer (some ⟨w4.heap.size, 0, none⟩), .pointer (some ⟨w4.heap.size + 1 + 1, 0, none⟩), .agg #[.int .i64 1, .string ⟨#[]⟩], .slice (some ⟨w2.heap.size, 0, none⟩) 1 1, .agg #[.int .i64 1, .string ⟨#[]⟩], .slice cva code.length cvc, .slice xva maps.length xvc,
      .agg #[.string ⟨#[114, 117, 110]⟩, .slice (some ⟨w2.heap.size, 0, none⟩) 1 1, .int .i64 1, .string ⟨#[]⟩, .int .i64 3, .int .i64 3, .slice cva code.length cvc, .slice xva maps.length xvc], .agg #[.string ⟨#[114, 117, 110]⟩, .slice (some ⟨w2.heap.size, 0, none⟩) 1 1, .int .i64 1, .string ⟨#[]⟩, .int .i64 3, .int .i64 3, .slice cva code.length cvc, .slice xva maps.length xvc], .slice (some ⟨w4.heap.size + 1, 0, none⟩) 1 1, .agg #[.string ⟨#[109, 97, 105, 110]⟩, .string ⟨#[]⟩, .slice none 0 0, .slice (some ⟨w4.heap.size + 1, 0, none⟩) 1 1], a18, .slice (some mad) more.length mvc, a20, .agg #[.string ⟨#[109, 97, 105, 110]⟩, .string ⟨#[]⟩, .slice none 0 0, .slice (some ⟨w4.heap.size + 1, 0, none⟩) 1 1], a22, .slice (some ⟨g9, 0, none⟩) (more.length + 1) c9, .agg #[.slice (some ⟨g9, 0, none⟩) (more.length + 1) c9, .slice none 0 0], .slice (some ⟨W.heap.size, 0, none⟩) 1 1, .agg #[.slice (some ⟨W.heap.size, 0, none⟩) 1 1]], defers := [] } ((W.setCell ⟨w.heap.size, 0, none⟩ (.slice (some ⟨W.heap.size, 0, none⟩) 1 1)).alloc (.cells #[.slice (some ⟨g9, 0, none⟩) (more.length + 1) c9, .slice none 0 0] 65)) := by
  intro a18 a20 a22 B g9 c9 W hB hE hO
  refine hK _ _ ?_
  clear hK HTH r0 r1 r2 r3
  have hg9 := hO.lt g9 rfl
  have s1 := HZ1.out
  have s2 := HZ2.out
  have s3 := HZ3.out
  have s4 := HZ4.out
  have s5 := HZ5.out
  obtain ⟨WS, hWS⟩ : ∃ WS, WS = W.setCell ⟨w.heap.size, 0, none⟩ (.slice (some ⟨W.heap.size, 0, none⟩) 1 1) := ⟨_, rfl⟩
  have hKS : Kp (· = w.heap.size) W WS := by rw [hWS]; exact (Kp.refl (· = w.heap.size) W).setCell (p := ⟨w.heap.size, 0, none⟩) (fun _ => rfl) _
  have bS : Blk WS w.heap.size 40 #[.slice (some ⟨W.heap.size, 0, none⟩) 1 1] := by rw [hWS]; exact (HB65.out.ext hE).set_ 0 _
  have hzS : WS.heap.size = W.heap.size := by rw [hWS]; simp [World.setCell]
  rw [← hWS]
  have hsW := hE.size
  have hEw : Ext w WS := (HE5.out.trans hE).own hKS (fun b e => by omega)
  have hIJ : ∀ b, I b → (I b ∨ w.heap.size + 1 ≤ b) ∧ b < W.heap.size := fun b h => ⟨.inl h, by have := HI.out b h; omega⟩
  have hpl := main_owns_at (more := more) (J := fun b => (I b ∨ w.heap.size + 1 ≤ b) ∧ b < W.heap.size) (owns_kp hO hKS (fun q hq _ e => by cases hq; omega)) HCK.out (LiesAll.keep ClassL.stays (Ext.same hEw) hIJ HCL.out) ((HB105.out.ext hE).kp hKS (by omega)) ((HB16.out.ext hE).kp hKS (by omega)) (HC.out.keep InsL.stays (Ext.same hEw) hIJ) (HX.out.keep SMapL.stays (Ext.same hEw) hIJ)
   (by omega) ⟨.inr (by omega), by omega⟩ ⟨.inr (by omega), by omega⟩ ⟨.inr (by omega), by omega⟩
  have hbk := Blk.new WS 65 #[.slice (some ⟨g9, 0, none⟩) (more.length + 1) c9, .slice none 0 0]
  have HKB : Hid (w.heap.size + 1 ≤ W.heap.size) := hid (by omega)
  rw [hzS] at hbk
  have hEA : Ext WS (WS.alloc (.cells #[.slice (some ⟨g9, 0, none⟩) (more.length + 1) c9, .slice none 0 0] 65)) := (Kp.refl _ _).alloc _
  have b9 := bS.ext hEA
  have hEF := hEw.trans hEA
  have HB9 := hid b9
  have HR := hid hpl
  have HBK := hid hbk
  have HEF := hid hEF
  clear hWS hKS bS hzS hsW hEw hIJ hpl hbk hEA b9 hEF hO hE hg9 s1 s2 s3 s4 s5
  go_wp2_with fail
  refine bodyPost_ret (results_agg agg_plan rfl _ _ w.heap.size rfl [.slice (some ⟨W.heap.size, 0, none⟩) 1 1] (CellsAt.ofB HB9.out) rfl) rfl ?_
  exact ⟨⟨_, rfl, _, _, _, _, rfl, HBK.out, HKB.out, HR.out⟩, HEF.out⟩
 have TAIL := hid tail
 clear tail hK
 (refine region_tree f 9 (.two [1, 3] 0 4 (.two [] 2 4 (.one [] 4 (.one [] 5 (.one [6] 7 (.fin [8])))) (.one [] 2 (.one [] 5 (.one [6] 7 (.fin [8]))))) (.one [] 0 (.one [] 2 (.one [] 5 (.one [6] 7 (.fin [8])))))) (HTH.out.out _ ?_) (by kernel_rfl) (by kernel_rfl) (fun _ _ d _ _ h => by cases d <;> exact h) ?_)
 · exact (Kp.refl _ _).drew
 (refine wpT_two rfl rfl rfl fun K hK => ?_); (change wpQuiet _ _ _ _ [_, _] _); (repeat (go_big_quiet_step (fail))); (refine wpQuiet_nil ?_); ((refine hK _ (fun K2 hK2 => ?_) (fun K2 hK2 => ?_)) <;> (clear hK K; (change wpList _ _ _ [_] _ _)))
 · go_wp2_with fail
   obtain ⟨wa, hwa⟩ : ∃ wa, wa = (w5.alloc (.cells #[] 50)).drew := ⟨_, rfl⟩
   have hEa : Ext w5 wa := by rw [hwa]; exact (KX.k (by repeat (first | assumption | constructor)))
   have hrow : wa.ownsRow w5.heap.size 50 4 (.slice (some ⟨w5.heap.size, 0, none⟩) 0 0) 0 [] := by rw [hwa]; exact owns_kp (D := fun _ => False) (owns_empty w5 50 4 w5.heap.size (by omega) (w5.heap.size) (by omega)) (KX.k (by repeat (first | assumption | constructor))) fun _ _ _ x => x
   have hza : wa.heap.size = w5.heap.size + 1 := by rw [hwa]; show (World.alloc _ _).heap.size = _; simp
   rw [← hwa]
   clear hwa
   (refine hK2 _ _ (HTH.out.out _ hEa) ?_); clear hK2 K2
   (refine wpT_two rfl rfl rfl fun K hK => ?_); (change wpQuiet _ _ _ _ [] _); (refine wpQuiet_nil ?_); ((refine hK _ (fun K2 hK2 => ?_) (fun K2 hK2 => ?_)) <;> (clear hK K; (change wpList _ _ _ [_] _ _)))
   · refine wpList_append_flat elem_class _ rfl (.tmp 18) (.tmp 19) rfl w5.heap.size (.slice (some ⟨w5.heap.size, 0, none⟩) 0 0) 0 [] rfl hrow mad more.length mvc css.flatten rfl (HFL.out.ext (HE5.out.trans hEa)) (by omega) (by omega) ?_
     intro v2 wb hO2 hK2x
     change K2 _ _
     rw [Nat.zero_add, List.nil_append] at hO2
     have KB : Kp (· = w5.heap.size) wa wb := hK2x.weak fun b _ e => by cases e; rfl
     have Eb : Ext w5 wb := Kp.own hEa KB (fun b e => by omega)
     have hzb := KB.size
     clear hK2x
     (refine hK2 _ _ (HTH.out.out _ Eb) ?_); clear hK2 K2
     (refine wpT_one rfl rfl fun K hK => ?_); (change wpQuiet _ _ _ _ [] _); (refine wpQuiet_nil ?_); (refine hK _ fun K2 hK2 => ?_); clear hK K; (change wpList _ _ _ [_] _ _)
     go_wp2_with fail
     obtain ⟨wc, hwc⟩ : ∃ wc, wc = (wb.alloc (.cells #[.string ⟨#[109, 97, 105, 110]⟩, .string ⟨#[]⟩, .slice none 0 0, .slice (some ⟨w4.heap.size + 1, 0, none⟩) 1 1] 50)) := ⟨_, rfl⟩
     have hEc : Ext wb wc := by rw [hwc]; exact (KX.k (by repeat (first | assumption | constructor)))
     have hcl : CellsAt wc (wb.heap.size) 0 [.string ⟨#[109, 97, 105, 110]⟩, .string ⟨#[]⟩, .slice none 0 0, .slice (some ⟨w4.heap.size + 1, 0, none⟩) 1 1] := by rw [hwc]; exact CellsAt.newA _ _ (by omega)
     have hzc : wc.heap.size = wb.heap.size + 1 := by rw [hwc]; simp
     rw [← hwc]
     clear hwc
     (refine hK2 _ _ (HTH.out.out _ (Eb.trans hEc)) ?_); clear hK2 K2
     (refine wpT_one rfl rfl fun K hK => ?_); (change wpQuiet _ _ _ _ [] _); (refine wpQuiet_nil ?_); (refine hK _ fun K2 hK2 => ?_); clear hK K; (change wpList _ _ _ [_] _ _)
     have hO3 := owns_kp (D := fun _ => False) hO2 hEc fun _ _ _ x => x
     refine wpList_append_at elem_class rfl (.tmp 20) (.tmp 22) rfl w5.heap.size v2 more.length css.flatten rfl hO3 (wb.heap.size) 1 [.string ⟨#[109, 97, 105, 110]⟩, .string ⟨#[]⟩, .slice none 0 0, .slice (some ⟨w4.heap.size + 1, 0, none⟩) 1 1] rfl rfl hcl (by simp [Value.oneCell']) (by omega) (by omega) ?_
     intro g9 c9 wd hO9 hK9 hg9
     change K2 _ _
     have Ed : Ext w5 wd := Kp.own (Eb.trans hEc) hK9 (fun b e => (World.ownsRow.lt hO3 b e).1)
     (refine hK2 _ _ (HTH.out.out _ Ed) ?_); clear hK2 K2
     go_simp
     (refine wpT_one rfl rfl fun K hK => ?_); (change wpQuiet _ _ _ _ [_] _); (repeat (go_big_quiet_step (fail))); (refine wpQuiet_nil ?_); (refine hK _ fun K2 hK2 => ?_); clear hK K; (change wpList _ _ _ [_] _ _)
     go_wp2_with fail
     (refine hK2 _ _ (HTH.out.out _ (Ed.alloc _)) ?_); clear hK2 K2
     have hb6 := HB65.out.ext Ed
     have y0 := hb6.c 0 (.slice none 0 0) rfl
     have f0 := hb6.frozen 0
     have yz := hb6.lt
     clear HTH r0 r1 r2 r3 hb6
     (refine wpT_fin rfl fun K hK => ?_); (change wpQuiet _ _ _ _ [_] _); (repeat (go_big_quiet_step (fail))); (refine wpQuiet_nil ?_); (refine hK _ ?_); clear hK K
     go_wp2_with fail
     exact TAIL.out _ _ _ w5.heap.size g9 c9 wd (Nat.le_refl _) Ed hO9
   · go_wp2_with fail
     obtain ⟨wc, hwc⟩ : ∃ wc, wc = (wa.alloc (.cells #[.string ⟨#[109, 97, 105, 110]⟩, .string ⟨#[]⟩, .slice none 0 0, .slice (some ⟨w4.heap.size + 1, 0, none⟩) 1 1] 50)) := ⟨_, rfl⟩
     have hEc : Ext wa wc := by rw [hwc]; exact (KX.k (by repeat (first | assumption | constructor)))
     have hcl : CellsAt wc (w5.heap.size + 1) 0 [.string ⟨#[109, 97, 105, 110]⟩, .string ⟨#[]⟩, .slice none 0 0, .slice (some ⟨w4.heap.size + 1, 0, none⟩) 1 1] := by rw [hwc]; exact CellsAt.newA _ _ (by omega)
     have hzc : wc.heap.size = wa.heap.size + 1 := by rw [hwc]; simp
     rw [← hwc]
     clear hwc
     (refine hK2 _ _ (HTH.out.out _ (hEa.trans hEc)) ?_); clear hK2 K2
     (refine wpT_one rfl rfl fun K hK => ?_); (change wpQuiet _ _ _ _ [] _); (refine wpQuiet_nil ?_); (refine hK _ fun K2 hK2 => ?_); clear hK K; (change wpList _ _ _ [_] _ _)
     have hrowc := owns_kp (D := fun _ => False) hrow hEc fun _ _ _ x => x
     have hE5c := hEa.trans hEc
     refine wpList_append_flat elem_class _ rfl (.tmp 18) (.tmp 19) rfl w5.heap.size (.slice (some ⟨w5.heap.size, 0, none⟩) 0 0) 0 [] rfl hrowc mad more.length mvc css.flatten rfl (HFL.out.ext (HE5.out.trans hE5c)) (by omega) (by omega) ?_
     intro v2 wb hO2 hK2x
     change K2 _ _
     rw [Nat.zero_add, List.nil_append] at hO2
     have KB : Kp (· = w5.heap.size) wc wb := hK2x.weak fun b _ e => by cases e; rfl
     have Eb : Ext w5 wb := Kp.own hE5c KB (fun b e => by omega)
     have hzb := KB.size
     clear hK2x
     (refine hK2 _ _ (HTH.out.out _ Eb) ?_); clear hK2 K2
     (refine wpT_one rfl rfl fun K hK => ?_); (change wpQuiet _ _ _ _ [] _); (refine wpQuiet_nil ?_); (refine hK _ fun K2 hK2 => ?_); clear hK K; (change wpList _ _ _ [_] _ _)
     have hcl2 := CellsAt.kp hcl KB (by omega)
     refine wpList_append_at elem_class rfl (.tmp 20) (.tmp 22) rfl w5.heap.size v2 more.length css.flatten rfl hO2 (w5.heap.size + 1) 1 [.string ⟨#[109, 97, 105, 110]⟩, .string ⟨#[]⟩, .slice none 0 0, .slice (some ⟨w4.heap.size + 1, 0, none⟩) 1 1] rfl rfl hcl2 (by simp [Value.oneCell']) (by omega) (by omega) ?_
     intro g9 c9 wd hO9 hK9 hg9
     change K2 _ _
     have Ed : Ext w5 wd := Kp.own Eb hK9 (fun b e => (World.ownsRow.lt hO2 b e).1)
     (refine hK2 _ _ (HTH.out.out _ Ed) ?_); clear hK2 K2
     go_simp
     (refine wpT_one rfl rfl fun K hK => ?_); (change wpQuiet _ _ _ _ [_] _); (repeat (go_big_quiet_step (fail))); (refine wpQuiet_nil ?_); (refine hK _ fun K2 hK2 => ?_); clear hK K; (change wpList _ _ _ [_] _ _)
     go_wp2_with fail
     (refine hK2 _ _ (HTH.out.out _ (Ed.alloc _)) ?_); clear hK2 K2
     have hb6 := HB65.out.ext Ed
     have y0 := hb6.c 0 (.slice none 0 0) rfl
     have f0 := hb6.frozen 0
     have yz := hb6.lt
     clear HTH r0 r1 r2 r3 hb6
     (refine wpT_fin rfl fun K hK => ?_); (change wpQuiet _ _ _ _ [_] _); (repeat (go_big_quiet_step (fail))); (refine wpQuiet_nil ?_); (refine hK _ ?_); clear hK K
     go_wp2_with fail
     exact TAIL.out _ _ _ w5.heap.size g9 c9 wd (Nat.le_refl _) Ed hO9
 · go_wp2_with fail
   obtain ⟨wc, hwc⟩ : ∃ wc, wc = (w5.alloc (.cells #[.string ⟨#[109, 97, 105, 110]⟩, .string ⟨#[]⟩, .slice none 0 0, .slice (some ⟨w4.heap.size + 1, 0, none⟩) 1 1] 50)).drew := ⟨_, rfl⟩
   have hEc : Ext w5 wc := by rw [hwc]; exact (KX.k (by repeat (first | assumption | constructor)))
   have hcl : CellsAt wc (w5.heap.size) 0 [.string ⟨#[109, 97, 105, 110]⟩, .string ⟨#[]⟩, .slice none 0 0, .slice (some ⟨w4.heap.size + 1, 0, none⟩) 1 1] := by rw [hwc]; exact CellsAt.newD _ _ (by omega)
   have hzc : wc.heap.size = w5.heap.size + 1 := by rw [hwc]; show (World.alloc _ _).heap.size = _; simp
   rw [← hwc]
   clear hwc
   (refine hK2 _ _ (HTH.out.out _ hEc) ?_); clear hK2 K2
   (refine wpT_one rfl rfl fun K hK => ?_); (change wpQuiet _ _ _ _ [] _); (refine wpQuiet_nil ?_); (refine hK _ fun K2 hK2 => ?_); clear hK K; (change wpList _ _ _ [_] _ _)
   go_wp2_with fail
   obtain ⟨wa, hwa⟩ : ∃ wa, wa = (wc.alloc (.cells #[] 50)) := ⟨_, rfl⟩
   have hEa : Ext wc wa := by rw [hwa]; exact (KX.k (by repeat (first | assumption | constructor)))
   have hrow : wa.ownsRow w5.heap.size 50 4 (.slice (some ⟨w5.heap.size + 1, 0, none⟩) 0 0) 0 [] := by rw [hwa]; exact owns_kp (D := fun _ => False) (owns_empty wc 50 4 w5.heap.size (by omega) (w5.heap.size + 1) (by omega)) (KX.k (by repeat (first | assumption | constructor))) fun _ _ _ x => x
   have hza : wa.heap.size = wc.heap.size + 1 := by rw [hwa]; simp
   rw [← hwa]
   clear hwa
   have hE5a := hEc.trans hEa
   (refine hK2 _ _ (HTH.out.out _ hE5a) ?_); clear hK2 K2
   · (refine wpT_one rfl rfl fun K hK => ?_); (change wpQuiet _ _ _ _ [] _); (refine wpQuiet_nil ?_); (refine hK _ fun K2 hK2 => ?_); clear hK K; (change wpList _ _ _ [_] _ _)
     refine wpList_append_flat elem_class _ rfl (.tmp 18) (.tmp 19) rfl w5.heap.size (.slice (some ⟨w5.heap.size + 1, 0, none⟩) 0 0) 0 [] rfl hrow mad more.length mvc css.flatten rfl (HFL.out.ext (HE5.out.trans hE5a)) (by omega) (by omega) ?_
     intro v2 wb hO2 hK2x
     change K2 _ _
     rw [Nat.zero_add, List.nil_append] at hO2
     have KB : Kp (· = w5.heap.size + 1) wa wb := hK2x.weak fun b _ e => by cases e; rfl
     have Eb : Ext w5 wb := Kp.own hE5a KB (fun b e => by omega)
     have hzb := KB.size
     clear hK2x
     (refine hK2 _ _ (HTH.out.out _ Eb) ?_); clear hK2 K2
     (refine wpT_one rfl rfl fun K hK => ?_); (change wpQuiet _ _ _ _ [] _); (refine wpQuiet_nil ?_); (refine hK _ fun K2 hK2 => ?_); clear hK K; (change wpList _ _ _ [_] _ _)
     have hcl2 := CellsAt.kp (hcl.ext hEa) KB (by omega)
     refine wpList_append_at elem_class rfl (.tmp 20) (.tmp 22) rfl w5.heap.size v2 more.length css.flatten rfl hO2 (w5.heap.size) 1 [.string ⟨#[109, 97, 105, 110]⟩, .string ⟨#[]⟩, .slice none 0 0, .slice (some ⟨w4.heap.size + 1, 0, none⟩) 1 1] rfl rfl hcl2 (by simp [Value.oneCell']) (by omega) (by omega) ?_
     intro g9 c9 wd hO9 hK9 hg9
     change K2 _ _
     have Ed : Ext w5 wd := Kp.own Eb hK9 (fun b e => (World.ownsRow.lt hO2 b e).1)
     (refine hK2 _ _ (HTH.out.out _ Ed) ?_); clear hK2 K2
     go_simp
     (refine wpT_one rfl rfl fun K hK => ?_); (change wpQuiet _ _ _ _ [_] _); (repeat (go_big_quiet_step (fail))); (refine wpQuiet_nil ?_); (refine hK _ fun K2 hK2 => ?_); clear hK K; (change wpList _ _ _ [_] _ _)
     go_wp2_with fail
     (refine hK2 _ _ (HTH.out.out _ (Ed.alloc _)) ?_); clear hK2 K2
     have hb6 := HB65.out.ext Ed
     have y0 := hb6.c 0 (.slice none 0 0) rfl
     have f0 := hb6.frozen 0
     have yz := hb6.lt
     clear HTH r0 r1 r2 r3 hb6
     (refine wpT_fin rfl fun K hK => ?_); (change wpQuiet _ _ _ _ [_] _); (repeat (go_big_quiet_step (fail))); (refine wpQuiet_nil ?_); (refine hK _ ?_); clear hK K
     go_wp2_with fail
     exact TAIL.out _ _ _ w5.heap.size g9 c9 wd (Nat.le_refl _) Ed hO9
theorem lo_main (w : World) (I : Nat → Prop) (hI : ∀ b, I b → b < w.heap.size) (mad : Addr) (mvc : Nat) (more : List M.Class) (cva : Option Addr) (cvc : Nat) (xva : Option Addr) (xvc : Nat) (code : List M.Ins) (maps : List M.SMap) (hm : SliceOf 4 ClassL w I (.slice (some mad) more.length mvc) more) (hl : more.length ≤ 10) (hne : more ≠ [])
    (hc : SliceOf 4 InsL w I (.slice cva code.length cvc) code) (hx : SliceOf 3 SMapL w I (.slice xva maps.length xvc) maps) :
    Calls Tryz.prog 13 #[.slice (some mad) more.length mvc, .slice cva code.length cvc, .slice xva maps.length xvc] w fun e w' => (∃ v, e = .returned (.agg #[v]) ∧ SliceOf 2 KeeperL w' (fun b => I b ∨ w.heap.size + 1 ≤ b) v (M.mainPlan more code maps)) ∧ Ext w w' :=
 (lo_main_at w I hI mad mvc more cva cvc xva xvc code maps hm hl hne hc hx).mono fun _ _ ⟨⟨v, h, hp⟩, hE⟩ => ⟨⟨v, h, hp.plan⟩, hE⟩
end Go.Proofs.YtjdfceejkneofaaGreat
namespace Go.Proofs.YtjdfceejkneofaaGreat.M
theorem insIn_num {a : Int} (h : numOk a = true) (m : Method) : insIn m ⟨1, a, none_, none_⟩ = true := by
 unfold numOk at h
 simp only [Bool.and_eq_true, decide_eq_true_eq] at h
 unfold insIn insOk
 simp [isNum, numLeast, numMost, h.1, h.2]
theorem loDo_eq {p : Plan} {a : Int} (hok : lodOk p = true) (ha : numOk a = true) : loDo p a = steps p true 400 (start p true 0 mainN runN [a]) := by
 have hl := (lodOk_len hok).1
 have hs : [a].all numOk = true := by simp [ha]
 unfold loDo
 rw [vmNew_eq (n := mainN) (m := runN) hok (by unfold has; simp; omega) namOk_main namOk_run hs]
 exact vmRun_eq (f := 400) hok (start_runs hok hs) (Nat.le_refl _)
def again : List Ins := [⟨2, 0, none_, none_⟩, ⟨2, 1, none_, none_⟩, ⟨9, 0, mainN, runN⟩, ⟨10, 0, none_, none_⟩]
def roundC (a : Int) : List Ins := [⟨1, a, none_, none_⟩, ⟨14, 0, none_, none_⟩, ⟨5, 0, none_, none_⟩, ⟨12, 4, none_, none_⟩, ⟨6, 0, mainN, none_⟩, ⟨12, 4, none_, none_⟩, ⟨13, 4, none_, none_⟩]
def roundM : List SMap := [⟨4, [⟨2, mainN⟩, ⟨1, none_⟩, ⟨0, none_⟩], []⟩]
theorem again_ok : lodOk (mainPlan [] again []) = true := by decide +kernel
theorem round_ok {a : Int} (h : numOk a = true) : lodOk (mainPlan [] (roundC a) roundM) = true := by
 simp only [lodOk, mainPlan, mainCls, roundC, List.nil_append, List.all_cons, List.all_nil, keeperOk, freshAll, clsOk, mthOk, codeOk, insIn_num h, Bool.and_true, Bool.true_and]
 kernel_rfl
theorem deep_again {a : Int} (h : numOk a = true) : loDo (mainPlan [] again []) a = ⟨7, [], [⟨⟨0, mainN⟩, []⟩], [], zval⟩ := by
 rw [loDo_eq again_ok h]
 kernel_rfl
theorem deep_round {a : Int} (h : numOk a = true) : loDo (mainPlan [] (roundC a) roundM) a = ⟨8, [], List.replicate 12 ⟨⟨0, mainN⟩, []⟩, [a], zval⟩ := by
 rw [loDo_eq (round_ok h) h]
 kernel_rfl
def outC (a : Int) : List Ins := [⟨1, a, none_, none_⟩, ⟨14, 0, none_, none_⟩, ⟨2, 1, none_, none_⟩, ⟨14, 0, none_, none_⟩, ⟨1, 0, none_, none_⟩, ⟨10, 0, none_, none_⟩]
theorem out_ok {a : Int} (h : numOk a = true) : lodOk (mainPlan [] (outC a) []) = true := by
 simp only [lodOk, mainPlan, mainCls, outC, List.nil_append, List.all_cons, List.all_nil, keeperOk, freshAll, clsOk, mthOk, codeOk, insIn_num h, Bool.and_true, Bool.true_and]
 kernel_rfl
theorem out_run {a b : Int} (h : numOk a = true) (hb : numOk b = true) : loDo (mainPlan [] (outC a) []) b = ⟨2, [], [⟨⟨0, mainN⟩, []⟩], [a, b], ⟨1, 0⟩⟩ := by
 rw [loDo_eq (out_ok h) hb]
 kernel_rfl
end Go.Proofs.YtjdfceejkneofaaGreat.M
namespace Go.Proofs.YtjdfceejkneofaaGreat
open Go Go.RowKit
open Go.Lib (hid)
abbrev In (w : World) (I : Nat → Prop) : Nat → Prop := fun b => I b ∧ b < w.heap.size
theorem KindL.inside (w : World) (I : Nat → Prop) (x : M.Kind) (cs : List Value) (h : KindL w I x cs) : KindL w (In w I) x cs := h
theorem TagL.inside (w : World) (I : Nat → Prop) (x : M.Tag) (cs : List Value) (h : TagL w I x cs) : TagL w (In w I) x cs := h
theorem SMapL.inside (w : World) (I : Nat → Prop) (x : M.SMap) (cs : List Value) (h : SMapL w I x cs) : SMapL w (In w I) x cs := by
 obtain ⟨vl, vs, e, h1, h2⟩ := h
 exact ⟨vl, vs, e, h1.inside TagL.inside (by omega), h2.inside TagL.inside (by omega)⟩
theorem MethodL.inside (w : World) (I : Nat → Prop) (x : M.Method) (cs : List Value) (h : MethodL w I x cs) : MethodL w (In w I) x cs := by
 obtain ⟨va, vc, vm, e, h1, h2, h3⟩ := h
 exact ⟨va, vc, vm, e, h1.inside KindL.inside (by omega), h2.inside (fun _ _ _ _ h => h) (by omega), h3.inside SMapL.inside (by omega)⟩
theorem ClassL.inside (w : World) (I : Nat → Prop) (x : M.Class) (cs : List Value) (h : ClassL w I x cs) : ClassL w (In w I) x cs := by
 obtain ⟨vf, vm, e, h1, h2⟩ := h
 exact ⟨vf, vm, e, h1.inside (fun _ _ _ _ h => h) (by omega), h2.inside MethodL.inside (by omega)⟩
theorem KeeperL.inside (w : World) (I : Nat → Prop) (x : M.Keeper) (cs : List Value) (h : KeeperL w I x cs) : KeeperL w (In w I) x cs := by
 obtain ⟨vo, va, e, h1, h2⟩ := h
 exact ⟨vo, va, e, h1.inside ClassL.inside (by omega), h2.inside (fun _ _ _ _ h => h) (by omega)⟩
theorem PlanL.inside {w : World} {I : Nat → Prop} {v : Value} {p : M.Plan} (h : SliceOf 2 KeeperL w I v p) : SliceOf 2 KeeperL w (In w I) v p := SliceOf.inside KeeperL.inside (by omega) h
theorem PlanL.in' {w : World} {I : Nat → Prop} {v : Value} {p : M.Plan} (h : SliceOf 2 KeeperL w I v p) : SliceOf 2 KeeperL w (· < w.heap.size) v p := (PlanL.inside h).keep KeeperL.stays (fun _ _ _ _ h => h) fun _ h => h.2
def LawOk (f : FuncId) : Prop := ∀ (W : World) (v : Value) (zs : List Int), BytesAt W v zs → Calls Tryz.prog f #[v] W fun e W' => e = .returned (.bool true) ∧ Ext W W'
end Go.Proofs.YtjdfceejkneofaaGreat
namespace Go.Proofs.YtjdfceejkneofaaGreat
open Go Go.ChangeShapes Go.WideShapes Go.ChangeAt Go.RowKit
theorem Tryz.own : ownKnob Tryz.prog.godebug = none := by kernel_rfl
theorem Tryz.laidOut : laidOutB Tryz.prog = true := by kernel_rfl
theorem cells_byte : Tryz.prog.cellsOf 5 = 1 := by kernel_rfl
theorem bytes_at {H : Type} {enc : TypeId × Value → H} {W : World} {v : Value} {d : DataW H} {p : List MemPlace} (hv : ∃ a len cap, v = .slice a len cap) (h0 : DataW.Trod enc Tryz.prog W 0 (fun _ => true) true 22 v d p) : ∃ zs, BytesAt W v zs := by
 obtain ⟨a0, len, cap, rfl⟩ := hv
 obtain ⟨fuel, hf⟩ := h0
 rcases open_ints Tryz.underlying22 Tryz.underlying5 cells_byte hf with ⟨hcs, hx⟩ | ⟨a, len', cap', zs, hcs, _, hl, hm, hz, hx, hcell, hwz⟩
 · simp [Value.cells] at hcs
   obtain ⟨rfl, rfl, rfl⟩ := hcs
   exact ⟨[], .inl ⟨rfl, rfl⟩⟩
 · simp [Value.cells] at hcs
   obtain ⟨rfl, rfl, rfl⟩ := hcs
   simp only [if_true] at hz
   refine ⟨zs.take len, .inr ⟨a, cap, by rw [List.length_take, Nat.min_eq_left (by omega)], by rw [List.length_take]; omega, fun i hi => ?_, fun n hn => ?_⟩⟩
   · rw [List.length_take] at hi
     have := hcell i (by omega)
     rw [this]
     congr 2
     simp only [List.getD, List.getElem?_take]
     rw [if_pos (by omega)]
   · have := hwz n (List.mem_of_mem_take hn)
     simp [Lit.wf, IntKind.min, IntKind.max, IntKind.bits, IntKind.signed] at this
     omega
theorem law_post {H : Type} {enc : TypeId × Value → H} {fn : Func} {s : ChangeSpec} {W W' : World} {v : Value} {d : DataW H} {before : List MemPlace} (hp : fn.params = #[22]) (hr : fn.resultTypes = #[4]) (hv : s.vars = [])
    (hs : s.fn H ([d] ++ []) = { results := [.lit (.bool true)], args := [d] }) (hW : DataW.Whole enc Tryz.prog fn.params.toList s.vars false W [v] [d] [] before)
    (h0 : DataW.Trod enc Tryz.prog W 0 (fun _ => true) true 22 v d before) (hE : Ext W W') : s.post enc Tryz.prog fn false true false false W #[v] (.bool true) W' := by
 have hlt : ∀ x ∈ before, x.block < W.heap.size := fun x hx => by simpa using hW.lt x hx
 have bel := Ext.to_below hE
 refine ⟨[d], [], before, [], before, [], hW, ?_, ?_, ?_, bel.frame _, fun h => by cases h⟩
 · rw [hs, hr]
   exact trodAll_mk1 (shut_bool Tryz.underlying4 true)
 · rw [hs, hp]
   exact trodAll_mk1 (Below.trod Tryz.laidOut (by kernel_rfl) (of_decide_eq_true (by kernel_rfl)) h0 bel hlt)
 · rw [hs, hv]
   exact (rfl : ([] : List MemPlace) = [])
end Go.Proofs.YtjdfceejkneofaaGreat
