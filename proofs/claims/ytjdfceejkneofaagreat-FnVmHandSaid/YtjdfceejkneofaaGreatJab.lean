/- Walks: an instruction is valid. (Printed by gen_w3.py.); Walks: tags, a method's instructions and stack maps, methods, classes are valid.; Walks: stack maps, methods, classes are valid.; Walks: methods, classes are valid.; Walks: a class is valid.; Slices of the call's own that are appended to.; Plain facts on keepers: what valid ones have. -/
import Derived.Test.YtjdfceejkneofaaGreatJaa
import Derived.Deep.DeepCutAuto
import Derived.OwnWalk
import Derived.OwnWalkIn
import Derived.WalkSmall
set_option maxRecDepth 100000
set_option maxHeartbeats 4000000
namespace Go.Proofs.YtjdfceejkneofaaGreat
open Go Go.RowKit
open Go.Lib (hid)
theorem beq_names (a b : ByteArray) : (a.toList == b.toList) = decide (a = b) := by
 rw [ByteArray.toList_eq, ByteArray.toList_eq, Bool.eq_iff_iff, decide_eq_true_iff, beq_iff_eq]
 constructor
 · intro h
   obtain ⟨⟨x⟩⟩ := a
   obtain ⟨⟨y⟩⟩ := b
   simp at h; subst h; rfl
 · intro h; rw [h]
theorem toList_nil (s : ByteArray) : s.toList = [] ↔ s = M.none_ := by
 rw [ByteArray.toList_eq]
 obtain ⟨⟨l⟩⟩ := s
 simp [M.none_]
theorem insOk_num {op a : Int} {s m : ByteArray} (h : M.isNum op = true) : M.insOk ⟨op, a, s, m⟩ = (decide (s = M.none_) && decide (m = M.none_) && decide (M.numLeast op ≤ a) && decide (a ≤ M.numMost op)) := by
 unfold M.insOk; rw [if_pos h]
theorem insOk_cls {op a : Int} {s m : ByteArray} (h0 : M.isNum op = false) (h : M.isCls op = true) : M.insOk ⟨op, a, s, m⟩ = (decide (a = 0) && decide (m = M.none_) && M.namOk s) := by
 unfold M.insOk; rw [if_neg (by simp [h0]), if_pos h]
theorem insOk_mem {op a : Int} {s m : ByteArray} (h0 : M.isNum op = false) (h1 : M.isCls op = false) (h : M.isMem op = true) : M.insOk ⟨op, a, s, m⟩ = (decide (a = 0) && M.namOk s && M.namOk m) := by
 unfold M.insOk; rw [if_neg (by simp [h0]), if_neg (by simp [h1]), if_pos h]
theorem insOk_pln {op a : Int} {s m : ByteArray} (h0 : M.isNum op = false) (h1 : M.isCls op = false) (h2 : M.isMem op = false) (h : M.isPln op = true) : M.insOk ⟨op, a, s, m⟩ = (decide (a = 0) && decide (s = M.none_) && decide (m = M.none_)) := by
 unfold M.insOk; rw [if_neg (by simp [h0]), if_neg (by simp [h1]), if_neg (by simp [h2]), if_pos h]
theorem insOk_no {op a : Int} {s m : ByteArray} (h0 : M.isNum op = false) (h1 : M.isCls op = false) (h2 : M.isMem op = false) (h : M.isPln op = false) : M.insOk ⟨op, a, s, m⟩ = false := by
 unfold M.insOk; rw [if_neg (by simp [h0]), if_neg (by simp [h1]), if_neg (by simp [h2]), if_neg (by simp [h])]
theorem kind_num {op : Int} (h : M.isCls op = true) : M.isNum op = false := by rcases cls_cases h with rfl | rfl <;> rfl
theorem kind_mem {op : Int} (h : M.isMem op = true) : M.isNum op = false ∧ M.isCls op = false := by rcases mem_cases h with rfl | rfl | rfl <;> exact ⟨rfl, rfl⟩
theorem kind_pln {op : Int} (h : M.isPln op = true) : M.isNum op = false ∧ M.isCls op = false ∧ M.isMem op = false := by
 rcases pln_cases h with rfl | rfl | rfl | rfl <;> exact ⟨rfl, rfl, rfl⟩
theorem insok_num (op a : Int) (s m : ByteArray) (w : World) (h : M.isNum op = true) :
    Calls Tryz.prog 136 #[.agg #[.int .i64 op, .int .i64 a, .string s, .string m]] w fun e w' => e = .returned (.bool (M.insOk ⟨op, a, s, m⟩)) ∧ Ext w w' := by
 have HE := hid (insOk_num (op := op) (a := a) (s := s) (m := m) h)
 have HK := hid h; clear h
 go_enter Tryz.func136, Tryz.ntmps136
 go_wp2_with (go_at_call 150; refine (form_num _ _ _ _ _ HK.out).mono ?_; rintro e w1 ⟨rfl, hB⟩)
 have b1 := (Blk.new w 28 #[.int .i64 op, .int .i64 a, .string s, .string m]).ext hB
 have c0 := b1.c 0 _ rfl
 have c1 := b1.c 1 _ rfl
 have c2 := b1.c 2 _ rfl
 have c3 := b1.c 3 _ rfl
 have hz := b1.lt
 have HB := hid hB; clear hB b1
 by_cases hs : s.toList = []
 · by_cases hm : m.toList = []
   · first | (go_region_with (first | (go_at_call 151; refine (ins_num _ _ _).mono ?_; rintro e w2 ⟨rfl, hB2⟩; have d0 := hB2.cellE c0; have d1 := hB2.cellE c1; have d2 := hB2.cellE c2; have d3 := hB2.cellE c3) | (go_at_call 152; refine (formok_num _ _ _).mono ?_; rintro e w3 ⟨rfl, hB3⟩))) | fail
     all_goals
      go_wp2
      go_ret
      have hB := HB.out
      exact ⟨ret_bool (by rw [HE.out]; rw [toList_nil] at hs hm; simp [hs, hm]), (by repeat (first | assumption | exact Kp.refl _ _ | apply Kp.alloc | apply Kp.drew | apply Kp.drewN | refine Kp.trans ?_ (by assumption)))⟩
   · first | (go_region_with (first | (go_at_call 151; refine (ins_num _ _ _).mono ?_; rintro e w2 ⟨rfl, hB2⟩; have d0 := hB2.cellE c0; have d1 := hB2.cellE c1; have d2 := hB2.cellE c2; have d3 := hB2.cellE c3) | (go_at_call 152; refine (formok_num _ _ _).mono ?_; rintro e w3 ⟨rfl, hB3⟩))) | fail
     all_goals
      go_wp2
      go_ret
      have hB := HB.out
      exact ⟨ret_bool (by rw [HE.out]; rw [toList_nil] at hm; simp [hm]), (by repeat (first | assumption | exact Kp.refl _ _ | apply Kp.alloc | apply Kp.drew | apply Kp.drewN | refine Kp.trans ?_ (by assumption)))⟩
 · first | (go_region_with (first | (go_at_call 151; refine (ins_num _ _ _).mono ?_; rintro e w2 ⟨rfl, hB2⟩; have d0 := hB2.cellE c0; have d1 := hB2.cellE c1; have d2 := hB2.cellE c2; have d3 := hB2.cellE c3) | (go_at_call 152; refine (formok_num _ _ _).mono ?_; rintro e w3 ⟨rfl, hB3⟩))) | fail
   all_goals
    go_wp2
    go_ret
    have hB := HB.out
    exact ⟨ret_bool (by rw [HE.out]; rw [toList_nil] at hs; simp [hs]), (by repeat (first | assumption | exact Kp.refl _ _ | apply Kp.alloc | apply Kp.drew | apply Kp.drewN | refine Kp.trans ?_ (by assumption)))⟩
theorem insok_cls (op a : Int) (s m : ByteArray) (w : World) (h : M.isCls op = true) :
    Calls Tryz.prog 136 #[.agg #[.int .i64 op, .int .i64 a, .string s, .string m]] w fun e w' => e = .returned (.bool (M.insOk ⟨op, a, s, m⟩)) ∧ Ext w w' := by
 have HE := hid (insOk_cls (op := op) (a := a) (s := s) (m := m) (kind_num h) h)
 have HK := hid h; clear h
 go_enter Tryz.func136, Tryz.ntmps136
 go_wp2_with (go_at_call 150; refine (form_cls _ _ _ _ _ HK.out).mono ?_; rintro e w1 ⟨rfl, hB⟩)
 have b1 := (Blk.new w 28 #[.int .i64 op, .int .i64 a, .string s, .string m]).ext hB
 have c0 := b1.c 0 _ rfl
 have c1 := b1.c 1 _ rfl
 have c2 := b1.c 2 _ rfl
 have c3 := b1.c 3 _ rfl
 have hz := b1.lt
 have HB := hid hB; clear hB b1
 by_cases ha : 0 = a
 · by_cases hm : m.toList = []
   · first | (go_region_with (first | (go_at_call 151; refine (ins_cls _ _ _).mono ?_; rintro e w2 ⟨rfl, hB2⟩; have d0 := hB2.cellE c0; have d1 := hB2.cellE c1; have d2 := hB2.cellE c2; have d3 := hB2.cellE c3) | (go_at_call 152; refine (formok_cls _ _ _).mono ?_; rintro e w3 ⟨rfl, hB3⟩))) | fail
     all_goals
      go_wp2
      go_ret
      have hB := HB.out
      exact ⟨ret_bool (by rw [HE.out]; rw [toList_nil] at hm; simp [← ha, hm]), (by repeat (first | assumption | exact Kp.refl _ _ | apply Kp.alloc | apply Kp.drew | apply Kp.drewN | refine Kp.trans ?_ (by assumption)))⟩
   · first | (go_region_with (first | (go_at_call 151; refine (ins_cls _ _ _).mono ?_; rintro e w2 ⟨rfl, hB2⟩; have d0 := hB2.cellE c0; have d1 := hB2.cellE c1; have d2 := hB2.cellE c2; have d3 := hB2.cellE c3) | (go_at_call 152; refine (formok_cls _ _ _).mono ?_; rintro e w3 ⟨rfl, hB3⟩))) | fail
     all_goals
      go_wp2
      go_ret
      have hB := HB.out
      exact ⟨ret_bool (by rw [HE.out]; rw [toList_nil] at hm; simp [hm]), (by repeat (first | assumption | exact Kp.refl _ _ | apply Kp.alloc | apply Kp.drew | apply Kp.drewN | refine Kp.trans ?_ (by assumption)))⟩
 · first | (go_region_with (first | (go_at_call 151; refine (ins_cls _ _ _).mono ?_; rintro e w2 ⟨rfl, hB2⟩; have d0 := hB2.cellE c0; have d1 := hB2.cellE c1; have d2 := hB2.cellE c2; have d3 := hB2.cellE c3) | (go_at_call 152; refine (formok_cls _ _ _).mono ?_; rintro e w3 ⟨rfl, hB3⟩))) | fail
   all_goals
    go_wp2
    go_ret
    have hB := HB.out
    exact ⟨ret_bool (by rw [HE.out]; simp [Ne.symm ha]), (by repeat (first | assumption | exact Kp.refl _ _ | apply Kp.alloc | apply Kp.drew | apply Kp.drewN | refine Kp.trans ?_ (by assumption)))⟩
theorem insok_mem (op a : Int) (s m : ByteArray) (w : World) (h : M.isMem op = true) :
    Calls Tryz.prog 136 #[.agg #[.int .i64 op, .int .i64 a, .string s, .string m]] w fun e w' => e = .returned (.bool (M.insOk ⟨op, a, s, m⟩)) ∧ Ext w w' := by
 have HE := hid (insOk_mem (op := op) (a := a) (s := s) (m := m) (kind_mem h).1 (kind_mem h).2 h)
 have HK := hid h; clear h
 go_enter Tryz.func136, Tryz.ntmps136
 go_wp2_with (go_at_call 150; refine (form_mem _ _ _ _ _ HK.out).mono ?_; rintro e w1 ⟨rfl, hB⟩)
 have b1 := (Blk.new w 28 #[.int .i64 op, .int .i64 a, .string s, .string m]).ext hB
 have c0 := b1.c 0 _ rfl
 have c1 := b1.c 1 _ rfl
 have c2 := b1.c 2 _ rfl
 have c3 := b1.c 3 _ rfl
 have hz := b1.lt
 have HB := hid hB; clear hB b1
 by_cases ha : 0 = a
 · first | (go_region_with (first | (go_at_call 151; refine (ins_mem _ _ _ _).mono ?_; rintro e w2 ⟨rfl, hB2⟩; have d0 := hB2.cellE c0; have d1 := hB2.cellE c1; have d2 := hB2.cellE c2; have d3 := hB2.cellE c3) | (go_at_call 152; refine (formok_mem _ _ _ _).mono ?_; rintro e w3 ⟨rfl, hB3⟩))) | fail
   all_goals
    go_wp2
    go_ret
    have hB := HB.out
    exact ⟨ret_bool (by rw [HE.out]; simp [← ha]), (by repeat (first | assumption | exact Kp.refl _ _ | apply Kp.alloc | apply Kp.drew | apply Kp.drewN | refine Kp.trans ?_ (by assumption)))⟩
 · first | (go_region_with (first | (go_at_call 151; refine (ins_mem _ _ _ _).mono ?_; rintro e w2 ⟨rfl, hB2⟩; have d0 := hB2.cellE c0; have d1 := hB2.cellE c1; have d2 := hB2.cellE c2; have d3 := hB2.cellE c3) | (go_at_call 152; refine (formok_mem _ _ _ _).mono ?_; rintro e w3 ⟨rfl, hB3⟩))) | fail
   all_goals
    go_wp2
    go_ret
    have hB := HB.out
    exact ⟨ret_bool (by rw [HE.out]; simp [Ne.symm ha]), (by repeat (first | assumption | exact Kp.refl _ _ | apply Kp.alloc | apply Kp.drew | apply Kp.drewN | refine Kp.trans ?_ (by assumption)))⟩
theorem insok_pln (op a : Int) (s m : ByteArray) (w : World) (h : M.isPln op = true) :
    Calls Tryz.prog 136 #[.agg #[.int .i64 op, .int .i64 a, .string s, .string m]] w fun e w' => e = .returned (.bool (M.insOk ⟨op, a, s, m⟩)) ∧ Ext w w' := by
 have HE := hid (insOk_pln (op := op) (a := a) (s := s) (m := m) (kind_pln h).1 (kind_pln h).2.1 (kind_pln h).2.2 h)
 have HK := hid h; clear h
 go_enter Tryz.func136, Tryz.ntmps136
 go_wp2_with (go_at_call 150; refine (form_pln _ _ _ _ _ HK.out).mono ?_; rintro e w1 ⟨rfl, hB⟩)
 have b1 := (Blk.new w 28 #[.int .i64 op, .int .i64 a, .string s, .string m]).ext hB
 have c0 := b1.c 0 _ rfl
 have c1 := b1.c 1 _ rfl
 have c2 := b1.c 2 _ rfl
 have c3 := b1.c 3 _ rfl
 have hz := b1.lt
 have HB := hid hB; clear hB b1
 by_cases ha : 0 = a
 · by_cases hs : s.toList = []
   · by_cases hm : m.toList = []
     · first | (go_region_with (first | (go_at_call 151; refine (ins_pln _ _).mono ?_; rintro e w2 ⟨rfl, hB2⟩; have d0 := hB2.cellE c0; have d1 := hB2.cellE c1; have d2 := hB2.cellE c2; have d3 := hB2.cellE c3) | (go_at_call 152; refine (formok_pln _ _).mono ?_; rintro e w3 ⟨rfl, hB3⟩))) | fail
       all_goals
        go_wp2
        go_ret
        have hB := HB.out
        exact ⟨ret_bool (by rw [HE.out]; rw [toList_nil] at hs hm; simp [← ha, hs, hm]), (by repeat (first | assumption | exact Kp.refl _ _ | apply Kp.alloc | apply Kp.drew | apply Kp.drewN | refine Kp.trans ?_ (by assumption)))⟩
     · first | (go_region_with (first | (go_at_call 151; refine (ins_pln _ _).mono ?_; rintro e w2 ⟨rfl, hB2⟩; have d0 := hB2.cellE c0; have d1 := hB2.cellE c1; have d2 := hB2.cellE c2; have d3 := hB2.cellE c3) | (go_at_call 152; refine (formok_pln _ _).mono ?_; rintro e w3 ⟨rfl, hB3⟩))) | fail
       all_goals
        go_wp2
        go_ret
        have hB := HB.out
        exact ⟨ret_bool (by rw [HE.out]; rw [toList_nil] at hm; simp [hm]), (by repeat (first | assumption | exact Kp.refl _ _ | apply Kp.alloc | apply Kp.drew | apply Kp.drewN | refine Kp.trans ?_ (by assumption)))⟩
   · first | (go_region_with (first | (go_at_call 151; refine (ins_pln _ _).mono ?_; rintro e w2 ⟨rfl, hB2⟩; have d0 := hB2.cellE c0; have d1 := hB2.cellE c1; have d2 := hB2.cellE c2; have d3 := hB2.cellE c3) | (go_at_call 152; refine (formok_pln _ _).mono ?_; rintro e w3 ⟨rfl, hB3⟩))) | fail
     all_goals
      go_wp2
      go_ret
      have hB := HB.out
      exact ⟨ret_bool (by rw [HE.out]; rw [toList_nil] at hs; simp [hs]), (by repeat (first | assumption | exact Kp.refl _ _ | apply Kp.alloc | apply Kp.drew | apply Kp.drewN | refine Kp.trans ?_ (by assumption)))⟩
 · first | (go_region_with (first | (go_at_call 151; refine (ins_pln _ _).mono ?_; rintro e w2 ⟨rfl, hB2⟩; have d0 := hB2.cellE c0; have d1 := hB2.cellE c1; have d2 := hB2.cellE c2; have d3 := hB2.cellE c3) | (go_at_call 152; refine (formok_pln _ _).mono ?_; rintro e w3 ⟨rfl, hB3⟩))) | fail
   all_goals
    go_wp2
    go_ret
    have hB := HB.out
    exact ⟨ret_bool (by rw [HE.out]; simp [Ne.symm ha]), (by repeat (first | assumption | exact Kp.refl _ _ | apply Kp.alloc | apply Kp.drew | apply Kp.drewN | refine Kp.trans ?_ (by assumption)))⟩
theorem insok_no (op a : Int) (s m : ByteArray) (w : World) (h1 : M.isNum op = false) (h2 : M.isCls op = false) (h3 : M.isMem op = false) (h4 : M.isPln op = false) :
    Calls Tryz.prog 136 #[.agg #[.int .i64 op, .int .i64 a, .string s, .string m]] w fun e w' => e = .returned (.bool (M.insOk ⟨op, a, s, m⟩)) ∧ Ext w w' := by
 have HE := hid (insOk_no (op := op) (a := a) (s := s) (m := m) h1 h2 h3 h4)
 have H := hid (And.intro (And.intro h1 h2) (And.intro h3 h4))
 clear h1 h2 h3 h4
 go_enter Tryz.func136, Tryz.ntmps136
 go_wp2_with (go_at_call 150; refine (form_no _ _ _ _ _ H.out.1.1 H.out.1.2 H.out.2.1 H.out.2.2).mono ?_; rintro e w1 ⟨rfl, hB⟩)
 go_quiet (fail)
 go_wp2
 go_ret
 exact ⟨ret_bool (by rw [HE.out]), (by repeat (first | assumption | exact Kp.refl _ _ | apply Kp.alloc | apply Kp.drew | apply Kp.drewN | refine Kp.trans ?_ (by assumption)))⟩
theorem ins_ok (i : M.Ins) (w : World) :
    Calls Tryz.prog 136 #[.agg #[.int .i64 i.op, .int .i64 i.a, .string i.name, .string i.member]] w fun e w' => e = .returned (.bool (M.insOk i)) ∧ Ext w w' := by
 cases h1 : M.isNum i.op
 · cases h2 : M.isCls i.op
   · cases h3 : M.isMem i.op
     · cases h4 : M.isPln i.op
       · exact insok_no _ _ _ _ _ h1 h2 h3 h4
       · exact insok_pln _ _ _ _ _ h4
     · exact insok_mem _ _ _ _ _ h3
   · exact insok_cls _ _ _ _ _ h2
 · exact insok_num _ _ _ _ _ h1
theorem all_succ {α : Type} {p : α → Bool} {l : List α} {k : Nat} {x : α} (h : (l.take k).all p = true) (hx : l[k]? = some x) (hp : p x = true) : (l.take (k + 1)).all p = true := by
 rw [List.take_add_one, hx, List.all_append, h]
 simp [hp]
theorem all_no {α : Type} {p : α → Bool} {l : List α} {k : Nat} {x : α} (hx : l[k]? = some x) (hp : p x = false) : l.all p = false :=
 List.all_eq_false.2 ⟨x, List.mem_of_getElem? hx, by simp [hp]⟩
theorem all_end {α : Type} {p : α → Bool} {l : List α} {k : Nat} (h : (l.take k).all p = true) (hk : l.length ≤ k) : l.all p = true := by
 rw [List.take_of_length_le hk] at h; exact h
theorem get_some {α : Type} {l : List α} {k : Nat} (h : k < l.length) : ∃ x, l[k]? = some x := ⟨_, List.getElem?_eq_getElem h⟩
theorem tags_ok (w : World) (I : Nat → Prop) (v : Value) (l : List M.Tag) (h : SliceOf 2 TagL w I v l) :
    Calls Tryz.prog 137 #[v] w fun e w' => e = .returned (.bool (M.tagsOk l)) ∧ Ext w w' := by
 obtain ⟨a, cap, rfl, hn, hcap⟩ := h.form
 go_enter Tryz.func137, Tryz.ntmps137
 go_wp2
 go_loopw [7] (fun i wr => ∃ k : Nat, k ≤ l.length ∧ i = .int .i64 k ∧ Ext w wr ∧ Hid ((l.take k).all M.tagOk = true)) (fun i _ => l.length - (intOf i).toNat)
 case atStart => exact ⟨0, Nat.zero_le _, rfl, Kp.refl _ _, hid (by simp)⟩
 case round =>
  obtain ⟨k, hk, rfl, hE, HA⟩ := hrel
  by_cases hlt : k < l.length
  · obtain ⟨x, hx⟩ := get_some hlt
    obtain ⟨b, off, cs, rfl, hI, rfl, -, hc⟩ := h.get hx
    obtain ⟨g0, g1⟩ := (hc.ext hE).two
    have HX := hid hx
    clear hx hc
    cases ht : M.tagOk x
    all_goals
     have HT := hid ht
     clear ht
     go_wp2_with (go_at_call 153; refine (tag_ok x _).mono ?_; rintro e w1 ⟨rfl, hB⟩; rw [HT.out])
    · go_ret
      exact ⟨ret_bool (all_no HX.out HT.out).symm, (by repeat (first | assumption | exact Kp.refl _ _ | apply Kp.alloc | apply Kp.drew | apply Kp.drewN | refine Kp.trans ?_ (by assumption)))⟩
    · go_roundw
      case rel => exact ⟨k + 1, by omega, by go_num, (by repeat (first | assumption | exact Kp.refl _ _ | apply Kp.alloc | apply Kp.drew | apply Kp.drewN | refine Kp.trans ?_ (by assumption))), hid (all_succ HA.out HX.out HT.out)⟩
      case measure => simp [intOf]; omega
  · go_wp2
    go_ret
    exact ⟨ret_bool (all_end HA.out (by omega)).symm, (KX.k (by repeat (first | assumption | constructor)))⟩
theorem code_ok (w : World) (I : Nat → Prop) (cs : List Value) (m : M.Method) (h : MethodL w I m cs) :
    Calls Tryz.prog 110 #[.agg cs.toArray] w fun e w' => e = .returned (.bool (M.codeOk m)) ∧ Ext w w' := by
 obtain ⟨va, vc, vm, rfl, h1, h2, h3⟩ := h
 obtain ⟨a, cap, rfl, hn, hcap⟩ := h2.form
 by_cases hl1 : m.code.length < 1
 · go_enter Tryz.func110, Tryz.ntmps110
   go_wp2
   go_ret
   exact ⟨ret_bool (by unfold M.codeOk; rw [decide_eq_false (by omega)]; rfl), (KX.k (by repeat (first | assumption | constructor)))⟩
 by_cases hl2 : 16 < m.code.length
 · go_enter Tryz.func110, Tryz.ntmps110
   go_wp2
   go_ret
   exact ⟨ret_bool (by unfold M.codeOk; rw [decide_eq_false (p := m.code.length ≤ 16) (by omega)]; simp), (KX.k (by repeat (first | assumption | constructor)))⟩
 have HL : Hid (M.codeOk m = m.code.all (M.insIn m)) := hid (by
  unfold M.codeOk; rw [decide_eq_true (by omega), decide_eq_true (by omega)]; rfl)
 go_enter Tryz.func110, Tryz.ntmps110
 go_wp2
 have hE0 : Ext w (w.alloc (.cells #[.string m.name, va, .int .i64 m.ret.kind, .string m.ret.name, .int .i64 m.locals, .int .i64 m.stack, .slice a m.code.length cap, vm] 60)) := ((Kp.refl _ _).alloc _)
 have b0 := Blk.new w 60 #[.string m.name, va, .int .i64 m.ret.kind, .string m.ret.name, .int .i64 m.locals, .int .i64 m.stack, .slice a m.code.length cap, vm]
 have p4 := b0.c 4 _ rfl
 have p6 := b0.c 6 _ rfl
 go_loopw [18] (fun i wr => ∃ k : Nat, k ≤ m.code.length ∧ i = .int .i64 k ∧ Ext (w.alloc (.cells #[.string m.name, va, .int .i64 m.ret.kind, .string m.ret.name, .int .i64 m.locals, .int .i64 m.stack, .slice a m.code.length cap, vm] 60)) wr ∧ Hid ((m.code.take k).all (M.insIn m) = true)) (fun i _ => m.code.length - (intOf i).toNat)
 case atStart => exact ⟨0, Nat.zero_le _, rfl, Kp.refl _ _, hid (by simp)⟩
 case round =>
  obtain ⟨k, hk, rfl, hE, HA⟩ := hrel
  by_cases hlt : k < m.code.length
  · obtain ⟨x, hx⟩ := get_some hlt
    obtain ⟨b, off, cs, rfl, hI, rfl, -, hc⟩ := h2.get hx
    obtain ⟨g0, g1, g2, g3⟩ := ((hc.ext hE0).ext hE).four
    have q4 := hE.cellE p4
    have q6 := hE.cellE p6
    have HX := hid hx
    clear hx hc p4 p6
    cases ht : M.insOk x
    · have HT := hid ht
      clear ht
      go_wp2_with (go_at_call 136; refine (ins_ok x _).mono ?_; rintro e w1 ⟨rfl, hB⟩; rw [HT.out])
      go_ret
      exact ⟨ret_bool (by rw [HL.out]; exact (all_no HX.out (by unfold M.insIn; rw [HT.out]; rfl)).symm), (by repeat (first | assumption | exact Kp.refl _ _ | apply Kp.alloc | apply Kp.drew | apply Kp.drewN | refine Kp.trans ?_ (by assumption)))⟩
    · have HT := hid ht
      clear ht
      go_wp2_with (go_at_call 136; refine (ins_ok x _).mono ?_; rintro e w1 ⟨rfl, hB⟩; rw [HT.out]; have r4 := hB.cellA q4; have r6 := hB.cellA q6; obtain ⟨hc1, hf1⟩ := bcell hB)
      all_goals first
       | (go_ret
          exact ⟨ret_bool (by
           rw [HL.out]
           exact (all_no HX.out (by unfold M.insIn; rw [HT.out]; (repeat' split) <;> simp <;> simp_all <;> omega)).symm), (by repeat (first | assumption | exact Kp.refl _ _ | apply Kp.alloc | apply Kp.drew | apply Kp.drewN | refine Kp.trans ?_ (by assumption)))⟩)
       | (go_roundw
          case rel =>
           exact ⟨k + 1, by omega, by go_num, (by repeat (first | assumption | exact Kp.refl _ _ | apply Kp.alloc | apply Kp.drew | apply Kp.drewN | refine Kp.trans ?_ (by assumption))), hid (all_succ HA.out HX.out (by
            unfold M.insIn; rw [HT.out]; (repeat' split) <;> simp <;> simp_all <;> omega))⟩
          case measure => simp [intOf]; omega)
  · go_wp2
    go_ret
    exact ⟨ret_bool (by rw [HL.out]; exact (all_end HA.out (by omega)).symm), (by repeat (first | assumption | exact Kp.refl _ _ | apply Kp.alloc | apply Kp.drew | apply Kp.drewN | refine Kp.trans ?_ (by assumption)))⟩
theorem drop_at {α : Type} {l : List α} {k : Nat} {x : α} (h : l[k]? = some x) : l.drop k = x :: l.drop (k + 1) := by
 obtain ⟨hk, e⟩ := List.getElem?_eq_some_iff.1 h
 rw [List.drop_eq_getElem_cons hk, e]
theorem mapsFrom_cons {m : M.Method} {last : Int} {k : Nat} {x : M.SMap} (h : m.maps[k]? = some x) :
    M.mapsFrom m last (m.maps.drop k) = (decide (last < x.at_) && M.mapOk m x && M.mapsFrom m x.at_ (m.maps.drop (k + 1))) := by
 rw [drop_at h]; rfl
theorem mapOk_eq (m : M.Method) (f : M.SMap) : M.mapOk m f = (decide (f.at_ < m.code.length) && decide ((f.locals.length : Int) = m.locals) && decide ((f.stack.length : Int) ≤ m.stack) && M.tagsOk f.locals && M.tagsOk f.stack) := rfl
theorem maps_ok (w : World) (I : Nat → Prop) (cs : List Value) (m : M.Method) (h : MethodL w I m cs) :
    Calls Tryz.prog 111 #[.agg cs.toArray] w fun e w' => e = .returned (.bool (M.mapsOk m)) ∧ Ext w w' := by
 obtain ⟨va, vc, vm, rfl, h1, h2, h3⟩ := h
 obtain ⟨a, cap, rfl, hn, hcap⟩ := h3.form
 obtain ⟨a2, cap2, rfl, hn2, hcap2⟩ := h2.form
 by_cases hl1 : 5 < m.maps.length
 · go_enter Tryz.func111, Tryz.ntmps111
   go_wp2
   go_ret
   exact ⟨ret_bool (by unfold M.mapsOk; rw [decide_eq_false (by omega)]; rfl), (KX.k (by repeat (first | assumption | constructor)))⟩
 have HL : Hid (M.mapsOk m = M.mapsFrom m 0 m.maps) := hid (by
  unfold M.mapsOk; rw [decide_eq_true (by omega)]; rfl)
 go_enter Tryz.func111, Tryz.ntmps111
 go_wp2
 have b0 := Blk.new w 60 #[.string m.name, va, .int .i64 m.ret.kind, .string m.ret.name, .int .i64 m.locals, .int .i64 m.stack, .slice a2 m.code.length cap2, .slice a m.maps.length cap]
 have p4 := b0.c 4 _ rfl
 have p5 := b0.c 5 _ rfl
 have p6 := b0.c 6 _ rfl
 have hE0 : Ext w (w.alloc (.cells #[.string m.name, va, .int .i64 m.ret.kind, .string m.ret.name, .int .i64 m.locals, .int .i64 m.stack, .slice a2 m.code.length cap2, .slice a m.maps.length cap] 60)) := ((Kp.refl _ _).alloc _)
 generalize (w.alloc (.cells #[.string m.name, va, .int .i64 m.ret.kind, .string m.ret.name, .int .i64 m.locals, .int .i64 m.stack, .slice a2 m.code.length cap2, .slice a m.maps.length cap] 60)) = w0 at *
 go_loopw [13, 3] (fun i la wr => ∃ k : Nat, ∃ last : Int, k ≤ m.maps.length ∧ i = .int .i64 k ∧ la = .int .i64 last ∧ Ext w0 wr ∧ Hid (M.mapsFrom m 0 m.maps = M.mapsFrom m last (m.maps.drop k))) (fun i _ _ => m.maps.length - (intOf i).toNat)
 case atStart => exact ⟨0, 0, Nat.zero_le _, rfl, rfl, Kp.refl _ _, hid (by simp)⟩
 case round =>
  obtain ⟨k, last, hk, rfl, rfl, hE, HA⟩ := hrel
  by_cases hlt : k < m.maps.length
  · obtain ⟨x, hx⟩ := get_some hlt
    obtain ⟨b, off, cs, rfl, hI, ⟨vl, vs, rfl, s1, s2⟩, -, hc⟩ := h3.get hx
    obtain ⟨a3, cap3, rfl, hn3, hcap3⟩ := s1.form
    obtain ⟨a4, cap4, rfl, hn4, hcap4⟩ := s2.form
    obtain ⟨g0, g1, g2⟩ := ((hc.ext hE0).ext hE).three
    have q4 := hE.cellE p4
    have q5 := hE.cellE p5
    have q6 := hE.cellE p6
    have hz := cell_lt q6
    have S1 := hid ((s1.ext TagL.stays hE0).ext TagL.stays hE)
    have S2 := hid ((s2.ext TagL.stays hE0).ext TagL.stays hE)
    have HC := hid (mapsFrom_cons (last := last) hx)
    clear hx hc p4 p5 p6 s1 s2
    by_cases t1 : x.at_ ≤ last
    · go_wp2
      go_ret
      exact ⟨ret_bool (by rw [HL.out, HA.out, HC.out, decide_eq_false (by omega)]; rfl), (by repeat (first | assumption | exact Kp.refl _ _ | apply Kp.alloc | apply Kp.drew | apply Kp.drewN | refine Kp.trans ?_ (by assumption)))⟩
    by_cases t2 : (m.code.length : Int) ≤ x.at_
    · go_wp2
      go_ret
      exact ⟨ret_bool (by rw [HL.out, HA.out, HC.out, mapOk_eq, decide_eq_false (p := x.at_ < m.code.length) (by omega)]; simp), (by repeat (first | assumption | exact Kp.refl _ _ | apply Kp.alloc | apply Kp.drew | apply Kp.drewN | refine Kp.trans ?_ (by assumption)))⟩
    by_cases t3 : (x.locals.length : Int) = m.locals
    case neg =>
     have t3' : ((x.locals.length : Int) == m.locals) = false := beq_eq_false_iff_ne.2 t3
     go_wp2
     go_ret
     exact ⟨ret_bool (by rw [HL.out, HA.out, HC.out, mapOk_eq, decide_eq_false (p := (x.locals.length : Int) = m.locals) t3]; simp), (by repeat (first | assumption | exact Kp.refl _ _ | apply Kp.alloc | apply Kp.drew | apply Kp.drewN | refine Kp.trans ?_ (by assumption)))⟩
    have T3 := hid t3
    have t3' : ((x.locals.length : Int) == m.locals) = true := beq_iff_eq.2 t3
    clear t3
    by_cases t4 : m.stack < (x.stack.length : Int)
    · go_wp2
      go_ret
      exact ⟨ret_bool (by rw [HL.out, HA.out, HC.out, mapOk_eq, decide_eq_false (p := (x.stack.length : Int) ≤ m.stack) (by omega)]; simp), (by repeat (first | assumption | exact Kp.refl _ _ | apply Kp.alloc | apply Kp.drew | apply Kp.drewN | refine Kp.trans ?_ (by assumption)))⟩
    have HM : Hid (M.mapOk m x = (M.tagsOk x.locals && M.tagsOk x.stack)) := hid (by
     rw [mapOk_eq, decide_eq_true (p := x.at_ < m.code.length) (by omega), decide_eq_true (p := (x.locals.length : Int) = m.locals) T3.out, decide_eq_true (p := (x.stack.length : Int) ≤ m.stack) (by omega)]; rfl)
    have HT : Hid (decide (last < x.at_) = true) := hid (decide_eq_true (by omega))
    cases ht1 : M.tagsOk x.locals
    · have HT1 := hid ht1
      clear ht1
      go_wp2_with fail
      refine (tags_ok _ _ _ _ (S1.out.ext TagL.stays ((Kp.refl _ _).alloc _))).mono ?_
      rintro e w1 ⟨rfl, hB⟩
      rw [HT1.out]
      go_wp2
      go_ret
      exact ⟨ret_bool (by rw [HL.out, HA.out, HC.out, HM.out, HT1.out]; simp), (by repeat (first | assumption | exact Kp.refl _ _ | apply Kp.alloc | apply Kp.drew | apply Kp.drewN | refine Kp.trans ?_ (by assumption)))⟩
    · have HT1 := hid ht1
      clear ht1
      go_wp2_with fail
      refine (tags_ok _ _ _ _ (S1.out.ext TagL.stays ((Kp.refl _ _).alloc _))).mono ?_
      rintro e w1 ⟨rfl, hB⟩
      rw [HT1.out]
      obtain ⟨hc1, hf1⟩ := bcell hB
      cases ht2 : M.tagsOk x.stack
      all_goals
       have HT2 := hid ht2
       clear ht2
       go_wp2_with fail
       refine (tags_ok _ _ _ _ ((S2.out.ext TagL.stays ((Kp.refl _ _).alloc _)).ext TagL.stays hB)).mono ?_
       rintro e w2 ⟨rfl, hB2⟩
       rw [HT2.out]
       go_wp2
      · go_ret
        exact ⟨ret_bool (by rw [HL.out, HA.out, HC.out, HM.out, HT1.out, HT2.out]; simp), (by repeat (first | assumption | exact Kp.refl _ _ | apply Kp.alloc | apply Kp.drew | apply Kp.drewN | refine Kp.trans ?_ (by assumption)))⟩
      · go_roundw
        case rel => exact ⟨k + 1, x.at_, by omega, by go_num, rfl, (by repeat (first | assumption | exact Kp.refl _ _ | apply Kp.alloc | apply Kp.drew | apply Kp.drewN | refine Kp.trans ?_ (by assumption))), hid (by rw [HA.out, HC.out, HM.out, HT.out, HT1.out, HT2.out]; rfl)⟩
        case measure => simp [intOf]; omega
  · go_wp2
    go_ret
    exact ⟨ret_bool (by rw [HL.out, HA.out, List.drop_of_length_le (by omega)]; rfl), (by repeat (first | assumption | exact Kp.refl _ _ | apply Kp.alloc | apply Kp.drew | apply Kp.drewN | refine Kp.trans ?_ (by assumption)))⟩
theorem CellsAt.of_blk {w : World} {g : Nat} {t : TypeId} {cs : Array Value} (h : Blk w g t cs) (l : List Value) (e : cs.toList = l) : CellsAt w g 0 l := by
 intro j v hj
 subst e
 rw [Nat.zero_add]
 exact h.c j v (by simpa using hj)
theorem mthOk_eq (m : M.Method) : M.mthOk m = (M.namOk m.name && decide (m.args.length ≤ 3) && M.kndOk m.ret && m.args.all M.kndOk &&
 decide ((m.args.length : Int) + 1 ≤ m.locals) && decide (m.locals ≤ 6) && decide (1 ≤ m.stack) && decide (m.stack ≤ 5) && M.codeOk m && M.mapsOk m) := rfl
theorem mth_ok (w : World) (I : Nat → Prop) (cs : List Value) (m : M.Method) (h : MethodL w I m cs) :
    Calls Tryz.prog 97 #[.agg cs.toArray] w fun e w' => e = .returned (.bool (M.mthOk m)) ∧ Ext w w' := by
 have HM := hid h
 obtain ⟨va, vc, vm, rfl, h1, h2, h3⟩ := h
 obtain ⟨a, cap, rfl, hn, hcap⟩ := h1.form
 have hE0 : Ext w (w.alloc (.cells #[.string m.name, .slice a m.args.length cap, .int .i64 m.ret.kind, .string m.ret.name, .int .i64 m.locals, .int .i64 m.stack, vc, vm] 60)) := ((Kp.refl _ _).alloc _)
 have b0 := Blk.new w 60 #[.string m.name, .slice a m.args.length cap, .int .i64 m.ret.kind, .string m.ret.name, .int .i64 m.locals, .int .i64 m.stack, vc, vm]
 have P0 := hid (CellsAt.of_blk b0 _ rfl)
 clear b0
 have HE := hid (mthOk_eq m)
 cases hnm : M.namOk m.name
 · have HN := hid hnm
   clear hnm
   go_enter Tryz.func97, Tryz.ntmps97
   go_wp2_with (go_at_call 33; refine (nam_ok _ _).mono ?_; rintro e w1 ⟨rfl, rfl⟩; rw [HN.out])
   go_ret
   exact ⟨ret_bool (by rw [HE.out, HN.out]; rfl), (KX.k (by repeat (first | assumption | constructor)))⟩
 have HN := hid hnm
 clear hnm
 by_cases hl : 3 < m.args.length
 · go_enter Tryz.func97, Tryz.ntmps97
   go_wp2_with (go_at_call 33; refine (nam_ok _ _).mono ?_; rintro e w1 ⟨rfl, rfl⟩; rw [HN.out])
   go_ret
   exact ⟨ret_bool (by rw [HE.out, decide_eq_false (p := m.args.length ≤ 3) (by omega)]; simp), (KX.k (by repeat (first | assumption | constructor)))⟩
 cases hr : M.kndOk m.ret
 · have HR := hid hr
   clear hr
   go_enter Tryz.func97, Tryz.ntmps97
   go_wp2_with (first | (go_at_call 33; refine (nam_ok _ _).mono ?_; rintro e w1 ⟨rfl, rfl⟩; rw [HN.out]) | (go_at_call 27; refine (knd_ok m.ret _).mono ?_; rintro e w1 ⟨rfl, hB⟩; rw [HR.out]))
   go_ret
   exact ⟨ret_bool (by rw [HE.out, HR.out]; simp), (by repeat (first | assumption | exact Kp.refl _ _ | apply Kp.alloc | apply Kp.drew | apply Kp.drewN | refine Kp.trans ?_ (by assumption)))⟩
 have HR := hid hr
 clear hr
 go_enter Tryz.func97, Tryz.ntmps97
 go_wp2_with fail
 refine (nam_ok _ _).mono ?_
 rintro e w1 ⟨rfl, rfl⟩
 rw [HN.out]
 go_wp2_with fail
 refine (knd_ok m.ret _).mono ?_
 rintro e w1 ⟨rfl, hB⟩
 rw [HR.out]
 generalize (w.alloc (.cells #[.string m.name, .slice a m.args.length cap, .int .i64 m.ret.kind, .string m.ret.name, .int .i64 m.locals, .int .i64 m.stack, vc, vm] 60)) = w0 at *
 have P1 := hid (P0.out.ext hB)
 have hE1 := hE0.trans hB
 clear hE0 hB P0
 obtain ⟨p0, p1, p2, p3, p4, p5, p6, p7⟩ := P1.out.eight
 simp only [Nat.zero_add] at p1 p2 p3 p4 p5 p6 p7
 go_wp2
 clear p0 p1 p2 p3 p4 p5 p6 p7
 go_loopw [24] (fun i wr => ∃ k : Nat, k ≤ m.args.length ∧ i = .int .i64 k ∧ Ext w1 wr ∧ Hid ((m.args.take k).all M.kndOk = true)) (fun i _ => m.args.length - (intOf i).toNat)
 case atStart => exact ⟨0, Nat.zero_le _, rfl, Kp.refl _ _, hid (by simp)⟩
 case round =>
  obtain ⟨k, hk, rfl, hE, HA⟩ := hrel
  by_cases hlt : k < m.args.length
  · obtain ⟨x, hx⟩ := get_some hlt
    obtain ⟨b, off, cs, rfl, hI, rfl, -, hc⟩ := h1.get hx
    obtain ⟨g0, g1⟩ := ((hc.ext hE1).ext hE).two
    have HX := hid hx
    clear hx hc
    cases ht : M.kndOk x
    all_goals
     have HT := hid ht
     clear ht
     go_wp2_with (go_at_call 27; refine (knd_ok x _).mono ?_; rintro e w2 ⟨rfl, hB⟩; rw [HT.out])
    · go_ret
      exact ⟨ret_bool (by rw [HE.out, all_no HX.out HT.out]; simp), (by repeat (first | assumption | exact Kp.refl _ _ | apply Kp.alloc | apply Kp.drew | apply Kp.drewN | refine Kp.trans ?_ (by assumption)))⟩
    · go_roundw
      case rel => exact ⟨k + 1, by omega, by go_num, (by repeat (first | assumption | exact Kp.refl _ _ | apply Kp.alloc | apply Kp.drew | apply Kp.drewN | refine Kp.trans ?_ (by assumption))), hid (all_succ HA.out HX.out HT.out)⟩
      case measure => simp [intOf]; omega
  · have HA2 : Hid (m.args.all M.kndOk = true) := hid (all_end HA.out (by omega))
    clear HA
    obtain ⟨p0, p1, p2, p3, p4, p5, p6, p7⟩ := (P1.out.ext hE).eight
    simp only [Nat.zero_add] at p1 p2 p3 p4 p5 p6 p7
    by_cases t1 : m.locals < (m.args.length : Int) + 1
    · go_wp2
      go_ret
      exact ⟨ret_bool (by rw [HE.out, decide_eq_false (p := (m.args.length : Int) + 1 ≤ m.locals) (by omega)]; simp), (by repeat (first | assumption | exact Kp.refl _ _ | apply Kp.alloc | apply Kp.drew | apply Kp.drewN | refine Kp.trans ?_ (by assumption)))⟩
    by_cases t2 : 6 < m.locals
    · go_wp2
      go_ret
      exact ⟨ret_bool (by rw [HE.out, decide_eq_false (p := m.locals ≤ 6) (by omega)]; simp), (by repeat (first | assumption | exact Kp.refl _ _ | apply Kp.alloc | apply Kp.drew | apply Kp.drewN | refine Kp.trans ?_ (by assumption)))⟩
    by_cases t3 : m.stack < 1
    · go_wp2
      go_ret
      exact ⟨ret_bool (by rw [HE.out, decide_eq_false (p := 1 ≤ m.stack) (by omega)]; simp), (by repeat (first | assumption | exact Kp.refl _ _ | apply Kp.alloc | apply Kp.drew | apply Kp.drewN | refine Kp.trans ?_ (by assumption)))⟩
    by_cases t4 : 5 < m.stack
    · go_wp2
      go_ret
      exact ⟨ret_bool (by rw [HE.out, decide_eq_false (p := m.stack ≤ 5) (by omega)]; simp), (by repeat (first | assumption | exact Kp.refl _ _ | apply Kp.alloc | apply Kp.drew | apply Kp.drewN | refine Kp.trans ?_ (by assumption)))⟩
    have HF : Hid (M.mthOk m = (M.codeOk m && M.mapsOk m)) := hid (by
     rw [HE.out, HN.out, HR.out, HA2.out, decide_eq_true (p := m.args.length ≤ 3) (by omega), decide_eq_true (p := (m.args.length : Int) + 1 ≤ m.locals) (by omega), decide_eq_true (p := m.locals ≤ 6) (by omega), decide_eq_true (p := 1 ≤ m.stack) (by omega), decide_eq_true (p := m.stack ≤ 5) (by omega)]
     rfl)
    have hEw := hE1.trans hE
    have HM2 := hid (MethodL.stays _ _ _ _ _ _ (Ext.same hEw) (fun _ h => h) HM.out)
    go_wp2_with fail
    refine (code_ok _ _ _ _ HM2.out).mono ?_
    rintro e w2 ⟨rfl, hB⟩
    cases ht : M.codeOk m
    · have HT := hid ht
      clear ht
      go_wp2
      go_ret
      exact ⟨ret_bool (by rw [HF.out, HT.out]; rfl), (by repeat (first | assumption | exact Kp.refl _ _ | apply Kp.alloc | apply Kp.drew | apply Kp.drewN | refine Kp.trans ?_ (by assumption)))⟩
    · have HT := hid ht
      clear ht
      clear p0 p1 p2 p3 p4 p5 p6 p7
      obtain ⟨p0, p1, p2, p3, p4, p5, p6, p7⟩ := ((P1.out.ext hE).ext hB).eight
      simp only [Nat.zero_add] at p1 p2 p3 p4 p5 p6 p7
      go_wp2_with fail
      refine (maps_ok _ _ _ _ (MethodL.stays _ _ _ _ _ _ (Ext.same hB) (fun _ h => h) HM2.out)).mono ?_
      rintro e w3 ⟨rfl, hB3⟩
      go_wp2
      go_ret
      exact ⟨ret_bool (by rw [HF.out, HT.out]; rfl), (by repeat (first | assumption | exact Kp.refl _ _ | apply Kp.alloc | apply Kp.drew | apply Kp.drewN | refine Kp.trans ?_ (by assumption)))⟩
theorem fresh_step {α : Type} {name : α → ByteArray} {ok : α → Bool} {l : List α} {k : Nat} {x : α} (hx : l[k]? = some x) :
    M.freshAll name ok (l.drop k) ((l.take k).map name) = (ok x && !(((l.take k).map name).any fun y => decide (y = name x)) && M.freshAll name ok (l.drop (k + 1)) ((l.take (k + 1)).map name)) := by
 rw [drop_at hx, List.take_add_one, hx, List.map_append]; rfl
theorem fresh_no {α : Type} {name : α → ByteArray} {l : List α} {k j : Nat} {x y : α} (hy : l[j]? = some y) (hj : j < k) (he : name y = name x) :
    (((l.take k).map name).any fun y => decide (y = name x)) = true := by
 rw [List.any_eq_true]
 refine ⟨name y, List.mem_map.2 ⟨y, ?_, rfl⟩, by simp [he]⟩
 exact List.mem_of_getElem? (i := j) (by rw [List.getElem?_take, if_pos hj, hy])
theorem fresh_yes {α : Type} {name : α → ByteArray} {l : List α} {k : Nat} {x : α} (h : ∀ j y, l[j]? = some y → j < k → name y ≠ name x) :
    (((l.take k).map name).any fun y => decide (y = name x)) = false := by
 rw [List.any_eq_false]
 intro z hz
 obtain ⟨y, hy, rfl⟩ := List.mem_map.1 hz
 obtain ⟨j, hj⟩ := List.mem_iff_getElem?.1 hy
 rw [List.getElem?_take] at hj
 split at hj
 · rename_i hlt
   simpa using h j y hj hlt
 · cases hj
theorem clsOk_eq (c : M.Class) : M.clsOk c = (M.namOk c.name && (decide (c.super = M.none_) || M.namOk c.super) && decide (c.fields.length ≤ 3) && decide (c.methods.length ≤ 4) &&
 M.freshAll M.Field.name (fun f => M.namOk f.name && M.kndOk f.kind) c.fields [] && M.freshAll M.Method.name M.mthOk c.methods []) := rfl
def FRest (c : M.Class) (k : Nat) : Bool := M.freshAll M.Field.name (fun f => M.namOk f.name && M.kndOk f.kind) (c.fields.drop k) ((c.fields.take k).map M.Field.name)
def MRest (c : M.Class) (k : Nat) : Bool := M.freshAll M.Method.name M.mthOk (c.methods.drop k) ((c.methods.take k).map M.Method.name)
theorem FRest_end {c : M.Class} {k : Nat} (h : c.fields.length ≤ k) : FRest c k = true := by
 unfold FRest; rw [List.drop_of_length_le h]; rfl
theorem MRest_end {c : M.Class} {k : Nat} (h : c.methods.length ≤ k) : MRest c k = true := by
 unfold MRest; rw [List.drop_of_length_le h]; rfl
theorem FRest_step {c : M.Class} {k : Nat} {x : M.Field} (hx : c.fields[k]? = some x) :
    FRest c k = ((M.namOk x.name && M.kndOk x.kind) && !(((c.fields.take k).map M.Field.name).any fun y => decide (y = x.name)) && FRest c (k + 1)) := fresh_step hx
theorem MRest_step {c : M.Class} {k : Nat} {x : M.Method} (hx : c.methods[k]? = some x) :
    MRest c k = (M.mthOk x && !(((c.methods.take k).map M.Method.name).any fun y => decide (y = x.name)) && MRest c (k + 1)) := fresh_step hx
theorem cls_ok (w : World) (I : Nat → Prop) (cs : List Value) (c : M.Class) (h : ClassL w I c cs) :
    Calls Tryz.prog 73 #[.agg cs.toArray] w fun e w' => e = .returned (.bool (M.clsOk c)) ∧ Ext w w' := by
 obtain ⟨vf, vm, rfl, h1, h2⟩ := h
 obtain ⟨a, cap, rfl, hn, hcap⟩ := h1.form
 obtain ⟨a2, cap2, rfl, hn2, hcap2⟩ := h2.form
 have hE0 : Ext w (w.alloc (.cells #[.string c.name, .string c.super, .slice a c.fields.length cap, .slice a2 c.methods.length cap2] 50)) := ((Kp.refl _ _).alloc _)
 have b0 := Blk.new w 50 #[.string c.name, .string c.super, .slice a c.fields.length cap, .slice a2 c.methods.length cap2]
 have P0 := hid (CellsAt.of_blk b0 _ rfl)
 clear b0
 have HE := hid (clsOk_eq c)
 cases hnm : M.namOk c.name
 · have HN := hid hnm
   clear hnm
   go_enter Tryz.func73, Tryz.ntmps73
   go_wp2_with (go_at_call 33; refine (nam_ok _ _).mono ?_; rintro e w1 ⟨rfl, rfl⟩; rw [HN.out])
   go_ret
   exact ⟨ret_bool (by rw [HE.out, HN.out]; rfl), (KX.k (by repeat (first | assumption | constructor)))⟩
 have HN := hid hnm
 clear hnm
 by_cases hsup : (decide (c.super = M.none_) || M.namOk c.super) = true
 case neg =>
  have h1' : (decide (c.super = M.none_)) = false := by
   cases hd : decide (c.super = M.none_)
   · rfl
   · rw [hd] at hsup; exact absurd rfl hsup
  have h2' : M.namOk c.super = false := by
   cases hd : M.namOk c.super
   · rfl
   · rw [hd] at hsup; simp at hsup
  have hs : c.super.toList.isEmpty = false := (toList_isEmpty c.super).trans h1'
  have HS1 := hid h1'
  have HS := hid h2'
  clear h1' h2' hsup
  go_enter Tryz.func73, Tryz.ntmps73
  go_wp2_with fail
  refine (nam_ok _ _).mono ?_
  rintro e w1 ⟨rfl, rfl⟩
  rw [HN.out]
  go_wp2_with fail
  refine (nam_ok _ _).mono ?_
  rintro e w1 ⟨rfl, rfl⟩
  rw [HS.out]
  go_wp2
  go_ret
  exact ⟨ret_bool (by rw [HE.out, HS1.out, HS.out]; simp), (KX.k (by repeat (first | assumption | constructor)))⟩
 have HS2 := hid hsup
 clear hsup
 by_cases hlf : 3 < c.fields.length ∨ 4 < c.methods.length
 · have HF : Hid (M.clsOk c = false) := hid (by
    rw [HE.out]
    rcases hlf with h | h
    · rw [decide_eq_false (p := c.fields.length ≤ 3) (by omega)]; simp
    · rw [decide_eq_false (p := c.methods.length ≤ 4) (by omega)]; simp)
   have HLF := hid hlf
   clear hlf
   go_enter Tryz.func73, Tryz.ntmps73
   go_upto_region 1 with (fail)
   go_cut [25] (fun s25 wx => s25 = .bool false ∧ wx = w.alloc (.cells #[.string c.name, .string c.super, .slice a c.fields.length cap, .slice a2 c.methods.length cap2] 50))
   case first =>
    go_wp2_with fail
    refine (nam_ok _ _).mono ?_
    rintro e w1 ⟨rfl, rfl⟩
    rw [HN.out]
    cases hs : c.super.toList.isEmpty
    · have h2' : M.namOk c.super = true := by
       have := HS2.out
       rw [← toList_isEmpty, hs] at this
       exact this
      have HS := hid h2'
      clear h2'
      go_wp2_with fail
      refine (nam_ok _ _).mono ?_
      rintro e w1 ⟨rfl, rfl⟩
      rw [HS.out]
      go_wp2_with fail
      go_meet
      exact ⟨rfl, rfl⟩
    · go_wp2_with fail
      go_meet
      exact ⟨rfl, rfl⟩
   case rest =>
    obtain ⟨rfl, rfl⟩ := hcut
    rcases HLF.out with h | h
    · go_wp2
      go_ret
      exact ⟨ret_bool HF.out.symm, (KX.k (by repeat (first | assumption | constructor)))⟩
    · by_cases h' : 3 < c.fields.length
      all_goals
       go_wp2
       go_ret
       exact ⟨ret_bool HF.out.symm, (KX.k (by repeat (first | assumption | constructor)))⟩
 have hlf1 : c.fields.length ≤ 3 := by omega
 have hlf2 : c.methods.length ≤ 4 := by omega
 clear hlf
 have HF : Hid (M.clsOk c = (FRest c 0 && MRest c 0)) := hid (by
  rw [HE.out, HN.out, HS2.out, decide_eq_true hlf1, decide_eq_true hlf2]; rfl)
 go_enter Tryz.func73, Tryz.ntmps73
 go_upto_region 1 with (fail)
 go_cut [25] (fun s25 wx => s25 = .bool false ∧ wx = w.alloc (.cells #[.string c.name, .string c.super, .slice a c.fields.length cap, .slice a2 c.methods.length cap2] 50))
 case first =>
  go_wp2_with fail
  refine (nam_ok _ _).mono ?_
  rintro e w1 ⟨rfl, rfl⟩
  rw [HN.out]
  cases hs : c.super.toList.isEmpty
  · have h2' : M.namOk c.super = true := by
     have := HS2.out
     rw [← toList_isEmpty, hs] at this
     exact this
    have HS := hid h2'
    clear h2'
    go_wp2_with fail
    refine (nam_ok _ _).mono ?_
    rintro e w1 ⟨rfl, rfl⟩
    rw [HS.out]
    go_wp2_with fail
    go_meet
    exact ⟨rfl, rfl⟩
  · go_wp2_with fail
    go_meet
    exact ⟨rfl, rfl⟩
 case rest =>
  obtain ⟨rfl, hwc⟩ := hcut
  rw [← hwc] at hE0
  rw [← hwc] at P0
  subst hwc
  generalize hw0 : (w.alloc (.cells #[.string c.name, .string c.super, .slice a c.fields.length cap, .slice a2 c.methods.length cap2] 50)) = w0 at *
  clear hw0
  obtain ⟨p0, p1, p2, p3⟩ := P0.out.four
  simp only [Nat.zero_add] at p1 p2 p3
  go_wp2
  clear p0 p1 p2 p3
  go_loopw [39] (fun i wr => ∃ k : Nat, k ≤ c.fields.length ∧ i = .int .i64 k ∧ Ext w0 wr ∧ Hid (FRest c 0 = FRest c k)) (fun i _ => c.fields.length - (intOf i).toNat)
  case atStart => exact ⟨0, Nat.zero_le _, rfl, Kp.refl _ _, hid rfl⟩
  case round =>
   obtain ⟨k, hk, rfl, hE, HA⟩ := hrel
   obtain ⟨p0, p1, p2, p3⟩ := (P0.out.ext hE).four
   simp only [Nat.zero_add] at p1 p2 p3
   have hz := cell_lt p0
   by_cases hlt : k < c.fields.length
   · obtain ⟨x, hx⟩ := get_some hlt
     obtain ⟨b, off, cs, rfl, hI, rfl, -, hc⟩ := h1.get hx
     have G := hid ((hc.ext hE0).ext hE)
     have HX := hid hx
     have HST := hid (FRest_step hx)
     clear hx hc
     obtain ⟨g0, g1, g2⟩ := G.out.three
     cases hn1 : M.namOk x.name
     · have HN1 := hid hn1
       clear hn1
       go_wp2_with (go_at_call 33; refine (nam_ok _ _).mono ?_; rintro e w1 ⟨rfl, rfl⟩; rw [HN1.out])
       go_ret
       exact ⟨ret_bool (by rw [HF.out, HA.out, HST.out, HN1.out]; simp), (by repeat (first | assumption | exact Kp.refl _ _ | apply Kp.alloc | apply Kp.drew | apply Kp.drewN | refine Kp.trans ?_ (by assumption)))⟩
     have HN1 := hid hn1
     clear hn1
     have B1 := Blk.new wr 70 #[.string x.name, .int .i64 x.kind.kind, .string x.kind.name]
     go_wp2_with fail
     refine (nam_ok _ _).mono ?_
     rintro e w1 ⟨rfl, rfl⟩
     rw [HN1.out]
     go_wp2_with fail
     refine (knd_ok x.kind _).mono ?_
     rintro e w1 ⟨rfl, hB⟩
     cases hk1 : M.kndOk x.kind
     · have HK1 := hid hk1
       clear hk1
       go_wp2
       go_ret
       exact ⟨ret_bool (by rw [HF.out, HA.out, HST.out, HK1.out]; simp), (by repeat (first | assumption | exact Kp.refl _ _ | apply Kp.alloc | apply Kp.drew | apply Kp.drewN | refine Kp.trans ?_ (by assumption)))⟩
     have HK1 := hid hk1
     clear hk1
     have r2 := hB.cellA p2
     have f0 := (B1.ext hB).c 0 _ rfl
     have hE1 : Ext w0 w1 := (by repeat (first | assumption | exact Kp.refl _ _ | apply Kp.alloc | apply Kp.drew | apply Kp.drewN | refine Kp.trans ?_ (by assumption)))
     have hfz := cell_lt f0
     clear g0 g1 g2 p0 p1 p2 p3
     go_wp2
     clear r2
     obtain ⟨wo, rfl⟩ : ∃ wo : World, wo = wr := ⟨_, rfl⟩
     go_loopw [59] (fun j wi => ∃ q : Nat, q ≤ k ∧ j = .int .i64 q ∧ Ext w1 wi ∧ Hid (∀ j y, c.fields[j]? = some y → j < q → M.Field.name y ≠ M.Field.name x)) (fun j _ => k - (intOf j).toNat)
     case atStart => exact ⟨0, Nat.zero_le _, rfl, Kp.refl _ _, hid (fun j y _ h => absurd h (Nat.not_lt_zero _))⟩
     case round =>
      obtain ⟨q, hq, rfl, hEi, HQ⟩ := hrel
      have e0 := hEi.cellE f0
      have hei := cell_lt e0
      by_cases hqk : q < k
      · obtain ⟨y, hy⟩ := get_some (show q < c.fields.length by omega)
        obtain ⟨b', off', cs', hb', -, rfl, -, hcy⟩ := h1.get hy
        cases hb'
        obtain ⟨g0, g1, g2⟩ := (((hcy.ext hE0).ext hE1).ext hEi).three
        have HY := hid hy
        clear hy hcy
        cases hne : (y.name.toList == x.name.toList)
        · have HNE := hid hne
          go_wp2
          go_roundw
          case rel =>
           refine ⟨q + 1, by omega, by go_num, (KX.k (by repeat (first | assumption | constructor))), hid (fun j z hz' hj => ?_)⟩
           by_cases hjq : j < q
           · exact HQ.out j z hz' hjq
           · obtain rfl : j = q := by omega
             rw [HY.out] at hz'
             cases hz'
             rw [beq_names] at hne
             simpa using hne
          case measure => simp [intOf]; omega
        · have HNE := hid hne
          go_wp2
          go_ret
          rw [beq_names] at hne
          exact ⟨ret_bool (by rw [HF.out, HA.out, HST.out, fresh_no HY.out hqk (by simpa using hne)]; simp), (by repeat (first | assumption | exact Kp.refl _ _ | apply Kp.alloc | apply Kp.drew | apply Kp.drewN | refine Kp.trans ?_ (by assumption)))⟩
      · obtain rfl : q = k := by omega
        go_wp2
        go_roundw
        case rel => exact ⟨q + 1, by omega, by go_num, (by repeat (first | assumption | exact Kp.refl _ _ | apply Kp.alloc | apply Kp.drew | apply Kp.drewN | refine Kp.trans ?_ (by assumption))), hid (by rw [HA.out, HST.out, HN1.out, HK1.out, fresh_yes HQ.out]; rfl)⟩
        case measure => simp [intOf]; omega
   · have HM : Hid (M.clsOk c = MRest c 0) := hid (by rw [HF.out, HA.out, FRest_end (by omega)]; rfl)
     clear HA HF
     go_wp2
     clear p0 p1 p2 p3
     have hE2 : Ext w wr := hE0.trans hE
     have P2 := hid (P0.out.ext hE)
     clear P0 hE hE0 hz
     obtain ⟨wl, rfl⟩ : ∃ wl : World, wl = wr := ⟨_, rfl⟩
     go_loopw [73] (fun i wr => ∃ k : Nat, k ≤ c.methods.length ∧ i = .int .i64 k ∧ Ext wl wr ∧ Hid (MRest c 0 = MRest c k)) (fun i _ => c.methods.length - (intOf i).toNat)
     case atStart => exact ⟨0, Nat.zero_le _, rfl, Kp.refl _ _, hid rfl⟩
     case round =>
      clear hlt hk
      obtain ⟨k, hk, rfl, hE, HA⟩ := hrel
      obtain ⟨p0, p1, p2, p3⟩ := (P2.out.ext hE).four
      simp only [Nat.zero_add] at p1 p2 p3
      have hz := cell_lt p0
      by_cases hlt : k < c.methods.length
      · obtain ⟨x, hx⟩ := get_some hlt
        obtain ⟨b, off, cs, rfl, hI, HX0, -, hc⟩ := h2.get hx
        obtain ⟨ya1, yc1, ya2, yc2, ya3, yc3, rfl⟩ := HX0.form
        have HX1 := hid (MethodL.stays _ _ _ _ _ _ (Ext.same (hE2.trans hE)) (fun _ h => h) HX0)
        have G := hid ((hc.ext hE2).ext hE)
        have HX := hid hx
        have HST := hid (MRest_step hx)
        clear hx hc HX0
        obtain ⟨g0, g1, g2, g3, g4, g5, g6, g7⟩ := G.out.eight
        have B1 := Blk.new wr 60 #[.string x.name, .slice ya1 x.args.length yc1, .int .i64 x.ret.kind, .string x.ret.name, .int .i64 x.locals, .int .i64 x.stack, .slice ya2 x.code.length yc2, .slice ya3 x.maps.length yc3]
        go_wp2_with fail
        refine (mth_ok _ _ _ _ (MethodL.stays _ _ _ _ _ _ (Ext.same ((Kp.refl _ _).alloc _)) (fun _ h => h) HX1.out)).mono ?_
        rintro e w1 ⟨rfl, hB⟩
        cases hk1 : M.mthOk x
        · have HK1 := hid hk1
          clear hk1
          go_wp2
          go_ret
          exact ⟨ret_bool (by rw [HM.out, HA.out, HST.out, HK1.out]; simp), (by repeat (first | assumption | exact Kp.refl _ _ | apply Kp.alloc | apply Kp.drew | apply Kp.drewN | refine Kp.trans ?_ (by assumption)))⟩
        have HK1 := hid hk1
        clear hk1
        have r3 := hB.cellA p3
        have f0 := (B1.ext hB).c 0 _ rfl
        have hE1 : Ext wl w1 := (by repeat (first | assumption | exact Kp.refl _ _ | apply Kp.alloc | apply Kp.drew | apply Kp.drewN | refine Kp.trans ?_ (by assumption)))
        have hfz := cell_lt f0
        clear g0 g1 g2 g3 g4 g5 g6 g7 p0 p1 p2 p3
        go_wp2
        clear r3
        obtain ⟨wo, rfl⟩ : ∃ wo : World, wo = wr := ⟨_, rfl⟩
        go_loopw [86] (fun j wi => ∃ q : Nat, q ≤ k ∧ j = .int .i64 q ∧ Ext w1 wi ∧ Hid (∀ j y, c.methods[j]? = some y → j < q → M.Method.name y ≠ M.Method.name x)) (fun j _ => k - (intOf j).toNat)
        case atStart => exact ⟨0, Nat.zero_le _, rfl, Kp.refl _ _, hid (fun j y _ h => absurd h (Nat.not_lt_zero _))⟩
        case round =>
         obtain ⟨q, hq, rfl, hEi, HQ⟩ := hrel
         have e0 := hEi.cellE f0
         have hei := cell_lt e0
         by_cases hqk : q < k
         · obtain ⟨y, hy⟩ := get_some (show q < c.methods.length by omega)
           obtain ⟨b', off', cs', hb', -, hyy, -, hcy⟩ := h2.get hy
           obtain ⟨za1, zc1, za2, zc2, za3, zc3, rfl⟩ := hyy.form
           cases hb'
           clear hyy
           obtain ⟨g0, g1, g2, g3, g4, g5, g6, g7⟩ := (((hcy.ext hE2).ext hE1).ext hEi).eight
           have HY := hid hy
           clear hy hcy
           cases hne : (y.name.toList == x.name.toList)
           · have HNE := hid hne
             go_wp2
             go_roundw
             case rel =>
              refine ⟨q + 1, by omega, by go_num, (KX.k (by repeat (first | assumption | constructor))), hid (fun j z hz' hj => ?_)⟩
              by_cases hjq : j < q
              · exact HQ.out j z hz' hjq
              · obtain rfl : j = q := by omega
                rw [HY.out] at hz'
                cases hz'
                rw [beq_names] at hne
                simpa using hne
             case measure => simp [intOf]; omega
           · have HNE := hid hne
             go_wp2
             go_ret
             rw [beq_names] at hne
             exact ⟨ret_bool (by rw [HM.out, HA.out, HST.out, fresh_no HY.out hqk (by simpa using hne)]; simp), (by repeat (first | assumption | exact Kp.refl _ _ | apply Kp.alloc | apply Kp.drew | apply Kp.drewN | refine Kp.trans ?_ (by assumption)))⟩
         · obtain rfl : q = k := by omega
           go_wp2
           go_roundw
           case rel => exact ⟨q + 1, by omega, by go_num, (by repeat (first | assumption | exact Kp.refl _ _ | apply Kp.alloc | apply Kp.drew | apply Kp.drewN | refine Kp.trans ?_ (by assumption))), hid (by rw [HA.out, HST.out, HK1.out, fresh_yes HQ.out]; rfl)⟩
           case measure => simp [intOf]; omega
      · go_wp2
        go_ret
        exact ⟨ret_bool (by rw [HM.out, HA.out, MRest_end (by omega)]), (by repeat (first | assumption | exact Kp.refl _ _ | apply Kp.alloc | apply Kp.drew | apply Kp.drewN | refine Kp.trans ?_ (by assumption)))⟩
def Elem (t e k : Nat) : Prop := ∃ i z bytes, Tryz.prog.underlying t = some (.slice e) ∧ Tryz.prog.info? e = some i ∧ i.zero = some z ∧ i.size = k ∧ i.bytes = bytes ∧ z.cells.size = k ∧ 0 < k ∧ bytes ≤ 4096
theorem elem_of {t e k : Nat} {z : Value} {bytes : Nat} (ht : Tryz.prog.underlying t = some (.slice e)) (hi : (Tryz.prog.info? e).map (fun i => (i.zero, i.size, i.bytes)) = some (some z, k, bytes))
    (hz : z.cells.size = k) (hk : 0 < k) (hb : bytes ≤ 4096) : Elem t e k := by
 obtain ⟨i, h1, h2, h3, h4⟩ := info_parts hi
 exact ⟨i, z, bytes, ht, h1, h2, h3, h4, hz, hk, hb⟩
theorem elem_int : Elem 32 3 1 := elem_of (z := .int .i64 0) (bytes := 8) Tryz.underlying32 (by kernel_rfl) rfl (by decide) (by decide)
theorem elem_ref : Elem 73 76 2 := elem_of (z := .agg #[.int .i64 0, .string ⟨#[]⟩]) (bytes := 24) Tryz.underlying73 (by kernel_rfl) rfl (by decide) (by decide)
theorem Kp.grown {D : Nat → Prop} {w a b : World} {row : Option Nat} (h : Kp D w a) (hg : a.grownBy b row) (hr : ∀ k, row = some k → k < w.heap.size → D k) : Kp D w b :=
 ⟨hg.os.trans h.os, hg.tape.trans h.tape, hg.output.trans h.output, Nat.le_trans h.size hg.size,
  fun k hk hd => (hg.block k (Nat.lt_of_lt_of_le hk h.size) (fun e => hd (hr k e.symm hk))).trans (h.block k hk hd)⟩
theorem owns_kp {D : Nat → Prop} {a b : World} {base e k n : Nat} {v : Value} {xs : List Value} (h : a.ownsRow base e k v n xs) (hk : Kp D a b) (hD : ∀ g, v.ownBlock = some g → base ≤ g → ¬ D g) : b.ownsRow base e k v n xs := by
 refine ⟨h.1, ?_⟩
 rcases h.2 with h4 | ⟨g, cap, cur, rfl, hg, hb, rest⟩
 · exact .inl h4
 · exact .inr ⟨g, cap, cur, rfl, hg, (hk.block g (Array.getElem?_eq_some_iff.1 hb).1 (hD g rfl hg)).trans hb, rest⟩
theorem owns_form {w : World} {base e k n : Nat} {v : Value} {xs : List Value} (h : w.ownsRow base e k v n xs) (hn : 0 < n) :
    ∃ g cap, v = .slice (some ⟨g, 0, none⟩) n cap ∧ base ≤ g ∧ g < w.heap.size ∧ n ≤ cap := by
 rcases h.2 with ⟨_, h4⟩ | ⟨g', c', cur, hv, hg, hb', hle, _⟩
 · omega
 · exact ⟨g', c', hv, hg, (Array.getElem?_eq_some_iff.1 hb').1, hle⟩
theorem Kp.own {D D' : Nat → Prop} {w a b : World} (h : Kp D w a) (hk : Kp D' a b) (hD : ∀ k, D' k → w.heap.size ≤ k) : Kp D w b :=
 ⟨hk.os.trans h.os, hk.tape.trans h.tape, hk.output.trans h.output, Nat.le_trans h.size hk.size,
  fun k hkw hd => (hk.block k (Nat.lt_of_lt_of_le hkw h.size) (fun x => absurd (hD k x) (Nat.not_le.2 hkw))).trans (h.block k hkw hd)⟩
theorem wpList_append_one {t e k : Nat} (E : Elem t e k) (w : World) {ops : Array Oper} {rest : List Oper} {o : Oper} {a : Act} {Q : Exit → Act → World → Prop} (hgd : o.guard = none) (s x : Operand)
    (ho : o.op = .call { callee := .builtin .append, args := #[s, x], argTypes := #[t, t] }) (base : Nat) (v : Value) (n : Nat) (xs : List Value) (hs : a.eval s = v) (hown : w.ownsRow base e k v n xs)
    (g c : Nat) (news : List Value) (hx : a.eval x = .slice (some ⟨g, 0, none⟩) 1 c) (hl : news.length = k) (hnews : CellsAt w g 0 news) (h1 : ∀ u ∈ news, u.oneCell' = true)
    (hn : n + 1 ≤ 4294967296) (hbase : base ≤ w.heap.size)
    (h : ∀ v' w', w'.ownsRow base e k v' (n + 1) (xs ++ news) → Kp (fun b => v.ownBlock = some b) w w' → (∃ g' c', v' = .slice (some ⟨g', 0, none⟩) (n + 1) c' ∧ base ≤ g' ∧ g' < w'.heap.size) → wpList Tryz.prog ops Q rest (a.put o.dst v') w') :
    wpList Tryz.prog ops Q (o :: rest) a w := by
 obtain ⟨i, z, bytes, ht, hi, hz, hsz, hby, hzs, hk, hb⟩ := E
 refine wpList_append_own w hgd s x t ho base e i z k bytes ht hi hz hsz hby hzs hk v n xs hs hown ⟨g, 0, none⟩ 1 c news hx (by omega) ?_ h1 (by unfold maxLen; omega) ?_ hbase ?_
 · intro j u hj
   have := hnews j u hj
   rw [Nat.zero_add] at this
   unfold Addr.add
   split
   · rename_i hj0; subst hj0; exact this
   · simpa using this
 · have : (n + 1) * bytes ≤ 4294967296 * 4096 := Nat.mul_le_mul hn hb
   omega
 · intro v' w' h2 h3 _
   refine h v' w' h2 ⟨h3.os, h3.tape, h3.output, h3.size, fun k hk hd => h3.block k hk (fun e => hd e.symm)⟩ ?_
   rcases h2.2 with ⟨_, h4⟩ | ⟨g', c', cur, hv, hg, hb', _⟩
   · omega
   · exact ⟨g', c', hv, hg, (Array.getElem?_eq_some_iff.1 hb').1⟩
theorem wpListIn_append_one {F : Fence} {nf : Nat} {t e k : Nat} (E : Elem t e k) (w : World) {ops : Array Oper} {rest : List Oper} {o : Oper} {a : Act} {Q : Exit → Act → World → Prop} (hgd : o.guard = none) (s x : Operand)
    (ho : o.op = .call { callee := .builtin .append, args := #[s, x], argTypes := #[t, t] }) (base : Nat) (v : Value) (n : Nat) (xs : List Value) (hs : a.eval s = v) (hown : w.ownsRow base e k v n xs)
    (g c : Nat) (news : List Value) (hx : a.eval x = .slice (some ⟨g, 0, none⟩) 1 c) (hl : news.length = k) (hnews : CellsAt w g 0 news) (h1 : ∀ u ∈ news, u.oneCell' = true)
    (hn : n + 1 ≤ 4294967296) (hbase : base ≤ w.heap.size)
    (h : ∀ v' w', w'.ownsRow base e k v' (n + 1) (xs ++ news) → Kp (fun b => v.ownBlock = some b) w w' → (∃ g' c', v' = .slice (some ⟨g', 0, none⟩) (n + 1) c' ∧ base ≤ g' ∧ g' < w'.heap.size) → wpListIn F nf Tryz.prog ops Q rest (a.put o.dst v') w') :
    wpListIn F nf Tryz.prog ops Q (o :: rest) a w := by
 obtain ⟨i, z, bytes, ht, hi, hz, hsz, hby, hzs, hk, hb⟩ := E
 refine wpListIn_append_own w hgd s x t ho base e i z k bytes ht hi hz hsz hby hzs hk v n xs hs hown ⟨g, 0, none⟩ 1 c news hx (by omega) ?_ h1 (by unfold maxLen; omega) ?_ hbase ?_
 · intro j u hj
   have := hnews j u hj
   rw [Nat.zero_add] at this
   unfold Addr.add
   split
   · rename_i hj0; subst hj0; exact this
   · simpa using this
 · have : (n + 1) * bytes ≤ 4294967296 * 4096 := Nat.mul_le_mul hn hb
   omega
 · intro v' w' h2 h3 _
   refine h v' w' h2 ⟨h3.os, h3.tape, h3.output, h3.size, fun k hk hd => h3.block k hk (fun e => hd e.symm)⟩ ?_
   rcases h2.2 with ⟨_, h4⟩ | ⟨g', c', cur, hv, hg, hb', _⟩
   · omega
   · exact ⟨g', c', hv, hg, (Array.getElem?_eq_some_iff.1 hb').1⟩
theorem map_flat {α β : Type} (f : α → β) (l : List α) : l.map f = l.flatMap fun x => [f x] := by
 induction l with
 | nil => rfl
 | cons x r ih => rw [List.map_cons, List.flatMap_cons, ih]; rfl
theorem SliceOf.of_owns {α : Type} {k : Nat} {R : Lies α} {w : World} {I : Nat → Prop} {base e n : Nat} {v : Value} {cs : List Value} (enc : α → List Value) {l : List α} (hown : w.ownsRow base e k v n cs)
    (hn : n = l.length) (hcs : cs = l.flatMap enc) (hek : ∀ x ∈ l, (enc x).length = k) (hR : ∀ x ∈ l, R w I x (enc x)) (hI : ∀ b, base ≤ b → b < w.heap.size → I b) (hlen : l.length ≤ 4294967296) : SliceOf k R w I v l := by
 have flat : ∀ (l : List α), (∀ x ∈ l, (enc x).length = k) → ∀ i x, l[i]? = some x → ∀ j u, (enc x)[j]? = some u → (l.flatMap enc)[i * k + j]? = some u := by
  intro l
  induction l with
  | nil => intro _ i x h; simp at h
  | cons y r ih =>
   intro hy i x hx j u hj
   have hyk := hy y (by simp)
   rw [List.flatMap_cons]
   cases i with
   | zero =>
    simp at hx; subst hx
    rw [List.getElem?_append_left (by rw [Nat.zero_mul, Nat.zero_add]; exact (List.getElem?_eq_some_iff.1 hj).1), Nat.zero_mul, Nat.zero_add]; exact hj
   | succ i =>
    rw [List.getElem?_append_right (by rw [hyk, Nat.succ_mul]; omega), hyk, show (i + 1) * k + j - k = i * k + j from by rw [Nat.succ_mul]; omega]
    exact ih (fun z hz => hy z (by simp [hz])) i x (by simpa using hx) j u hj
 subst hn hcs
 rcases hown.2 with ⟨rfl, h0⟩ | ⟨g, cap, cur, rfl, hg, hb, hle, _, hsz, htk⟩
 · have : l = [] := List.length_eq_zero_iff.1 h0
   subst this
   exact SliceOf.nil _ _ _ _
 · refine ⟨_, cap, rfl, hle, hlen, fun i x hx => ⟨g, 0, enc x, rfl, hI g hg (Array.getElem?_eq_some_iff.1 hb).1, hR x (List.mem_of_getElem? hx), hek x (List.mem_of_getElem? hx), ?_⟩⟩
   intro j u hj
   have := flat l hek i x hx j u hj
   rw [← htk, List.getElem?_take] at this
   split at this
   · simp only [World.cell?, hb]
     simpa [Nat.zero_add] using this
   · cases this
end Go.Proofs.YtjdfceejkneofaaGreat
namespace Go.Proofs.YtjdfceejkneofaaGreat.M
theorem freshAll_ok {α : Type} {name : α → ByteArray} {ok : α → Bool} : ∀ {l : List α} {seen : List ByteArray}, freshAll name ok l seen = true → ∀ x ∈ l, ok x = true
 | [], _, _ => by simp
 | y :: r, seen, h => by
  unfold freshAll at h
  simp only [Bool.and_eq_true] at h
  intro x hx
  rcases List.mem_cons.1 hx with rfl | hx
  · exact h.1.1
  · exact freshAll_ok h.2 x hx
theorem freshAll_seen {α : Type} {name : α → ByteArray} {ok : α → Bool} : ∀ {l : List α} {seen : List ByteArray}, freshAll name ok l seen = true → ∀ x ∈ l, name x ∉ seen
 | [], _, _ => by simp
 | y :: r, seen, h => by
  unfold freshAll at h
  simp only [Bool.and_eq_true, Bool.not_eq_true', List.any_eq_false, decide_eq_true_eq] at h
  intro x hx
  rcases List.mem_cons.1 hx with rfl | hx
  · exact fun hm => h.1.2 _ hm rfl
  · have := freshAll_seen h.2 x hx
    exact fun hm => this (List.mem_append_left _ hm)
theorem freshAll_nodup {α : Type} {name : α → ByteArray} {ok : α → Bool} : ∀ {l : List α} {seen : List ByteArray}, freshAll name ok l seen = true → (l.map name).Nodup
 | [], _, _ => by simp
 | y :: r, seen, h => by
  have h0 := h
  unfold freshAll at h
  simp only [Bool.and_eq_true] at h
  rw [List.map_cons, List.nodup_cons]
  refine ⟨fun hm => ?_, freshAll_nodup h.2⟩
  obtain ⟨z, hz, he⟩ := List.mem_map.1 hm
  have := freshAll_seen h.2 z hz
  rw [he] at this
  exact this (List.mem_append_right _ (by simp))
theorem lodOk_len {p : Plan} (h : lodOk p = true) : 1 ≤ p.length ∧ p.length ≤ 3 := by
 unfold lodOk at h
 simp only [Bool.and_eq_true, decide_eq_true_eq] at h
 exact ⟨h.1.1, h.1.2⟩
theorem keeper_ok {p : Plan} (h : lodOk p = true) {k : Int} {q : Keeper} (hk : keeper? p k = some q) : keeperOk p q = true := by
 unfold lodOk at h
 simp only [Bool.and_eq_true] at h
 unfold keeper? at hk
 split at hk
 · exact List.all_eq_true.1 h.2 q (List.mem_of_getElem? hk)
 · cases hk
theorem has_iff {p : Plan} {k : Int} : has p k = true ↔ 0 ≤ k ∧ k < p.length := by
 unfold has; simp
theorem has_of_ask {p : Plan} (hok : lodOk p = true) {k : Int} {n : ByteArray} {q : Int} (h : ask? p k n = some q) : has p q = true := by
 unfold ask? at h
 rw [Option.bind_eq_some_iff] at h
 obtain ⟨kp, hk, h2⟩ := h
 rw [Option.map_eq_some_iff] at h2
 obtain ⟨a, ha, rfl⟩ := h2
 have h3 := keeper_ok hok hk
 unfold keeperOk at h3
 simp only [Bool.and_eq_true] at h3
 have := freshAll_ok h3.2 a (List.mem_of_find?_eq_some ha)
 simp only [Bool.and_eq_true] at this
 exact this.2
theorem ownAt_owned {p : Plan} (r : Ref) : (ownAt p r).isSome = owned p r := by
 unfold ownAt owned cls?
 cases keeper? p r.keeper with
 | none => rfl
 | some q =>
  simp only [Option.bind_some]
  rw [Bool.eq_iff_iff, List.findIdx?_isSome, List.find?_isSome]
  simp
theorem cls_ownAt {p : Plan} {r : Ref} {c : Class} (h : cls? p r = some c) : ∃ q i, keeper? p r.keeper = some q ∧ ownAt p r = some i ∧ q.owns[i]? = some c ∧ i < q.owns.length := by
 unfold cls? at h
 rw [Option.bind_eq_some_iff] at h
 obtain ⟨q, hq, h2⟩ := h
 have hi : (q.owns.findIdx? fun c => decide (c.name = r.name)).isSome = true := by
  rw [List.findIdx?_isSome, List.any_eq_true]
  exact ⟨c, List.mem_of_find?_eq_some h2, by simpa using List.find?_some h2⟩
 obtain ⟨i, hi⟩ := Option.isSome_iff_exists.1 hi
 refine ⟨q, i, hq, by unfold ownAt; rw [hq]; exact hi, ?_, ?_⟩
 · rw [List.findIdx?_eq_some_iff_getElem] at hi
   obtain ⟨hlt, h3, h4⟩ := hi
   rw [List.getElem?_eq_getElem hlt]
   rw [List.find?_eq_some_iff_getElem] at h2
   obtain ⟨h8, j, hj, h5, h6⟩ := h2
   have : i = j := by
    rcases Nat.lt_trichotomy i j with h | h | h
    · have := h6 i h
      simp only [Bool.not_eq_true'] at this
      rw [h3] at this; cases this
    · exact h
    · have h9 := h4 j h
      rw [h5] at h9
      exact absurd h8 h9
   subst this
   rw [h5]
 · rw [List.findIdx?_eq_some_iff_getElem] at hi
   exact hi.1
theorem cls_name {p : Plan} {r : Ref} {c : Class} (h : cls? p r = some c) : c.name = r.name := by
 unfold cls? at h
 rw [Option.bind_eq_some_iff] at h
 obtain ⟨q, hq, h2⟩ := h
 simpa using List.find?_some h2
theorem cls_has {p : Plan} {r : Ref} {c : Class} (h : cls? p r = some c) : 0 ≤ r.keeper ∧ r.keeper < p.length := by
 obtain ⟨q, i, hq, _⟩ := cls_ownAt h
 unfold keeper? at hq
 split at hq
 · have := (List.getElem?_eq_some_iff.1 hq).1
   omega
 · cases hq
theorem nodup_len {p : Plan} {l : List Int} (hn : l.Nodup) (hh : ∀ q ∈ l, has p q = true) : l.length ≤ p.length := by
 have h1 : l ⊆ (List.range p.length).map Int.ofNat := by
  intro q hq
  have := has_iff.1 (hh q hq)
  exact List.mem_map.2 ⟨q.toNat, List.mem_range.2 (by omega), by simp; omega⟩
 have := hn.length_le_of_subset h1
 simpa using this
theorem pathGo_owned {p : Plan} {n : ByteArray} : ∀ {f : Nat} {asked : List Int} {k : Int}, asked.getLastD 0 = k → (pathGo p n f asked k).2 = 1 → owned p ⟨(pathGo p n f asked k).1.getLastD 0, n⟩ = true
 | 0, _, _, _, h => by simp [pathGo] at h
 | f + 1, asked, k, hl, h => by
  unfold pathGo at h ⊢
  split at h
  · rename_i h1
    split at h
    · rename_i h2
      simp only [h2, if_true]
      rw [hl]; exact h2
    · simp at h
  · rename_i next h1
    split at h
    · simp at h
    · rename_i h2
      simp only [h2, if_false, Bool.false_eq_true]
      exact pathGo_owned (by simp) h
theorem path_owned {p : Plan} {k : Int} {n : ByteArray} (h : (path p k n).2 = 1) : owned p ⟨(path p k n).1.getLastD 0, n⟩ = true := by
 unfold path at h ⊢
 split at h
 · rename_i hk; rw [if_pos hk]; exact pathGo_owned rfl h
 · simp at h
theorem resolve_owned {p : Plan} {k : Int} {n : ByteArray} (h : (resolve p k n).2 = 1) : ∃ c, cls? p (resolve p k n).1 = some c := by
 unfold resolve at h ⊢
 split at h
 · rename_i hp
   rw [if_pos hp]
   exact Option.isSome_iff_exists.1 (path_owned hp)
 · rename_i hp; exact absurd h hp
end Go.Proofs.YtjdfceejkneofaaGreat.M
