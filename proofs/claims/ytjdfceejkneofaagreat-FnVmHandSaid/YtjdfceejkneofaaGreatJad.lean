/- Walks: agree, agreeMethod.; Walks: methodAt, fieldAt; kinds are the same.; Walks: kinds are the same; two classes go together.; Walks: two classes go together.; Walks: all classes of a chain go together.; Walks: a class can be laid out. -/
import Derived.Test.YtjdfceejkneofaaGreatJac
import Derived.Deep.DeepCutAuto
import Derived.Deep.CutRange
import Derived.Deep.RegionHeld3
set_option maxRecDepth 100000
set_option maxHeartbeats 4000000
set_option linter.unusedSimpArgs false
set_option linter.unusedVariables false
namespace Go.Proofs.YtjdfceejkneofaaGreat
open Go Go.RowKit
open Go.Lib (hid)
theorem lodge_agree (w : World) (l : Lodge) (p : M.Plan) (h : LodgeAt w l p) (a b : Int) (k : M.Kind) :
    Calls Tryz.prog 28 #[.pointer (some ⟨l.L, 0, none⟩), .int .i64 a, .int .i64 b, .agg #[.int .i64 k.kind, .string k.name]] w fun e w' =>
     e = .returned (.bool (M.agree p a b k)) ∧ Ext w w' := by
 have hE0 : Ext w (w.alloc (.cells #[.int .i64 k.kind, .string k.name] 55)) := (KX.k (by repeat (first | assumption | constructor)))
 by_cases hk : k.kind = 1
 · have hA : Hid (M.agree p a b k = true) := hid (by unfold M.agree; rw [hk]; rfl)
   have hk' : (k.kind == 1) = true := beq_iff_eq.2 hk
   clear hk h
   go_enter Tryz.func28, Tryz.ntmps28
   go_wp2
   go_ret
   exact ⟨ret_bool hA.out.symm, (KX.k (by repeat (first | assumption | constructor)))⟩
 have H := hid (h.ext hE0)
 clear h
 have b7 := Blk.new w 55 #[.int .i64 k.kind, .string k.name]
 have hk' : (k.kind == 1) = false := beq_eq_false_iff_ne.2 hk
 have hA : Hid (M.agree p a b k = (if (M.find p a k.name).2 = 1 ∧ (M.find p b k.name).2 = 1 then decide ((M.find p a k.name).1 = (M.find p b k.name).1)
  else decide ((M.find p a k.name).2 ≠ 1) && decide ((M.find p b k.name).2 ≠ 1))) := hid (by unfold M.agree; rw [hk']; rfl)
 clear hk
 go_enter Tryz.func28, Tryz.ntmps28
 go_wp2_with fail
 refine (lodge_find _ _ _ H.out _ _).mono ?_
 rintro e w1 ⟨rfl, hB⟩
 have b71 := b7.ext hB
 have k0 := b71.c 1 (.string k.name) rfl
 have hz1 := b71.lt
 have H1 := hid (H.out.ext hB)
 generalize M.find p a k.name = F1 at *
 obtain ⟨⟨fk1, fn1⟩, c1⟩ := F1
 simp only at *
 go_wp2_with fail
 refine (lodge_find _ _ _ (H1.out.ext ((Kp.refl _ _).alloc _)) _ _).mono ?_
 rintro e w2 ⟨rfl, hB2⟩
 have b9 := (Blk.new w1 76 #[.int .i64 fk1, .string fn1]).ext hB2
 have q0 := b9.c 0 (.int .i64 fk1) rfl
 have q1 := b9.c 1 (.string fn1) rfl
 have hz := b9.lt
 generalize M.find p b k.name = F2 at *
 obtain ⟨⟨fk2, fn2⟩, c2⟩ := F2
 simp only at *
 clear k0 b71 b7 b9 hz1
 by_cases h1 : c1 = 1
 · subst h1
   by_cases h2 : c2 = 1
   · subst h2
     rcases ref_cmp fk1 fk2 fn1 fn2 with ⟨rfl, rfl⟩ | ⟨rfl, hn1, hn2⟩ | ⟨hk1, hk2⟩
     · go_wp2
       go_ret
       exact ⟨ret_bool (by rw [hA.out]; simp), (by repeat (first | assumption | exact Kp.refl _ _ | apply Kp.alloc | apply Kp.drew | apply Kp.drewN | refine Kp.trans ?_ (by assumption)))⟩
     · have HN := hid hn2
       clear hn2
       go_wp2
       go_ret
       exact ⟨ret_bool (by rw [hA.out]; simp [HN.out]), (by repeat (first | assumption | exact Kp.refl _ _ | apply Kp.alloc | apply Kp.drew | apply Kp.drewN | refine Kp.trans ?_ (by assumption)))⟩
     · have HN := hid hk2
       clear hk2
       go_wp2
       go_ret
       exact ⟨ret_bool (by rw [hA.out]; simp [HN.out]), (by repeat (first | assumption | exact Kp.refl _ _ | apply Kp.alloc | apply Kp.drew | apply Kp.drewN | refine Kp.trans ?_ (by assumption)))⟩
   · have h2' : (c2 != 1) = true := bne_iff_ne.2 h2
     have HN := hid h2
     clear h2
     go_wp2
     go_ret
     exact ⟨ret_bool (by rw [hA.out]; simp [HN.out]), (by repeat (first | assumption | exact Kp.refl _ _ | apply Kp.alloc | apply Kp.drew | apply Kp.drewN | refine Kp.trans ?_ (by assumption)))⟩
 · have h1' : (c1 != 1) = true := bne_iff_ne.2 h1
   have HN := hid h1
   clear h1
   by_cases h2 : c2 = 1
   · subst h2
     go_wp2
     go_ret
     exact ⟨ret_bool (by rw [hA.out]; simp [HN.out]), (by repeat (first | assumption | exact Kp.refl _ _ | apply Kp.alloc | apply Kp.drew | apply Kp.drewN | refine Kp.trans ?_ (by assumption)))⟩
   · have h2' : (c2 != 1) = true := bne_iff_ne.2 h2
     have HN2 := hid h2
     clear h2
     go_wp2
     go_ret
     exact ⟨ret_bool (by rw [hA.out]; simp [HN.out, HN2.out]), (by repeat (first | assumption | exact Kp.refl _ _ | apply Kp.alloc | apply Kp.drew | apply Kp.drewN | refine Kp.trans ?_ (by assumption)))⟩
theorem lodge_agreeMethod (w : World) (l : Lodge) (p : M.Plan) (h : LodgeAt w l p) (a b : Int) (I : Nat → Prop) (cs : List Value) (m : M.Method) (hm : MethodL w I m cs) :
    Calls Tryz.prog 96 #[.pointer (some ⟨l.L, 0, none⟩), .int .i64 a, .int .i64 b, .agg cs.toArray] w fun e w' =>
     e = .returned (.bool (M.agreeMethod p a b m)) ∧ Ext w w' := by
 obtain ⟨va, vc, vm, rfl, s1, -, -⟩ := hm
 obtain ⟨a1, c1, rfl, hn, hcap⟩ := s1.form
 have hE0 : Ext w (w.alloc (.cells #[.string m.name, .slice a1 m.args.length c1, .int .i64 m.ret.kind, .string m.ret.name, .int .i64 m.locals, .int .i64 m.stack, vc, vm] 60)) := ((Kp.refl _ _).alloc _)
 have H0 := hid (h.ext hE0)
 clear h
 have P0 := hid (CellsAt.of_blk (Blk.new w 60 #[.string m.name, .slice a1 m.args.length c1, .int .i64 m.ret.kind, .string m.ret.name, .int .i64 m.locals, .int .i64 m.stack, vc, vm]) _ rfl)
 go_enter Tryz.func96, Tryz.ntmps96
 go_wp2
 generalize (w.alloc (.cells #[.string m.name, .slice a1 m.args.length c1, .int .i64 m.ret.kind, .string m.ret.name, .int .i64 m.locals, .int .i64 m.stack, vc, vm] 60)) = w0 at *
 go_loopw [14] (fun i wr => ∃ k : Nat, k ≤ m.args.length ∧ i = .int .i64 k ∧ Ext w0 wr ∧ Hid ((m.args.take k).all (M.agree p a b) = true)) (fun i _ => m.args.length - (intOf i).toNat)
 case atStart => exact ⟨0, Nat.zero_le _, rfl, Kp.refl _ _, hid (by simp)⟩
 case round =>
  obtain ⟨k, hk, rfl, hE, HA⟩ := hrel
  by_cases hlt : k < m.args.length
  · obtain ⟨x, hx⟩ := get_some hlt
    obtain ⟨b', off, cs, rfl, hI, rfl, -, hc⟩ := s1.get hx
    obtain ⟨g0, g1⟩ := ((hc.ext hE0).ext hE).two
    have HX := hid hx
    have HL := hid (H0.out.ext (hE.alloc (.cells #[.int .i64 x.kind, .string x.name] 55)))
    clear hx hc
    cases ht : M.agree p a b x
    all_goals
     have HT := hid ht
     clear ht
     go_wp2_with fail
     refine (lodge_agree _ _ _ HL.out _ _ _).mono ?_
     rintro e w1 ⟨rfl, hB⟩
     rw [HT.out]
     go_wp2
    · go_ret
      exact ⟨ret_bool (by unfold M.agreeMethod; rw [all_no HX.out HT.out]; rfl), (by repeat (first | assumption | exact Kp.refl _ _ | apply Kp.alloc | apply Kp.drew | apply Kp.drewN | refine Kp.trans ?_ (by assumption)))⟩
    · go_roundw
      case rel => exact ⟨k + 1, by omega, by go_num, (by repeat (first | assumption | exact Kp.refl _ _ | apply Kp.alloc | apply Kp.drew | apply Kp.drewN | refine Kp.trans ?_ (by assumption))), hid (all_succ HA.out HX.out HT.out)⟩
      case measure => simp [intOf]; omega
  · have HM : Hid (M.agreeMethod p a b m = M.agree p a b m.ret) := hid (by unfold M.agreeMethod; rw [all_end HA.out (by omega)]; rfl)
    have P1 := hid (P0.out.ext hE)
    obtain ⟨p0, p1, p2, p3, p4, p5, p6, p7⟩ := P1.out.eight
    simp only [Nat.zero_add] at p1 p2 p3 p4 p5 p6 p7
    go_wp2_with fail
    refine (lodge_agree _ _ _ (H0.out.ext hE) _ _ m.ret).mono ?_
    rintro e w1 ⟨rfl, hB⟩
    go_wp2
    go_ret
    exact ⟨ret_bool HM.out.symm, (by repeat (first | assumption | exact Kp.refl _ _ | apply Kp.alloc | apply Kp.drew | apply Kp.drewN | refine Kp.trans ?_ (by assumption)))⟩
def ixI (o : Option Nat) : Int := o.elim (-1) fun n => n
theorem findIdx_hit {α : Type} {f : α → Bool} {l : List α} {k : Nat} {x : α} (h : ∀ y ∈ l.take k, f y = false) (hx : l[k]? = some x) (hf : f x = true) : l.findIdx? f = some k := by
 obtain ⟨hk, hxe⟩ := List.getElem?_eq_some_iff.1 hx
 rw [List.findIdx?_eq_some_iff_getElem]
 refine ⟨hk, by rw [hxe]; exact hf, fun j hj => ?_⟩
 have := h l[j] (by rw [List.mem_iff_getElem?]; exact ⟨j, by rw [List.getElem?_take, if_pos hj]; exact List.getElem?_eq_getElem _⟩)
 rw [this]; decide
theorem findIdx_miss {α : Type} {f : α → Bool} {l : List α} {k : Nat} (h : ∀ y ∈ l.take k, f y = false) (hk : l.length ≤ k) : l.findIdx? f = none := by
 rw [List.take_of_length_le hk] at h
 rw [List.findIdx?_eq_none_iff]
 exact h
theorem take_succ_no {α : Type} {f : α → Bool} {l : List α} {k : Nat} {x : α} (h : ∀ y ∈ l.take k, f y = false) (hx : l[k]? = some x) (hf : f x = false) : ∀ y ∈ l.take (k + 1), f y = false := by
 intro y hy
 rw [List.take_add_one, hx] at hy
 rcases List.mem_append.1 hy with h' | h'
 · exact h y h'
 · simp at h'; subst h'; exact hf
theorem methodAt1 (w : World) (I : Nat → Prop) (cs : List Value) (m : M.Method) (hm : MethodL w I m cs) (b : Nat) (n : ByteArray) (hb : w.cell? ⟨b, 0, none⟩ = some (.string n)) :
    Calls Tryz.prog 135 #[.agg cs.toArray, .pointer (some ⟨b, 0, none⟩)] w fun e w' => e = .returned (.bool (decide (m.name = n))) ∧ Ext w w' := by
 obtain ⟨va, vc, vm, rfl, -, -, -⟩ := hm
 have hz := cell_lt hb
 go_enter Tryz.func135, Tryz.ntmps135
 go_wp2
 go_ret
 exact ⟨ret_bool (beq_names _ _), (KX.k (by repeat (first | assumption | constructor)))⟩
theorem fieldAt1 (w : World) (f : M.Field) (b : Nat) (n : ByteArray) (hb : w.cell? ⟨b, 0, none⟩ = some (.string n)) :
    Calls Tryz.prog 139 #[.agg #[.string f.name, .int .i64 f.kind.kind, .string f.kind.name], .pointer (some ⟨b, 0, none⟩)] w fun e w' => e = .returned (.bool (decide (f.name = n))) ∧ Ext w w' := by
 have hz := cell_lt hb
 go_enter Tryz.func139, Tryz.ntmps139
 go_wp2
 go_ret
 exact ⟨ret_bool (beq_names _ _), (KX.k (by repeat (first | assumption | constructor)))⟩
theorem ix_method (w : World) (I : Nat → Prop) (v : Value) (l : List M.Method) (h : SliceOf 8 MethodL w I v l) (b : Nat) (n : ByteArray) (hb : w.cell? ⟨b, 0, none⟩ = some (.string n)) :
    Calls Tryz.prog 134 #[v, .func (.func 135) #[] #[.pointer (some ⟨b, 0, none⟩)]] w fun e w' =>
     e = .returned (.int .i64 (ixI (l.findIdx? fun m => decide (m.name = n)))) ∧ Ext w w' := by
 obtain ⟨a, cap, rfl, hn, hcap⟩ := h.form
 go_enter Tryz.func134, Tryz.ntmps134
 go_wp2
 go_loopw [8] (fun i wr => ∃ k : Nat, k ≤ l.length ∧ i = .int .i64 k ∧ Ext w wr ∧ Hid (∀ y ∈ l.take k, decide (M.Method.name y = n) = false)) (fun i _ => l.length - (intOf i).toNat)
 case atStart => exact ⟨0, Nat.zero_le _, rfl, Kp.refl _ _, hid (by simp)⟩
 case round =>
  obtain ⟨k, hk, rfl, hE, HA⟩ := hrel
  by_cases hlt : k < l.length
  · obtain ⟨x, hx⟩ := get_some hlt
    obtain ⟨b', off, cs, rfl, hI, hml, -, hc⟩ := h.get hx
    have HM := hid (MethodL.stays _ _ _ _ _ _ hE.same (fun _ h => h) hml)
    obtain ⟨va, vc, vm, rfl, -, -, -⟩ := hml
    obtain ⟨g0, g1, g2, g3, g4, g5, g6, g7⟩ := (hc.ext hE).eight
    have hbr := hE.cellE hb
    have HX := hid hx
    clear hx hc
    cases ht : decide (x.name = n)
    all_goals
     have HT := hid ht
     clear ht
     go_wp2_with (go_at_call 135; refine (methodAt1 _ _ _ _ HM.out _ _ hbr).mono ?_; rintro e w1 ⟨rfl, hB⟩; rw [HT.out])
    · go_roundw
      case rel => exact ⟨k + 1, by omega, by go_num, (by repeat (first | assumption | exact Kp.refl _ _ | apply Kp.alloc | apply Kp.drew | apply Kp.drewN | refine Kp.trans ?_ (by assumption))), hid (take_succ_no HA.out HX.out HT.out)⟩
      case measure => simp [intOf]; omega
    · go_ret
      exact ⟨by rw [findIdx_hit HA.out HX.out HT.out]; rfl, (by repeat (first | assumption | exact Kp.refl _ _ | apply Kp.alloc | apply Kp.drew | apply Kp.drewN | refine Kp.trans ?_ (by assumption)))⟩
  · go_wp2
    go_ret
    exact ⟨by rw [findIdx_miss HA.out (by omega)]; rfl, (KX.k (by repeat (first | assumption | constructor)))⟩
theorem ix_field (w : World) (I : Nat → Prop) (v : Value) (l : List M.Field) (h : SliceOf 3 FieldL w I v l) (b : Nat) (n : ByteArray) (hb : w.cell? ⟨b, 0, none⟩ = some (.string n)) :
    Calls Tryz.prog 138 #[v, .func (.func 139) #[] #[.pointer (some ⟨b, 0, none⟩)]] w fun e w' =>
     e = .returned (.int .i64 (ixI (l.findIdx? fun m => decide (M.Field.name m = n)))) ∧ Ext w w' := by
 obtain ⟨a, cap, rfl, hn, hcap⟩ := h.form
 go_enter Tryz.func138, Tryz.ntmps138
 go_wp2
 go_loopw [8] (fun i wr => ∃ k : Nat, k ≤ l.length ∧ i = .int .i64 k ∧ Ext w wr ∧ Hid (∀ y ∈ l.take k, decide (M.Field.name y = n) = false)) (fun i _ => l.length - (intOf i).toNat)
 case atStart => exact ⟨0, Nat.zero_le _, rfl, Kp.refl _ _, hid (by simp)⟩
 case round =>
  obtain ⟨k, hk, rfl, hE, HA⟩ := hrel
  by_cases hlt : k < l.length
  · obtain ⟨x, hx⟩ := get_some hlt
    obtain ⟨b', off, cs, rfl, hI, rfl, -, hc⟩ := h.get hx
    obtain ⟨g0, g1, g2⟩ := (hc.ext hE).three
    have hbr := hE.cellE hb
    have HX := hid hx
    clear hx hc
    cases ht : decide (x.name = n)
    all_goals
     have HT := hid ht
     clear ht
     go_wp2_with (go_at_call 139; refine (fieldAt1 _ _ _ _ hbr).mono ?_; rintro e w1 ⟨rfl, hB⟩; rw [HT.out])
    · go_roundw
      case rel => exact ⟨k + 1, by omega, by go_num, (by repeat (first | assumption | exact Kp.refl _ _ | apply Kp.alloc | apply Kp.drew | apply Kp.drewN | refine Kp.trans ?_ (by assumption))), hid (take_succ_no HA.out HX.out HT.out)⟩
      case measure => simp [intOf]; omega
    · go_ret
      exact ⟨by rw [findIdx_hit HA.out HX.out HT.out]; rfl, (by repeat (first | assumption | exact Kp.refl _ _ | apply Kp.alloc | apply Kp.drew | apply Kp.drewN | refine Kp.trans ?_ (by assumption)))⟩
  · go_wp2
    go_ret
    exact ⟨by rw [findIdx_miss HA.out (by omega)]; rfl, (KX.k (by repeat (first | assumption | constructor)))⟩
theorem method_at (w : World) (I : Nat → Prop) (cs : List Value) (c : M.Class) (h : ClassL w I c cs) (n : ByteArray) :
    Calls Tryz.prog 109 #[.agg cs.toArray, .string n] w fun e w' => e = .returned (.int .i64 (ixI (M.methodIx c n))) ∧ Ext w w' := by
 obtain ⟨vf, vm, rfl, s1, s2⟩ := h
 have hE0 : Ext w ((w.alloc (.cells #[.string c.name, .string c.super, vf, vm] 50)).alloc (.cells #[.string n] 9)) := (KX.k (by repeat (first | assumption | constructor)))
 have b1 := (Blk.new (w.alloc (.cells #[.string c.name, .string c.super, vf, vm] 50)) 9 #[.string n]).c 0 (.string n) rfl
 simp only [World.size_alloc] at b1
 go_enter Tryz.func109, Tryz.ntmps109
 go_wp2_with fail
 refine (ix_method _ _ _ _ (s2.ext MethodL.stays hE0) _ _ b1).mono ?_
 rintro e w1 ⟨rfl, hB⟩
 go_wp2
 go_ret
 exact ⟨rfl, (by repeat (first | assumption | exact Kp.refl _ _ | apply Kp.alloc | apply Kp.drew | apply Kp.drewN | refine Kp.trans ?_ (by assumption)))⟩
theorem field_at (w : World) (I : Nat → Prop) (cs : List Value) (c : M.Class) (h : ClassL w I c cs) (n : ByteArray) :
    Calls Tryz.prog 113 #[.agg cs.toArray, .string n] w fun e w' => e = .returned (.int .i64 (ixI (M.fieldIx c n))) ∧ Ext w w' := by
 obtain ⟨vf, vm, rfl, s1, s2⟩ := h
 have hE0 : Ext w ((w.alloc (.cells #[.string c.name, .string c.super, vf, vm] 50)).alloc (.cells #[.string n] 9)) := (KX.k (by repeat (first | assumption | constructor)))
 have b1 := (Blk.new (w.alloc (.cells #[.string c.name, .string c.super, vf, vm] 50)) 9 #[.string n]).c 0 (.string n) rfl
 simp only [World.size_alloc] at b1
 go_enter Tryz.func113, Tryz.ntmps113
 go_wp2_with fail
 refine (ix_field _ _ _ _ (s1.ext FieldL.stays hE0) _ _ b1).mono ?_
 rintro e w1 ⟨rfl, hB⟩
 go_wp2
 go_ret
 exact ⟨rfl, (by repeat (first | assumption | exact Kp.refl _ _ | apply Kp.alloc | apply Kp.drew | apply Kp.drewN | refine Kp.trans ?_ (by assumption)))⟩
theorem eq_of_take {α : Type} {a b : List α} (hl : a.length = b.length) {k : Nat} (h : ∀ j x y, j < k → a[j]? = some x → b[j]? = some y → x = y) (hk : a.length ≤ k) : a = b := by
 apply List.ext_getElem? ; intro j
 by_cases hj : j < a.length
 · have h1 := List.getElem?_eq_getElem hj
   have h2 : b[j]? = some b[j] := List.getElem?_eq_getElem (by omega)
   rw [h1, h2, h j _ _ (by omega) h1 h2]
 · rw [List.getElem?_eq_none (by omega), List.getElem?_eq_none (by omega)]
theorem kinds_equal (w : World) (I J : Nat → Prop) (v u : Value) (l m : List M.Kind) (h : SliceOf 2 KindL w I v l) (h' : SliceOf 2 KindL w J u m) :
    Calls Tryz.prog 114 #[v, u] w fun e w' => e = .returned (.bool (decide (l = m))) ∧ Ext w w' := by
 obtain ⟨a, cap, rfl, hn, hcap⟩ := h.form
 obtain ⟨a', cap', rfl, hn', hcap'⟩ := h'.form
 by_cases hl : l.length = m.length
 · have HL := hid hl
   have hl' : (l.length : Int) = m.length := by omega
   clear hl
   go_enter Tryz.func114, Tryz.ntmps114
   go_wp2
   go_loopw [13] (fun i wr => ∃ k : Nat, k ≤ l.length ∧ i = .int .i64 k ∧ Ext w wr ∧ Hid (∀ j x y, j < k → l[j]? = some x → m[j]? = some y → x = y)) (fun i _ => l.length - (intOf i).toNat)
   case atStart => exact ⟨0, Nat.zero_le _, rfl, Kp.refl _ _, hid (by omega)⟩
   case round =>
    obtain ⟨k, hk, rfl, hE, HA⟩ := hrel
    by_cases hlt : k < l.length
    · have hlt' : k < m.length := by rw [← HL.out]; exact hlt
      obtain ⟨x, hx⟩ := get_some hlt
      obtain ⟨y, hy⟩ := get_some hlt'
      obtain ⟨b, off, cs, rfl, hI, rfl, -, hc⟩ := h.get hx
      obtain ⟨b', off', cs', rfl, hI', rfl, -, hc'⟩ := h'.get hy
      obtain ⟨g0, g1⟩ := (hc.ext hE).two
      obtain ⟨q0, q1⟩ := (hc'.ext hE).two
      have HX := hid hx
      have HY := hid hy
      clear hx hc hy hc'
      obtain ⟨xk, xn⟩ := x
      obtain ⟨yk, yn⟩ := y
      simp only at *
      rcases ref_cmp xk yk xn yn with ⟨rfl, rfl⟩ | ⟨rfl, hn1, hn2⟩ | ⟨hk1, hk2⟩
      · go_wp2_with (first | (go_region_with (fail)) | fail)
        all_goals
         go_roundw
         case rel =>
          refine ⟨k + 1, by omega, by go_num, (KX.k (by repeat (first | assumption | constructor))), hid (fun j x y hj h1 h2 => ?_)⟩
          by_cases hjk : j = k
          · subst hjk
            exact Option.some.inj ((h1.symm.trans HX.out).trans (HY.out.symm.trans h2))
          · exact HA.out j x y (by omega) h1 h2
         case measure => simp [intOf]; omega
      · have HN : Hid (decide (l = m) = false) := hid (decide_eq_false (fun h => hn2 (by
         subst h
         exact congrArg M.Kind.name (Option.some.inj (HX.out.symm.trans HY.out)))))
        clear hn2
        go_wp2_with (first | (go_region_with (fail)) | fail)
        all_goals
         go_ret
         exact ⟨ret_bool HN.out.symm, (KX.k (by repeat (first | assumption | constructor)))⟩
      · have HN : Hid (decide (l = m) = false) := hid (decide_eq_false (fun h => hk2 (by
         subst h
         exact congrArg M.Kind.kind (Option.some.inj (HX.out.symm.trans HY.out)))))
        clear hk2
        go_wp2_with (first | (go_region_with (fail)) | fail)
        all_goals
         go_ret
         exact ⟨ret_bool HN.out.symm, (KX.k (by repeat (first | assumption | constructor)))⟩
    · go_wp2
      go_ret
      exact ⟨ret_bool (decide_eq_true (eq_of_take HL.out HA.out (by omega))).symm, (KX.k (by repeat (first | assumption | constructor)))⟩
 · have hl' : ((l.length : Int) == m.length) = false := beq_eq_false_iff_ne.2 (by omega)
   go_enter Tryz.func114, Tryz.ntmps114
   go_wp2
   go_ret
   exact ⟨ret_bool (decide_eq_false (fun h => hl (congrArg List.length h))).symm, (KX.k (by repeat (first | assumption | constructor)))⟩
theorem CellsAt.mk4 {w : World} {b : Nat} {x y z u : Value} (h0 : w.cell? ⟨b, 0, none⟩ = some x) (h1 : w.cell? ⟨b, 1, none⟩ = some y) (h2 : w.cell? ⟨b, 2, none⟩ = some z) (h3 : w.cell? ⟨b, 3, none⟩ = some u) : CellsAt w b 0 [x, y, z, u] := by
 intro j v hj
 rw [Nat.zero_add]
 match j, hj with
 | 0, hj => cases hj; exact h0
 | 1, hj => cases hj; exact h1
 | 2, hj => cases hj; exact h2
 | 3, hj => cases hj; exact h3
theorem CellsAt.get4 {w : World} {b : Nat} {x y z u : Value} (h : CellsAt w b 0 [x, y, z, u]) : w.cell? ⟨b, 0, none⟩ = some x ∧ w.cell? ⟨b, 1, none⟩ = some y ∧ w.cell? ⟨b, 2, none⟩ = some z ∧ w.cell? ⟨b, 3, none⟩ = some u := h.four
theorem Stays.ext {α : Type} {R : Lies α} (hR : Stays R) {w w' : World} {I : Nat → Prop} {x : α} {cs : List Value} (hE : Ext w w') (h : R w I x cs) : R w' I x cs := hR _ _ _ _ _ _ (Ext.same hE) (fun _ h => h) h
theorem Stays.kp {α : Type} {R : Lies α} (hR : Stays R) {D : Nat → Prop} {w w' : World} {I : Nat → Prop} {x : α} {cs : List Value} (hE : Kp D w w') (hI : ∀ b, I b → ¬ D b) (h : R w I x cs) : R w' I x cs := hR _ _ _ _ _ _ (Kp.same hE hI) (fun _ h => h) h
theorem MethodL.args {w : World} {I : Nat → Prop} {x : M.Method} {a va b c d e vc vm : Value} (h : MethodL w I x [a, va, b, c, d, e, vc, vm]) : SliceOf 2 KindL w I va x.args := by
 obtain ⟨va', vc', vm', he, h1, -, -⟩ := h
 simp only [List.cons.injEq, and_true, true_and] at he
 obtain ⟨-, rfl, -⟩ := he
 exact h1
theorem find_of_ix {α : Type} {f : α → Bool} {l : List α} {o : Option Nat} (h : l.findIdx? f = o) : l.find? f = o.bind (l[·]?) := by
 subst h
 induction l with
 | nil => rfl
 | cons x r ih =>
  rw [List.find?_cons, List.findIdx?_cons]
  cases hx : f x
  · rw [ih]
    cases r.findIdx? f <;> simp
  · simp
set_option maxHeartbeats 20000000 in
theorem lodge_pairLaid (w : World) (l : Lodge) (p : M.Plan) (h : LodgeAt w l p) (low high : M.Ref) (c d : M.Class) (hlow : M.cls? p low = some c) (hhigh : M.cls? p high = some d) :
    Calls Tryz.prog 99 #[.pointer (some ⟨l.L, 0, none⟩), .agg #[.int .i64 low.keeper, .string low.name], .agg #[.int .i64 high.keeper, .string high.name]] w fun e w' =>
     e = .returned (.bool (M.pairLaid p low high)) ∧ Ext w w' := by
 have hE0 : Ext w ((w.alloc (.cells #[.int .i64 low.keeper, .string low.name] 76)).alloc (.cells #[.int .i64 high.keeper, .string high.name] 76)) := (by repeat (first | with_reducible exact Kp.refl _ _ | with_reducible assumption | with_reducible refine Kp.alloc ?_ _ | with_reducible refine Kp.drew ?_ | with_reducible refine Kp.drewN ?_ _ | with_reducible refine Kp.setCell ?_ (fun h => absurd h (by simp <;> omega)) _ | with_reducible refine Kp.trans ?_ (by with_reducible assumption) | exact Kp.refl _ _ | assumption | refine Kp.alloc ?_ _ | refine Kp.drew ?_ | refine Kp.drewN ?_ _ | (refine Kp.setCell ?_ (fun h => absurd h (by simp; done)) _) | (refine Kp.setCell ?_ (fun h => absurd h (by simp; omega)) _) | refine Kp.trans ?_ (by assumption)))
 have H := hid (h.ext hE0)
 clear h
 have b4 := (Blk.new w 76 #[.int .i64 low.keeper, .string low.name]).ext ((Kp.refl _ _).alloc (.cells #[.int .i64 high.keeper, .string high.name] 76))
 have b5 := Blk.new (w.alloc (.cells #[.int .i64 low.keeper, .string low.name] 76)) 76 #[.int .i64 high.keeper, .string high.name]
 simp only [World.size_alloc] at b5
 have HC := hid (And.intro hlow hhigh)
 clear hlow hhigh
 go_enter Tryz.func99, Tryz.ntmps99
 go_upto_region 1 with (fail)
 generalize ((w.alloc (.cells #[.int .i64 low.keeper, .string low.name] 76)).alloc (.cells #[.int .i64 high.keeper, .string high.name] 76)) = w0 at *
 go_cut [7, 8] (fun s7 s8 wx => ∃ b7 b8 vf vm uf um, s7 = .pointer (some ⟨b7, 0, none⟩) ∧ s8 = .pointer (some ⟨b8, 0, none⟩) ∧ CellsAt wx b7 0 [.string c.name, .string c.super, vf, vm] ∧
  CellsAt wx b8 0 [.string d.name, .string d.super, uf, um] ∧ ClassL wx (· < l.O) c [.string c.name, .string c.super, vf, vm] ∧ ClassL wx (· < l.O) d [.string d.name, .string d.super, uf, um] ∧ Ext w0 wx)
 case first =>
  have p0 := b4.c 0 (.int .i64 low.keeper) rfl
  have p1 := b4.c 1 (.string low.name) rfl
  have q0 := b5.c 0 (.int .i64 high.keeper) rfl
  have q1 := b5.c 1 (.string high.name) rfl
  clear b4 b5
  have hS : ∀ W, Ext w0 W → (Ext w0 W ∧ W.cell? ⟨w.heap.size, 0, none⟩ = some (.int .i64 low.keeper) ∧ W.cell? ⟨w.heap.size, 1, none⟩ = some (.string low.name) ∧ W.cell? ⟨w.heap.size + 1, 0, none⟩ = some (.int .i64 high.keeper) ∧ W.cell? ⟨w.heap.size + 1, 1, none⟩ = some (.string high.name)) :=
   fun W hW => ⟨hW, hW.cellE p0, hW.cellE p1, hW.cellE q0, hW.cellE q1⟩
  have HS := hid hS
  have hOz : l.O ≤ w0.heap.size := by have := H.out.lt; have := H.out.ord; omega
  clear hS
  go_region_held3 (fun W => Ext w0 W ∧ W.cell? ⟨w.heap.size, 0, none⟩ = some (.int .i64 low.keeper) ∧ W.cell? ⟨w.heap.size, 1, none⟩ = some (.string low.name) ∧ W.cell? ⟨w.heap.size + 1, 0, none⟩ = some (.int .i64 high.keeper) ∧ W.cell? ⟨w.heap.size + 1, 1, none⟩ = some (.string high.name))
   ((refine HS.out _ ?_; repeat (first | with_reducible exact Kp.refl _ _ | with_reducible assumption | with_reducible refine Kp.alloc ?_ _ | with_reducible refine Kp.drew ?_ | with_reducible refine Kp.drewN ?_ _ | with_reducible refine Kp.setCell ?_ (fun h => absurd h (by simp <;> omega)) _ | with_reducible refine Kp.trans ?_ (by with_reducible assumption))))
   (first | (go_at_call 39; first | (have hB_ := hB; clear hB_; refine (lodge_class _ l p (H.out.ext (by repeat (first | with_reducible exact Kp.refl _ _ | with_reducible assumption | with_reducible refine Kp.alloc ?_ _ | with_reducible refine Kp.drew ?_ | with_reducible refine Kp.drewN ?_ _ | with_reducible refine Kp.setCell ?_ (fun h => absurd h (by simp <;> omega)) _ | with_reducible refine Kp.trans ?_ (by with_reducible assumption) | exact Kp.refl _ _ | assumption | refine Kp.alloc ?_ _ | refine Kp.drew ?_ | refine Kp.drewN ?_ _ | (refine Kp.setCell ?_ (fun h => absurd h (by simp; done)) _) | (refine Kp.setCell ?_ (fun h => absurd h (by simp; omega)) _) | refine Kp.trans ?_ (by assumption)))) high.keeper high.name d HC.out.2).mono ?_; rintro e w2 ⟨⟨cs', hcl', rfl⟩, hB'⟩; obtain ⟨y1', z1', y2', z2', rfl⟩ := hcl'.form; have hz2 := hB'.size; obtain ⟨hb2, hf2⟩ := bcell hB'; (have hq9 : w1.heap.size ≤ w2.heap.size := by have := hB'.size; (try simp at this); omega); (try have hq3 : w0.heap.size < w2.heap.size := by have := hB'.size; (try simp at this); omega); (try have hq4 : w0.heap.size + 1 < w2.heap.size := by have := hB'.size; (try simp at this); omega); (try have hq5 : w1.heap.size < w2.heap.size := by have := hB'.size; (try simp at this); omega); (try have hq6 : w1.heap.size + 1 < w2.heap.size := by have := hB'.size; (try simp at this); omega)) | (refine (lodge_class _ l p (H.out.ext (by repeat (first | with_reducible exact Kp.refl _ _ | with_reducible assumption | with_reducible refine Kp.alloc ?_ _ | with_reducible refine Kp.drew ?_ | with_reducible refine Kp.drewN ?_ _ | with_reducible refine Kp.setCell ?_ (fun h => absurd h (by simp <;> omega)) _ | with_reducible refine Kp.trans ?_ (by with_reducible assumption) | exact Kp.refl _ _ | assumption | refine Kp.alloc ?_ _ | refine Kp.drew ?_ | refine Kp.drewN ?_ _ | (refine Kp.setCell ?_ (fun h => absurd h (by simp; done)) _) | (refine Kp.setCell ?_ (fun h => absurd h (by simp; omega)) _) | refine Kp.trans ?_ (by assumption)))) low.keeper low.name c HC.out.1).mono ?_; rintro e w1 ⟨⟨cs, hcl, rfl⟩, hB⟩; obtain ⟨y1, z1, y2, z2, rfl⟩ := hcl.form; have hz1 := hB.size; obtain ⟨hb1, hf1⟩ := bcell hB; (have hq0 : w0.heap.size ≤ w1.heap.size := by have := hB.size; (try simp at this); omega); (try have hq1 : w0.heap.size < w1.heap.size := by have := hB.size; (try simp at this); omega); (try have hq2 : w0.heap.size + 1 < w1.heap.size := by have := hB.size; (try simp at this); omega))))
  all_goals (go_wp2_with fail)
  all_goals
   go_meet
   refine ⟨_, _, .slice y1 c.fields.length z1, .slice y2 c.methods.length z2, .slice y1' d.fields.length z1', .slice y2' d.methods.length z2', rfl, rfl, CellsAt.mk4 (by (try simp [go_sem, *]) <;> refine World.cell?_setCell_same' _ _ _ (by simp [go_sem, *])) (by (try simp [go_sem, *]) <;> refine World.cell?_setCell_same' _ _ _ (by simp [go_sem, *])) (by (try simp [go_sem, *]) <;> refine World.cell?_setCell_same' _ _ _ (by simp [go_sem, *])) (by (try simp [go_sem, *]) <;> refine World.cell?_setCell_same' _ _ _ (by simp [go_sem, *])), CellsAt.mk4 (by (try simp [go_sem, *]) <;> refine World.cell?_setCell_same' _ _ _ (by simp [go_sem, *])) (by (try simp [go_sem, *]) <;> refine World.cell?_setCell_same' _ _ _ (by simp [go_sem, *])) (by (try simp [go_sem, *]) <;> refine World.cell?_setCell_same' _ _ _ (by simp [go_sem, *])) (by (try simp [go_sem, *]) <;> refine World.cell?_setCell_same' _ _ _ (by simp [go_sem, *])), Stays.kp (D := fun k => l.O ≤ k) ClassL.stays (by repeat (first | with_reducible exact Kp.refl _ _ | with_reducible refine Kp.alloc ?_ _ | with_reducible refine Kp.drew ?_ | with_reducible refine Kp.setCell ?_ (fun _ => by first | omega | (simp; done) | (simp; omega)) _ | with_reducible refine Kp.trans ?_ (Kp.any (by with_reducible assumption)))) (fun _ h h' => absurd h (Nat.not_lt_of_le h')) hcl, Stays.kp (D := fun k => l.O ≤ k) ClassL.stays (by repeat (first | with_reducible exact Kp.refl _ _ | with_reducible refine Kp.alloc ?_ _ | with_reducible refine Kp.drew ?_ | with_reducible refine Kp.setCell ?_ (fun _ => by first | omega | (simp; done) | (simp; omega)) _ | with_reducible refine Kp.trans ?_ (Kp.any (by with_reducible assumption)))) (fun _ h h' => absurd h (Nat.not_lt_of_le h')) hcl', (by repeat (first | with_reducible exact Kp.refl _ _ | with_reducible assumption | with_reducible refine Kp.alloc ?_ _ | with_reducible refine Kp.drew ?_ | with_reducible refine Kp.drewN ?_ _ | with_reducible refine Kp.setCell ?_ (fun h => absurd h (by simp <;> omega)) _ | with_reducible refine Kp.trans ?_ (by with_reducible assumption) | exact Kp.refl _ _ | assumption | refine Kp.alloc ?_ _ | refine Kp.drew ?_ | refine Kp.drewN ?_ _ | (refine Kp.setCell ?_ (fun h => absurd h (by simp; done)) _) | (refine Kp.setCell ?_ (fun h => absurd h (by simp; omega)) _) | refine Kp.trans ?_ (by assumption)))⟩
 case rest =>
  obtain ⟨b7, b8, vf, vm, uf, um, rfl, rfl, k7, k8, hc, hd, hE⟩ := hcut
  obtain ⟨vf', vm', he, sf, sm⟩ := hc
  simp only [List.cons.injEq, and_true, true_and] at he
  obtain ⟨rfl, rfl⟩ := he
  obtain ⟨fa, fc, rfl, hfn, hfm⟩ := sf.form
  obtain ⟨ma, mc, rfl, hmn, hmm⟩ := sm.form
  have HD := hid hd
  have HE := hid hE
  have HL : Hid (M.pairLaid p low high = (c.fields.all (fun f => (M.fieldIx d f.name).isNone) && c.methods.all (M.methodLaid p low high))) := hid (by
   unfold M.pairLaid M.cls; rw [HC.out.1, HC.out.2]; rfl)
  have HML : Hid (∀ m, M.methodLaid p low high m = match d.methods.find? (fun n => n.name = m.name) with
   | none => true
   | some n => decide (m.ret = n.ret) && decide (m.args = n.args) && M.agreeMethod p low.keeper high.keeper m) := hid (fun m => by
   unfold M.methodLaid M.cls; rw [HC.out.2]; rfl)
  have r7 := k7.get4.2.2.1
  have hE2 : Ext w wc := hE0.trans hE
  have j4 := b4.ext hE
  have j5 := b5.ext hE
  clear hd hE b4 b5 hE0
  go_wp2
  go_loopw [24] (fun i wr => ∃ k : Nat, k ≤ c.fields.length ∧ i = .int .i64 k ∧ Ext wc wr ∧ Hid ((c.fields.take k).all (fun f => (M.fieldIx d f.name).isNone) = true)) (fun i _ => c.fields.length - (intOf i).toNat)
  case atStart => exact ⟨0, Nat.zero_le _, rfl, Kp.refl _ _, hid (by simp)⟩
  case round =>
   obtain ⟨k, hk, rfl, hE, HA⟩ := hrel
   have k8r := k8.ext hE
   obtain ⟨s0, s1, s2, s3⟩ := k8r.get4
   have hz8 := cell_lt s0
   by_cases hlt : k < c.fields.length
   · obtain ⟨x, hx⟩ := get_some hlt
     obtain ⟨b, off, cs, rfl, hI, rfl, -, hcc⟩ := sf.get hx
     obtain ⟨g0, g1, g2⟩ := (hcc.ext hE).three
     have HX := hid hx
     have HDr := hid (Stays.ext ClassL.stays (hE.alloc (.cells #[.string x.name, .int .i64 x.kind.kind, .string x.kind.name] 70)) HD.out)
     clear hx hcc
     cases ht : M.fieldIx d x.name
     · have HT : Hid ((M.fieldIx d x.name).isNone = true) := hid (by rw [ht]; rfl)
       have HT2 := hid ht
       clear ht
       go_wp2_with (go_at_call 113; refine (field_at _ _ _ _ HDr.out _).mono ?_; rintro e w1 ⟨rfl, hB⟩; rw [HT2.out]; simp only [ixI, Option.elim])
       go_roundw
       case rel => exact ⟨k + 1, by omega, by go_num, (by repeat (first | with_reducible exact Kp.refl _ _ | with_reducible assumption | with_reducible refine Kp.alloc ?_ _ | with_reducible refine Kp.drew ?_ | with_reducible refine Kp.drewN ?_ _ | with_reducible refine Kp.setCell ?_ (fun h => absurd h (by simp <;> omega)) _ | with_reducible refine Kp.trans ?_ (by with_reducible assumption) | exact Kp.refl _ _ | assumption | refine Kp.alloc ?_ _ | refine Kp.drew ?_ | refine Kp.drewN ?_ _ | (refine Kp.setCell ?_ (fun h => absurd h (by simp; done)) _) | (refine Kp.setCell ?_ (fun h => absurd h (by simp; omega)) _) | refine Kp.trans ?_ (by assumption))), hid (all_succ HA.out HX.out HT.out)⟩
       case measure => simp [intOf]; omega
     · rename_i at_
       have HT : Hid ((M.fieldIx d x.name).isNone = false) := hid (by rw [ht]; rfl)
       have HT2 := hid ht
       clear ht
       go_wp2_with (go_at_call 113; refine (field_at _ _ _ _ HDr.out _).mono ?_; rintro e w1 ⟨rfl, hB⟩; rw [HT2.out]; simp only [ixI, Option.elim])
       go_ret
       exact ⟨ret_bool (by rw [HL.out, all_no HX.out HT.out]; rfl), (by repeat (first | with_reducible exact Kp.refl _ _ | with_reducible assumption | with_reducible refine Kp.alloc ?_ _ | with_reducible refine Kp.drew ?_ | with_reducible refine Kp.drewN ?_ _ | with_reducible refine Kp.setCell ?_ (fun h => absurd h (by simp <;> omega)) _ | with_reducible refine Kp.trans ?_ (by with_reducible assumption) | exact Kp.refl _ _ | assumption | refine Kp.alloc ?_ _ | refine Kp.drew ?_ | refine Kp.drewN ?_ _ | (refine Kp.setCell ?_ (fun h => absurd h (by simp; done)) _) | (refine Kp.setCell ?_ (fun h => absurd h (by simp; omega)) _) | refine Kp.trans ?_ (by assumption)))⟩
   · have HF := hid (all_end HA.out (by omega : c.fields.length ≤ k))
     have r7m := (k7.ext hE).get4.2.2.2
     clear s0 s1 s2 s3 k8r hz8
     have hEo : Ext w wr := hE2.trans hE
     have HDo := hid (Stays.ext ClassL.stays hE HD.out)
     have smo := sm.ext MethodL.stays hE
     have k8o := k8.ext hE
     have j4o := j4.ext hE
     have j5o := j5.ext hE
     have HLo := hid (H.out.ext (HE.out.trans hE))
     clear HA hE2 HE H HD sm sf k8 k7 hE hfn j4 j5 r7
     obtain ⟨wo, rfl⟩ : ∃ wo : World, wo = wr := ⟨_, rfl⟩
     go_wp2
     go_loopw [37] (fun i wr => ∃ k : Nat, k ≤ c.methods.length ∧ i = .int .i64 k ∧ Ext wo wr ∧ Hid ((c.methods.take k).all (M.methodLaid p low high) = true)) (fun i _ => c.methods.length - (intOf i).toNat)
     case atStart => exact ⟨0, Nat.zero_le _, rfl, Kp.refl _ _, hid (by simp)⟩
     case round =>
      obtain ⟨k, hk, rfl, hE, HA⟩ := hrel
      by_cases hlt : k < c.methods.length
      · obtain ⟨x, hx⟩ := get_some hlt
        obtain ⟨b, off, cs, rfl, hI, hml, -, hcc⟩ := smo.get hx
        have HX := hid hx
        have HMx := hid (Stays.ext MethodL.stays hE hml)
        obtain ⟨a1, c1, a2, c2, a3, c3, rfl⟩ := hml.form
        have ha := hml.args
        clear hml
        obtain ⟨g0, g1, g2, g3, g4, g5, g6, g7⟩ := (hcc.ext hE).eight
        have k8r := k8o.ext hE
        obtain ⟨s0, s1, s2, s3⟩ := k8r.get4
        have hz8 := cell_lt s0
        have HW := hid (hE.alloc (.cells #[.string x.name, .slice a1 x.args.length c1, .int .i64 x.ret.kind, .string x.ret.name, .int .i64 x.locals, .int .i64 x.stack, .slice a2 x.code.length c2, .slice a3 x.maps.length c3] 60))
        have HDr := hid (Stays.ext ClassL.stays HW.out HDo.out)
        clear hx hcc k8r
        cases ht : M.methodIx d x.name
        · have HT : Hid (M.methodLaid p low high x = true) := hid (by rw [HML.out, find_of_ix ht]; rfl)
          have HT2 := hid ht
          clear ht
          go_wp2_with (go_at_call 109; refine (method_at _ _ _ _ HDr.out _).mono ?_; rintro e w1 ⟨rfl, hB⟩; rw [HT2.out]; simp only [ixI, Option.elim])
          go_roundw
          case rel => exact ⟨k + 1, by omega, by go_num, (by repeat (first | with_reducible exact Kp.refl _ _ | with_reducible assumption | with_reducible refine Kp.alloc ?_ _ | with_reducible refine Kp.drew ?_ | with_reducible refine Kp.drewN ?_ _ | with_reducible refine Kp.setCell ?_ (fun h => absurd h (by simp <;> omega)) _ | with_reducible refine Kp.trans ?_ (by with_reducible assumption) | exact Kp.refl _ _ | assumption | refine Kp.alloc ?_ _ | refine Kp.drew ?_ | refine Kp.drewN ?_ _ | (refine Kp.setCell ?_ (fun h => absurd h (by simp; done)) _) | (refine Kp.setCell ?_ (fun h => absurd h (by simp; omega)) _) | refine Kp.trans ?_ (by assumption))), hid (all_succ HA.out HX.out HT.out)⟩
          case measure => simp [intOf]; omega
        · rename_i at_
          go_wp2_with fail
          refine (method_at _ _ _ _ HDr.out _).mono ?_
          rintro e w1 ⟨rfl, hB⟩
          rw [ht]
          simp only [ixI, Option.elim]
          have hat : at_ < d.methods.length := by
           have := List.findIdx?_eq_some_iff_getElem.1 ht
           exact this.1
          obtain ⟨y, hy⟩ := get_some hat
          have HT : Hid (M.methodLaid p low high x = (decide (x.ret = y.ret) && decide (x.args = y.args) && M.agreeMethod p low.keeper high.keeper x)) := hid (by
           rw [HML.out, find_of_ix ht]
           show (match d.methods[at_]? with | none => true | some n => _) = _
           rw [hy])
          have hDw := Stays.ext ClassL.stays hB HDr.out
          obtain ⟨uf', um', he, -, tm⟩ := hDw
          simp only [List.cons.injEq, and_true, true_and] at he
          obtain ⟨rfl, rfl⟩ := he
          obtain ⟨na, nc, rfl, hnn, -⟩ := tm.form
          obtain ⟨b', off', cs', rfl, hI', hml', -, hcc'⟩ := tm.get hy
          obtain ⟨a1', c1', a2', c2', a3', c3', rfl⟩ := hml'.form
          have ha' := hml'.args
          clear hml'
          obtain ⟨q0, q1, q2, q3, q4, q5, q6, q7⟩ := hcc'.eight
          have HAr := hid (And.intro (ha) ha')
          have hW1 := HW.out.trans hB
          have hB1 := hid (((Kp.refl _ wr).alloc (.cells #[.string x.name, .slice a1 x.args.length c1, .int .i64 x.ret.kind, .string x.ret.name, .int .i64 x.locals, .int .i64 x.stack, .slice a2 x.code.length c2, .slice a3 x.maps.length c3] 60) : Ext wr _).trans hB)
          have k8w := k8o.ext hW1
          have t3 := k8w.get4.2.2.2
          have hz8' := cell_lt t3
          have bm := (Blk.new wr 60 #[.string x.name, .slice a1 x.args.length c1, .int .i64 x.ret.kind, .string x.ret.name, .int .i64 x.locals, .int .i64 x.stack, .slice a2 x.code.length c2, .slice a3 x.maps.length c3]).ext hB
          have m0 := bm.c 0 _ rfl
          have m1 := bm.c 1 _ rfl
          have m2 := bm.c 2 _ rfl
          have m3 := bm.c 3 _ rfl
          have m4 := bm.c 4 _ rfl
          have m5 := bm.c 5 _ rfl
          have m6 := bm.c 6 _ rfl
          have m7 := bm.c 7 _ rfl
          have hzm := bm.lt
          clear hy hcc' tm ha ha' s0 s1 s2 s3 g0 g1 g2 g3 g4 g5 g6 g7 k8w ht bm
          have HAM := hid (Stays.ext MethodL.stays ((Kp.refl _ wr).alloc (.cells #[.string x.name, .slice a1 x.args.length c1, .int .i64 x.ret.kind, .string x.ret.name, .int .i64 x.locals, .int .i64 x.stack, .slice a2 x.code.length c2, .slice a3 x.maps.length c3] 60)) HMx.out |> Stays.ext MethodL.stays hB)
          have o0 := ((j4o.ext hW1).c 0 (.int .i64 low.keeper) rfl)
          have o1 := ((j5o.ext hW1).c 0 (.int .i64 high.keeper) rfl)
          have oz := (j5o.ext hW1).lt
          have HR : Hid (decide (x.ret = y.ret) = decide (x.ret.kind = y.ret.kind ∧ x.ret.name = y.ret.name)) := hid (decide_eq_decide.2 M.Kind.ext_iff')
          rcases ref_cmp x.ret.kind y.ret.kind x.ret.name y.ret.name with ⟨e1, e2⟩ | ⟨e1, hn1, hn2⟩ | ⟨hk1, hk2⟩
          · have e1' : (x.ret.kind == y.ret.kind) = true := beq_iff_eq.2 e1
            have e2' : (x.ret.name.toList == y.ret.name.toList) = true := by rw [e2]; simp
            have HR2 : Hid (M.methodLaid p low high x = (decide (x.args = y.args) && M.agreeMethod p low.keeper high.keeper x)) := hid (by rw [HT.out, HR.out]; simp [e1, e2])
            clear e1 e2
            cases hq : decide (x.args = y.args)
            · have HT' : Hid (M.methodLaid p low high x = false) := hid (by rw [HR2.out, hq]; rfl)
              have HQ := hid hq
              clear hq
              go_wp2_with fail
              refine (kinds_equal _ _ _ _ _ _ _ ((HAr.out.1.ext KindL.stays (hE.trans hB1.out)).ext KindL.stays ((Kp.refl _ _).alloc _)) (HAr.out.2.ext KindL.stays ((Kp.refl _ _).alloc _))).mono ?_
              rintro e w2 ⟨rfl, hB2⟩
              rw [HQ.out]
              go_wp2
              go_ret
              exact ⟨ret_bool (by rw [HL.out, all_no HX.out HT'.out]; simp), (by repeat (first | with_reducible exact Kp.refl _ _ | with_reducible assumption | with_reducible refine Kp.alloc ?_ _ | with_reducible refine Kp.drew ?_ | with_reducible refine Kp.drewN ?_ _ | with_reducible refine Kp.setCell ?_ (fun h => absurd h (by simp <;> omega)) _ | with_reducible refine Kp.trans ?_ (by with_reducible assumption) | exact Kp.refl _ _ | assumption | refine Kp.alloc ?_ _ | refine Kp.drew ?_ | refine Kp.drewN ?_ _ | (refine Kp.setCell ?_ (fun h => absurd h (by simp; done)) _) | (refine Kp.setCell ?_ (fun h => absurd h (by simp; omega)) _) | refine Kp.trans ?_ (by assumption)))⟩
            · have HR3 : Hid (M.methodLaid p low high x = M.agreeMethod p low.keeper high.keeper x) := hid (by rw [HR2.out, hq]; rfl)
              have HQ := hid hq
              clear hq
              go_wp2_with fail
              refine (kinds_equal _ _ _ _ _ _ _ ((HAr.out.1.ext KindL.stays (hE.trans hB1.out)).ext KindL.stays ((Kp.refl _ _).alloc _)) (HAr.out.2.ext KindL.stays ((Kp.refl _ _).alloc _))).mono ?_
              rintro e w2 ⟨rfl, hB2⟩
              rw [HQ.out]
              have hW2 := hid (((Kp.refl _ w1).alloc (.cells #[.string y.name, .slice a1' y.args.length c1', .int .i64 y.ret.kind, .string y.ret.name, .int .i64 y.locals, .int .i64 y.stack, .slice a2' y.code.length c2', .slice a3' y.maps.length c3'] 60) : Ext w1 _).trans hB2)
              have n0 := hW2.out.cellE m0
              have n1 := hW2.out.cellE m1
              have n2 := hW2.out.cellE m2
              have n3 := hW2.out.cellE m3
              have n4 := hW2.out.cellE m4
              have n5 := hW2.out.cellE m5
              have n6 := hW2.out.cellE m6
              have n7 := hW2.out.cellE m7
              have u0 := hW2.out.cellE o0
              have u1 := hW2.out.cellE o1
              have HM2 := hid (Stays.ext MethodL.stays hW2.out HAM.out)
              have HL2 := hid (HLo.out.ext (hW1.trans hW2.out))
              clear m0 m1 m2 m3 m4 m5 m6 m7 q0 q1 q2 q3 q4 q5 q6 q7 o0 o1 t3
              cases hm : M.agreeMethod p low.keeper high.keeper x
              all_goals
               have HAg := hid hm
               clear hm
               go_wp2_with fail
               refine (lodge_agreeMethod _ _ _ HL2.out _ _ _ _ _ HM2.out).mono ?_
               rintro e w3 ⟨rfl, hB3⟩
               rw [HAg.out]
               go_wp2
              · go_ret
                exact ⟨ret_bool (by rw [HL.out, all_no HX.out (HR3.out.trans HAg.out)]; simp), (by repeat (first | with_reducible exact Kp.refl _ _ | with_reducible assumption | with_reducible refine Kp.alloc ?_ _ | with_reducible refine Kp.drew ?_ | with_reducible refine Kp.drewN ?_ _ | with_reducible refine Kp.setCell ?_ (fun h => absurd h (by simp <;> omega)) _ | with_reducible refine Kp.trans ?_ (by with_reducible assumption) | exact Kp.refl _ _ | assumption | refine Kp.alloc ?_ _ | refine Kp.drew ?_ | refine Kp.drewN ?_ _ | (refine Kp.setCell ?_ (fun h => absurd h (by simp; done)) _) | (refine Kp.setCell ?_ (fun h => absurd h (by simp; omega)) _) | refine Kp.trans ?_ (by assumption)))⟩
              · go_roundw
                case rel => exact ⟨k + 1, by omega, by go_num, (by repeat (first | with_reducible exact Kp.refl _ _ | with_reducible assumption | with_reducible refine Kp.alloc ?_ _ | with_reducible refine Kp.drew ?_ | with_reducible refine Kp.drewN ?_ _ | with_reducible refine Kp.setCell ?_ (fun h => absurd h (by simp <;> omega)) _ | with_reducible refine Kp.trans ?_ (by with_reducible assumption) | exact Kp.refl _ _ | assumption | refine Kp.alloc ?_ _ | refine Kp.drew ?_ | refine Kp.drewN ?_ _ | (refine Kp.setCell ?_ (fun h => absurd h (by simp; done)) _) | (refine Kp.setCell ?_ (fun h => absurd h (by simp; omega)) _) | refine Kp.trans ?_ (by assumption))), hid (all_succ HA.out HX.out (HR3.out.trans HAg.out))⟩
                case measure => simp [intOf]; omega
          · have HT' : Hid (M.methodLaid p low high x = false) := hid (by rw [HT.out, HR.out]; simp [hn2])
            have e1' : (x.ret.kind == y.ret.kind) = true := beq_iff_eq.2 e1
            clear hn2 e1
            go_wp2
            go_ret
            exact ⟨ret_bool (by rw [HL.out, all_no HX.out HT'.out]; simp), (by repeat (first | with_reducible exact Kp.refl _ _ | with_reducible assumption | with_reducible refine Kp.alloc ?_ _ | with_reducible refine Kp.drew ?_ | with_reducible refine Kp.drewN ?_ _ | with_reducible refine Kp.setCell ?_ (fun h => absurd h (by simp <;> omega)) _ | with_reducible refine Kp.trans ?_ (by with_reducible assumption) | exact Kp.refl _ _ | assumption | refine Kp.alloc ?_ _ | refine Kp.drew ?_ | refine Kp.drewN ?_ _ | (refine Kp.setCell ?_ (fun h => absurd h (by simp; done)) _) | (refine Kp.setCell ?_ (fun h => absurd h (by simp; omega)) _) | refine Kp.trans ?_ (by assumption)))⟩
          · have HT' : Hid (M.methodLaid p low high x = false) := hid (by rw [HT.out, HR.out]; simp [hk2])
            clear hk2
            go_wp2
            go_ret
            exact ⟨ret_bool (by rw [HL.out, all_no HX.out HT'.out]; simp), (by repeat (first | with_reducible exact Kp.refl _ _ | with_reducible assumption | with_reducible refine Kp.alloc ?_ _ | with_reducible refine Kp.drew ?_ | with_reducible refine Kp.drewN ?_ _ | with_reducible refine Kp.setCell ?_ (fun h => absurd h (by simp <;> omega)) _ | with_reducible refine Kp.trans ?_ (by with_reducible assumption) | exact Kp.refl _ _ | assumption | refine Kp.alloc ?_ _ | refine Kp.drew ?_ | refine Kp.drewN ?_ _ | (refine Kp.setCell ?_ (fun h => absurd h (by simp; done)) _) | (refine Kp.setCell ?_ (fun h => absurd h (by simp; omega)) _) | refine Kp.trans ?_ (by assumption)))⟩
      · go_wp2
        go_ret
        exact ⟨ret_bool (by rw [HL.out, HF.out, all_end HA.out (by omega)]; rfl), (by repeat (first | with_reducible exact Kp.refl _ _ | with_reducible assumption | with_reducible refine Kp.alloc ?_ _ | with_reducible refine Kp.drew ?_ | with_reducible refine Kp.drewN ?_ _ | with_reducible refine Kp.setCell ?_ (fun h => absurd h (by simp <;> omega)) _ | with_reducible refine Kp.trans ?_ (by with_reducible assumption) | exact Kp.refl _ _ | assumption | refine Kp.alloc ?_ _ | refine Kp.drew ?_ | refine Kp.drewN ?_ _ | (refine Kp.setCell ?_ (fun h => absurd h (by simp; done)) _) | (refine Kp.setCell ?_ (fun h => absurd h (by simp; omega)) _) | refine Kp.trans ?_ (by assumption)))⟩
theorem SliceOf.drop {α : Type} {k : Nat} {R : Lies α} {w : World} {I : Nat → Prop} {b off n cap : Nat} {xs : List α} (h : SliceOf k R w I (.slice (some ⟨b, off, none⟩) n cap) xs) {i : Nat} (hi : i ≤ xs.length) :
    SliceOf k R w I (.slice (some ⟨b, off + i * k, none⟩) (xs.length - i) (cap - i)) (xs.drop i) := by
 obtain ⟨a', cap', e, h1, h2, h3⟩ := h
 cases e
 refine ⟨some ⟨b, off + i * k, none⟩, cap - i, by rw [List.length_drop], by rw [List.length_drop]; omega, by rw [List.length_drop]; omega, fun j x hx => ?_⟩
 rw [List.getElem?_drop] at hx
 obtain ⟨b', off', cs, ea, hI, hr, hl, hc⟩ := h3 _ x hx
 cases ea
 refine ⟨b, _, cs, rfl, hI, hr, hl, ?_⟩
 rw [Nat.add_assoc, ← Nat.add_mul]
 exact hc
theorem drop_get {α : Type} {xs : List α} {k : Nat} {x : α} (hx : xs[k]? = some x) : xs.drop k = x :: xs.drop (k + 1) := by
 obtain ⟨h, rfl⟩ := List.getElem?_eq_some_iff.1 hx
 exact List.drop_eq_getElem_cons h
theorem lodge_chainLaid (w : World) (l : Lodge) (p : M.Plan) (h : LodgeAt w l p) (I : Nat → Prop) (v : Value) (xs : List M.Ref) (hs : SliceOf 2 RefL w I v xs) (hown : ∀ r ∈ xs, ∃ c, M.cls? p r = some c) :
    Calls Tryz.prog 75 #[.pointer (some ⟨l.L, 0, none⟩), v] w fun e w' =>
     e = .returned (.bool (M.chainLaid p xs)) ∧ Ext w w' := by
 have H := hid h
 clear h
 have HO := hid hown
 clear hown
 obtain ⟨a, cap, rfl, hn, hcap⟩ := hs.form
 go_enter Tryz.func75, Tryz.ntmps75
 go_wp2
 go_loopw [11] (fun i wr => ∃ k : Nat, k ≤ xs.length ∧ i = .int .i64 k ∧ Ext w wr ∧ Hid (M.chainLaid p xs = M.chainLaid p (xs.drop k))) (fun i _ => xs.length - (intOf i).toNat)
 case atStart => exact ⟨0, Nat.zero_le _, rfl, Kp.refl _ _, hid rfl⟩
 case round =>
  obtain ⟨k, hk, rfl, hE, HA⟩ := hrel
  by_cases hlt : k < xs.length
  · obtain ⟨x, hx⟩ := get_some hlt
    obtain ⟨b, off, cs, rfl, hI, rfl, -, hc⟩ := hs.get hx
    obtain ⟨g0, g1⟩ := (hc.ext hE).two
    have HX := hid hx
    have hk1 : (0 : Int) ≤ (k : Int) + 1 := by omega
    have hk2 : (k : Int) + 1 ≤ xs.length := by omega
    have hk3 : (xs.length : Int) ≤ cap := by omega
    have HD : Hid (M.chainLaid p xs = ((xs.drop (k + 1)).all (M.pairLaid p x) && M.chainLaid p (xs.drop (k + 1)))) := hid (by
     rw [HA.out, drop_get hx]; rfl)
    obtain ⟨cx, hcx⟩ := HO.out x (List.mem_of_getElem? hx)
    have HCX := hid hcx
    clear hx hc hcx
    by_cases hcp : cap = k + 1
    · have hz : xs.length - (k + 1) = 0 := by omega
      have hnil : Hid (xs.drop (k + 1) = []) := hid (List.drop_eq_nil_of_le (by omega))
      go_wp2
      go_loopw [21] (fun i wi => i = .int .i64 0 ∧ Ext wr wi) (fun i _ => 0)
      case atStart => exact ⟨rfl, (KX.k (by repeat (first | assumption | constructor)))⟩
      case round =>
       obtain ⟨rfl, hEi⟩ := hrel
       go_wp2
       go_roundw
       case rel => exact ⟨k + 1, by omega, by go_num, (by repeat (first | assumption | exact Kp.refl _ _ | apply Kp.alloc | apply Kp.drew | apply Kp.drewN | refine Kp.trans ?_ (by assumption))), hid (by rw [HD.out, hnil.out]; rfl)⟩
       case measure => simp [intOf]; omega
    · have sd := hs.drop (i := k + 1) (by omega)
      have hlen : (xs.drop (k + 1)).length = xs.length - (k + 1) := List.length_drop
      have HY : Hid (∀ r ∈ xs.drop (k + 1), ∃ c, M.cls? p r = some c) := hid (fun r hr => HO.out r (List.mem_of_mem_drop hr))
      have HDr : Hid (M.chainLaid p xs = ((xs.drop (k + 1)).all (M.pairLaid p x) && M.chainLaid p (xs.drop (k + 1)))) := HD
      obtain ⟨wo, rfl⟩ : ∃ wo : World, wo = wr := ⟨_, rfl⟩
      go_wp2
      have bx := Blk.new wo 76 #[.int .i64 x.keeper, .string x.name]
      have hEw : Ext w (wo.alloc (.cells #[.int .i64 x.keeper, .string x.name] 76)) := (KX.k (by repeat (first | assumption | constructor)))
      have HLw := hid (H.out.ext hEw)
      have hsz : (wo.alloc (.cells #[.int .i64 x.keeper, .string x.name] 76)).heap.size = wo.heap.size + 1 := by simp
      go_loopw [21] (fun i wi => ∃ j : Nat, j ≤ xs.length - (k + 1) ∧ i = .int .i64 j ∧ Ext (wo.alloc (.cells #[.int .i64 x.keeper, .string x.name] 76)) wi ∧ Hid (((xs.drop (k + 1)).take j).all (M.pairLaid p x) = true)) (fun i _ => xs.length - (k + 1) - (intOf i).toNat)
      case atStart => exact ⟨0, Nat.zero_le _, rfl, Kp.refl _ _, hid (by simp)⟩
      case round =>
       obtain ⟨j, hj, rfl, hEi, HB⟩ := hrel
       by_cases hjt : j < xs.length - (k + 1)
       · obtain ⟨y, hy⟩ := get_some (l := xs.drop (k + 1)) (k := j) (by rw [hlen]; exact hjt)
         obtain ⟨b', off', cs', he, hI', rfl, -, hc'⟩ := sd.get hy
         obtain ⟨rfl, rfl⟩ : b' = b ∧ off' = off + (k + 1) * 2 := by simp only [Option.some.injEq, Addr.mk.injEq, and_true] at he; exact ⟨he.1.symm, he.2.symm⟩
         obtain ⟨q0, q1⟩ := (hc'.ext (hEw.trans hEi)).two
         have bxi := bx.ext hEi
         have x0 := bxi.c 0 (.int .i64 x.keeper) rfl
         have x1 := bxi.c 1 (.string x.name) rfl
         have zx := bxi.lt
         obtain ⟨cy, hcy⟩ := HY.out y (List.mem_of_getElem? hy)
         have HCY := hid hcy
         have HYy := hid hy
         have HLi := hid ((HLw.out.ext hEi).ext ((Kp.refl _ _).alloc (.cells #[.int .i64 y.keeper, .string y.name] 76)))
         clear hc' he bxi hcy hy g0 g1
         cases hp : M.pairLaid p x y
         all_goals
          have HP := hid hp
          clear hp
          go_wp2_with fail
          refine (lodge_pairLaid _ _ _ HLi.out x y _ _ HCX.out HCY.out).mono ?_
          rintro e w1 ⟨rfl, hB⟩
          rw [HP.out]
          go_wp2
         · go_ret
           exact ⟨ret_bool (by rw [HD.out, all_no HYy.out HP.out]; rfl), (by repeat (first | assumption | exact Kp.refl _ _ | apply Kp.alloc | apply Kp.drew | apply Kp.drewN | refine Kp.trans ?_ (by assumption)))⟩
         · go_roundw
           case rel => exact ⟨j + 1, by omega, by go_num, (by repeat (first | assumption | exact Kp.refl _ _ | apply Kp.alloc | apply Kp.drew | apply Kp.drewN | refine Kp.trans ?_ (by assumption))), hid (all_succ HB.out HYy.out HP.out)⟩
           case measure => simp [intOf]; omega
       · have HB2 := hid (all_end HB.out (by rw [hlen]; omega))
         go_wp2
         go_roundw
         case rel => exact ⟨k + 1, by omega, by go_num, (by repeat (first | assumption | exact Kp.refl _ _ | apply Kp.alloc | apply Kp.drew | apply Kp.drewN | refine Kp.trans ?_ (by assumption))), hid (by rw [HD.out, HB2.out]; rfl)⟩
         case measure => simp [intOf]; omega
  · go_wp2
    go_ret
    exact ⟨ret_bool (by rw [HA.out, List.drop_eq_nil_of_le (by omega)]; rfl), (KX.k (by repeat (first | assumption | constructor)))⟩
theorem climbGo_owned {p : M.Plan} : ∀ (f : Nat) (r : M.Ref) (refs : List M.Ref), M.climbGo p f r = some refs → (∃ c, M.cls? p r = some c) → ∀ x ∈ refs, ∃ c, M.cls? p x = some c := by
 intro f
 induction f with
 | zero => intro r refs h; simp [M.climbGo] at h
 | succ f ih =>
  intro r refs h ho x hx
  unfold M.climbGo at h
  split at h
  · cases h; simp at hx; subst hx; exact ho
  · split at h
    · rename_i hc
      cases hg : M.climbGo p f (M.resolve p r.keeper (M.super p r)).1 with
      | none => rw [hg] at h; simp at h
      | some rs =>
       rw [hg] at h
       simp at h
       subst h
       rcases List.mem_cons.1 hx with rfl | hx
       · exact ho
       · exact ih _ _ hg (resolve_owned hc) x hx
    · cases h
theorem loadable_owned {p : M.Plan} {r : M.Ref} (h : M.loadable p r = true) : ∃ c, M.cls? p r = some c := by
 unfold M.loadable M.find at h
 by_cases hc : (M.resolve p r.keeper r.name).2 = 1
 · rw [if_pos hc] at h
   split at h
   · simp at h
     rw [← h]; exact resolve_owned hc
   · simp at h
 · rw [if_neg hc] at h
   simp at h
   exact absurd h.1 hc
theorem chain_owned {p : M.Plan} {r : M.Ref} : ∀ x ∈ M.chain p r, ∃ c, M.cls? p x = some c := by
 intro x hx
 unfold M.chain at hx
 split at hx
 · rename_i hl
   cases hc : M.climb p r with
   | none => rw [hc] at hx; simp at hx
   | some refs =>
    rw [hc] at hx
    exact climbGo_owned 6 r refs hc (loadable_owned hl) x (by simpa using hx)
 · simp at hx
theorem LodgeAt.updLaid {w w' : World} {l : Lodge} {p : M.Plan} (h : LodgeAt w l p) (hk : Kp (· = l.D) w w') (hm : ∃ m, MapIs w' l.D m ∧ ∀ k s v, look m (k, s) = some v → v = if M.canLay p ⟨k, s⟩ then 1 else 2) : LodgeAt w' l p := by
 obtain ⟨o1, o2, o3⟩ := h.ord
 refine ⟨h.ok, h.ord, ?_, ?_, ?_, hm⟩
 · obtain ⟨a, cap, hb, hs⟩ := h.blk
   exact ⟨a, cap, hb.kp hk (by omega), hs.keep KeeperL.stays (Kp.same hk fun b hb e => by omega) fun _ h => h⟩
 · obtain ⟨m, h1, h2⟩ := h.own
   exact ⟨m, h1.kp hk (by omega), h2⟩
 · obtain ⟨m, h1, h2⟩ := h.ask
   exact ⟨m, h1.kp hk (by omega), h2⟩
theorem lodge_canLay (w : World) (l : Lodge) (p : M.Plan) (h : LodgeAt w l p) (r : M.Ref) :
    Calls Tryz.prog 38 #[.pointer (some ⟨l.L, 0, none⟩), .agg #[.int .i64 r.keeper, .string r.name]] w fun e w' =>
     e = .returned (.bool (M.canLay p r)) ∧ LodgeAt w' l p ∧ Kp (· = l.D) w w' := by
 obtain ⟨m, hm, hlk⟩ := h.laid
 have hE0 : Ext w (w.alloc (.cells #[.int .i64 r.keeper, .string r.name] 76)).drew := (KX.k (by repeat (first | assumption | constructor)))
 have lk := run_lookup (hm.kp hE0 fun x => x) r.keeper r.name
 obtain ⟨a, cap, hs, c0, c1, c2, c3⟩ := h.cells
 have d3 := c3 _ (Kp.refl _ w)
 have hzL := cell_lt d3
 have H0 := hid h
 have H := hid (h.ext hE0)
 have b3 := (Blk.new w 76 #[.int .i64 r.keeper, .string r.name])
 clear hs c0 c1 c2 h
 cases hl : look m (r.keeper, r.name) with
 | some v =>
  have hv := hlk _ _ _ hl
  rw [hl] at lk
  simp only [Option.getD_some] at lk
  have HM := hid (And.intro hm hlk)
  clear hm hlk hl c3
  cases hc : M.canLay p r
  all_goals
   have hc' : M.canLay p ⟨r.keeper, r.name⟩ = _ := hc
   rw [hc'] at hv
   have HC := hid hc
   clear hc hc'
   simp at hv
   subst hv
   go_enter Tryz.func38, Tryz.ntmps38
   go_wp2
   (refine region_tail 6 (by kernel_rfl) (by kernel_rfl) ?_); (simp only [List.take_succ_cons, List.take_zero, List.drop_succ_cons, List.drop_zero]); (repeat still_step); (refine wpStill_nil ?_)
   go_wp2
   go_ret
   exact ⟨rfl, H0.out.ext (KX.k (by repeat (first | assumption | constructor))) |> fun h => h, ((KX.k (by repeat (first | assumption | constructor))) : Ext w _).any⟩
 | none =>
  rw [hl] at lk
  simp only [Option.getD_none] at lk
  have HM := hid (And.intro hm (And.intro hlk hl))
  have HC3 := hid c3
  clear hm hlk hl c3
  go_enter Tryz.func38, Tryz.ntmps38
  go_wp2
  (refine region_tail 6 (by kernel_rfl) (by kernel_rfl) ?_); (simp only [List.take_succ_cons, List.take_zero, List.drop_succ_cons, List.drop_zero]); (repeat still_step); (refine wpStill_nil ?_)
  go_wp2_with fail
  refine (lodge_chain _ _ _ H.out _).mono ?_
  rintro e w1 ⟨⟨v, rfl, hs⟩, hB⟩
  obtain ⟨a', cap', rfl, hn, hcap⟩ := hs.form
  have hE1 : Ext w w1 := hE0.trans hB
  have d1 := HC3.out _ hE1
  have H1 := hid (H0.out.ext hE1)
  have HMD := hid (HM.out.1.kp hE1 fun x => x)
  have b31 := ((b3.ext ((Kp.refl _ _).drew)).ext hB)
  have q0 := b31.c 0 (.int .i64 r.keeper) rfl
  have q1 := b31.c 1 (.string r.name) rfl
  have qz := b31.lt
  have hcl : Hid (M.canLay p r = (!(M.chain p r).isEmpty && M.chainLaid p (M.chain p r))) := hid rfl
  have hco : Hid (∀ x ∈ M.chain p r, ∃ c, M.cls? p x = some c) := hid chain_owned
  have HU : Hid (∀ W W', Ext w W → MapIs W' l.D (m ++ [((r.keeper, r.name), if M.canLay p r then 1 else 2)]) → Kp (· = l.D) W W' → LodgeAt W' l p) := hid (fun W W' hW hm' hk' => (H0.out.ext hW).updLaid hk' ⟨_, hm', fun k s v hv => by
   by_cases hkey : ((k, s) : Key) = (r.keeper, r.name)
   · rw [hkey, look_snoc_same HM.out.2.2] at hv
     cases hv
     simp only [Prod.mk.injEq] at hkey
     obtain ⟨rfl, rfl⟩ := hkey
     rfl
   · rw [look_snoc_other hkey] at hv
     exact HM.out.2.1 k s v hv⟩)
  clear hB b3 b31 lk d3 hE0
  generalize M.chain p r = xs at *
  cases xs with
  | nil =>
   have hcan : M.canLay p r = false := hcl.out
   rw [hcan] at HU
   have HCan := hid hcan
   clear hcan
   clear hs
   go_wp2
   (refine region_tail 5 (by kernel_rfl) (by kernel_rfl) ?_); (simp only [List.take_succ_cons, List.take_zero, List.drop_succ_cons, List.drop_zero]); (repeat still_step); (refine wpStill_nil ?_)
   refine wpList_mapUpdate_ref _ rfl _ _ _ rfl l.D m r.keeper r.name 2 rfl rfl rfl (HMD.out.kp ((Kp.refl (fun _ => False) _).drew) fun x => x) HM.out.2.2 ?_
   intro w2 hm2 hk2 hz2
   go_wp2
   go_ret
   exact ⟨ret_bool HCan.out.symm, HU.out _ _ ((hE1).drew) hm2 hk2, ((hE1.drew).any : Kp (· = l.D) w _).trans hk2⟩
  | cons y ys =>
   have hlen : ((y :: ys).length : Int) ≠ 0 := by simp; omega
   have hlen' : (((y :: ys).length : Int) == 0) = false := beq_eq_false_iff_ne.2 hlen
   cases hch : M.chainLaid p (y :: ys)
   · have hcan : M.canLay p r = false := by rw [hcl.out, hch]; rfl
     rw [hcan] at HU
     have HCan := hid hcan
     have HCh := hid hch
     clear hcan hch
     generalize (y :: ys) = xs at *
     go_wp2_with fail
     refine (lodge_chainLaid _ _ _ H1.out _ _ _ hs hco.out).mono ?_
     rintro e w2 ⟨rfl, hB2⟩
     rw [HCh.out]
     have d2 := HC3.out _ (hE1.trans hB2)
     have p0 := hB2.cellE q0
     have p1 := hB2.cellE q1
     have hE2 : Ext w w2 := hE1.trans hB2
     clear q0 q1 d1 hB2 qz hs
     go_wp2
     (refine region_tail 5 (by kernel_rfl) (by kernel_rfl) ?_); (simp only [List.take_succ_cons, List.take_zero, List.drop_succ_cons, List.drop_zero]); (repeat still_step); (refine wpStill_nil ?_)
     refine wpList_mapUpdate_ref _ rfl _ _ _ rfl l.D m r.keeper r.name 2 rfl rfl rfl ((HM.out.1.kp hE2 fun x => x).kp ((Kp.refl (fun _ => False) _).drew) fun x => x) HM.out.2.2 ?_
     intro w3 hm3 hk3 hz3
     go_wp2
     go_ret
     exact ⟨ret_bool HCan.out.symm, HU.out _ _ ((hE2).drew) hm3 hk3, ((hE2.drew).any : Kp (· = l.D) w _).trans hk3⟩
   · have hcan : M.canLay p r = true := by rw [hcl.out, hch]; rfl
     rw [hcan] at HU
     have HCan := hid hcan
     have HCh := hid hch
     clear hcan hch
     generalize (y :: ys) = xs at *
     go_wp2_with fail
     refine (lodge_chainLaid _ _ _ H1.out _ _ _ hs hco.out).mono ?_
     rintro e w2 ⟨rfl, hB2⟩
     rw [HCh.out]
     have d2 := HC3.out _ (hE1.trans hB2)
     have p0 := hB2.cellE q0
     have p1 := hB2.cellE q1
     have hE2 : Ext w w2 := hE1.trans hB2
     clear q0 q1 d1 hB2 qz hs
     go_wp2
     (refine region_tail 5 (by kernel_rfl) (by kernel_rfl) ?_); (simp only [List.take_succ_cons, List.take_zero, List.drop_succ_cons, List.drop_zero]); (repeat still_step); (refine wpStill_nil ?_)
     refine wpList_mapUpdate_ref _ rfl _ _ _ rfl l.D m r.keeper r.name 1 rfl rfl rfl ((HM.out.1.kp hE2 fun x => x).kp ((Kp.refl (fun _ => False) _).drew) fun x => x) HM.out.2.2 ?_
     intro w3 hm3 hk3 hz3
     go_wp2
     go_ret
     exact ⟨ret_bool HCan.out.symm, HU.out _ _ ((hE2).drew) hm3 hk3, ((hE2.drew).any : Kp (· = l.D) w _).trans hk3⟩
end Go.Proofs.YtjdfceejkneofaaGreat
