/- Walks: the lodge is asked: has, path, resolve.; Walks: the lodge is asked: resolve; the iterator over the classes above one.; Walks: the lodge's class of a reference.; A range over a function: one law, in the words of this claim (which blocks may turn).; Walks: the iterator over a class and those above it.; Walks: climb.; Walks: find, chain, under.; Walks: under, agree, agreeMethod, methodAt, fieldAt. -/
import Derived.Test.YtjdfceejkneofaaGreatJaa
import Derived.Test.YtjdfceejkneofaaGreatJab
import Derived.StillTailTactics
import Derived.RangeFuncKeeps
import Derived.RangeFuncNested
import Derived.RangeFuncBound
import Derived.RangeFuncCalls
import Derived.RangeFuncLeaves
import Derived.Shelf.Abstract
import Derived.Shelf.RegionOpen
import Derived.OwnWalkIn
import Derived.TacticsInMore
import Derived.LoopNIn
import Derived.LoopIn
import Derived.Sort.LoopGhostIn
set_option maxRecDepth 100000
set_option maxHeartbeats 4000000
namespace Go.Proofs.YtjdfceejkneofaaGreat
open Go Go.RowKit
open Go.Lib (hid)
theorem lodge_has (w : World) (l : Lodge) (p : M.Plan) (h : LodgeAt w l p) (k : Int) :
    Calls Tryz.prog 26 #[.pointer (some ⟨l.L, 0, none⟩), .int .i64 k] w fun e w' => e = .returned (.bool (M.has p k)) ∧ w = w' := by
 obtain ⟨a, cap, hs, c0, c1, c2, c3⟩ := h.cells
 have d0 := c0 w (Kp.refl _ w)
 clear hs h c0 c1 c2 c3
 go_enter Tryz.func26, Tryz.ntmps26
 go_wp2
 · go_ret
   exact ⟨ret_bool (by unfold M.has; rw [decide_eq_true (p := 0 ≤ k) (by omega)]; rfl), rfl⟩
 · go_ret
   exact ⟨ret_bool (by unfold M.has; rw [decide_eq_false (p := 0 ≤ k) (by omega)]; rfl), rfl⟩
def lenOf : Value → Nat | .slice _ n _ => n | _ => 0
structure Asked (p : M.Plan) (n : ByteArray) (k : Int) (f : Nat) (asked : List Int) (cur : Int) : Prop where
 fuel : f + asked.length = 5
 one : 1 ≤ asked.length
 nodup : asked.Nodup
 has : ∀ q ∈ asked, M.has p q = true
 last : asked.getLastD 0 = cur
 eq : M.path p k n = M.pathGo p n f asked cur
theorem lodge_path (w : World) (l : Lodge) (p : M.Plan) (h : LodgeAt w l p) (k : Int) (n : ByteArray) :
    Calls Tryz.prog 104 #[.pointer (some ⟨l.L, 0, none⟩), .int .i64 k, .string n] w fun e w' =>
     (∃ v, e = .returned (.tuple #[v, .int .i64 (M.path p k n).2]) ∧ SliceOf 1 IntL w' (fun b => w.heap.size ≤ b) v (M.path p k n).1) ∧ Ext w w' := by
 cases hk : M.has p k
 · have HK := hid hk
   clear hk
   have H := hid h
   clear h
   go_enter Tryz.func104, Tryz.ntmps104
   go_wp2_with (go_at_call 26; refine (lodge_has _ _ _ H.out _).mono ?_; rintro e w1 ⟨rfl, rfl⟩; rw [HK.out])
   go_ret2
   refine ⟨⟨.slice none 0 0, ?_, ?_⟩, Kp.refl _ _⟩
   · unfold M.path; rw [HK.out]; rfl
   · unfold M.path; rw [HK.out]; exact SliceOf.nil _ _ _ _
 · have HK := hid hk
   clear hk
   obtain ⟨a, cap, hs, c0, c1, c2, c3⟩ := h.cells
   have lo := h.lookOwn
   have la := h.lookAsk
   have H := hid h
   clear h hs
   go_enter Tryz.func104, Tryz.ntmps104
   go_wp2_with (go_at_call 26; refine (lodge_has _ _ _ H.out _).mono ?_; rintro e w1 ⟨rfl, rfl⟩; rw [HK.out])
   have hE0 : Ext w (w.alloc (.cells #[.int .i64 k] 3)) := ((Kp.refl _ _).alloc _)
   go_loopw [1, 8] (fun c s wr => ∃ f cur asked, c = .int .i64 cur ∧ wr.ownsRow w.heap.size 3 1 s asked.length (asked.map fun q => Value.int .i64 q) ∧ Ext w wr ∧ Asked p n k f asked cur) (fun c s wr => 5 - (lenOf s))
   case atStart =>
    refine ⟨4, k, [k], rfl, ?_, hE0, ⟨rfl, by simp, by simp, by simp [HK.out], rfl, ?_⟩⟩
    · exact World.ownsRow_lit (size := 1) w #[.int .i64 k] 1 (Nat.le_refl _) (by unfold maxLen; omega) rfl
    · unfold M.path; rw [if_pos HK.out]
   case round =>
    obtain ⟨f, cur, asked, rfl, hown, hE, HA0⟩ := hrel
    obtain ⟨g, cp, rfl, hg, hgl, hcp⟩ := owns_form hown HA0.one
    have d1 := c1 wr hE
    have d2 := c2 wr hE
    have lo' := lo wr hE cur n
    have la' := la wr hE cur n
    have HA := hid HA0
    have HO := hid hown
    have hlen : asked.length ≤ 5 := by have := HA0.fuel; omega
    clear HA0 hown c0 c1 c2 c3 lo la
    have hf0 : 0 < f := by
     have h1 := HA.out.fuel
     have h2 := M.nodup_len HA.out.nodup HA.out.has
     have h3 := (M.lodOk_len H.out.ok).2
     omega
    obtain ⟨f, rfl⟩ : ∃ f', f = f' + 1 := ⟨f - 1, by omega⟩
    cases hq : M.ask? p cur n with
    | none =>
     rw [hq] at la'
     simp only [Option.getD_none, Option.isSome_none] at la'
     have HQ := hid hq
     clear hq
     have hst : M.path p k n = if M.owned p ⟨cur, n⟩ then (asked, 1) else ([], 2) := by
      rw [HA.out.eq]; unfold M.pathGo; rw [HQ.out]
     have HS := hid hst
     clear hst
     rw [M.ownAt_owned] at lo'
     cases ho : M.owned p ⟨cur, n⟩
     · rw [ho] at lo'
       have HW := hid ho
       clear ho
       go_wp2
       go_ret2
       have e : M.path p k n = ([], 2) := by rw [HS.out, HW.out]; rfl
       rw [e]
       exact ⟨⟨.slice none 0 0, rfl, SliceOf.nil _ _ _ _⟩, hE⟩
     · rw [ho] at lo'
       have HW := hid ho
       clear ho
       go_wp2
       go_ret2
       have e : M.path p k n = (asked, 1) := by rw [HS.out, HW.out]; rfl
       rw [e]
       exact ⟨⟨_, rfl, SliceOf.of_owns (fun q => [Value.int .i64 q]) HO.out rfl (map_flat _ _) (fun _ _ => rfl) (fun _ _ => rfl) (fun b hb _ => hb) (Nat.le_trans hlen (by omega))⟩, hE⟩
    | some next =>
     rw [hq] at la'
     simp only [Option.getD_some, Option.isSome_some] at la'
     have HQ := hid hq
     clear hq lo'
     have hst : M.path p k n = if asked.contains next then ([], 3) else M.pathGo p n f (asked ++ [next]) next := by
      rw [HA.out.eq]; conv => lhs; unfold M.pathGo
      rw [HQ.out]
     have HS := hid hst
     clear hst
     go_wp2
     go_loop [36] (fun j => ∃ q : Nat, q ≤ asked.length ∧ j = .int .i64 q ∧ Hid (∀ i x, asked[i]? = some x → i < q → x ≠ next)) (fun j => asked.length - (intOf j).toNat)
     case atStart => exact ⟨0, Nat.zero_le _, rfl, hid (fun _ _ _ h => absurd h (Nat.not_lt_zero _))⟩
     case round =>
      obtain ⟨q, hq, rfl, HN⟩ := hrel
      by_cases hqk : q < asked.length
      · obtain ⟨x, hx⟩ := get_some hqk
        have hcell : wr.cell? ⟨g, q, none⟩ = some (.int .i64 x) := by
         rw [HO.out.cellAt q (by omega)]
         simp [hx]
        have HX := hid hx
        clear hx
        by_cases hxn : x = next
        · subst hxn
          go_wp2
          go_ret2
          have hct : asked.contains x = true := by simp [List.mem_of_getElem? HX.out]
          have e : M.path p k n = ([], 3) := by rw [HS.out, if_pos hct]
          rw [e]
          exact ⟨⟨.slice none 0 0, rfl, SliceOf.nil _ _ _ _⟩, hE⟩
        · go_wp2
          go_round
          case rel =>
           refine ⟨q + 1, by omega, by go_num, hid (fun i y hi hlt => ?_)⟩
           by_cases hiq : i < q
           · exact HN.out i y hi hiq
           · obtain rfl : i = q := by omega
             rw [HX.out] at hi
             cases hi
             exact hxn
          case measure => simp [intOf]; omega
      · go_wp2_with (at_builtin; refine wpList_append_one elem_int _ rfl _ _ rfl w.heap.size _ _ _ rfl (HO.out.alloc _) wr.heap.size 1 [.int .i64 next] rfl rfl ?c1 ?c2 ?c3 ?c4 ?_)
        case c1 => exact CellsAt.of_blk (Blk.new _ _ _) _ rfl
        case c2 => simp [Value.oneCell']
        case c3 => omega
        case c4 => have := hE.size; simp; omega
        obtain rfl : q = asked.length := by omega
        intro v' w' hown' hK g1 cp1 hv1 hg1 hl1
        subst hv1
        have HO2 := hid hown'
        have HK2 := hid hK
        clear hown' hK
        go_wp2
        go_roundw
        case rel =>
         refine ⟨f, next, asked ++ [next], rfl, by simpa using HO2.out, ?_, ?_⟩
         · refine (hE.alloc _).own HK2.out ?_
           intro b hb
           simp only [Value.ownBlock, Option.some.injEq] at hb
           omega
         · have hct : asked.contains next = false := by
            cases hc : asked.contains next
            · rfl
            · rw [List.contains_iff_mem] at hc
              obtain ⟨i, hi⟩ := List.mem_iff_getElem?.1 hc
              exact absurd rfl (HN.out i next hi (List.getElem?_eq_some_iff.1 hi).1)
           refine ⟨by have := HA.out.fuel; simp; omega, by simp, ?_, ?_, by simp, by rw [HS.out, hct]; rfl⟩
           · rw [List.nodup_append]
             refine ⟨HA.out.nodup, by simp, fun a ha b hb e => ?_⟩
             simp only [List.mem_singleton] at hb
             subst hb e
             have := List.contains_iff_mem.2 ha
             rw [hct] at this
             cases this
           · intro q hq
             rcases List.mem_append.1 hq with hq | hq
             · exact HA.out.has q hq
             · rw [List.mem_singleton] at hq
               subst hq
               exact M.has_of_ask H.out.ok HQ.out
        case measure => have := HA.out.fuel; simp [lenOf]; omega
theorem path_last {p : M.Plan} {k : Int} {n : ByteArray} (h : (M.path p k n).2 = 1) : (M.path p k n).1 ≠ [] := by
 have go : ∀ f (asked : List Int) k, asked ≠ [] → (M.pathGo p n f asked k).2 = 1 → (M.pathGo p n f asked k).1 ≠ [] := by
  intro f
  induction f with
  | zero => intro asked k _ h; simp [M.pathGo] at h
  | succ f ih =>
   intro asked k ha h
   unfold M.pathGo at h ⊢
   split at h
   · split at h
     · rename_i h1 h2; simp [h2, ha]
     · simp at h
   · rename_i next h1
     split at h
     · simp at h
     · rename_i h2
       rw [if_neg h2]
       exact ih _ _ (by simp) h
 unfold M.path at h ⊢
 split at h
 · rename_i hk; rw [if_pos hk]; exact go _ _ _ (by simp) h
 · simp at h
def refV (r : M.Ref) : Value := .agg #[.int .i64 r.keeper, .string r.name]
theorem lodge_resolve (w : World) (l : Lodge) (p : M.Plan) (h : LodgeAt w l p) (k : Int) (n : ByteArray) :
    Calls Tryz.prog 77 #[.pointer (some ⟨l.L, 0, none⟩), .int .i64 k, .string n] w fun e w' =>
     e = .returned (.tuple #[.agg #[.int .i64 (M.resolve p k n).1.keeper, .string (M.resolve p k n).1.name], .int .i64 (M.resolve p k n).2]) ∧ Ext w w' := by
 have H := hid (h.ext ((Kp.refl _ w).alloc (.cells #[.int .i64 0, .string ⟨#[]⟩] 76)))
 clear h
 have b0 := Blk.new w 76 #[.int .i64 0, .string ⟨#[]⟩]
 have hE0 : Ext w (w.alloc (.cells #[.int .i64 0, .string ⟨#[]⟩] 76)) := ((Kp.refl _ _).alloc _)
 go_enter Tryz.func77, Tryz.ntmps77
 go_wp2_with fail
 refine (lodge_path _ _ _ H.out _ _).mono ?_
 rintro e w1 ⟨⟨v, rfl, hs⟩, hB⟩
 have b1 := b0.ext hB
 have c0 := b1.c 0 (.int .i64 0) rfl
 have c1 := b1.c 1 (.string ⟨#[]⟩) rfl
 have f0 := b1.frozen 0
 have f1 := b1.frozen 1
 by_cases hc : (M.path p k n).2 = 1
 · have hne := path_last hc
   obtain ⟨a, cap, hv, hn, hm32⟩ := hs.form
   subst hv
   have hl : 0 < (M.path p k n).1.length := List.length_pos_iff.2 hne
   obtain ⟨x, hx⟩ := get_some (l := (M.path p k n).1) (k := (M.path p k n).1.length - 1) (by omega)
   obtain ⟨b, off, cs, rfl, hI, rfl, -, hcc⟩ := hs.get hx
   have g0 := hcc.one
   rw [Nat.mul_one] at g0
   have hR : Hid (M.resolve p k n = (⟨x, n⟩, 1)) := hid (by
    unfold M.resolve; rw [if_pos hc, List.getLastD_eq_getLast?, List.getLast?_eq_getElem?, hx]; rfl)
   rw [hc]
   clear hx hs hne hcc hc
   generalize (M.path p k n).1.length = m at *
   go_wp2
   refine bodyPost_ret (v := .tuple #[.agg #[.int .i64 x, .string n], .int .i64 1]) (by simp [results, Tryz.results77, go_sem, c0, c1]) rfl ?_
   exact ⟨by rw [hR.out], (by repeat (first | with_reducible assumption | with_reducible exact Kp.refl _ _ | apply Kp.alloc | apply Kp.drew | apply Kp.drewN | refine Kp.setCell ?_ (fun h => absurd h (by simp <;> omega)) _ | assumption | refine Kp.trans ?_ (by assumption) | exact Kp.refl _ _))⟩
 · have hR : Hid (M.resolve p k n = (M.zref, (M.path p k n).2)) := hid (by unfold M.resolve; rw [if_neg hc])
   have hc' : ((M.path p k n).2 == 1) = false := beq_eq_false_iff_ne.2 hc
   obtain ⟨a, cap, hv, hn, hm32⟩ := hs.form
   subst hv
   clear hs hc
   generalize (M.path p k n).2 = c at *
   generalize (M.path p k n).1.length = m at *
   go_wp2
   refine bodyPost_ret (v := .tuple #[.agg #[.int .i64 0, .string ⟨#[]⟩], .int .i64 c]) (by simp [results, Tryz.results77, go_sem, c0, c1]) rfl ?_
   exact ⟨by rw [hR.out]; rfl, (by repeat (first | with_reducible assumption | with_reducible exact Kp.refl _ _ | apply Kp.alloc | apply Kp.drew | apply Kp.drewN | refine Kp.setCell ?_ (fun h => absurd h (by simp <;> omega)) _ | assumption | refine Kp.trans ?_ (by assumption) | exact Kp.refl _ _))⟩
theorem region_tail {P : Program} {Q : Exit → Act → World → Prop} {w : World} {id : Nat} {l : List Oper} {a : Act} (n : Nat) (hm : P.follows .mixedOrders = true) (hB : Region.lexTailB .any l.toArray n = true)
    (h : wpStill P l.toArray w.drew (fun a' => wpList P l.toArray Q (l.drop n) a' w.drew) (l.take n) a) : (Code.region id l.toArray true).wp P Q a w := wp_region_still_tail n hm hB h
theorem lodge_class (w : World) (l : Lodge) (p : M.Plan) (h : LodgeAt w l p) (k : Int) (n : ByteArray) (c : M.Class) (hcls : M.cls? p ⟨k, n⟩ = some c) :
    Calls Tryz.prog 39 #[.pointer (some ⟨l.L, 0, none⟩), .agg #[.int .i64 k, .string n]] w fun e w' =>
     (∃ cs, ClassL w (· < l.O) c cs ∧ e = .returned (.agg cs.toArray)) ∧ Ext w w' := by
 obtain ⟨q, i, hq, hi, hqi, hil⟩ := M.cls_ownAt hcls
 obtain ⟨hk0, hk1⟩ := M.cls_has hcls
 simp only at hk0 hk1
 obtain ⟨k, rfl⟩ := Int.eq_ofNat_of_zero_le hk0
 have hkp : p[k]? = some q := by
  unfold M.keeper? at hq
  rw [if_pos hk0] at hq
  exact hq
 obtain ⟨a, cap, hs, c0, c1, c2, c3⟩ := h.cells
 have lo := h.lookOwn1
 obtain ⟨b, off, cs, rfl, hI, hkl, -, hc⟩ := hs.get hkp
 obtain ⟨vo, va, rfl, s1, s2⟩ := hkl
 obtain ⟨a1, cap1, rfl, hn1, hc1⟩ := s1.form
 obtain ⟨b1, off1, cs1, rfl, hI1, hcl, -, hcc⟩ := s1.get hqi
 obtain ⟨y1, z1, y2, z2, rfl⟩ := hcl.form
 obtain ⟨g0, g1⟩ := hc.two
 obtain ⟨e0, e1, e2, e3⟩ := hcc.four
 have l1 : ∀ W, Ext w W → (Instr.lookup 90 (.map (some l.O)) (.agg #[.int .i64 (k : Int), .string n]) false).run Tryz.prog W = .ok (.int .i64 i) W := by
  intro W hW
  rw [lo W hW, hi]
  rfl
 have hp3 : (p.length : Int) ≤ 3 := by have := (M.lodOk_len h.ok).2; omega
 have l2 := fun (X Y : Obj) => l1 _ ((((Kp.refl _ w).alloc X).alloc Y).drew)
 clear l1
 have HCL := hid hcl
 have hbw := cell_lt g0
 have hbw1 := cell_lt e0
 have hbl := h.lt
 have d0 := c0 _ (Kp.refl _ w)
 have d1 := c1 _ (Kp.refl _ w)
 have hO := h.ord
 clear lo hcl hs s1 s2 hc hcc c0 c1 c2 c3 hkp hqi hq hi hcls h
 have hk1' : k < p.length := by omega
 clear hk0 hk1
 go_enter Tryz.func39, Tryz.ntmps39
 go_wp2
 (refine region_tail 17 (by kernel_rfl) (by kernel_rfl) ?_); (simp only [List.take_succ_cons, List.take_zero, List.drop_succ_cons, List.drop_zero]); (repeat still_step); (refine wpStill_nil ?_)
 go_wp2
 refine bodyPost_ret (v := .agg #[.string c.name, .string c.super, .slice y1 c.fields.length z1, .slice y2 c.methods.length z2]) (by simp [results, Tryz.results39, go_sem]) rfl ?_
 exact ⟨⟨_, HCL.out, rfl⟩, (KX.k (by repeat (first | assumption | constructor)))⟩
def Iter {α : Type} (P : Program) (gf : Nat) (lb : Array Value) (encs : α → Array Value) (Dit Bd : Nat → Prop) (S Sp Bnd : List α → Prop) (It0 : World → Prop) (Nx : List α → α → Prop := fun _ _ => True) : Prop :=
 ∀ (l : Nat) (J Jx : List α → World → Prop) (W : World), It0 W → (∀ s A B, J s A → Kp Dit A B → J s B) → (∀ s A B, Jx s A → Kp Dit A B → Jx s B) → (∀ s A, J s A → Bnd s) →
  (∀ pre x W1, Nx pre x → J pre W1 → YieldAt Fence.wide 8 P l (encs x) W1 fun e W' => Kp Bd W1 W' ∧ ((e = .returned (.bool true) ∧ J (pre ++ [x]) W') ∨ (e = .returned (.bool false) ∧ Jx (pre ++ [x]) W'))) →
  J [] W → CallsIn Fence.wide 9 P gf (#[.func (.yield l) #[] #[]] ++ lb) W fun e W' => (∃ v, e = .returned v) ∧ ((∃ xs, S xs ∧ J xs W') ∨ (∃ pre, Sp pre ∧ Jx pre W'))
def roundEnd {α : Type} (Bb : Nat → Prop) (I : List α → World → Prop) (Ix : Code → List α → World → Prop) (xs : List α) (W : World) : Exit → Act → World → Prop
 | .normal, _, W' => Kp Bb W W' ∧ I xs W'
 | .ret, _, W' => Kp Bb W W' ∧ Ix .ret xs W'
 | .exit id, _, W' => Kp Bb W W' ∧ Ix (.exit id) xs W'
 | .goto t, _, W' => Kp Bb W W' ∧ Ix (.goto t) xs W'
 | .panic _, _, _ => False
 | .outgrown, _, _ => False
theorem Kp.putObj (W : World) (l : Nat) (o : Obj) : Kp (· = l) W (W.putObj l o) :=
 ⟨rfl, rfl, rfl, by simp, fun _ _ h => World.putObj_heap_other h⟩
theorem range_kp {α : Type} {P : Program} {g : Operand} {ps : Array Tmp} {assign body : Code} {Q : Exit → Act → World → Prop} {a : Act} {w : World} {gf : Nat} {lb : Array Value}
    (hg : a.eval g = .func (.func gf) #[] lb) (eg : ∀ args w, (callFunc gf args).run P w = .ok (.enter gf args) w) {encs : α → Array Value} (hps : ∀ x, (encs x).size = ps.size)
    {S Sp Bnd : List α → Prop} {Dit Bb : Nat → Prop} {It0 : World → Prop} {Nx : List α → α → Prop} (hseq : Iter P gf lb encs Dit (fun k => Bb k ∨ k = w.heap.size + 1) S Sp Bnd It0 Nx)
    (hIt : ∀ W, Ext w W → It0 W) (hD1 : ¬ Dit w.heap.size) (hD2 : ¬ Dit (w.heap.size + 1)) (hB1 : ¬ Bb w.heap.size) (hB2 : ¬ Bb (w.heap.size + 1))
    (I : List α → World → Prop) (Ix : Code → List α → World → Prop)
    (hI : ∀ s A B, I s A → Kp (fun k => Dit k ∨ k = w.heap.size + 1) A B → I s B) (hIx : ∀ c s A B, Ix c s A → Kp (fun k => Dit k ∨ k = w.heap.size + 1) A B → Ix c s B) (h0 : I [] w) (hIB : ∀ s A, I s A → Bnd s)
    (Ax : List α → α → World → Act → World → Prop)
    (hassign : ∀ (pre : List α) (x : α) (W : World) (K : Act → World → Prop), Nx pre x → I pre W → w.heap.size + 1 < W.heap.size → (∀ a₁ W₁, Ax pre x W a₁ W₁ → K a₁ W₁) →
     assign.wpIn (Fence.wide.inRound (w.heap.size + 1)) 8 P (Exit.then K (fun _ _ _ => False)) { tmps := (ps.zip (encs x)).foldl (fun t (p, v) => t.setIfInBounds p v) a.tmps, defers := [] } W)
    (hAx : ∀ pre x W a₁ W₁, Ax pre x W a₁ W₁ → Kp Bb W W₁)
    (hbody : ∀ (pre : List α) (x : α) (W : World) (a₁ : Act) (W₁ W₂ : World), Ax pre x W a₁ W₁ → Kp (· = w.heap.size + 1) W₁ W₂ → W₂.heap.size = W₁.heap.size →
     body.wpIn (Fence.wide.inRound (w.heap.size + 1)) 8 P (roundEnd Bb I Ix (pre ++ [x]) W₂) a₁ W₂)
    (hdone : ∀ (xs : List α) (W : World), S xs → I xs W → W.heap[w.heap.size]? = some (.deferred (some [])) → Q .normal { a with defers := { target := .collected w.heap.size, args := #[] } :: a.defers } W)
    (hstop : ∀ (c : Code) (pre : List α) (W : World), Sp pre → Ix c pre W → W.heap[w.heap.size]? = some (.deferred (some [])) → c.wpIn Fence.wide 10 P Q { a with defers := { target := .collected w.heap.size, args := #[] } :: a.defers } W) :
    (Code.rangeFunc g ps assign body).wpIn Fence.wide 10 P Q a w := by
 refine wpIn_rangeFunc ?_
 intro fn hfn
 show ∃ l mark w₁ d w₁' f args w₂, (Instr.enterLoop fn a.tmps ps assign body none).run P w = _ ∧ _
 obtain ⟨rec, hrec⟩ : ∃ rec : LoopState → Option Code → Loop, rec = fun st pe => { state := st, pending := pe, fn, tmps := a.tmps, params := ps, assign, body, defers := w.heap.size } := ⟨_, rfl⟩
 obtain ⟨W1, hW1⟩ : ∃ W1, (w.alloc (.deferred (some []))).alloc (.loop (rec .ready none)) = W1 := ⟨_, rfl⟩
 have hL1 : W1.heap[w.heap.size + 1]? = some (.loop (rec .ready none)) := by
  rw [← hW1]; have := World.alloc_heap_new (w.alloc (.deferred (some []))) (.loop (rec .ready none)); rwa [World.size_alloc] at this
 have hK1 : W1.heap[w.heap.size]? = some (.deferred (some [])) := by
  rw [← hW1]; exact (Below.heap_alloc _ _ _ (by simp)).trans (World.alloc_heap_new w _)
 have hE1 : Ext w W1 := by rw [← hW1]; exact ((Kp.refl _ _).alloc _).alloc _
 have hI1 : I [] W1 := hI _ _ _ h0 hE1.any
 have keep : ∀ {D : Nat → Prop} {A B : World} {o : Obj} {k : Nat}, Kp D A B → ¬ D k → A.heap[k]? = some o → B.heap[k]? = some o := fun h hd ho =>
  (h.block _ (Array.getElem?_eq_some_iff.1 ho).1 hd).trans ho
 refine ⟨w.heap.size + 1, [{ target := .collected w.heap.size, args := #[] }], W1, { target := .fn (.func gf) lb, args := #[.func (.yield (w.heap.size + 1)) #[] #[]] }, W1, gf,
  #[.func (.yield (w.heap.size + 1)) #[] #[]] ++ lb, W1, ?_, ?_, ?_, ?_, fun h => by simp [Fence.wide] at h, ?_⟩
 · rw [← hW1, hrec]; exact run_enterLoop_outer _ _ _ _ _
 · simp only [resolve, hg]
   simp [go_sem]
 · intro f' _; trivial
 · simp [invoke, go_sem, eg]
 · refine (hseq (w.heap.size + 1)
    (fun pre W => I pre W ∧ W.heap[w.heap.size + 1]? = some (.loop (rec .ready none)) ∧ W.heap[w.heap.size]? = some (.deferred (some [])))
    (fun pre W => ∃ c, Ix c pre W ∧ W.heap[w.heap.size + 1]? = some (.loop (rec .done (some c))) ∧ W.heap[w.heap.size]? = some (.deferred (some [])))
    W1 (hIt _ hE1)
    (fun s A B hs hk => ⟨hI s A B hs.1 (hk.weak fun _ _ h => .inl h), keep hk hD2 hs.2.1, keep hk hD1 hs.2.2⟩)
    (fun s A B hs hk => by
     obtain ⟨c, hc, hl, hd⟩ := hs
     exact ⟨c, hIx c s A B hc (hk.weak fun _ _ h => .inl h), keep hk hD2 hl, keep hk hD1 hd⟩)
    (fun s A hs => hIB s A hs.1) ?_ ⟨hI1, hL1, hK1⟩).mono ?_
   · rintro pre x W hnx ⟨hi, hl, hk⟩
     have hlt : w.heap.size + 1 < W.heap.size := (Array.getElem?_eq_some_iff.1 hl).1
     have hy := run_yield (P := P) (args := encs x) hl (by rw [hrec]; exact hps x)
     rw [hrec] at hy
     refine ⟨fn, _, assign, body, hy, roundIn_of_wpIn hfn (hassign pre x W _ hnx hi hlt ?_)⟩
     intro a₁ W₁ hax
     have hkp := hAx _ _ _ _ _ hax
     have hl1 : W₁.heap[w.heap.size + 1]? = some (.loop (rec .ready none)) := keep hkp hB2 hl
     have hk1 : W₁.heap[w.heap.size]? = some (.deferred (some [])) := keep hkp hB1 hk
     refine ⟨_, run_beginRound hl1 (by rw [hrec]), ?_⟩
     have hlt1 : w.heap.size + 1 < W₁.heap.size := (Array.getElem?_eq_some_iff.1 hl1).1
     have hl2 : (W₁.putObj (w.heap.size + 1) (.loop { rec .ready none with state := .busy })).heap[w.heap.size + 1]? = some (.loop { rec .ready none with state := .busy }) := World.putObj_heap_same hlt1
     have hk2 : (W₁.putObj (w.heap.size + 1) (.loop { rec .ready none with state := .busy })).heap[w.heap.size]? = some (.deferred (some [])) := (World.putObj_heap_other (by omega)).trans hk1
     refine wpIn_mono (hbody pre x W a₁ W₁ _ hax (Kp.putObj _ _ _) (by simp)) ?_
     have kpAll : ∀ (W3 : World), Kp Bb (W₁.putObj (w.heap.size + 1) (.loop { rec .ready none with state := .busy })) W3 → ∀ o, Kp (fun k => Bb k ∨ k = w.heap.size + 1) W (W3.putObj (w.heap.size + 1) o) := fun W3 h3 o =>
      (((hkp.weak fun _ _ h => .inl h).trans ((Kp.putObj _ _ _).weak fun _ _ h => .inr h)).trans (h3.weak fun _ _ h => .inl h)).trans ((Kp.putObj _ _ _).weak fun _ _ h => .inr h)
     have fin : ∀ (jump : Option Code) (W3 : World), Kp Bb (W₁.putObj (w.heap.size + 1) (.loop { rec .ready none with state := .busy })) W3 →
         (Instr.endRound (w.heap.size + 1) jump).run P W3 = .ok (.bool jump.isNone) (W3.putObj (w.heap.size + 1) (.loop (rec (if jump.isNone then .ready else .done) jump))) ∧
         (W3.putObj (w.heap.size + 1) (.loop (rec (if jump.isNone then .ready else .done) jump))).heap[w.heap.size + 1]? = some (.loop (rec (if jump.isNone then .ready else .done) jump)) ∧
         (W3.putObj (w.heap.size + 1) (.loop (rec (if jump.isNone then .ready else .done) jump))).heap[w.heap.size]? = some (.deferred (some [])) := fun jump W3 hk3 => by
      have hl3 := keep hk3 hB2 hl2
      have := run_endRound (P := P) jump hl3
      rw [hrec] at this ⊢
      exact ⟨this, World.putObj_heap_same (Array.getElem?_eq_some_iff.1 hl3).1, (World.putObj_heap_other (by omega)).trans (keep hk3 hB1 hk2)⟩
     have tr : ∀ (W3 : World) (o : Obj), Kp (fun k => Dit k ∨ k = w.heap.size + 1) W3 (W3.putObj (w.heap.size + 1) o) := fun W3 o => (Kp.putObj _ _ _).weak fun _ _ h => .inr h
     rintro e a3 W3 hp
     cases e with
     | normal =>
      obtain ⟨hk3, hi3⟩ := hp
      obtain ⟨hr, hl4, hk4⟩ := fin none W3 hk3
      exact ⟨_, _, hr, kpAll _ hk3 _, .inl ⟨rfl, hI _ _ _ hi3 (tr _ _), hl4, hk4⟩⟩
     | ret =>
      obtain ⟨hk3, hi3⟩ := hp
      obtain ⟨hr, hl4, hk4⟩ := fin (some .ret) W3 hk3
      exact ⟨_, _, hr, kpAll _ hk3 _, .inr ⟨rfl, .ret, hIx _ _ _ _ hi3 (tr _ _), hl4, hk4⟩⟩
     | exit id =>
      obtain ⟨hk3, hi3⟩ := hp
      obtain ⟨hr, hl4, hk4⟩ := fin (some (.exit id)) W3 hk3
      exact ⟨_, _, hr, kpAll _ hk3 _, .inr ⟨rfl, .exit id, hIx _ _ _ _ hi3 (tr _ _), hl4, hk4⟩⟩
     | goto t =>
      obtain ⟨hk3, hi3⟩ := hp
      obtain ⟨hr, hl4, hk4⟩ := fin (some (.goto t)) W3 hk3
      exact ⟨_, _, hr, kpAll _ hk3 _, .inr ⟨rfl, .goto t, hIx _ _ _ _ hi3 (tr _ _), hl4, hk4⟩⟩
     | panic ch => exact hp.elim
     | outgrown => exact hp.elim
   · rintro e W2 ⟨⟨v, rfl⟩, (⟨xs, hS, hi, hl, hk⟩ | ⟨pre, hSp, c, hi, hl, hk⟩)⟩
     · exact ⟨none, _, by have := run_endLoop (P := P) hl (by rw [hrec]; simp); rw [hrec] at this; exact this,
        hdone xs _ hS (hI _ _ _ hi ((Kp.putObj _ _ _).weak fun _ _ h => .inr h)) ((World.putObj_heap_other (by omega)).trans hk)⟩
     · exact ⟨some c, _, by have := run_endLoop (P := P) hl (by rw [hrec]; simp); rw [hrec] at this; exact this,
        hstop c pre _ hSp (hIx _ _ _ _ hi ((Kp.putObj _ _ _).weak fun _ _ h => .inr h)) ((World.putObj_heap_other (by omega)).trans hk)⟩
end Go.Proofs.YtjdfceejkneofaaGreat
namespace Go.Proofs.YtjdfceejkneofaaGreat
open Go Go.RowKit
open Go.Lib (hid)
attribute [local go_sem] Oper.semAt_some
theorem lodge_above (w : World) (L : Addr) (k : Int) (n : ByteArray) :
    Calls Tryz.prog 98 #[.pointer (some L), .agg #[.int .i64 k, .string n]] w fun e w' =>
     e = .returned (.func (.func 112) #[] #[.pointer (some ⟨w.heap.size + 1, 0, none⟩), .pointer (some ⟨w.heap.size, 0, none⟩)]) ∧
     w' = (w.alloc (.cells #[.pointer (some L)] 71)).alloc (.cells #[.int .i64 k, .string n] 76) := by
 go_enter Tryz.func98, Tryz.ntmps98
 go_wp2
 go_ret
 exact ⟨rfl, rfl⟩
def items (p : M.Plan) : Nat → M.Ref → List (Option M.Ref)
 | 0, _ => []
 | n + 1, r => some r :: (if M.super p r = M.none_ then [] else if (M.resolve p r.keeper (M.super p r)).2 = 1 then items p n (M.resolve p r.keeper (M.super p r)).1 else [none])
def encItem : Option M.Ref → Array Value
 | some r => #[.agg #[.int .i64 r.keeper, .string r.name], .bool true]
 | none => #[.agg #[.int .i64 0, .string M.none_], .bool false]
theorem resolve_owned {p : M.Plan} {k : Int} {n : ByteArray} (h : (M.resolve p k n).2 = 1) : ∃ c, M.cls? p (M.resolve p k n).1 = some c := M.resolve_owned h
theorem above_iter (l : Lodge) (p : M.Plan) (r0 : M.Ref) (Rb Lb : Nat) (Bd : Nat → Prop) (hBd : ∀ k, Bd k → l.L < k ∧ k ≠ Rb ∧ k ≠ Lb) (hRL : Rb ≠ Lb) (hR : l.L < Rb) (N : Nat) (hown : ∃ c, M.cls? p r0 = some c) :
    Iter Tryz.prog 112 #[.pointer (some ⟨Rb, 0, none⟩), .pointer (some ⟨Lb, 0, none⟩)] encItem (· = Rb) Bd
     (fun xs => ∀ n, items p (xs.length + n) r0 = xs) (fun pre => ∃ n rest, items p n r0 = pre ++ rest) (fun s => s.length ≤ N)
     (fun W => LodgeAt W l p ∧ Blk W Rb 76 #[.int .i64 r0.keeper, .string r0.name] ∧ Blk W Lb 71 #[.pointer (some ⟨l.L, 0, none⟩)]) := by
 intro lp J Jx W ⟨hLodge, hbR, hbL⟩ hJ hJx hN hY hJ0
 refine callsIn_of_wp Tryz.func112 rfl trivial ?_ rfl
 simp only [Tryz.ntmps112, List.size_toArray, List.length_cons, List.length_nil, Nat.reduceAdd, Nat.reduceSub, Array.replicate_succ, Array.replicate_zero, List.push_toArray, List.append_toArray, List.nil_append, List.cons_append]
 gi_wp2
 gi_loopg [4] (N + 1) (fun m _ wr => ∃ (pre : List (Option M.Ref)) (r : M.Ref), m + pre.length = N + 1 ∧ J pre wr ∧ LodgeAt wr l p ∧ Blk wr Rb 76 #[.int .i64 r.keeper, .string r.name] ∧ Blk wr Lb 71 #[.pointer (some ⟨l.L, 0, none⟩)] ∧
     Hid (∀ n, items p (pre.length + n) r0 = pre ++ items p n r) ∧ Hid (∃ c, M.cls? p r = some c))
 case atStart => exact ⟨[], r0, by simp, hJ0, hLodge, hbR, hbL, hid (by simp), hid hown⟩
 case round =>
  obtain ⟨pre, r, hm, hj, hl, hb, hbl, HI, HO⟩ := hrel
  have hlen := hN _ _ hj
  obtain ⟨c, hc⟩ := HO.out
  obtain ⟨fn, tmps, assign, body, hy, hR⟩ := hY pre (some r) wr trivial hj
  simp only [encItem] at hy hR
  have r0' := hb.c 0 (.int .i64 r.keeper) rfl
  have r1' := hb.c 1 (.string r.name) rfl
  have l0' := hbl.c 0 (.pointer (some ⟨l.L, 0, none⟩)) rfl
  have HL := hid hl
  have HB := hid (And.intro hb hbl)
  have HY := hid hY
  have HJ := hid (And.intro hJ hJx)
  have HH := hid (And.intro hBd (And.intro hLodge (And.intro hbR hbL)))
  have HC := hid hc
  clear hl hb hbl hY hJ hJx hBd hLodge hbR hbL hc hN
  gi_wp2_with fail
  refine hR.mono ?_
  rintro e W1 ⟨hkp, (⟨rfl, hj1⟩ | ⟨rfl, hjx⟩)⟩
  · have hnb : ∀ k, k ≤ l.L → ¬ Bd k := fun k hk hb => absurd (HH.out.1 k hb).1 (by omega)
    have hl1 := HL.out.kp hkp hnb
    have hb1 := HB.out.1.kp hkp (fun hb => (HH.out.1 _ hb).2.1 rfl)
    have hbl1 := HB.out.2.kp hkp (fun hb => (HH.out.1 _ hb).2.2 rfl)
    have q0 := hb1.c 0 (.int .i64 r.keeper) rfl
    have q1 := hb1.c 1 (.string r.name) rfl
    have q2 := hbl1.c 0 (.pointer (some ⟨l.L, 0, none⟩)) rfl
    have HL1 := hid hl1
    have HB1 := hid (And.intro hb1 hbl1)
    have HK := hid (And.intro hkp hnb)
    clear hl1 hb1 hbl1 hkp hnb r0' r1' l0' hy hR
    gi_wp2_with fail
    refine ⟨trivial, ?_⟩
    refine (callsIn_wide.2 (lodge_class _ _ _ HL1.out _ _ _ HC.out)).mono ?_
    rintro e W2 ⟨⟨cs, hcl, rfl⟩, hE2⟩
    obtain ⟨y1, z1, y2, z2, rfl⟩ := hcl.form
    have s0 := hE2.cellE q0
    have s1 := hE2.cellE q1
    have s2 := hE2.cellE q2
    have hfl : ∀ W, (Instr.field 50 (.agg #[.string c.name, .string c.super, .slice y1 c.fields.length z1, .slice y2 c.methods.length z2]) 1).run Tryz.prog W = .ok (.string c.super) W := fun W => by kernel_rfl
    have hsup : M.super p r = c.super := by unfold M.super; rw [HC.out]; rfl
    by_cases hs : c.super.toList.isEmpty = true
    · gi_wp2_with fail
      ((try simp only [Exit.inBlock, Exit.then]); (first | refine bodyPost_ret (results_none rfl _ _ _) rfl ?_ | refine bodyPost_end (results_none rfl _ _ _) rfl ?_))
      refine ⟨⟨_, rfl⟩, .inl ⟨pre ++ [some r], fun n => ?_, HJ.out.1 _ _ _ hj1 hE2.any⟩⟩
      rw [List.length_append, Nat.add_assoc, HI.out]
      congr 1
      show items p (1 + n) r = [some r]
      rw [Nat.add_comm]
      unfold items
      rw [hsup, if_pos (by rw [toList_isEmpty] at hs; simpa using hs)]
    · have hs' : c.super.toList.isEmpty = false := by simpa using hs
      have HS : Hid (∀ n, items p (n + 1) r = some r :: if (M.resolve p r.keeper c.super).2 = 1 then items p n (M.resolve p r.keeper c.super).1 else [none]) := hid (by
       intro n
       conv => lhs; unfold items
       rw [hsup, if_neg (by rw [toList_isEmpty] at hs'; simpa using hs')])
      have HCL := hid hcl
      have HE2 := hid hE2
      have hl2 := HL1.out.ext hE2
      have HL2 := hid hl2
      clear hs hsup hcl hE2 hl2 q0 q1 q2
      gi_wp2_with fail
      refine ⟨trivial, ?_⟩
      refine (callsIn_wide.2 (lodge_resolve _ _ _ HL2.out _ _)).mono ?_
      rintro e W3 ⟨rfl, hE3⟩
      have u0 := hE3.cellE s0
      have u1 := hE3.cellE s1
      have u2 := hE3.cellE s2
      have hb3 := ((HB1.out.1.ext HE2.out).ext hE3)
      have hbl3 := ((HB1.out.2.ext HE2.out).ext hE3)
      have f0 := hb3.frozen 0
      have f1 := hb3.frozen 1
      have hzR := hb3.lt
      have hj3 : J (pre ++ [some r]) W3 := HJ.out.1 _ _ _ hj1 ((HE2.out.any).trans hE3.any)
      have HB3 := hid (And.intro hb3 hbl3)
      have HL3 := hid (HL2.out.ext hE3)
      have HE3 := hid hE3
      have HJ3 := hid hj3
      clear hb3 hbl3 hE3 hj3 s0 s1 s2 hj1 hj
      by_cases hcode : (M.resolve p r.keeper c.super).2 = 1
      · obtain ⟨c', hc'⟩ := resolve_owned hcode
        have HN : Hid (∀ n, items p (n + 1) r = some r :: items p n (M.resolve p r.keeper c.super).1) := hid (by
         intro n; rw [HS.out, if_pos hcode])
        rw [hcode]
        clear hcode
        generalize (M.resolve p r.keeper c.super).1 = nx at *
        have HC' : Hid (∃ c, M.cls? p nx = some c) := hid ⟨c', hc'⟩
        clear hc'
        gi_wp2_with fail
        gi_roundg (gk - 1)
        case measure => omega
        case rel =>
         have hk : Kp (· = Rb) W3 (((W3.setCell ⟨Rb, 0, none⟩ (.int .i64 nx.keeper)).setCell ⟨Rb, 1, none⟩ (.string nx.name)).alloc (.cells #[.int .i64 nx.keeper, .string nx.name] 76)) :=
          (((Kp.refl (· = Rb) W3).setCell (p := ⟨Rb, 0, none⟩) (fun _ => rfl) _).setCell (p := ⟨Rb, 1, none⟩) (fun _ => rfl) _).alloc _
         refine ⟨pre ++ [some r], nx, by simp; omega, HJ.out.1 _ _ _ HJ3.out hk, HL3.out.kp hk (fun k hkl e => by omega), ?_, HB3.out.2.kp hk (fun e => hRL e.symm), hid (fun n => ?_), HC'⟩
         · exact ((HB3.out.1.set_ 0 (.int .i64 nx.keeper)).set_ 1 (.string nx.name)).ext ((Kp.refl _ _).alloc _)
         · rw [List.length_append, Nat.add_assoc, HI.out, Nat.add_comm, show [some r].length = 1 from rfl, HN.out, List.append_assoc]; rfl
      · have HN : Hid (∀ n, items p (n + 2) r = [some r, none]) := hid (by
         intro n; rw [HS.out (n + 1), if_neg hcode])
        have hcode' : ((M.resolve p r.keeper c.super).2 == 1) = false := beq_eq_false_iff_ne.2 hcode
        have hzr : M.resolve p r.keeper c.super = (M.zref, (M.resolve p r.keeper c.super).2) := by
         unfold M.resolve at hcode ⊢
         split
         · rename_i h1; rw [if_pos h1] at hcode; exact absurd rfl hcode
         · rfl
        rw [hzr]
        have hj4 := HJ.out.1 _ _ _ HJ3.out (((Kp.refl _ W3).alloc (.cells #[.int .i64 0, .string ⟨#[]⟩] 76)) : Kp (· = Rb) W3 _)
        obtain ⟨fn2, tmps2, assign2, body2, hy2, hR2⟩ := HY.out (pre ++ [some r]) none _ trivial hj4
        simp only [encItem] at hy2 hR2
        have HR2 := hid hR2
        clear hzr hcode hj4 hR2
        generalize (M.resolve p r.keeper c.super).2 = code at *
        simp only [M.zref]
        gi_wp2_with fail
        refine HR2.out.mono ?_
        have hall : ∀ n, items p ((pre ++ [some r] ++ [none]).length + n) r0 = pre ++ [some r] ++ [none] := by
         intro n
         rw [List.length_append, List.length_append, Nat.add_assoc, Nat.add_assoc, HI.out, show [some r].length + ([none (α := M.Ref)].length + n) = n + 2 from by simp; omega, HN.out, List.append_assoc]
         rfl
        rintro e W5 ⟨hkp5, (⟨rfl, hj5⟩ | ⟨rfl, hjx5⟩)⟩
        · gi_wp2_with fail
          ((try simp only [Exit.inBlock, Exit.then]); (first | refine bodyPost_ret (results_none rfl _ _ _) rfl ?_ | refine bodyPost_end (results_none rfl _ _ _) rfl ?_))
          exact ⟨⟨_, rfl⟩, .inl ⟨pre ++ [some r] ++ [none], hall, hj5⟩⟩
        · gi_wp2_with fail
          ((try simp only [Exit.inBlock, Exit.then]); (first | refine bodyPost_ret (results_none rfl _ _ _) rfl ?_ | refine bodyPost_end (results_none rfl _ _ _) rfl ?_))
          exact ⟨⟨_, rfl⟩, .inr ⟨pre ++ [some r] ++ [none], ⟨(pre ++ [some r] ++ [none]).length + 0, [], by rw [hall 0, List.append_nil]⟩, hjx5⟩⟩
  · have hpre : ∃ rest, items p (pre.length + 1) r0 = (pre ++ [some r]) ++ rest := by
     obtain ⟨rest, hr⟩ : ∃ rest, items p 1 r = some r :: rest := ⟨_, rfl⟩
     exact ⟨rest, by rw [HI.out, hr, List.append_assoc]; rfl⟩
    obtain ⟨rest, hpre⟩ := hpre
    have HP := hid hpre
    clear hpre
    gi_wp2_with fail
    ((try simp only [Exit.inBlock, Exit.then]); (first | refine bodyPost_ret (results_none rfl _ _ _) rfl ?_ | refine bodyPost_end (results_none rfl _ _ _) rfl ?_))
    exact ⟨⟨_, rfl⟩, .inr ⟨pre ++ [some r], ⟨_, rest, HP.out⟩, hjx⟩⟩
end Go.Proofs.YtjdfceejkneofaaGreat
namespace Go.Proofs.YtjdfceejkneofaaGreat
open Go Go.RowKit
open Go.Lib (hid)
attribute [local go_sem] Oper.semAt_some
def encRef (r : M.Ref) : List Value := [.int .i64 r.keeper, .string r.name]
theorem items_done {p : M.Plan} : ∀ (f : Nat) (refs : List M.Ref) (r : M.Ref), (∀ n, items p (refs.length + n) r = refs.map some) → refs.length ≤ f → M.climbGo p f r = some refs := by
 intro f
 induction f with
 | zero =>
  intro refs r h hl
  have hn : refs = [] := List.length_eq_zero_iff.1 (by omega)
  subst hn
  have := h 1
  simp [items] at this
 | succ f ih =>
  intro refs r h hl
  cases refs with
  | nil => have := h 1; simp [items] at this
  | cons x rest =>
   have h1 := h
   have hx : ∀ n, (if M.super p r = M.none_ then [] else if (M.resolve p r.keeper (M.super p r)).2 = 1 then items p (rest.length + n) (M.resolve p r.keeper (M.super p r)).1 else [none]) = rest.map some ∧ x = r := by
    intro n
    have := h n
    rw [List.length_cons, show rest.length + 1 + n = (rest.length + n) + 1 from by omega] at this
    simp only [items, List.map_cons, List.cons.injEq, Option.some.injEq] at this
    exact ⟨this.2, this.1.symm⟩
   obtain rfl := (hx 0).2
   unfold M.climbGo
   by_cases hs : M.super p x = M.none_
   · rw [if_pos hs]
     have := (hx 0).1
     rw [if_pos hs] at this
     have : rest = [] := by
      cases rest with
      | nil => rfl
      | cons _ _ => simp at this
     rw [this]
   · rw [if_neg hs]
     by_cases hc : (M.resolve p x.keeper (M.super p x)).2 = 1
     · rw [if_pos hc, ih rest _ (fun n => by have := (hx n).1; rw [if_neg hs, if_pos hc] at this; exact this) (by simpa using hl)]
       rfl
     · have := (hx 0).1
       rw [if_neg hs, if_neg hc] at this
       cases rest <;> simp at this
def BadPre (pre : List (Option M.Ref)) : Prop := (∃ refs : List M.Ref, pre = refs.map some ++ [none]) ∨ (∃ refs : List M.Ref, pre = refs.map some ∧ refs.length = 7)
theorem items_bad {p : M.Plan} : ∀ (f : Nat) (refs : List M.Ref) (t : List (Option M.Ref)) (r : M.Ref) (n : Nat), items p n r = refs.map some ++ t → (t.head? = some none ∨ f < refs.length) → M.climbGo p f r = none := by
 intro f
 induction f with
 | zero => intro refs t r n _ _; rfl
 | succ f ih =>
  intro refs t r n h hb
  cases n with
  | zero =>
   simp only [items] at h
   cases refs with
   | nil => rcases hb with hb | hb
            · simp at h; rw [h] at hb; simp at hb
            · simp at hb
   | cons _ _ => simp at h
  | succ n =>
   cases refs with
   | nil =>
    simp only [items, List.map_nil, List.nil_append] at h
    rcases hb with hb | hb
    · rw [← h] at hb; simp at hb
    · simp at hb
   | cons x rest =>
    simp only [items, List.map_cons, List.cons_append, List.cons.injEq, Option.some.injEq] at h
    obtain ⟨rfl, h2⟩ := h
    unfold M.climbGo
    by_cases hs : M.super p r = M.none_
    · rw [if_pos hs] at h2
      have h3 := congrArg List.length h2
      rcases hb with hb | hb
      · cases t with
        | nil => simp at hb
        | cons _ _ => simp at h3
      · simp at h3
        simp at hb
        omega
    · rw [if_neg hs] at h2 ⊢
      by_cases hc : (M.resolve p r.keeper (M.super p r)).2 = 1
      · rw [if_pos hc] at h2 ⊢
        rw [ih rest t _ n h2 (hb.imp id fun h => by simpa using h)]
        rfl
      · rw [if_neg hc]
theorem owns_block {w : World} {base e k n : Nat} {v : Value} {xs : List Value} (h : w.ownsRow base e k v n xs) {b : Nat} (hb : v.ownBlock = some b) : base ≤ b := by
 rcases h.2 with ⟨rfl, _⟩ | ⟨g, cap, cur, rfl, hg, _⟩
 · cases hb
 · cases hb; exact hg
theorem owns_form0 {w : World} {base e k n : Nat} {v : Value} {xs : List Value} (h : w.ownsRow base e k v n xs) : ∃ a c, v = .slice a n c := by
 rcases h.2 with ⟨rfl, h0⟩ | ⟨g, cap, cur, rfl, hg, _⟩
 · exact ⟨none, 0, by rw [h0]⟩
 · exact ⟨_, _, rfl⟩
def ClimbI (w W0 : World) (B4 B5 B6 : Nat) (pre : List (Option M.Ref)) (W : World) : Prop := ∃ (refs : List M.Ref) (v : Value), pre = refs.map some ∧ refs.length ≤ 6 ∧ Blk W B6 73 #[v] ∧ W.ownsRow (W0.heap.size + 2) 76 2 v refs.length (refs.flatMap encRef) ∧ Blk W B4 73 #[.slice none 0 0] ∧ Blk W B5 4 #[.bool false] ∧ Ext w W
def ClimbX (w : World) (B4 B5 : Nat) (c : Code) (pre : List (Option M.Ref)) (W : World) : Prop := c = .ret ∧ BadPre pre ∧ Blk W B4 73 #[.slice none 0 0] ∧ Blk W B5 4 #[.bool false] ∧ Ext w W
def xref (x : Option M.Ref) : M.Ref := x.getD M.zref
theorem encItem_eq (x : Option M.Ref) : encItem x = #[.agg #[.int .i64 (xref x).keeper, .string (xref x).name], .bool x.isSome] := by cases x <;> rfl
theorem lodge_climb (w : World) (l : Lodge) (p : M.Plan) (h : LodgeAt w l p) (r : M.Ref) (hown : ∃ c, M.cls? p r = some c) :
    Calls Tryz.prog 74 #[.pointer (some ⟨l.L, 0, none⟩), .agg #[.int .i64 r.keeper, .string r.name]] w fun e w' =>
     (∃ v, e = .returned (.tuple #[v, .bool (M.climb p r).isSome]) ∧ SliceOf 2 RefL w' (fun b => w.heap.size ≤ b) v ((M.climb p r).getD [])) ∧ Ext w w' := by
 have hLL := h.lt
 have H := hid h
 clear h
 refine (callsIn_wide (n := 10)).1 ?_
 refine callsIn_of_wp_marks Tryz.func74 rfl trivial ?_ rfl
 simp only [Tryz.ntmps74, List.size_toArray, List.length_cons, List.length_nil, Nat.reduceAdd, Nat.reduceSub, Array.replicate_succ, Array.replicate_zero, List.push_toArray, List.append_toArray, List.nil_append, List.cons_append]
 gi_wp2_with fail
 refine ⟨trivial, ?_⟩
 refine (callsIn_wide.2 (lodge_above _ _ _ _)).mono ?_
 rintro e w1 ⟨rfl, hw1⟩
 gi_wp2_with fail
 have b3 := Blk.new w 76 #[.int .i64 r.keeper, .string r.name]
 have b4 := Blk.new (w.alloc (.cells #[.int .i64 r.keeper, .string r.name] 76)) 73 #[.slice none 0 0]
 have b5 := Blk.new ((w.alloc (.cells #[.int .i64 r.keeper, .string r.name] 76)).alloc (.cells #[.slice none 0 0] 73)) 4 #[.bool false]
 have b6 := Blk.new (((w.alloc (.cells #[.int .i64 r.keeper, .string r.name] 76)).alloc (.cells #[.slice none 0 0] 73)).alloc (.cells #[.bool false] 4)) 73 #[.slice none 0 0]
 have bL := Blk.new ((((w.alloc (.cells #[.int .i64 r.keeper, .string r.name] 76)).alloc (.cells #[.slice none 0 0] 73)).alloc (.cells #[.bool false] 4)).alloc (.cells #[.slice none 0 0] 73)) 71 #[.pointer (some ⟨l.L, 0, none⟩)]
 have bR := Blk.new (((((w.alloc (.cells #[.int .i64 r.keeper, .string r.name] 76)).alloc (.cells #[.slice none 0 0] 73)).alloc (.cells #[.bool false] 4)).alloc (.cells #[.slice none 0 0] 73)).alloc (.cells #[.pointer (some ⟨l.L, 0, none⟩)] 71)) 76 #[.int .i64 r.keeper, .string r.name]
 replace b4 := b4.ext ((((Kp.refl _ _).alloc (.cells #[.bool false] 4)).alloc (.cells #[.slice none 0 0] 73)).alloc (.cells #[.pointer (some ⟨l.L, 0, none⟩)] 71) |>.alloc (.cells #[.int .i64 r.keeper, .string r.name] 76))
 replace b5 := b5.ext (((Kp.refl _ _).alloc (.cells #[.slice none 0 0] 73)).alloc (.cells #[.pointer (some ⟨l.L, 0, none⟩)] 71) |>.alloc (.cells #[.int .i64 r.keeper, .string r.name] 76))
 replace b6 := b6.ext (((Kp.refl _ _).alloc (.cells #[.pointer (some ⟨l.L, 0, none⟩)] 71)) |>.alloc (.cells #[.int .i64 r.keeper, .string r.name] 76))
 replace bL := bL.ext ((Kp.refl _ _).alloc (.cells #[.int .i64 r.keeper, .string r.name] 76))
 clear b3
 have hE0 : Ext w ((((((w.alloc (.cells #[.int .i64 r.keeper, .string r.name] 76)).alloc (.cells #[.slice none 0 0] 73)).alloc (.cells #[.bool false] 4)).alloc (.cells #[.slice none 0 0] 73)).alloc (.cells #[.pointer (some ⟨l.L, 0, none⟩)] 71)).alloc (.cells #[.int .i64 r.keeper, .string r.name] 76)) := (KX.k (by repeat (first | assumption | constructor)))
 have hsz : ((((((w.alloc (.cells #[.int .i64 r.keeper, .string r.name] 76)).alloc (.cells #[.slice none 0 0] 73)).alloc (.cells #[.bool false] 4)).alloc (.cells #[.slice none 0 0] 73)).alloc (.cells #[.pointer (some ⟨l.L, 0, none⟩)] 71)).alloc (.cells #[.int .i64 r.keeper, .string r.name] 76)).heap.size = w.heap.size + 6 := by simp
 generalize ((((((w.alloc (.cells #[.int .i64 r.keeper, .string r.name] 76)).alloc (.cells #[.slice none 0 0] 73)).alloc (.cells #[.bool false] 4)).alloc (.cells #[.slice none 0 0] 73)).alloc (.cells #[.pointer (some ⟨l.L, 0, none⟩)] 71)).alloc (.cells #[.int .i64 r.keeper, .string r.name] 76)) = W0 at *
 simp only [World.size_alloc] at b4 b5 b6 bL bR
 obtain ⟨B4, hB4⟩ : ∃ B4, B4 = w.heap.size + 1 := ⟨_, rfl⟩
 rw [← hB4] at b4 b5 b6 bL bR ⊢
 obtain ⟨B5, hB5⟩ : ∃ B5, B5 = B4 + 1 := ⟨_, rfl⟩
 rw [← hB5] at b5 b6 bL bR ⊢
 obtain ⟨B6, hB6⟩ : ∃ B6, B6 = B5 + 1 := ⟨_, rfl⟩
 rw [← hB6] at b6 bL bR ⊢
 obtain ⟨BL, hBL⟩ : ∃ BL, BL = B6 + 1 := ⟨_, rfl⟩
 rw [← hBL] at bL bR ⊢
 obtain ⟨BR, hBR⟩ : ∃ BR, BR = BL + 1 := ⟨_, rfl⟩
 rw [← hBR] at bR ⊢
 clear hw1
 have HN := hid (And.intro hB4 (And.intro hB5 (And.intro hB6 (And.intro hBL (And.intro hBR hsz)))))
 have n46 : B4 ≠ B6 := by omega
 have n45 : B4 ≠ B5 := by omega
 have n56 : B5 ≠ B6 := by omega
 have HLW := hid (H.out.ext hE0)
 have g0 : W0.heap.size = BR + 1 := by omega
 have G0 := hid g0
 clear hB4 hB5 hB6 hBL hBR hsz g0
 refine range_kp (gf := 112) (lb := #[.pointer (some ⟨BR, 0, none⟩), .pointer (some ⟨BL, 0, none⟩)]) (α := Option M.Ref) rfl (enters_of Tryz.func112 (by kernel_rfl) rfl) (encs := encItem)
  (fun x => by cases x <;> rfl) (Bb := fun k => k = B4 ∨ k = B5 ∨ k = B6 ∨ W0.heap.size + 2 ≤ k)
  (above_iter l p r BR BL _ ?hBd ?hRL ?hR 6 hown) ?hIt ?hD1 ?hD2 ?hB1 ?hB2
  (ClimbI w W0 B4 B5 B6) (ClimbX w B4 B5) ?hI ?hIx ?h0 ?hIB
  (fun pre x W a₁ W₁ => ClimbI w W0 B4 B5 B6 pre W ∧
   W0.heap.size + 1 < W.heap.size ∧ W₁ = W.alloc (.cells #[.int .i64 (xref x).keeper, .string (xref x).name] 76) ∧
   a₁ = { tmps := #[.pointer (some ⟨l.L, 0, none⟩), .agg #[.int .i64 r.keeper, .string r.name], undef, .pointer (some ⟨w.heap.size, 0, none⟩), .pointer (some ⟨B4, 0, none⟩), .pointer (some ⟨B5, 0, none⟩), .pointer (some ⟨B6, 0, none⟩), .pointer (some ⟨W.heap.size, 0, none⟩), .bool x.isSome,
    .pointer (some ⟨l.L, 0, none⟩), .agg #[.int .i64 r.keeper, .string r.name], .func (.func 112) #[] #[.pointer (some ⟨BR, 0, none⟩), .pointer (some ⟨BL, 0, none⟩)], .agg #[.int .i64 (xref x).keeper, .string (xref x).name], .bool x.isSome,
    undef, undef, undef, undef, undef, undef, undef, undef, undef, undef, undef, undef], defers := [] }) ?hassign ?hAx ?hbody ?hdone ?hstop
 case hBd =>
  obtain ⟨h1, h2, h3, h4, h5, h6⟩ := HN.out; have h7 := G0.out
  intro k hk
  have hk' : (k = B4 ∨ k = B5 ∨ k = B6 ∨ W0.heap.size + 2 ≤ k) ∨ k = W0.heap.size + 1 := hk
  omega
 case hRL => obtain ⟨h1, h2, h3, h4, h5, h6⟩ := HN.out; have h7 := G0.out; omega
 case hR => obtain ⟨h1, h2, h3, h4, h5, h6⟩ := HN.out; have h7 := G0.out; omega
 case hIt => exact fun W hW => ⟨HLW.out.ext hW, bR.ext hW, bL.ext hW⟩
 case hD1 => have := G0.out; show ¬ W0.heap.size = BR; omega
 case hD2 => have := G0.out; show ¬ W0.heap.size + 1 = BR; omega
 case hB1 => obtain ⟨h1, h2, h3, h4, h5, h6⟩ := HN.out; have h7 := G0.out; show ¬ (W0.heap.size = B4 ∨ W0.heap.size = B5 ∨ W0.heap.size = B6 ∨ W0.heap.size + 2 ≤ W0.heap.size); omega
 case hB2 => obtain ⟨h1, h2, h3, h4, h5, h6⟩ := HN.out; have h7 := G0.out; show ¬ (W0.heap.size + 1 = B4 ∨ W0.heap.size + 1 = B5 ∨ W0.heap.size + 1 = B6 ∨ W0.heap.size + 2 ≤ W0.heap.size + 1); omega
 case hI =>
  obtain ⟨h1, h2, h3, h4, h5, h6⟩ := HN.out; have h7 := G0.out
  rintro s A B ⟨refs, v, e1, e2, e3, e4, e5, e6, e7⟩ hk
  exact ⟨refs, v, e1, e2, e3.kp hk (by omega), owns_kp e4 hk (fun g _ hg => by omega), e5.kp hk (by omega), e6.kp hk (by omega), e7.own hk (fun k hk => by omega)⟩
 case hIx =>
  obtain ⟨h1, h2, h3, h4, h5, h6⟩ := HN.out; have h7 := G0.out
  rintro c s A B ⟨e1, e2, e5, e6, e7⟩ hk
  exact ⟨e1, e2, e5.kp hk (by omega), e6.kp hk (by omega), e7.own hk (fun k hk => by omega)⟩
 case h0 => exact ⟨[], .slice none 0 0, rfl, by simp, b6, World.ownsRow_nil _ _ _ _, b4, b5, hE0⟩
 case hIB =>
  rintro s A ⟨refs, v, rfl, e2, _⟩
  simpa using e2
 case hassign =>
  intro pre x W K _ hi hlt hK
  rw [encItem_eq]
  gi_wp2
 case hAx =>
  rintro pre x W a₁ W₁ ⟨_, _, rfl, _⟩
  exact ((Kp.refl _ W).alloc _)
 case hbody =>
  rintro pre x W a₁ W₁ W₂ ⟨⟨refs, v, e1, e2, e3, e4, e5, e6, e7⟩, hlt, rfl, rfl⟩ hk12 hsz2
  obtain ⟨h1, h2, h3, h4, h5, h6⟩ := HN.out; have h7 := G0.out
  have c3 := (e3.ext ((Kp.refl _ _).alloc _)).kp hk12 (by omega)
  have c5 := (e5.ext ((Kp.refl _ _).alloc _)).kp hk12 (by omega)
  have c6 := (e6.ext ((Kp.refl _ _).alloc _)).kp hk12 (by omega)
  have c4 := owns_kp (owns_kp e4 ((Kp.refl (fun _ => False) W).alloc (.cells #[.int .i64 (xref x).keeper, .string (xref x).name] 76)) (fun _ _ _ h => h)) hk12 (fun g _ hg => by omega)
  have c7 : Ext w W₂ := (e7.alloc _).own hk12 (fun k hk => by omega)
  have cb := (Blk.new W 76 #[.int .i64 (xref x).keeper, .string (xref x).name]).kp hk12 (by omega)
  simp only [World.size_alloc] at hsz2
  have HW := hid (And.intro c3 (And.intro c4 (And.intro c5 (And.intro c6 (And.intro c7 cb)))))
  have k3 := c3.c 0 v rfl
  have f3 := c3.frozen 0
  have k5 := c5.c 0 (.slice none 0 0) rfl
  have f5 := c5.frozen 0
  have k6 := c6.c 0 (.bool false) rfl
  have f6 := c6.frozen 0
  have kb0 := cb.c 0 (.int .i64 (xref x).keeper) rfl
  have kb1 := cb.c 1 (.string (xref x).name) rfl
  have hbz := cb.lt
  have hB6 : B6 < W₂.heap.size := c3.lt
  have hsz := hid hsz2
  clear e3 e4 e5 e6 e7 c3 c4 c5 c6 c7 cb hk12 hsz2 b4 b5 b6 bL bR h1 h2 h3 h4 h5 h6 h7
  have hset : ∀ (u v : Value), Kp (fun k => k = B4 ∨ k = B5 ∨ k = B6 ∨ W0.heap.size + 2 ≤ k) W₂ ((W₂.setCell ⟨B4, 0, none⟩ u).setCell ⟨B5, 0, none⟩ v) := fun u v =>
   ((Kp.refl _ W₂).setCell (p := ⟨B4, 0, none⟩) (fun _ => .inl rfl) u).setCell (p := ⟨B5, 0, none⟩) (fun _ => .inr (.inl rfl)) v
  have hget : ∀ (u v : Value), Blk ((W₂.setCell ⟨B4, 0, none⟩ u).setCell ⟨B5, 0, none⟩ v) B4 73 #[u] ∧ Blk ((W₂.setCell ⟨B4, 0, none⟩ u).setCell ⟨B5, 0, none⟩ v) B5 4 #[v] ∧ Ext w ((W₂.setCell ⟨B4, 0, none⟩ u).setCell ⟨B5, 0, none⟩ v) := fun u v => by
   obtain ⟨h1, h2, h3, h4, h5, h6⟩ := HN.out; have h7 := G0.out
   refine ⟨?_, ?_, HW.out.2.2.2.2.1.own (hset u v) (fun k hk => by omega)⟩
   · exact (HW.out.2.2.1.set_ 0 u).kp ((Kp.refl (· = B5) _).setCell (p := ⟨B5, 0, none⟩) (fun _ => rfl) v) (by omega)
   · exact (HW.out.2.2.2.1.kp ((Kp.refl (· = B4) _).setCell (p := ⟨B4, 0, none⟩) (fun _ => rfl) u) (by omega)).set_ 0 v
  have HS := hid (And.intro hset hget)
  clear hset hget
  cases x with
  | none =>
   gi_wp2
   exact ⟨HS.out.1 _ _, rfl, .inl ⟨refs, by rw [e1]⟩, HS.out.2 _ _⟩
  | some y =>
   have hv : ∃ a cp, v = .slice a refs.length cp := by
    rcases HW.out.2.1.2 with ⟨rfl, h0⟩ | ⟨g, cap, cur, rfl, _⟩
    · exact ⟨none, 0, by rw [h0]⟩
    · exact ⟨_, _, rfl⟩
   obtain ⟨a, cp, rfl⟩ := hv
   by_cases h6 : refs.length = 6
   · have h6' : ((refs.length : Int) == 6) = true := by simp [h6]
     have H6 := hid h6
     clear h6
     gi_wp2
     exact ⟨HS.out.1 _ _, rfl, .inr ⟨refs ++ [y], by rw [e1]; simp, by simp [H6.out]⟩, HS.out.2 _ _⟩
   · have h6' : ((refs.length : Int) == 6) = false := beq_eq_false_iff_ne.2 (by omega)
     have H6 := hid h6
     gi_wp2_with (gi_at_builtin; refine wpListIn_append_one elem_ref _ rfl _ _ rfl (W0.heap.size + 2) _ _ _ rfl (HW.out.2.1.alloc _) W₂.heap.size 1 (encRef y) rfl rfl ?c1 ?c2 ?c3 ?c4 ?_)
     case c1 => exact CellsAt.of_blk (Blk.new ..) _ rfl
     case c2 => simp [encRef, Value.oneCell']
     case c3 => omega
     case c4 => have := hsz.out; simp only [World.size_alloc]; omega
     intro v' w' hown' hK g' c' hv hg hl
     subst hv
     have hK2 : Kp (fun k => W0.heap.size + 2 ≤ k) W₂ w' := ((Kp.refl _ W₂).alloc _).trans (hK.weak fun k _ hk => owns_block HW.out.2.1 hk)
     obtain ⟨h1, h2, h3, h4, h5, h6'⟩ := HN.out; have h7 := G0.out
     have d3 := HW.out.1.kp hK2 (by omega)
     have d4 := HW.out.2.2.1.kp hK2 (by omega)
     have d5 := HW.out.2.2.2.1.kp hK2 (by omega)
     have d7 := HW.out.2.2.2.2.1.own hK2 (fun k hk => by omega)
     have q3 := d3.c 0 (.slice a refs.length cp) rfl
     have qf := d3.frozen 0
     have qz := d3.lt
     have HD := hid (And.intro d3 (And.intro d4 (And.intro d5 (And.intro d7 (And.intro hown' hK2)))))
     have HG := hid (And.intro hg hl)
     clear d3 d4 d5 d7 h1 h2 h3 h4 h5 h6' h7 hown' hK hK2 hg hl k3 f3 k5 f5 k6 f6 kb0 kb1 hB6 hbz h6
     gi_wp2
     have hks : Kp (· = B6) w' (w'.setCell ⟨B6, 0, none⟩ (.slice (some ⟨g', 0, none⟩) (refs.length + 1) c')) := (Kp.refl (· = B6) w').setCell (p := ⟨B6, 0, none⟩) (fun _ => rfl) _
     obtain ⟨h1, h2, h3, h4, h5, h6'⟩ := HN.out; have h7 := G0.out
     obtain ⟨d3, d4, d5, d7, d8, d9⟩ := HD.out
     refine ⟨(d9.weak fun _ _ h => .inr (.inr (.inr h))).trans (hks.weak fun _ _ h => .inr (.inr (.inl h))), refs ++ [y], _, by rw [e1]; simp, by have := H6.out; simp; omega, d3.set_ 0 _, ?_, d4.kp hks (by omega), d5.kp hks (by omega), d7.own hks (fun k hk => by omega)⟩
     have := owns_kp d8 hks (fun g _ hg => by omega)
     simpa using this
 case hdone =>
  rintro xs W hS ⟨refs, v, rfl, e2, e3, e4, e5, e6, e7⟩ hK
  have k3 := e3.c 0 v rfl
  have k5 := e5.c 0 (.slice none 0 0) rfl
  have f5 := e5.frozen 0
  have z5 := e5.lt
  have k6 := e6.c 0 (.bool false) rfl
  have f6 := e6.frozen 0
  have z6 := e6.lt
  have HD := hid (And.intro e3 (And.intro e4 (And.intro e5 (And.intro e6 e7))))
  have HS := hid hS
  have hv := owns_form0 e4
  clear e3 e4 e5 e6 e7 hS b4 b5 b6 bL bR
  obtain ⟨av, cv, rfl⟩ := hv
  simp only [Exit.inBlock, Exit.then]
  gi_wp2
  obtain ⟨h1, h2, h3, h4, h5, h6⟩ := HN.out; have h7 := G0.out
  obtain ⟨d3, d4, d5, d6, d7⟩ := HD.out
  have hk5 : Kp (fun k => k = B4 ∨ k = B5) W ((W.setCell ⟨B4, 0, none⟩ (.slice av refs.length cv)).setCell ⟨B5, 0, none⟩ (.bool true)) :=
   ((Kp.refl (fun k => k = B4 ∨ k = B5) W).setCell (p := ⟨B4, 0, none⟩) (fun _ => .inl rfl) _).setCell (p := ⟨B5, 0, none⟩) (fun _ => .inr rfl) _
  have g5 := (d5.set_ 0 (.slice av refs.length cv)).kp ((Kp.refl (· = B5) _).setCell (p := ⟨B5, 0, none⟩) (fun _ => rfl) (.bool true)) (by omega)
  have g6 := (d6.kp ((Kp.refl (· = B4) W).setCell (p := ⟨B4, 0, none⟩) (fun _ => rfl) (.slice av refs.length cv)) (by omega)).set_ 0 (.bool true)
  have hK' := (hk5.block W0.heap.size (by have := d7.size; have := d3.lt; exact (Array.getElem?_eq_some_iff.1 hK).1) (by omega)).trans hK
  generalize (W.setCell ⟨B4, 0, none⟩ (.slice av refs.length cv)).setCell ⟨B5, 0, none⟩ (.bool true) = W5 at hk5 g5 g6 hK' ⊢
  refine ⟨by simp, .inl ⟨_, _, rfl, run_takeDeferred hK', ?_⟩⟩
  have hk6 := Kp.putObj W5 W0.heap.size (.deferred none)
  have m5 := (g5.kp hk6 (by omega)).c 0 _ rfl
  have m6 := (g6.kp hk6 (by omega)).c 0 _ rfl
  have hcl : M.climb p r = some refs := items_done 6 refs r (fun n => by have := HS.out n; rwa [List.length_map] at this) e2
  refine ⟨.tuple #[.slice av refs.length cv, .bool true], ?_, ⟨_, by rw [hcl]; rfl, ?_⟩, ?_⟩
  · simp [results, Tryz.f74, go_sem, m5, m6]
  · rw [hcl]
    refine SliceOf.of_owns encRef (owns_kp (owns_kp d4 hk5 (fun g _ hg => by omega)) hk6 (fun g _ hg => by omega)) rfl rfl (fun _ _ => rfl) (fun _ _ => rfl) (fun b h h' => by show w.heap.size ≤ b; omega) (by show refs.length ≤ _; omega)
  · exact (d7.own hk5 (fun k hk => by omega)).own hk6 (fun k hk => by omega)
 case hstop =>
  rintro c pre W hS ⟨rfl, hb, e5, e6, e7⟩ hK
  have HD := hid (And.intro e5 (And.intro e6 e7))
  clear e5 e6 e7 b4 b5 b6 bL bR
  gi_wp2
  obtain ⟨h1, h2, h3, h4, h5, h6⟩ := HN.out; have h7 := G0.out
  obtain ⟨d5, d6, d7⟩ := HD.out
  refine ⟨by simp, .inl ⟨_, _, rfl, run_takeDeferred hK, ?_⟩⟩
  have hk6 := Kp.putObj W W0.heap.size (.deferred none)
  have m5 := (d5.kp hk6 (by omega)).c 0 _ rfl
  have m6 := (d6.kp hk6 (by omega)).c 0 _ rfl
  obtain ⟨n, rest, hit⟩ := hS
  have hcl : M.climb p r = none := by
   rcases hb with ⟨refs, rfl⟩ | ⟨refs, rfl, hl⟩
   · exact items_bad 6 refs _ r n (by rw [hit, List.append_assoc]) (.inl rfl)
   · exact items_bad 6 refs _ r n hit (.inr (by omega))
  refine ⟨.tuple #[.slice none 0 0, .bool false], ?_, ⟨_, by rw [hcl]; rfl, ?_⟩, ?_⟩
  · simp [results, Tryz.f74, go_sem, m5, m6]
  · rw [hcl]; exact SliceOf.nil _ _ _ _
  · exact d7.own hk6 (fun k hk => by omega)
end Go.Proofs.YtjdfceejkneofaaGreat
namespace Go.Proofs.YtjdfceejkneofaaGreat
open Go Go.RowKit
open Go.Lib (hid)
theorem lodge_find (w : World) (l : Lodge) (p : M.Plan) (h : LodgeAt w l p) (k : Int) (n : ByteArray) :
    Calls Tryz.prog 42 #[.pointer (some ⟨l.L, 0, none⟩), .int .i64 k, .string n] w fun e w' =>
     e = .returned (.tuple #[.agg #[.int .i64 (M.find p k n).1.keeper, .string (M.find p k n).1.name], .int .i64 (M.find p k n).2]) ∧ Ext w w' := by
 have hE0 : Ext w (w.alloc (.cells #[.int .i64 0, .string ⟨#[]⟩] 76)) := ((Kp.refl _ _).alloc _)
 have H := hid (h.ext hE0)
 clear h
 have b0 := Blk.new w 76 #[.int .i64 0, .string ⟨#[]⟩]
 go_enter Tryz.func42, Tryz.ntmps42
 go_wp2_with fail
 refine (lodge_resolve _ _ _ H.out _ _).mono ?_
 rintro e w1 ⟨rfl, hB⟩
 have b1 := b0.ext hB
 have c0 := b1.c 0 (.int .i64 0) rfl
 have c1 := b1.c 1 (.string ⟨#[]⟩) rfl
 have f0 := b1.frozen 0
 have f1 := b1.frozen 1
 have hz := b1.lt
 by_cases hc : (M.resolve p k n).2 = 1
 · obtain ⟨c, hcl⟩ := resolve_owned hc
   have H1 := hid (H.out.ext hB)
   have hR : Hid (M.find p k n = if (M.climb p (M.resolve p k n).1).isSome then ((M.resolve p k n).1, 1) else (M.zref, 4)) := hid (by unfold M.find; rw [if_pos hc])
   rw [hc]
   clear hc
   generalize (M.resolve p k n).1 = r at *
   have b2 := Blk.new w1 76 #[.int .i64 r.keeper, .string r.name]
   go_wp2_with fail
   refine (lodge_climb _ _ _ (H1.out.ext ((Kp.refl _ _).alloc _)) _ ⟨c, hcl⟩).mono ?_
   rintro e w2 ⟨⟨v, rfl, hs⟩, hB2⟩
   have b3 := (b1.ext ((Kp.refl _ _).alloc (.cells #[.int .i64 r.keeper, .string r.name] 76))).ext hB2
   have b4 := b2.ext hB2
   have d0 := b3.c 0 (.int .i64 0) rfl
   have d1 := b3.c 1 (.string ⟨#[]⟩) rfl
   have g0 := b3.frozen 0
   have g1 := b3.frozen 1
   have hz2 := b3.lt
   have d2 := b4.c 0 (.int .i64 r.keeper) rfl
   have d3 := b4.c 1 (.string r.name) rfl
   have hne : ¬ w1.heap.size = w.heap.size := by omega
   cases hcb : (M.climb p r).isSome
   · rw [hcb] at hR
     clear c0 c1 f0 f1 hs hcl b0 b1 b2 b3 b4
     go_wp2
     refine bodyPost_ret (v := .tuple #[.agg #[.int .i64 0, .string ⟨#[]⟩], .int .i64 4]) (by simp [results, Tryz.results42, go_sem, d0, d1]) rfl ?_
     exact ⟨by rw [hR.out]; rfl, (by repeat (first | with_reducible assumption | with_reducible exact Kp.refl _ _ | apply Kp.alloc | apply Kp.drew | apply Kp.drewN | refine Kp.setCell ?_ (fun h => absurd h (by simp <;> omega)) _ | assumption | refine Kp.trans ?_ (by assumption) | exact Kp.refl _ _))⟩
   · rw [hcb] at hR
     clear c0 c1 f0 f1 hs hcl b0 b1 b2 b3 b4
     go_wp2
     refine bodyPost_ret (v := .tuple #[.agg #[.int .i64 r.keeper, .string r.name], .int .i64 1]) (by simp [results, Tryz.results42, go_sem, d0, d1]) rfl ?_
     exact ⟨by rw [hR.out]; rfl, (by repeat (first | with_reducible assumption | with_reducible exact Kp.refl _ _ | apply Kp.alloc | apply Kp.drew | apply Kp.drewN | refine Kp.setCell ?_ (fun h => absurd h (by simp <;> omega)) _ | assumption | refine Kp.trans ?_ (by assumption) | exact Kp.refl _ _))⟩
 · have hR : Hid (M.find p k n = (M.zref, (M.resolve p k n).2)) := hid (by unfold M.find; rw [if_neg hc])
   have hc' : ((M.resolve p k n).2 == 1) = false := beq_eq_false_iff_ne.2 hc
   clear hc
   generalize (M.resolve p k n).2 = c at *
   go_wp2
   refine bodyPost_ret (v := .tuple #[.agg #[.int .i64 0, .string ⟨#[]⟩], .int .i64 c]) (by simp [results, Tryz.results42, go_sem, c0, c1, hz]) rfl ?_
   exact ⟨by rw [hR.out]; rfl, (by repeat (first | with_reducible assumption | with_reducible exact Kp.refl _ _ | apply Kp.alloc | apply Kp.drew | apply Kp.drewN | refine Kp.setCell ?_ (fun h => absurd h (by simp <;> omega)) _ | assumption | refine Kp.trans ?_ (by assumption) | exact Kp.refl _ _))⟩
theorem lodge_chain (w : World) (l : Lodge) (p : M.Plan) (h : LodgeAt w l p) (r : M.Ref) :
    Calls Tryz.prog 37 #[.pointer (some ⟨l.L, 0, none⟩), .agg #[.int .i64 r.keeper, .string r.name]] w fun e w' =>
     (∃ v, e = .returned v ∧ SliceOf 2 RefL w' (fun b => w.heap.size ≤ b) v (M.chain p r)) ∧ Ext w w' := by
 have hE0 : Ext w (w.alloc (.cells #[.int .i64 r.keeper, .string r.name] 76)) := ((Kp.refl _ _).alloc _)
 have H := hid (h.ext hE0)
 clear h
 have b0 := Blk.new w 76 #[.int .i64 r.keeper, .string r.name]
 have c0 := b0.c 0 (.int .i64 r.keeper) rfl
 have c1 := b0.c 1 (.string r.name) rfl
 go_enter Tryz.func37, Tryz.ntmps37
 go_wp2_with fail
 refine (lodge_find _ _ _ H.out _ _).mono ?_
 rintro e w1 ⟨rfl, hB⟩
 have b1 := b0.ext hB
 have d0 := b1.c 0 (.int .i64 r.keeper) rfl
 have d1 := b1.c 1 (.string r.name) rfl
 have hz := b1.lt
 have H1 := hid (H.out.ext hB)
 clear b0 c0 c1
 have hR : Hid (M.chain p r = if (M.find p r.keeper r.name).2 = 1 ∧ (M.find p r.keeper r.name).1 = r then (M.climb p r).getD [] else []) := hid (by
  unfold M.chain M.loadable; simp)
 have hF : Hid ((M.find p r.keeper r.name).2 = 1 → (M.find p r.keeper r.name).1 = r → ∃ c, M.cls? p r = some c) := hid (by
  intro h1 h2
  unfold M.find at h1 h2
  by_cases hc : (M.resolve p r.keeper r.name).2 = 1
  · rw [if_pos hc] at h1 h2
    obtain ⟨c, hcl⟩ := resolve_owned hc
    split at h1
    · rename_i h3
      rw [if_pos h3] at h2
      have h2' : (M.resolve p r.keeper r.name).1 = r := h2
      rw [h2'] at hcl
      exact ⟨c, hcl⟩
    · simp at h1
  · rw [if_neg hc] at h1
    exact absurd h1 hc)
 generalize M.find p r.keeper r.name = F at *
 obtain ⟨⟨fk, fn⟩, code⟩ := F
 simp only at *
 by_cases hc : code = 1
 · subst hc
   by_cases hr : fk = r.keeper ∧ fn = r.name
   · obtain ⟨rfl, rfl⟩ := hr
     obtain ⟨c, hcl⟩ := hF.out rfl rfl
     have hR' : Hid (M.chain p r = (M.climb p r).getD []) := hid (by rw [hR.out, if_pos ⟨rfl, rfl⟩])
     clear hR hF
     go_wp2_with fail
     refine (lodge_climb _ _ _ (H1.out.ext ((Kp.refl _ _).alloc _)) _ ⟨c, hcl⟩).mono ?_
     rintro e w2 ⟨⟨v, rfl, hs⟩, hB2⟩
     go_wp2
     refine bodyPost_ret (v := v) (by simp [results, Tryz.results37, go_sem]) rfl ?_
     refine ⟨⟨v, rfl, ?_⟩, (by repeat (first | assumption | exact Kp.refl _ _ | apply Kp.alloc | apply Kp.drew | apply Kp.drewN | refine Kp.trans ?_ (by assumption)))⟩
     rw [hR'.out]
     exact hs.keep RefL.stays (fun _ _ _ _ h => h) (fun b hb => by have := hB.size; simp only [World.size_alloc] at hb this; show w.heap.size ≤ b; omega)
   · have hR' : Hid (M.chain p r = []) := hid (by
      rw [hR.out, if_neg]
      rintro ⟨-, h⟩
      exact hr ⟨congrArg M.Ref.keeper h, congrArg M.Ref.name h⟩)
     by_cases hk : fk = r.keeper
     · subst hk
       have hn : (fn.toList == r.name.toList) = false := by
        rw [beq_names]; exact decide_eq_false (fun h => hr ⟨rfl, h⟩)
       clear hR hF hr
       go_wp2
       refine bodyPost_ret (v := .slice none 0 0) (by simp [results, Tryz.results37, go_sem]) rfl ?_
       refine ⟨⟨_, rfl, ?_⟩, (by repeat (first | assumption | exact Kp.refl _ _ | apply Kp.alloc | apply Kp.drew | apply Kp.drewN | refine Kp.trans ?_ (by assumption)))⟩
       rw [hR'.out]
       exact SliceOf.nil _ _ _ _
     · have hk' : (fk == r.keeper) = false := beq_eq_false_iff_ne.2 hk
       clear hR hF hr
       go_wp2
       refine bodyPost_ret (v := .slice none 0 0) (by simp [results, Tryz.results37, go_sem]) rfl ?_
       refine ⟨⟨_, rfl, ?_⟩, (by repeat (first | assumption | exact Kp.refl _ _ | apply Kp.alloc | apply Kp.drew | apply Kp.drewN | refine Kp.trans ?_ (by assumption)))⟩
       rw [hR'.out]
       exact SliceOf.nil _ _ _ _
 · have hR' : Hid (M.chain p r = []) := hid (by rw [hR.out, if_neg (fun h => hc h.1)])
   have hc' : (code != 1) = true := bne_iff_ne.2 hc
   clear hR hF hc
   go_wp2
   refine bodyPost_ret (v := .slice none 0 0) (by simp [results, Tryz.results37, go_sem]) rfl ?_
   refine ⟨⟨_, rfl, ?_⟩, (by repeat (first | assumption | exact Kp.refl _ _ | apply Kp.alloc | apply Kp.drew | apply Kp.drewN | refine Kp.trans ?_ (by assumption)))⟩
   rw [hR'.out]
   exact SliceOf.nil _ _ _ _
theorem ref_cmp (a b : Int) (m n : ByteArray) : (a = b ∧ m = n) ∨ (a = b ∧ (m.toList == n.toList) = false ∧ m ≠ n) ∨ ((a == b) = false ∧ a ≠ b) := by
 by_cases h : a = b
 · by_cases h2 : m = n
   · exact .inl ⟨h, h2⟩
   · exact .inr (.inl ⟨h, by rw [beq_names]; exact decide_eq_false h2, h2⟩)
 · exact .inr (.inr ⟨beq_eq_false_iff_ne.2 h, h⟩)
theorem not_contains {α : Type} [BEq α] [LawfulBEq α] {l : List α} {x : α} {k : Nat} (h : ∀ y ∈ l.take k, y ≠ x) (hk : l.length ≤ k) : l.contains x = false := by
 rw [List.take_of_length_le hk] at h
 cases hc : l.contains x
 · rfl
 · exact absurd rfl (h x (by simpa using hc))
theorem lodge_under (w : World) (l : Lodge) (p : M.Plan) (h : LodgeAt w l p) (r t : M.Ref) :
    Calls Tryz.prog 94 #[.pointer (some ⟨l.L, 0, none⟩), .agg #[.int .i64 r.keeper, .string r.name], .agg #[.int .i64 t.keeper, .string t.name]] w fun e w' =>
     e = .returned (.bool (M.under p r t)) ∧ Ext w w' := by
 have hE0 : Ext w ((w.alloc (.cells #[.int .i64 r.keeper, .string r.name] 76)).alloc (.cells #[.int .i64 t.keeper, .string t.name] 76)) := (KX.k (by repeat (first | assumption | constructor)))
 have H := hid (h.ext hE0)
 clear h
 have b5 := Blk.new (w.alloc (.cells #[.int .i64 r.keeper, .string r.name] 76)) 76 #[.int .i64 t.keeper, .string t.name]
 simp only [World.size_alloc] at b5
 go_enter Tryz.func94, Tryz.ntmps94
 go_wp2_with fail
 refine (lodge_chain _ _ _ H.out _).mono ?_
 rintro e w1 ⟨⟨v, rfl, hs⟩, hB⟩
 replace b5 := b5.ext hB
 obtain ⟨a, cap, rfl, hn, hcap⟩ := hs.form
 have hU : Hid (M.under p r t = (M.chain p r).contains t) := hid rfl
 have hE1 : Ext w w1 := hE0.trans hB
 clear hE0 hB
 generalize M.chain p r = xs at *
 go_wp2
 go_loopw [13] (fun i wr => ∃ k : Nat, k ≤ xs.length ∧ i = .int .i64 k ∧ Ext w1 wr ∧ Hid (∀ y ∈ xs.take k, y ≠ t)) (fun i _ => xs.length - (intOf i).toNat)
 case atStart => exact ⟨0, Nat.zero_le _, rfl, Kp.refl _ _, hid (by simp)⟩
 case round =>
  obtain ⟨k, hk, rfl, hE, HA⟩ := hrel
  have b5r := b5.ext hE
  have t0 := b5r.c 0 (.int .i64 t.keeper) rfl
  have t1 := b5r.c 1 (.string t.name) rfl
  have hz := b5r.lt
  by_cases hlt : k < xs.length
  · obtain ⟨x, hx⟩ := get_some hlt
    obtain ⟨b, off, cs, rfl, hI, rfl, -, hc⟩ := hs.get hx
    obtain ⟨g0, g1⟩ := (hc.ext hE).two
    have HX := hid hx
    clear hx hc hs b5 b5r
    obtain ⟨xk, xn⟩ := x
    obtain ⟨tk, tn⟩ := t
    simp only at *
    rcases ref_cmp xk tk xn tn with ⟨rfl, rfl⟩ | ⟨rfl, hn1, hn2⟩ | ⟨hk1, hk2⟩
    · go_wp2
      go_ret
      exact ⟨ret_bool (by rw [hU.out]; simpa using List.mem_of_getElem? HX.out), (by repeat (first | assumption | exact Kp.refl _ _ | apply Kp.alloc | apply Kp.drew | apply Kp.drewN | refine Kp.trans ?_ (by assumption)))⟩
    · have HN := hid hn2
      clear hn2
      go_wp2
      go_roundw
      case rel =>
       refine ⟨k + 1, by omega, by go_num, (KX.k (by repeat (first | assumption | constructor))), hid ?_⟩
       intro y hy
       rw [List.take_add_one, HX.out] at hy
       rcases List.mem_append.1 hy with h | h
       · exact HA.out y h
       · simp at h; subst h; intro h; exact HN.out (congrArg M.Ref.name h)
      case measure => simp [intOf]; omega
    · have HN := hid hk2
      clear hk2
      go_wp2
      go_roundw
      case rel =>
       refine ⟨k + 1, by omega, by go_num, (KX.k (by repeat (first | assumption | constructor))), hid ?_⟩
       intro y hy
       rw [List.take_add_one, HX.out] at hy
       rcases List.mem_append.1 hy with h | h
       · exact HA.out y h
       · simp at h; subst h; intro h; exact HN.out (congrArg M.Ref.keeper h)
      case measure => simp [intOf]; omega
  · go_wp2
    go_ret
    exact ⟨ret_bool (by rw [hU.out]; exact (not_contains HA.out (by omega)).symm), (by repeat (first | assumption | exact Kp.refl _ _ | apply Kp.alloc | apply Kp.drew | apply Kp.drewN | refine Kp.trans ?_ (by assumption)))⟩
end Go.Proofs.YtjdfceejkneofaaGreat
