/- Walks: the looker's frames.; Walks: look's deferred function.; The run in memory: the machine's block, its calls, things and numbers, and which block plays which p; Walks: look. -/
import Derived.Test.YtjdfceejkneofaaGreatJal
import Derived.Tactics2
import Derived.Defers
import Derived.Recover
import Derived.Test.YtjdfceejkneofaaGreatJaf
import Derived.Test.YtjdfceejkneofaaGreatJah
import Derived.Test.YtjdfceejkneofaaGreatJaa
set_option maxRecDepth 100000
set_option maxHeartbeats 4000000
set_option linter.unusedSimpArgs false
set_option linter.unusedVariables false
namespace Go.Proofs.YtjdfceejkneofaaGreat
open Go Go.RowKit
open Go.Lib (hid)
@[go_sem] theorem run_store_func {P : Program} {w : World} {a : Addr} {m : Mode} (f : Fn) (x y : Array Value) : (store a (.func f x y) m).run P w = stored P w a (.func f x y) m := run_store P w a _ m rfl
@[go_sem] theorem run_store_nilFunc {P : Program} {w : World} {a : Addr} {m : Mode} : (store a .nilFunc m).run P w = stored P w a .nilFunc m := run_store P w a _ m rfl
def lkFn (n : Nat) : Nat :=
 if n = 1 then 115 else if n = 2 then 116 else if n = 3 then 117 else if n = 4 then 118 else if n = 5 then 119 else if n = 6 then 120 else
 if n = 7 then 121 else if n = 8 then 122 else if n = 9 then 123 else if n = 10 then 124 else if n = 11 then 125 else if n = 12 then 126 else
 if n = 13 then 127 else if n = 14 then 128 else 129
def lkTab : Array Value := #[.nilFunc, .func (.func 115) #[] #[], .func (.func 116) #[] #[], .func (.func 117) #[] #[], .func (.func 118) #[] #[], .func (.func 119) #[] #[], .func (.func 120) #[] #[],
 .func (.func 121) #[] #[], .func (.func 122) #[] #[], .func (.func 123) #[] #[], .func (.func 124) #[] #[], .func (.func 125) #[] #[], .func (.func 126) #[] #[], .func (.func 127) #[] #[],
 .func (.func 128) #[] #[], .func (.func 129) #[] #[]]
theorem lkTab_get {n : Nat} (h1 : 1 ≤ n) (h2 : n ≤ 15) : lkTab[n]? = some (.func (.func (lkFn n)) #[] #[]) := by
 have : n = 1 ∨ n = 2 ∨ n = 3 ∨ n = 4 ∨ n = 5 ∨ n = 6 ∨ n = 7 ∨ n = 8 ∨ n = 9 ∨ n = 10 ∨ n = 11 ∨ n = 12 ∨ n = 13 ∨ n = 14 ∨ n = 15 := by omega
 rcases this with rfl | rfl | rfl | rfl | rfl | rfl | rfl | rfl | rfl | rfl | rfl | rfl | rfl | rfl | rfl <;> rfl
theorem callFunc_enter {f : Nat} {fn : Func} {c : Code} (hf : Tryz.prog.funcs[f]? = some fn) (hb : fn.body = some c) (hn : (fn.name == "runtime.NumGoroutine") = false) (args : Array Value) (w : World) : (callFunc f args).run Tryz.prog w = .ok (.enter f args) w := by
 have hn' : ¬ fn.name = "runtime.NumGoroutine" := by simpa using hn
 simp [callFunc, go_sem, hf, hb, hn']
theorem lk_enter {n : Nat} (h1 : 1 ≤ n) (h2 : n ≤ 15) (args : Array Value) (w : World) : (callFunc (lkFn n) args).run Tryz.prog w = .ok (.enter (lkFn n) args) w := by
 have : n = 1 ∨ n = 2 ∨ n = 3 ∨ n = 4 ∨ n = 5 ∨ n = 6 ∨ n = 7 ∨ n = 8 ∨ n = 9 ∨ n = 10 ∨ n = 11 ∨ n = 12 ∨ n = 13 ∨ n = 14 ∨ n = 15 := by omega
 rcases this with rfl | rfl | rfl | rfl | rfl | rfl | rfl | rfl | rfl | rfl | rfl | rfl | rfl | rfl | rfl
 · exact callFunc_enter Tryz.func115 rfl (by kernel_rfl) args w
 · exact callFunc_enter Tryz.func116 rfl (by kernel_rfl) args w
 · exact callFunc_enter Tryz.func117 rfl (by kernel_rfl) args w
 · exact callFunc_enter Tryz.func118 rfl (by kernel_rfl) args w
 · exact callFunc_enter Tryz.func119 rfl (by kernel_rfl) args w
 · exact callFunc_enter Tryz.func120 rfl (by kernel_rfl) args w
 · exact callFunc_enter Tryz.func121 rfl (by kernel_rfl) args w
 · exact callFunc_enter Tryz.func122 rfl (by kernel_rfl) args w
 · exact callFunc_enter Tryz.func123 rfl (by kernel_rfl) args w
 · exact callFunc_enter Tryz.func124 rfl (by kernel_rfl) args w
 · exact callFunc_enter Tryz.func125 rfl (by kernel_rfl) args w
 · exact callFunc_enter Tryz.func126 rfl (by kernel_rfl) args w
 · exact callFunc_enter Tryz.func127 rfl (by kernel_rfl) args w
 · exact callFunc_enter Tryz.func128 rfl (by kernel_rfl) args w
 · exact callFunc_enter Tryz.func129 rfl (by kernel_rfl) args w
theorem look_ins (w : World) (l : Lodge) (p : M.Plan) (B kb : Nat) (k : Int) (m : M.Method) (t : MSl) (at_ : Int) (s : M.Frm) (vl vs : Value) (h : LookAt w l p B kb k m t at_ s vl vs) (i : M.Ins) (n : Nat) (hn : i.op = n) (hi : M.insIn m i = true) :
    Calls Tryz.prog (lkFn n) #[.pointer (some ⟨kb, 0, none⟩), .agg #[.int .i64 i.op, .int .i64 i.a, .string i.name, .string i.member]] w (LkEnd w l p B kb k m t at_ vl vs (M.lkIns p k m i s)) := by
 obtain ⟨_, h2, _, _, h5, _⟩ := M.ins_a hi
 have : n = 1 ∨ n = 2 ∨ n = 3 ∨ n = 4 ∨ n = 5 ∨ n = 6 ∨ n = 7 ∨ n = 8 ∨ n = 9 ∨ n = 10 ∨ n = 11 ∨ n = 12 ∨ n = 13 ∨ n = 14 ∨ n = 15 := by omega
 rcases this with rfl | rfl | rfl | rfl | rfl | rfl | rfl | rfl | rfl | rfl | rfl | rfl | rfl | rfl | rfl
 · exact look_num _ _ _ _ _ _ _ _ _ _ _ _ h i hn
 · exact look_tak _ _ _ _ _ _ _ _ _ _ _ _ h i hn (h2 (.inl hn))
 · exact look_pt _ _ _ _ _ _ _ _ _ _ _ _ h i hn (h2 (.inr hn))
 · exact look_add _ _ _ _ _ _ _ _ _ _ _ _ h i hn
 · exact look_null _ _ _ _ _ _ _ _ _ _ _ _ h i hn
 · exact look_new _ _ _ _ _ _ _ _ _ _ _ _ h i hn
 · exact look_get _ _ _ _ _ _ _ _ _ _ _ _ h i hn
 · exact look_set _ _ _ _ _ _ _ _ _ _ _ _ h i hn
 · exact look_call _ _ _ _ _ _ _ _ _ _ _ _ h i hn
 · exact look_ret _ _ _ _ _ _ _ _ _ _ _ _ h i hn
 · exact look_zero _ _ _ _ _ _ _ _ _ _ _ _ h i hn
 · exact look_isnil _ _ _ _ _ _ _ _ _ _ _ _ h i hn
 · exact look_go _ _ _ _ _ _ _ _ _ _ _ _ h i hn
 · exact look_out _ _ _ _ _ _ _ _ _ _ _ _ h i hn
 · exact look_cast _ _ _ _ _ _ _ _ _ _ _ _ h i hn
theorem LookAt.setAt {w : World} {l : Lodge} {p : M.Plan} {B kb : Nat} {k : Int} {m : M.Method} {t : MSl} {at_ : Int} {s : M.Frm} {vl vs : Value} (h : LookAt w l p B kb k m t at_ s vl vs) (n : Int) (hn : 0 ≤ n ∧ n ≤ 100) :
    LookAt (w.setCell ⟨kb, 10, none⟩ (.int .i64 n)) l p B kb k m t n s vl vs ∧ Kp (LkO l kb vl vs) w (w.setCell ⟨kb, 10, none⟩ (.int .i64 n)) := by
 have hK : Kp (· = kb) w (w.setCell ⟨kb, 10, none⟩ (.int .i64 n)) := (Kp.refl (· = kb) w).setCell (p := ⟨kb, 10, none⟩) (fun _ => rfl) _
 have h1 := h.hB
 have h2 := h.hk
 have h3 := h.lod.ord
 exact ⟨⟨h.lod.kp hK (fun b hb e => by omega), h.hB, h.hk, Stays.kp MethodL.stays hK (fun b hb e => by omega) h.ml, h.mi, h.blk.set_ 10 _,
  owns_kp h.loc hK (fun g hg _ e => by subst e; exact h.neb.1 hg), owns_kp h.stk hK (fun g hg _ e => by subst e; exact h.neb.2 hg), h.ne, hn, h.ssz, h.lsz⟩, hK.weak fun b _ e => .inr (.inl e)⟩
theorem LkO.sub {l : Lodge} {kb n b : Nat} {vl vs vl' vs' : Value} (h : ¬ LkO l kb vl vs b) (hO : OwnSub n vl vs vl' vs') (hb : b < n) : ¬ LkO l kb vl' vs' b := by
 rintro (e | e | e | e)
 · exact h (.inl e)
 · exact h (.inr (.inl e))
 · rcases hO b (.inl e) with x | x | x
   · exact h (.inr (.inr (.inl x)))
   · exact h (.inr (.inr (.inr x)))
   · omega
 · rcases hO b (.inr e) with x | x | x
   · exact h (.inr (.inr (.inl x)))
   · exact h (.inr (.inr (.inr x)))
   · omega
theorem MethodL.code {w : World} {I : Nat → Prop} {m : M.Method} {t : MSl} (h : MethodL w I m (mthCs m t)) : SliceOf 4 InsL w I (.slice t.a2 m.code.length t.c2) m.code := by
 obtain ⟨va', vc', vm', he, -, h2, -⟩ := h
 simp only [mthCs, List.cons.injEq, and_true, true_and] at he
 obtain ⟨-, rfl, -⟩ := he
 exact h2
def FrEnd (w : World) (l : Lodge) (p : M.Plan) (kb : Nat) (vl vs : Value) (o : Sum Int (List M.Frm)) (e : Ending) (w' : World) : Prop :=
 Kp (LkO l kb vl vs) w w' ∧ LodgeAt w' l p ∧ ((∃ n, o = .inl n ∧ e = .panicked (wrongP n)) ∨ ∃ fs v vl' vs', o = .inr fs ∧ e = .returned v ∧ Kn w' w.heap.size v vl' vs' fs)
theorem look_frames (w : World) (l : Lodge) (p : M.Plan) (B kb : Nat) (k : Int) (m : M.Method) (t : MSl) (at_ : Int) (s : M.Frm) (vl vs : Value) (h : LookAt w l p B kb k m t at_ s vl vs) :
    Calls Tryz.prog 103 #[.pointer (some ⟨kb, 0, none⟩)] w (FrEnd w l p kb vl vs (M.framesGo p k m m.code 0 true s [])) := by
 obtain ⟨a1, c1, a2, c2, a3, c3⟩ := t
 have hkz := h.blk.lt
 have H := hid h
 obtain ⟨w0, hw0⟩ : ∃ w0, w0 = w.alloc (.cells lkTab 203) := ⟨_, rfl⟩
 have b3 : Blk w0 w.heap.size 203 lkTab := by rw [hw0]; exact Blk.new _ _ _
 have hE0 : Ext w w0 := by rw [hw0]; exact (KX.k (by repeat (first | assumption | constructor)))
 have hA := h.ext hE0
 have c8 := h.blk.c 8 (.slice a2 m.code.length c2) rfl
 have hmc := h.mi.code
 have HA := hid hA
 have HE0 := hid hE0
 have HB3 := hid b3
 have HW0 := hid hw0
 unfold lkTab at hw0
 have HX := hid hw0
 clear h hA hE0 b3 hw0
 go_enter Tryz.func103, Tryz.ntmps103
 go_wp2_with fail
 rw [← HX.out]
 clear c8
 go_loopw [4, 5, 15] (fun v goes i wr => ∃ (q : Nat) (gs : Bool) (s1 : M.Frm) (at1 : Int) (vl1 vs1 : Value) (kn : List M.Frm), q ≤ m.code.length ∧ goes = .bool gs ∧ i = .int .i64 q ∧ LookAt wr l p B kb k m ⟨a1, c1, a2, c2, a3, c3⟩ at1 s1 vl1 vs1 ∧ OwnSub (w.heap.size + 1) vl vs vl1 vs1 ∧
     Kp (LkO l kb vl vs) w wr ∧ Kn wr w.heap.size v vl1 vs1 kn ∧ kn.length = q ∧ Blk wr w.heap.size 203 lkTab ∧ Hid (M.framesGo p k m m.code 0 true s [] = M.framesGo p k m (m.code.drop q) q gs s1 kn)) (fun _ _ i _ => m.code.length - (intOf i).toNat)
 case atStart => exact ⟨0, true, s, at_, vl, vs, [], Nat.zero_le _, rfl, rfl, HA.out, OwnSub.refl _ _ _, HE0.out.any, Kn.nil _ _ _ _, rfl, HB3.out, hid rfl⟩
 case round =>
  obtain ⟨q, gs, s1, at1, vl1, vs1, kn, hq, rfl, rfl, hA, hO, hK, hKn, hkl, hB, HAq⟩ := hrel
  have hAr := hid hA
  have HKL := hid hkl
  clear hkl
  have hzr : w.heap.size < wr.heap.size := hB.lt
  have hkr := hA.blk.lt
  have hkz' : w.heap.size < w.heap.size + 1 := Nat.lt_succ_self _
  by_cases hlt : q < m.code.length
  · obtain ⟨⟨op, ia, nm, mem⟩, hi⟩ := elemF m.code q hlt
    have hins := hA.mi.ins _ (List.mem_of_getElem? hi)
    obtain ⟨n, rfl⟩ : ∃ n : Nat, op = n := ⟨op.toNat, by have := (M.ins_a hins).2.2.2.2.1; simp only at this; omega⟩
    have hn1 : 1 ≤ n ∧ n ≤ 15 := by have := (M.ins_a hins).2.2.2.2.1; simp only at this; omega
    obtain ⟨b, off, cs, ea, hIb, rfl, -, hcc⟩ := (MethodL.code hA.ml).get hi
    cases ea
    obtain ⟨g0, g1, g2, g3⟩ := hcc.four
    have gz := cell_lt g0
    have HS : Hid (M.framesGo p k m m.code 0 true s [] = match M.lkMeet p k m gs q s1 with
     | none => .inl ((q : Int) + 1)
     | some s2 => match M.lkIns p k m ⟨n, ia, nm, mem⟩ s2 with
      | none => .inl ((q : Int) + 1)
      | some s3 => M.framesGo p k m (m.code.drop (q + 1)) (q + 1) (decide ((n : Int) ≠ 10) && decide ((n : Int) ≠ 13)) s3 (kn ++ [s2])) := hid (by rw [HAq.out, drop_get hi]; rfl)
    have hq8 : (q : Int) < m.code.length := by omega
    obtain ⟨hA4, hK4⟩ := hA.setAt q (by omega)
    have e10 := hA.blk.c 10 (.int .i64 at1) rfl
    have f10 := hA.blk.frozen 10
    have hnn : ¬ wr.heap.size = kb := by omega
    have hnn2 : ¬ kb = wr.heap.size := by omega
    obtain ⟨w5, hw5⟩ : ∃ w5, w5 = (wr.setCell ⟨kb, 10, none⟩ (.int .i64 q)).alloc (.cells #[.int .i64 n, .int .i64 ia, .string nm, .string mem] 28) := ⟨_, rfl⟩
    have hE5 : Ext (wr.setCell ⟨kb, 10, none⟩ (.int .i64 q)) w5 := by rw [hw5]; exact (KX.k (by repeat (first | assumption | constructor)))
    have b7 : Blk w5 wr.heap.size 28 #[.int .i64 n, .int .i64 ia, .string nm, .string mem] := by rw [hw5]; exact Blk.newAt _ _ (by simp)
    have hnk : ¬ LkO l kb vl1 vs1 wr.heap.size := hA.notNew
    have hnw : ¬ LkO l kb vl vs w.heap.size := H.out.notNew
    have HX5 := hid hw5
    have B7 := hid b7
    have HK5 : Hid (Kp (LkO l kb vl1 vs1) wr w5) := hid (hK4.trans hE5.any)
    have HA5 := hid (hA4.ext hE5)
    have HKN := hid hKn
    have HINS := hid hins
    have HB := hid hB
    have HK := hid hK
    have HO := hid hO
    have HNK := hid hnk
    have HNW := hid hnw
    clear hA hi hins hcc hw5 hE5 b7 hA4 hK4 hKn hB hK hO HAq hnk hnw
    go_wp2_with fail
    rw [← HX5.out]
    refine (look_meet _ _ _ _ _ _ _ _ _ _ _ _ HA5.out gs).mono ?_
    rintro e w6 ⟨hK6, hL6, ⟨ho, rfl⟩ | ⟨s2, ho, rfl, vl2, vs2, hA6, hO6⟩⟩
    · refine ⟨rfl, (HK.out.look HK5.out (HO.out.le (Nat.le_succ _))).look hK6 (HO.out.le (Nat.le_succ _)), hL6, .inl ⟨_, ?_, rfl⟩⟩
      rw [HS.out, ho]
    have HKN6 := (Kn.kp (Kn.kp HKN.out hAr.out HK5.out (OwnSub.refl _ _ _) hkz) HA5.out hK6 hO6 hkz)
    obtain ⟨cs, hKC⟩ := HKN6
    obtain ⟨la, lc, rfl⟩ := owns_val hA6.loc
    obtain ⟨sa, sc, rfl⟩ := owns_val hA6.stk
    obtain ⟨va, vc, rfl⟩ := owns_val hKC.2.1
    replace HS : Hid (M.framesGo p k m m.code 0 true s [] = match M.lkIns p k m ⟨n, ia, nm, mem⟩ s2 with
        | none => .inl ((q : Int) + 1)
        | some s3 => M.framesGo p k m (m.code.drop (q + 1)) (q + 1) (decide ((n : Int) ≠ 10) && decide ((n : Int) ≠ 13)) s3 (kn ++ [s2])) := hid (by rw [HS.out, ho])
    have hvk : ¬ (Value.slice va kn.length vc).ownBlock = some kb := fun e => by
     obtain ⟨cur, hb⟩ := owns_blk hKC.2.1 e
     exact absurd (Blk.inj hb hA6.blk) (by decide)
    have hv7 : ¬ (Value.slice va kn.length vc).ownBlock = some wr.heap.size := fun e => by
     obtain ⟨cur, hb⟩ := owns_blk hKC.2.1 e
     exact absurd (Blk.inj hb (B7.out.kp hK6 HNK.out)) (by decide)
    have hvw : ¬ (Value.slice va kn.length vc).ownBlock = some w.heap.size := fun e => by
     obtain ⟨cur, hb⟩ := owns_blk hKC.2.1 e
     exact absurd (Blk.inj hb ((HB.out.kp HK5.out (LkO.sub HNW.out HO.out hkz')).kp hK6 (LkO.sub HNW.out HO.out hkz'))) (by decide)
    obtain ⟨T, f, hneT, HT⟩ := Cls.ex (fun W' => Kp (fun b => (Value.slice va kn.length vc).ownBlock = some b) w6 W') _ (Kp.refl _ _)
    have r11 := fun z => (hA6.blk.kp (HT.inn z) hvk).c 11 (.slice la s2.locals.length lc) rfl
    have r12 := fun z => (hA6.blk.kp (HT.inn z) hvk).c 12 (.slice sa s2.stack.length sc) rfl
    have hkw6 := hA6.blk.lt
    have HTH := hid HT
    have HA6 := hid hA6
    have HKC := hid hKC
    have HK6 := hid hK6
    have HO6 := hid hO6
    have hl6 : s2.locals.length ≤ 6 := by have := hA6.lsz; have := hA6.mi.locals; omega
    have hs5 : s2.stack.length ≤ 5 := by have := hA6.ssz; have := hA6.mi.stack; omega
    have hS6 : w.heap.size + 1 ≤ w6.heap.size := by have := hK6.size; have := HK5.out.size; omega
    clear hA6 hKC hK6 hO6 HT ho
    go_wp2_with fail
    (refine region_mix f 14 [([0, 1, 2, 3, 4, 6, 7, 8, 9], 5), ([], 10), ([11], 12), ([], 13)] [] (HTH.out.out _ ?_) (by kernel_rfl) (by kernel_rfl) (fun _ _ d _ _ h => by cases d <;> exact h) ?_)
    · exact (Kp.refl _ _).drew
    (refine wpMix_cons rfl rfl fun K hK => ?_); (change wpQuiet _ _ _ _ [_, _, _, _, _, _, _, _, _] _); (repeat (go_big_quiet_step (fail))); (refine wpQuiet_nil ?_); (refine hK _ fun K2 hK2 => ?_); clear hK K; (change wpList _ _ _ [_] _ _)
    go_wp2_with fail
    refine (clone_tag _ _ _ _ (owns_flat (HA6.out.ext (Kp.refl _ _).drew).loc (flat_one one_tag _)) (by omega)).mono ?_
    rintro e w7 ⟨⟨c1, rfl, hown1⟩, hE7⟩
    obtain ⟨c1a, c1c, rfl⟩ := owns_val hown1
    have hE67 : Ext w6 w7 := ((Kp.refl _ w6).drew : Ext w6 _).trans hE7
    have HE7 := hid hE67
    have HO1 := hid hown1
    clear hown1 hE7 hE67
    go_wp2_with fail
    (refine hK2 _ _ (HTH.out.out _ HE7.out.any) ?_); clear hK2 K2
    (refine wpMix_cons rfl rfl fun K hK => ?_); (change wpQuiet _ _ _ _ [] _); (refine wpQuiet_nil ?_); (refine hK _ fun K2 hK2 => ?_); clear hK K; (change wpList _ _ _ [_] _ _)
    go_wp2_with fail
    refine (clone_tag _ _ _ _ (owns_flat (HA6.out.ext HE7.out).stk (flat_one one_tag _)) (by omega)).mono ?_
    rintro e w8 ⟨⟨c2v, rfl, hown2⟩, hE8⟩
    obtain ⟨c2a, c2c, rfl⟩ := owns_val hown2
    have HE8 : Hid (Ext w6 w8) := hid (HE7.out.trans hE8)
    have HE78 := hid hE8
    have HO2 := hid hown2
    clear hown2 hE8
    go_wp2_with fail
    (refine hK2 _ _ (HTH.out.out _ HE8.out.any) ?_); clear hK2 K2
    (refine wpMix_cons rfl rfl fun K hK => ?_); (change wpQuiet _ _ _ _ [_] _); (repeat (go_big_quiet_step (fail))); (refine wpQuiet_nil ?_); (refine hK _ fun K2 hK2 => ?_); clear hK K; (change wpList _ _ _ [_] _ _)
    go_wp2_with fail
    (refine hK2 _ _ (HTH.out.out _ (HE8.out.alloc _).any) ?_); clear hK2 K2
    (refine wpMix_cons rfl rfl fun K hK => ?_); (change wpQuiet _ _ _ _ [] _); (refine wpQuiet_nil ?_); (refine hK _ fun K2 hK2 => ?_); clear hK K; (change wpList _ _ _ [_] _ _)
    refine wpList_append_at elem_frm rfl (.tmp 27) (.tmp 39) rfl w.heap.size (.slice va kn.length vc) kn.length _ rfl (owns_kp (D := fun _ => False) HKC.out.2.1 (HE8.out.alloc _) fun _ _ _ x => x) w8.heap.size 1 [.slice c1a s2.locals.length c1c, .slice c2a s2.stack.length c2c] rfl rfl (CellsAt.newD _ _ rfl) (by simp [Value.oneCell']) (by have := HKL.out; omega) (by simp; have := HE8.out.size; omega) ?_
    intro g9 c9 w9 hO9 hKp9 hg9
    change K2 _ _
    have hK69 : Kp (fun b => (Value.slice va kn.length vc).ownBlock = some b) w6 w9 := (HE8.out.alloc _).any.trans hKp9
    (refine hK2 _ _ (HTH.out.out _ hK69) ?_); clear hK2 K2
    have hA9 : LookAt w9 l p B kb k m ⟨a1, c1, some ⟨b, off, none⟩, c2, a3, c3⟩ q s2 (.slice la s2.locals.length lc) (.slice sa s2.stack.length sc) := by
     have hord := HA6.out.lod.ord
     have hBB := HA6.out.hB
     have hlow : ∀ x, (Value.slice va kn.length vc).ownBlock = some x → w.heap.size ≤ x := fun x e => (HKC.out.2.1.lt x e).1
     have hLw := H.out.lod.lt
     refine HA6.out.kp' hK69 (HA6.out.lod.kp hK69 (fun x hx e => by have := hlow x e; omega)) hvk (fun x hx e => ?_) (fun x hx e => ?_) (fun x hx e => by have := hlow x e; omega)
     · obtain ⟨cur, h1⟩ := owns_blk HKC.out.2.1 e
       obtain ⟨cur', h2⟩ := owns_blk HA6.out.loc hx
       exact absurd (Blk.inj h1 h2) (by decide)
     · obtain ⟨cur, h1⟩ := owns_blk HKC.out.2.1 e
       obtain ⟨cur', h2⟩ := owns_blk HA6.out.stk hx
       exact absurd (Blk.inj h1 h2) (by decide)
    have hB79 := (B7.out.kp HK6.out HNK.out).kp hK69 hv7
    have hB9 := ((HB.out.kp HK5.out (LkO.sub HNW.out HO.out hkz')).kp HK6.out (LkO.sub HNW.out HO.out hkz')).kp hK69 hvw
    have hkn9 : Kn w9 w.heap.size (.slice (some ⟨g9, 0, none⟩) (kn.length + 1) c9) (.slice la s2.locals.length lc) (.slice sa s2.stack.length sc) (kn ++ [s2]) := by
     have hI : ∀ x, w6.heap.size ≤ x → x < (w8.alloc (.cells #[.slice c1a s2.locals.length c1c, .slice c2a s2.stack.length c2c] 207)).heap.size →
         KnI (w8.alloc (.cells #[.slice c1a s2.locals.length c1c, .slice c2a s2.stack.length c2c] 207)) w.heap.size (.slice va kn.length vc) (.slice la s2.locals.length lc) (.slice sa s2.stack.length sc) x := fun x h1 h2 =>
      ⟨by omega, h2, fun e => by have := (HKC.out.2.1.lt x e).2; omega, fun e => by have := (HA6.out.loc.lt x e).2; omega, fun e => by have := (HA6.out.stk.lt x e).2; omega⟩
     have hz7 := HE7.out.size
     refine (KnC.ext HKC.out (HE8.out.alloc _)).snoc ?_ ?_ hO9 hKp9 (fun x e => ?_)
     · exact SliceOf.of_owns (R := TagL) tagCs (owns_kp (D := fun _ => False) HO1.out (HE78.out.alloc _) fun _ _ _ x => x) rfl rfl (fun _ _ => rfl) (fun _ _ => rfl) (fun x h1 h2 => hI x (by simpa using h1) h2) (by omega)
     · exact SliceOf.of_owns (R := TagL) tagCs (owns_kp (D := fun _ => False) HO2.out ((KX.k (by repeat (first | assumption | constructor))) : Ext w8 _) fun _ _ _ x => x) rfl rfl (fun _ _ => rfl) (fun _ _ => rfl) (fun x h1 h2 => hI x (by omega) h2) (by omega)
     · have e' : g9 = x := by simpa [Value.ownBlock] using e
       subst e'
       rcases hg9 with h | h
       · exact .inl h
       · right; omega
    have HA9 := hid hA9
    have HB79 := hid hB79
    have HB9 := hid hB9
    have HKN9 := hid hkn9
    have HK9 : Hid (Kp (LkO l kb vl vs) w w9) := hid (by
     have h1 := (HK.out.look HK5.out (HO.out.le (Nat.le_succ _))).look HK6.out (HO.out.le (Nat.le_succ _))
     exact h1.own hK69 (fun x e => (HKC.out.2.1.lt x e).1))
    have HOS9 : Hid (OwnSub (w.heap.size + 1) vl vs (.slice la s2.locals.length lc) (.slice sa s2.stack.length sc)) := hid (HO.out.trans HO6.out (by have := HK5.out.size; omega))
    have hz9 := hK69.size
    have hnk9 : ¬ LkO l kb (.slice la s2.locals.length lc) (.slice sa s2.stack.length sc) wr.heap.size := LkO.sub HNK.out HO6.out (by have := B7.out.lt; exact this)
    have hnw9 : ¬ LkO l kb (.slice la s2.locals.length lc) (.slice sa s2.stack.length sc) w.heap.size := LkO.sub HNW.out HOS9.out hkz'
    clear hA9 hB79 hB9 hkn9 hO9 hKp9 hg9 hK69 HTH r11 r12
    (refine wpMix_nil rfl fun K hK => ?_); (change wpQuiet _ _ _ _ [] _); (refine wpQuiet_nil ?_); (refine hK _ ?_); clear hK K
    go_wp2_with fail
    obtain ⟨T, f, hneT, HT⟩ := Cls.ex (fun W' => Kp (LkO l kb (.slice la s2.locals.length lc) (.slice sa s2.stack.length sc)) w9 W') _ (Kp.refl _ _)
    have r0 := fun z => (HB79.out.kp (HT.inn z) hnk9).c 0 (.int .i64 n) rfl
    have r1 := fun z => (HB79.out.kp (HT.inn z) hnk9).c 1 (.int .i64 ia) rfl
    have r2 := fun z => (HB79.out.kp (HT.inn z) hnk9).c 2 (.string nm) rfl
    have r3 := fun z => (HB79.out.kp (HT.inn z) hnk9).c 3 (.string mem) rfl
    have rf := fun z => (HB9.out.kp (HT.inn z) hnw9).c n _ (lkTab_get hn1.1 hn1.2)
    have hn16 : (n : Int) < 16 := by omega
    have hn0 : (0 : Int) ≤ n := by omega
    have HTH := hid HT
    have hcf := lk_enter hn1.1 hn1.2
    clear HT
    (refine region_mix f 7 [([0, 1, 2, 3, 4, 5], 6)] [] (HTH.out.out _ ?_) (by kernel_rfl) (by kernel_rfl) (fun _ _ d _ _ h => by cases d <;> exact h) ?_)
    · exact (Kp.refl _ _).drew
    (refine wpMix_cons rfl rfl fun K hK => ?_); (change wpQuiet _ _ _ _ [_, _, _, _, _, _] _); (repeat (go_big_quiet_step (fail))); (refine wpQuiet_nil ?_); (refine hK _ fun K2 hK2 => ?_); clear hK K; (change wpList _ _ _ [_] _ _)
    go_wp2_with fail
    refine (look_ins _ _ _ _ _ _ _ _ _ _ _ _ (HA9.out.ext (Kp.refl _ _).drew) ⟨n, ia, nm, mem⟩ n rfl HINS.out).mono ?_
    rintro e w10 hEnd
    replace hEnd := LkEnd.behind ((Kp.refl _ w9).drew) hEnd
    rcases hEnd with ⟨hK10, hL10, ⟨ho, rfl⟩ | ⟨s3, ho, rfl, vl3, vs3, hA10, hO10⟩⟩
    · refine ⟨rfl, HK9.out.look hK10 (HOS9.out.le (Nat.le_succ _)), hL10, .inl ⟨_, ?_, rfl⟩⟩
      rw [HS.out, ho]
    have hb7 := HB79.out.kp hK10 hnk9
    have y0 := hb7.c 0 (.int .i64 n) rfl
    have HF10 : Hid (LookAt w10 l p B kb k m ⟨a1, c1, some ⟨b, off, none⟩, c2, a3, c3⟩ q s3 vl3 vs3 ∧ OwnSub (w.heap.size + 1) vl vs vl3 vs3 ∧ Kp (LkO l kb vl vs) w w10 ∧
        Kn w10 w.heap.size (.slice (some ⟨g9, 0, none⟩) (kn.length + 1) c9) vl3 vs3 (kn ++ [s2]) ∧ Blk w10 w.heap.size 203 lkTab ∧
        M.framesGo p k m m.code 0 true s [] = M.framesGo p k m (m.code.drop (q + 1)) (q + 1) (decide ((n : Int) ≠ 10) && decide ((n : Int) ≠ 13)) s3 (kn ++ [s2])) :=
     hid ⟨hA10, HOS9.out.trans hO10 (by omega), HK9.out.look hK10 (HOS9.out.le (Nat.le_succ _)), Kn.kp HKN9.out HA9.out hK10 hO10 hkz, HB9.out.kp hK10 hnw9, by rw [HS.out, ho]⟩
    have HK10 := hid hK10
    clear hb7 hK10 hL10 hA10 hO10 ho r0 r1 r2 r3 rf hcf
    go_wp2_with fail
    (refine hK2 _ _ (HTH.out.out _ HK10.out) ?_); clear hK2 K2
    clear HTH
    (refine wpMix_nil rfl fun K hK => ?_); (change wpQuiet _ _ _ _ [] _); (refine wpQuiet_nil ?_); (refine hK _ ?_); clear hK K; (simp only [List.drop_succ_cons, List.drop_zero, List.drop_nil, wpList])
    have fin : ∀ gs' : Bool, gs' = (decide ((n : Int) ≠ 10) && decide ((n : Int) ≠ 13)) → ∃ (q' : Nat) (gs2 : Bool) (s1 : M.Frm) (at1 : Int) (vl1 vs1 : Value) (kn1 : List M.Frm), q' ≤ m.code.length ∧ Value.bool gs' = .bool gs2 ∧ Value.int .i64 ((q : Int) + 1) = .int .i64 q' ∧
        LookAt w10 l p B kb k m ⟨a1, c1, some ⟨b, off, none⟩, c2, a3, c3⟩ at1 s1 vl1 vs1 ∧ OwnSub (w.heap.size + 1) vl vs vl1 vs1 ∧
        Kp (LkO l kb vl vs) w w10 ∧ Kn w10 w.heap.size (.slice (some ⟨g9, 0, none⟩) (kn.length + 1) c9) vl1 vs1 kn1 ∧ kn1.length = q' ∧ Blk w10 w.heap.size 203 lkTab ∧ Hid (M.framesGo p k m m.code 0 true s [] = M.framesGo p k m (m.code.drop q') q' gs2 s1 kn1) := by
     rintro gs' rfl
     obtain ⟨h1, h2, h3, h4, h5, h6⟩ := HF10.out
     exact ⟨q + 1, _, s3, q, vl3, vs3, kn ++ [s2], by omega, rfl, by simp, h1, h2, h3, h4, by have := HKL.out; simp [this], h5, hid h6⟩
    have HFIN := hid fin
    have hwq : IntKind.i64.wrap ((q : Int) + 1) = q + 1 := IntWalk.i64_in _ (by omega)
    clear fin
    by_cases n10 : n = 10
    · subst n10
      go_wp2_with fail
      exact ⟨HFIN.out _ rfl, by simp [intOf]; omega⟩
    · have h10 : ((n : Int) != 10) = true := bne_iff_ne.2 (by omega)
      obtain ⟨d13, h13⟩ : ∃ d, ((n : Int) != 13) = d := ⟨_, rfl⟩
      have hd : Hid (d13 = (decide ((n : Int) ≠ 10) && decide ((n : Int) ≠ 13))) := hid (by
       rw [← h13, decide_eq_true (by omega : (n : Int) ≠ 10), Bool.true_and]
       by_cases h : (n : Int) = 13
       · rw [h]; rfl
       · rw [bne_iff_ne.2 h, decide_eq_true h])
      clear n10
      go_wp2_with fail
      exact ⟨HFIN.out _ hd.out, by simp [intOf]; omega⟩
  · have hqe : q = m.code.length := by omega
    have HQ : Hid (M.framesGo p k m m.code 0 true s [] = if gs then .inl ((m.code.length : Int) + 1) else .inr kn) := hid (by rw [HAq.out, List.drop_eq_nil_of_le (by omega), hqe]; rfl)
    have HKn := hid hKn
    have HKr : Hid (Kp (LkO l kb vl vs) w wr) := hid hK
    have e8 := hA.blk.c 8 (.slice a2 m.code.length c2) rfl
    have e10 := hA.blk.c 10 (.int .i64 at1) rfl
    have f10 := hA.blk.frozen 10
    obtain ⟨hA5, hK5⟩ := hA.setAt m.code.length (by omega)
    have HA5 := hid hA5
    have HK5 := hid hK5
    have HOS := hid hO
    clear hA hB hK hKn hO hA5 hK5 HAq
    cases gs
    · go_wp2_with fail
      refine bodyPost_ret (v := u4) (by simp [results, Tryz.results103, go_sem]) rfl ?_
      exact ⟨HKr.out, hAr.out.lod, .inr ⟨_, _, _, _, HQ.out, rfl, HKn.out⟩⟩
    · go_wp2_with fail
      refine (look_wrong _ kb m.code.length (HA5.out.blk.c 10 _ rfl) (by omega) (by omega)).mono ?_
      rintro e w3 ⟨rfl, rfl⟩
      exact ⟨rfl, HKr.out.look HK5.out (HOS.out.le (Nat.le_succ _)), HA5.out.lod, .inl ⟨_, HQ.out, rfl⟩⟩
theorem ta_wrong (x : Value) (w : World) : (Instr.typeAssert (.iface 184 x) 20 184 true).run Tryz.prog w = .ok (.tuple #[x, .bool true]) w := by kernel_rfl
theorem look_caught (w : World) (b4 b5 : Nat) (v4 v5 : Value) (h4 : Blk w b4 137 #[v4]) (h5 : Blk w b5 3 #[v5]) (n : Int) (older : List PanicEntry) :
    CallsD Tryz.prog 102 #[.pointer (some ⟨b4, 0, none⟩), .pointer (some ⟨b5, 0, none⟩)] (.panicking ({ v := .iface 184 (.agg #[.int .i64 n]), recovered := false } :: older)) w fun e u' w' =>
     e = .returned (.tuple #[]) ∧ u' = .panicking ({ v := .iface 184 (.agg #[.int .i64 n]), recovered := true } :: older) ∧ Kp (fun b => b = b4 ∨ b = b5) w w' ∧ Blk w' b4 137 #[.slice none 0 0] ∧ Blk w' b5 3 #[.int .i64 n] := by
 have hne : b4 ≠ b5 := fun e => by subst e; exact absurd (Blk.inj h4 h5) (by decide)
 have H4 := hid h4
 have H5 := hid h5
 refine callsD_of_wpS Tryz.func102 rfl fun c₀ cs hu => ?_
 apply wpS_seq
 apply wpS_region
 simp [wpOpsS, go_sem, recoverD, hu, Tryz.ntmps102, Exit.thenS]
 refine wpS_of_wp ?_
 simp only [Array.replicate_succ, Array.replicate_zero, List.push_toArray, List.append_toArray, List.nil_append, List.cons_append, List.setIfInBounds_toArray, List.set_cons_succ, List.set_cons_zero]
 have r4 := h4.c 0 v4 rfl
 have r5 := h5.c 0 v5 rfl
 have z4 := h4.lt
 have z5 := h5.lt
 have f4 := h4.frozen 0
 have f5 := h5.frozen 0
 have ta := ta_wrong
 clear h4 h5
 go_wp2_with fail
 go_region_with (fail)
 all_goals
  have k1 : Kp (fun b => b = b4 ∨ b = b5) w (w.setCell ⟨b4, 0, none⟩ (.slice none 0 0)) := (Kp.refl _ w).setCell (p := ⟨b4, 0, none⟩) (fun _ => .inl rfl) _
  have k2 : Kp (· = b5) (w.setCell ⟨b4, 0, none⟩ (.slice none 0 0)) ((w.setCell ⟨b4, 0, none⟩ (.slice none 0 0)).setCell ⟨b5, 0, none⟩ (.int .i64 n)) := (Kp.refl (· = b5) _).setCell (p := ⟨b5, 0, none⟩) (fun _ => rfl) _
  have k3 : Ext ((w.setCell ⟨b4, 0, none⟩ (.slice none 0 0)).setCell ⟨b5, 0, none⟩ (.int .i64 n)) ((((w.setCell ⟨b4, 0, none⟩ (.slice none 0 0)).setCell ⟨b5, 0, none⟩ (.int .i64 n)).alloc (.cells #[.int .i64 n] 184)).drew) := ((Kp.refl _ _).alloc _).drew
  have a4 : Blk (w.setCell ⟨b4, 0, none⟩ (.slice none 0 0)) b4 137 #[.slice none 0 0] := H4.out.set_ 0 _
  have a5 : Blk ((w.setCell ⟨b4, 0, none⟩ (.slice none 0 0)).setCell ⟨b5, 0, none⟩ (.int .i64 n)) b5 3 #[.int .i64 n] :=
   (H5.out.kp ((Kp.refl (· = b4) w).setCell (p := ⟨b4, 0, none⟩) (fun _ => rfl) (.slice none 0 0)) (Ne.symm hne)).set_ 0 _
  exact ⟨rfl, _, rfl, .tuple #[], by simp [results, Tryz.results102, go_sem], rfl, rfl, (k1.trans (k2.weak fun b _ e => .inr e)).trans k3.any, (a4.kp k2 hne).ext k3, a5.ext k3⟩
theorem look_idle (w : World) (b4 b5 : Nat) :
    CallsD Tryz.prog 102 #[.pointer (some ⟨b4, 0, none⟩), .pointer (some ⟨b5, 0, none⟩)] .returning w fun e u' w' => e = .returned (.tuple #[]) ∧ u' = .returning ∧ w' = w := by
 refine callsD_of_wpS Tryz.func102 rfl fun c₀ cs hu => ?_
 apply wpS_seq
 apply wpS_region
 simp [wpOpsS, go_sem, recoverD, hu, Tryz.ntmps102, Exit.thenS]
 refine wpS_of_wp ?_
 simp only [Array.replicate_succ, Array.replicate_zero, List.push_toArray, List.append_toArray, List.nil_append, List.cons_append, List.setIfInBounds_toArray, List.set_cons_succ, List.set_cons_zero]
 go_wp2_with fail
 exact ⟨rfl, _, by cases c₀; simp_all, .tuple #[], by simp [results, Tryz.results102, go_sem], rfl, rfl, rfl⟩
end Go.Proofs.YtjdfceejkneofaaGreat
namespace Go.Proofs.YtjdfceejkneofaaGreat
open Go Go.RowKit
abbrev Own := Nat → Option (Nat × Nat)
def Agr (n : Nat) (own own' : Own) : Prop := ∀ b, b < n → own' b = own b
theorem Agr.refl (n : Nat) (own : Own) : Agr n own own := fun _ _ => rfl
theorem Agr.trans {n n' : Nat} {a b c : Own} (h : Agr n a b) (h' : Agr n' b c) (hn : n ≤ n') : Agr n a c := fun k hk => (h' k (by omega)).trans (h k hk)
def Own.add (own : Own) (g : Nat) (r : Nat × Nat) : Own := fun b => if b = g then some r else own b
theorem Own.add_eq (own : Own) (g : Nat) (r : Nat × Nat) : own.add g r g = some r := by simp [Own.add]
theorem Own.add_ne {own : Own} {g b : Nat} (r : Nat × Nat) (h : b ≠ g) : own.add g r b = own b := by simp [Own.add, h]
theorem Own.add_agr {own : Own} {g n : Nat} {r : Nat × Nat} (h : own g = some r ∨ n ≤ g) : Agr n own (own.add g r) := fun b hb => by
 by_cases e : b = g
 · subst e
   rcases h with h | h
   · rw [Own.add_eq, h]
   · omega
 · exact Own.add_ne r e
def MO (l : Lodge) (own : Own) (b : Nat) : Prop := b = l.D ∨ own b ≠ none
def PO (own : Own) (R : Nat × Nat → Prop) (b : Nat) : Prop := ∃ r, own b = some r ∧ R r
theorem PO.mo {l : Lodge} {own : Own} {R : Nat × Nat → Prop} {b : Nat} (h : PO own R b) : MO l own b := by
 obtain ⟨r, h, _⟩ := h
 exact .inr (by rw [h]; simp)
theorem Kp.mo {l : Lodge} {own own' : Own} {w a b : World} (h : Kp (MO l own) w a) (hk : Kp (MO l own') a b) (ha : Agr w.heap.size own own') : Kp (MO l own) w b :=
 ⟨hk.os.trans h.os, hk.tape.trans h.tape, hk.output.trans h.output, Nat.le_trans h.size hk.size,
  fun k hkw hd => (hk.block k (Nat.lt_of_lt_of_le hkw h.size) (fun x => hd (by
   rcases x with x | x
   · exact .inl x
   · exact .inr (by rw [← ha k hkw]; exact x)))).trans (h.block k hkw hd)⟩
structure OwnS (w : World) (own : Own) (B : Nat) (r : Nat × Nat) (e k : Nat) (v : Value) (n : Nat) (xs : List Value) : Prop where
 row : w.ownsRow B e k v n xs
 role : ∀ g, v.ownBlock = some g → own g = some r
section
variable {w w' : World} {own own' : Own} {B : Nat} {r : Nat × Nat} {e k : Nat} {v : Value} {n : Nat} {xs : List Value} {R : Nat × Nat → Prop} {D : Nat → Prop}
theorem OwnS.keep (h : OwnS w own B r e k v n xs) (hk : Kp D w w') (ha : Agr w.heap.size own own') (hD : ∀ b, own b = some r → B ≤ b → ¬ D b) : OwnS w' own' B r e k v n xs :=
 ⟨owns_kp h.row hk (fun g hg hb => hD g (h.role g hg) hb), fun g hg => (ha g (h.row.lt g hg).2).trans (h.role g hg)⟩
theorem OwnS.nil (w : World) (own : Own) (B : Nat) (r : Nat × Nat) (e k : Nat) : OwnS w own B r e k (.slice none 0 0) 0 [] :=
 ⟨World.ownsRow_nil _ _ _ _, fun g h => by cases h⟩
theorem OwnS.form (h : OwnS w own B r e k v n xs) : ∃ a c, v = .slice a n c := owns_val h.row
theorem OwnS.take {g c : Nat} (h : OwnS w own B r e k (.slice (some ⟨g, 0, none⟩) n c) n xs) {j : Nat} (hj : j ≤ n) : OwnS w own B r e k (.slice (some ⟨g, 0, none⟩) j c) j (xs.take (j * k)) :=
 ⟨owns_take h.row hj, fun q hq => h.role q hq⟩
theorem OwnS.ext (h : OwnS w own B r e k v n xs) (hE : Ext w w') : OwnS w' own B r e k v n xs := h.keep hE (Agr.refl _ _) fun _ _ _ x => x
theorem OwnS.blk (h : OwnS w own B r e k v n xs) {g : Nat} (hg : v.ownBlock = some g) : B ≤ g ∧ g < w.heap.size := h.row.lt g hg
theorem OwnS.kpo (h : OwnS w own B r e k v n xs) (hk : Kp (PO own R) w w') (ha : Agr w.heap.size own own') (hr : ¬ R r) : OwnS w' own' B r e k v n xs :=
 h.keep hk ha fun b hb _ ⟨r', h1, h2⟩ => by rw [hb] at h1; cases h1; exact hr h2
end
structure GC where
 f : M.Fr
 cb : Nat
 t : MSl
 vl : Value
 vs : Value
structure GO where
 o : M.VObj
 v : Value
structure Gh where
 status : Int
 cs : List GC
 os : List GO
 outs : List Int
 back : M.Val
 vc : Value
 vh : Value
 vo : Value
def Gh.st (g : Gh) : M.St := ⟨g.status, g.cs.map GC.f, g.os.map GO.o, g.outs, g.back⟩
def callCs (p : M.Plan) (c : GC) : Array Value :=
 #[.int .i64 c.f.of.of.keeper, .string c.f.of.of.name, .int .i64 c.f.of.at_, .string (M.method p c.f.of).name, .slice c.t.a1 (M.method p c.f.of).args.length c.t.c1, .int .i64 (M.method p c.f.of).ret.kind, .string (M.method p c.f.of).ret.name,
  .int .i64 (M.method p c.f.of).locals, .int .i64 (M.method p c.f.of).stack, .slice c.t.a2 (M.method p c.f.of).code.length c.t.c2, .slice c.t.a3 (M.method p c.f.of).maps.length c.t.c3, .int .i64 c.f.pc, c.vl, c.vs, .int .i64 (M.method p c.f.of).stack]
def ptrCs (c : GC) : List Value := [.pointer (some ⟨c.cb, 0, none⟩)]
def objCs (o : GO) : List Value := [.int .i64 o.o.of.keeper, .string o.o.of.name, o.v]
def machCs (l : Lodge) (lk : Bool) (g : Gh) : Array Value := #[.pointer (some ⟨l.L, 0, none⟩), .bool lk, .int .i64 g.status, g.vc, g.vh, g.vo, .int .i64 g.back.kind, .int .i64 g.back.n]
structure CallAt (w : World) (l : Lodge) (p : M.Plan) (own : Own) (B i : Nat) (c : GC) : Prop where
 blk : Blk w c.cb 117 (callCs p c)
 role : own c.cb = some (4, i)
 low : B ≤ c.cb
 ml : MethodL w (· < l.O) (M.method p c.f.of) (mthCs (M.method p c.f.of) c.t)
 loc : OwnS w own B (5, i) 34 2 c.vl c.f.locals.length (c.f.locals.flatMap valCs)
 stk : OwnS w own B (6, i) 34 2 c.vs c.f.stack.length (c.f.stack.flatMap valCs)
structure MachAt (w : World) (l : Lodge) (p : M.Plan) (own : Own) (B mb : Nat) (lk : Bool) (g : Gh) : Prop where
 lod : LodgeAt w l p
 hB : l.L < B
 blk : Blk w mb 86 (machCs l lk g)
 role : own mb = some (0, 0)
 low : B ≤ mb
 calls : OwnS w own B (1, 0) 112 1 g.vc g.cs.length (g.cs.flatMap ptrCs)
 call : ∀ i c, g.cs[i]? = some c → CallAt w l p own B i c
 heap : OwnS w own B (2, 0) 146 3 g.vh g.os.length (g.os.flatMap objCs)
 obj : ∀ j o, g.os[j]? = some o → OwnS w own B (7, j) 34 2 o.v o.o.fields.length (o.o.fields.flatMap valCs)
 outs : OwnS w own B (3, 0) 3 1 g.vo g.outs.length (g.outs.flatMap intCs)
 dom : ∀ b, own b ≠ none → B ≤ b ∧ b < w.heap.size
 good : M.Good p g.st
section
variable {w w' : World} {l : Lodge} {p : M.Plan} {own own' : Own} {B mb : Nat} {lk : Bool} {g : Gh} {D : Nat → Prop} {R : Nat × Nat → Prop}
theorem CallAt.keep {i : Nat} {c : GC} (h : CallAt w l p own B i c) (hk : Kp D w w') (ha : Agr w.heap.size own own') (hD : ∀ b, (own b = some (4, i) ∨ own b = some (5, i) ∨ own b = some (6, i)) → B ≤ b → ¬ D b) (hO : ∀ b, b < l.O → ¬ D b) : CallAt w' l p own' B i c :=
 ⟨h.blk.kp hk (hD _ (.inl h.role) h.low), (ha _ h.blk.lt).trans h.role, h.low, Stays.kp MethodL.stays hk (fun b hb => hO b hb) h.ml, h.loc.keep hk ha (fun b hb => hD b (.inr (.inl hb))), h.stk.keep hk ha (fun b hb => hD b (.inr (.inr hb)))⟩
theorem MachAt.keep (h : MachAt w l p own B mb lk g) (hk : Kp D w w') (ha : Agr w.heap.size own own') (hd : ∀ b, own' b ≠ none → B ≤ b ∧ b < w'.heap.size) (hL : LodgeAt w' l p) (hD : ∀ b, own b ≠ none → ¬ D b) (hO : ∀ b, b < l.O → ¬ D b) : MachAt w' l p own' B mb lk g := by
 have hx : ∀ b r, own b = some r → ¬ D b := fun b r hb => hD b (by rw [hb]; simp)
 exact ⟨hL, h.hB, h.blk.kp hk (hx _ _ h.role), (ha _ h.blk.lt).trans h.role, h.low, h.calls.keep hk ha fun b hb _ => hx b _ hb,
  fun i c hc => (h.call i c hc).keep hk ha (fun b hb _ => by rcases hb with hb | hb | hb <;> exact hx b _ hb) hO,
  h.heap.keep hk ha fun b hb _ => hx b _ hb, fun j o ho => (h.obj j o ho).keep hk ha fun b hb _ => hx b _ hb, h.outs.keep hk ha fun b hb _ => hx b _ hb, hd, h.good⟩
theorem MachAt.domE (h : MachAt w l p own B mb lk g) (hs : w.heap.size ≤ w'.heap.size) : ∀ b, own b ≠ none → B ≤ b ∧ b < w'.heap.size := fun b hb => ⟨(h.dom b hb).1, Nat.lt_of_lt_of_le (h.dom b hb).2 hs⟩
theorem MachAt.ext (h : MachAt w l p own B mb lk g) (hE : Ext w w') : MachAt w' l p own B mb lk g :=
 h.keep hE (Agr.refl _ _) (h.domE hE.size) (h.lod.ext hE) (fun _ _ x => x) (fun _ _ x => x)
theorem MachAt.low' (h : MachAt w l p own B mb lk g) {b : Nat} (hb : b ≤ l.L) : own b = none := by
 cases e : own b with
 | none => rfl
 | some r => have := (h.dom b (by rw [e]; simp)).1; have := h.hB; omega
theorem MachAt.lod' (h : MachAt w l p own B mb lk g) (hk : Kp (· = l.D) w w') (hL : LodgeAt w' l p) : MachAt w' l p own B mb lk g :=
 h.keep hk (Agr.refl _ _) (h.domE hk.size) hL (fun b hb e => by have := h.lod.ord; exact hb (h.low' (by omega))) (fun b hb e => by have := h.lod.ord; omega)
theorem MachAt.lodPO (h : MachAt w l p own B mb lk g) (hk : Kp (PO own R) w w') : LodgeAt w' l p :=
 h.lod.kp hk fun k hkl ⟨r, e, _⟩ => by rw [h.low' hkl] at e; cases e
theorem MachAt.lowPO (h : MachAt w l p own B mb lk g) : ∀ b, b < l.O → ¬ PO own R b := fun b hb ⟨r, e, _⟩ => by
 have := h.lod.ord
 rw [h.low' (by omega)] at e; cases e
theorem CallAt.kpo {i : Nat} {c : GC} (h : CallAt w l p own B i c) (hk : Kp (PO own R) w w') (ha : Agr w.heap.size own own') (hR : ¬ R (4, i) ∧ ¬ R (5, i) ∧ ¬ R (6, i)) (hO : ∀ b, b < l.O → ¬ PO own R b) : CallAt w' l p own' B i c :=
 h.keep hk ha (fun b hb _ ⟨r, h1, h2⟩ => by
  rcases hb with hb | hb | hb <;> rw [hb] at h1 <;> cases h1
  · exact hR.1 h2
  · exact hR.2.1 h2
  · exact hR.2.2 h2) hO
theorem MachAt.at_ (h : MachAt w l p own B mb lk g) {r : List GC} {c : GC} (hc : g.cs = r ++ [c]) : CallAt w l p own B r.length c := h.call _ _ (by rw [hc]; simp)
theorem MachAt.setTop (h : MachAt w l p own B mb lk g) {r : List GC} {c c' : GC} (hcs : g.cs = r ++ [c]) (hcb : c'.cb = c.cb) (hk : Kp (PO own fun q => q = (4, r.length) ∨ q = (5, r.length) ∨ q = (6, r.length)) w w') (ha : Agr w.heap.size own own') (hd : ∀ b, own' b ≠ none → B ≤ b ∧ b < w'.heap.size)
    (hc : CallAt w' l p own' B r.length c') (hG : M.Good p { g with cs := r ++ [c'] }.st) : MachAt w' l p own' B mb lk { g with cs := r ++ [c'] } := by
 refine ⟨h.lodPO hk, h.hB, h.blk.kp hk ?_, (ha _ h.blk.lt).trans h.role, h.low, ?_, ?_, h.heap.kpo hk ha (by simp), fun j o ho => (h.obj j o ho).kpo hk ha (by simp), h.outs.kpo hk ha (by simp), hd, hG⟩
 · rintro ⟨q, h1, h2⟩
   rw [h.role] at h1; cases h1; simp at h2
 · have := h.calls.kpo hk ha (by simp)
   rw [hcs] at this
   simpa [ptrCs, hcb] using this
 · intro i c1 hc1
   simp only at hc1
   rcases Nat.lt_trichotomy i r.length with hi | hi | hi
   · rw [List.getElem?_append_left hi] at hc1
     refine (h.call i c1 (by rw [hcs, List.getElem?_append_left hi]; exact hc1)).kpo hk ha ?_ h.lowPO
     refine ⟨?_, ?_, ?_⟩ <;> simp <;> omega
   · subst hi
     simp at hc1; subst hc1
     exact hc
   · rw [List.getElem?_eq_none (by simp; omega)] at hc1; cases hc1
theorem MachAt.setMach (h : MachAt w l p own B mb lk g) (g' : Gh) (hk : Kp (PO own (· = (0, 0))) w w') (hb : Blk w' mb 86 (machCs l lk g')) (hcs : (g'.cs = g.cs ∧ g'.vc = g.vc) ∨ (OwnS w own B (1, 0) 112 1 g'.vc g'.cs.length (g'.cs.flatMap ptrCs) ∧ ∃ r, g.cs = g'.cs ++ r))
    (hos : g'.os = g.os ∧ g'.vh = g.vh ∧ g'.outs = g.outs ∧ g'.vo = g.vo) (hG : M.Good p g'.st) : MachAt w' l p own B mb lk g' := by
 obtain ⟨e1, e2, e3, e4⟩ := hos
 have ha := Agr.refl w.heap.size own
 refine ⟨h.lodPO hk, h.hB, hb, h.role, h.low, ?_, ?_, ?_, ?_, ?_, h.domE hk.size, hG⟩
 · rcases hcs with ⟨a, b⟩ | ⟨a, _⟩
   · rw [a, b]; exact h.calls.kpo hk ha (by simp)
   · exact a.kpo hk ha (by simp)
 · intro i c hc
   refine (h.call i c ?_).kpo hk ha (by simp) h.lowPO
   rcases hcs with ⟨a, _⟩ | ⟨_, r, a⟩
   · rw [← a]; exact hc
   · rw [a, List.getElem?_append_left (List.getElem?_eq_some_iff.1 hc).1]; exact hc
 · rw [e1, e2]; exact h.heap.kpo hk ha (by simp)
 · rw [e1]; exact fun j o ho => (h.obj j o ho).kpo hk ha (by simp)
 · rw [e3, e4]; exact h.outs.kpo hk ha (by simp)
end
def MEnd (w : World) (l : Lodge) (p : M.Plan) (own : Own) (B mb : Nat) (lk : Bool) (v : Value) (s : M.St) (e : Ending) (w' : World) : Prop :=
 e = .returned v ∧ Kp (MO l own) w w' ∧ ∃ own' g', Agr w.heap.size own own' ∧ MachAt w' l p own' B mb lk g' ∧ g'.st = s
theorem MEnd.after {w w1 w2 : World} {l : Lodge} {p : M.Plan} {own own1 : Own} {B mb : Nat} {lk : Bool} {v : Value} {s : M.St} {e : Ending} (hK : Kp (MO l own) w w1) (ha : Agr w.heap.size own own1) (h : MEnd w1 l p own1 B mb lk v s e w2) : MEnd w l p own B mb lk v s e w2 := by
 obtain ⟨h1, h2, own', g', h3, h4, h5⟩ := h
 exact ⟨h1, hK.mo h2 ha, own', g', ha.trans h3 hK.size, h4, h5⟩
theorem MEnd.behind {w w1 w2 : World} {l : Lodge} {p : M.Plan} {own : Own} {B mb : Nat} {lk : Bool} {v : Value} {s : M.St} {e : Ending} (hE : Ext w w1) (h : MEnd w1 l p own B mb lk v s e w2) : MEnd w l p own B mb lk v s e w2 :=
 h.after hE.any (Agr.refl _ _)
theorem MachAt.stop {w w' : World} {l : Lodge} {p : M.Plan} {own : Own} {B mb : Nat} {lk : Bool} {g : Gh} {v : Value} (h : MachAt w l p own B mb lk g) (hE : Ext w w') : MEnd w l p own B mb lk v g.st (.returned v) w' :=
 ⟨rfl, hE.any, own, g, Agr.refl _ _, h.ext hE, rfl⟩
end Go.Proofs.YtjdfceejkneofaaGreat
namespace Go.Proofs.YtjdfceejkneofaaGreat
open Go Go.RowKit
open Go.Lib (hid)
def noP (Q : Exit → Act → World → Prop) : Exit → Act → World → Prop
 | .panic _, _, _ => False
 | e, a, w => Q e a w
theorem region_mixN {P : Program} {id : Nat} {Q : Exit → Act → World → Prop} {a : Act} {w : World} {l : List Oper} {T : Type} (f : T → World) (n : Nat) (segs : List (List Nat × Nat)) (q : List Nat) (h0 : ∃ s, w.drew = f s) (hm : P.follows .mixedOrders = true) (hB : goodB l.toArray n segs q = true)
    (h : wpMix P l (fun w' => ∃ s, w' = f s) (noP Q) (fun a' w' => wpList P l.toArray (noP Q) (l.drop n) a' w') segs q a w.drew) : (Code.region id l.toArray true).wp P Q a w :=
 Code.wp_mono (Q := noP Q) (fun e _ _ h => by cases e <;> first | exact h | exact h.elim) (region_mix f n segs q h0 hm hB (fun _ _ _ _ _ h => h) h)
theorem made_tags {n : Nat} (h : n ≤ 6) : (madeCells (Value.agg #[.int .i64 0, .string ⟨#[]⟩]).cells (n * 2)).toList = (List.replicate n M.ztag).flatMap tagCs := by
 have : n = 0 ∨ n = 1 ∨ n = 2 ∨ n = 3 ∨ n = 4 ∨ n = 5 ∨ n = 6 := by omega
 rcases this with rfl | rfl | rfl | rfl | rfl | rfl | rfl <;> (show _ = _; kernel_rfl)
theorem wpList_make {t e k : Nat} (E : Elem t e k) {z : Value} (hz0 : (Tryz.prog.info? e).map (·.zero) = some (some z)) (w : World) {ops : Array Oper} {rest : List Oper} {o : Oper} {a : Act} {Q : Exit → Act → World → Prop} (hgd : o.guard = none) (x y : Operand) (ho : o.op = Op.makeSlice t x y)
    (base n : Nat) (hx : a.eval x = .int .i64 n) (hy : a.eval y = .int .i64 n) (hn : n ≤ 1000) (hbase : base ≤ w.heap.size)
    (h : ∀ w', w'.ownsRow base e k (.slice (some ⟨w.heap.size, 0, none⟩) n n) n (madeCells z.cells (n * k)).toList → Ext w w' → w.heap.size < w'.heap.size → wpList Tryz.prog ops Q rest (a.put o.dst (.slice (some ⟨w.heap.size, 0, none⟩) n n)) w') : wpList Tryz.prog ops Q (o :: rest) a w := by
 obtain ⟨i, z', bytes, ht, hi, hz, hsz, hby, hzs, hk, hb⟩ := E
 rw [hi] at hz0
 simp only [Option.map_some, Option.some.injEq] at hz0
 rw [hz0] at hz
 cases hz
 refine wpList_make_full w hgd x y t ho base e i z k ht hi hz0 hsz .i64 .i64 n n n hx hy rfl rfl ?_ (by unfold maxLen; omega) hbase ?_
 · have : i.bytes * n ≤ 4096 * 1000 := Nat.mul_le_mul (by omega) hn
   omega
 · intro w' h2 h3
   refine h w' h2 ⟨h3.os, h3.tape, h3.output, h3.size, fun k hk hd => h3.block k hk (by simp)⟩ (h2.lt w.heap.size rfl).2
theorem KnC.low {W W' : World} {S S' : Nat} {v vl vs : Value} {known : List M.Frm} {cs : List (Value × Value)} {D : Nat → Prop} (h : KnC W S v vl vs known cs) (hk : Kp D W W') (hD : ∀ b, S ≤ b → ¬ D b) (hS : S' ≤ S) : KnC W' S' v vl vs known cs := by
 obtain ⟨e1, e2, e3⟩ := h
 have sub : ∀ b, KnI W S v vl vs b → KnI W' S' v vl vs b := fun b ⟨q1, q2, q3⟩ => ⟨Nat.le_trans hS q1, Nat.lt_of_lt_of_le q2 hk.size, q3⟩
 have same : Same (KnI W S v vl vs) W W' := Kp.same hk fun b hb => hD b hb.1
 refine ⟨e1, owns_mono (owns_kp e2 hk (fun g _ hg => hD g hg)) hS, fun j c f hc hf => ?_⟩
 obtain ⟨a1, a2⟩ := e3 j c f hc hf
 exact ⟨a1.keep TagL.stays same sub, a2.keep TagL.stays same sub⟩
def argsTo (n : ByteArray) (m : M.Method) (q r : Nat) : List M.Tag := (M.clsTag n :: (m.args.take q).map M.tagOf) ++ List.replicate r M.ztag
theorem argsTo_len {n : ByteArray} {m : M.Method} {q r : Nat} (h : q ≤ m.args.length) : (argsTo n m q r).length = q + 1 + r := by simp [argsTo]; omega
theorem argsTo_set {n : ByteArray} {m : M.Method} {q r : Nat} {k : M.Kind} (h : m.args[q]? = some k) : (argsTo n m q (r + 1)).set (q + 1) (M.tagOf k) = argsTo n m (q + 1) r := by
 have hq : q < m.args.length := (List.getElem?_eq_some_iff.1 h).1
 have e1 : (M.clsTag n :: (m.args.take q).map M.tagOf).length = q + 1 := by simp; omega
 have e2 : m.args.take (q + 1) = m.args.take q ++ [k] := by rw [List.take_add_one, h]; rfl
 unfold argsTo
 rw [List.set_append_right _ _ (by omega), e1, Nat.sub_self, e2, List.replicate_succ]
 simp
theorem argsTo_get {n : ByteArray} {m : M.Method} {q r : Nat} (h : q ≤ m.args.length) : (argsTo n m q (r + 1))[q + 1]? = some M.ztag := by
 have e1 : (M.clsTag n :: (m.args.take q).map M.tagOf).length = q + 1 := by simp; omega
 unfold argsTo
 rw [List.getElem?_append_right (by omega), e1, Nat.sub_self]
 rfl
theorem lodge_look (w : World) (l : Lodge) (p : M.Plan) (h : LodgeAt w l p) (x : M.MRef) (hx : M.hasMethod p x = true) :
    Calls Tryz.prog 76 #[.pointer (some ⟨l.L, 0, none⟩), .agg #[.int .i64 x.of.keeper, .string x.of.name, .int .i64 x.at_]] w fun e w' =>
     Kp (· = l.D) w w' ∧ LodgeAt w' l p ∧ ∃ v vl vs, e = .returned (.tuple #[v, .int .i64 (M.look p x).2]) ∧ Kn w' w.heap.size v vl vs (M.look p x).1 := by
 obtain ⟨⟨xk, xn⟩, xa⟩ := x
 have hmi : M.MthIs (M.method p ⟨⟨xk, xn⟩, xa⟩) := M.mth_is (M.method_ok h.ok hx).1
 obtain ⟨m, hm⟩ : ∃ m, M.method p ⟨⟨xk, xn⟩, xa⟩ = m := ⟨_, rfl⟩
 have hmf : ∀ (fn : Fn) (first cap : Array Value) (w : World), (Instr.makeFunc fn first cap).run Tryz.prog w = .ok (.func fn first cap) w := fun _ _ _ _ => rfl
 obtain ⟨w0, hw0⟩ : ∃ w0, w0 = ((w.alloc (.cells #[.int .i64 xk, .string xn, .int .i64 xa] 97)).alloc (.cells #[.slice none 0 0] 137)).alloc (.cells #[.int .i64 0] 3) := ⟨_, rfl⟩
 have hE0 : Ext w w0 := by rw [hw0]; exact (KX.k (by repeat (first | assumption | constructor)))
 have b3 : Blk w0 w.heap.size 97 #[.int .i64 xk, .string xn, .int .i64 xa] := by rw [hw0]; exact (Blk.new _ _ _).ext (KX.k (by repeat (first | assumption | constructor)))
 have b4 : Blk w0 (w.heap.size + 1) 137 #[.slice none 0 0] := by rw [hw0]; exact (Blk.newAt (W := w.alloc (.cells #[.int .i64 xk, .string xn, .int .i64 xa] 97)) (g := w.heap.size + 1) _ _ (by simp)).ext (KX.k (by repeat (first | assumption | constructor)))
 have b5 : Blk w0 (w.heap.size + 2) 3 #[.int .i64 0] := by rw [hw0]; exact Blk.newAt _ _ (by simp)
 have HW0 := hid hw0
 have HE0 := hid hE0
 have HB3 := hid b3
 have HB4 := hid b4
 have HB5 := hid b5
 have H := hid h
 have HX := hid hx
 have HM := hid hm
 have HMF := hid hmf
 have hLw := h.lt
 clear hw0 hE0 b3 b4 b5 h hx hm hmf
 go_enter_defers Tryz.func76, Tryz.ntmps76
 go_wp2_with fail
 rw [← HW0.out]
 refine (lodge_method' _ _ _ (H.out.ext HE0.out) ⟨⟨xk, xn⟩, xa⟩ HX.out).mono ?_
 rintro e w1 ⟨⟨cs, hml, rfl⟩, hE1⟩
 rw [HM.out] at hml hmi
 obtain ⟨t, rfl⟩ := mthCs_form hml
 obtain ⟨a1, c1, a2, c2, a3, c3⟩ := t
 obtain ⟨n, hn⟩ : ∃ n : Nat, m.locals = n := ⟨m.locals.toNat, by have := hmi.args; omega⟩
 obtain ⟨w2, hw2⟩ : ∃ w2, w2 = w1.alloc (.cells (mthCs m ⟨a1, c1, a2, c2, a3, c3⟩).toArray 60) := ⟨_, rfl⟩
 have hE2 : Ext w1 w2 := by rw [hw2]; exact (KX.k (by repeat (first | assumption | constructor)))
 have b6 : Blk w2 w1.heap.size 60 (mthCs m ⟨a1, c1, a2, c2, a3, c3⟩).toArray := by rw [hw2]; exact Blk.new _ _ _
 have hE02 := hE1.trans hE2
 obtain ⟨T, f, hneT, HT⟩ := Cls.ex (fun W' => Ext w2 W') _ (Kp.refl _ _)
 have r30 := fun z => ((HB3.out.ext hE02).ext (HT.inn z)).c 0 (.int .i64 xk) rfl
 have r60 := fun z => (b6.ext (HT.inn z)).c 0 (.string m.name) rfl
 have r61 := fun z => (b6.ext (HT.inn z)).c 1 (.slice a1 m.args.length c1) rfl
 have r62 := fun z => (b6.ext (HT.inn z)).c 2 (.int .i64 m.ret.kind) rfl
 have r63 := fun z => (b6.ext (HT.inn z)).c 3 (.string m.ret.name) rfl
 have r64 := fun z => (b6.ext (HT.inn z)).c 4 (.int .i64 n) (by rw [← hn]; rfl)
 have r65 := fun z => (b6.ext (HT.inn z)).c 5 (.int .i64 m.stack) rfl
 have r66 := fun z => (b6.ext (HT.inn z)).c 6 (.slice a2 m.code.length c2) rfl
 have r67 := fun z => (b6.ext (HT.inn z)).c 7 (.slice a3 m.maps.length c3) rfl
 have HTH := hid HT
 have HW2 := hid hw2
 have HE2 : Hid (Ext w w2) := hid (HE0.out.trans hE02)
 have HE02 := hid hE02
 have HML : Hid (MethodL w2 (· < l.O) m (mthCs m ⟨a1, c1, a2, c2, a3, c3⟩)) := hid (Stays.ext MethodL.stays hE2 hml)
 have HB6 := hid b6
 have HMI := hid hmi
 have HN := hid hn
 have hn6 : n ≤ 6 := by have := hmi.locals; omega
 have hw2z : w.heap.size + 3 ≤ w2.heap.size := by have := hE02.size; have := HB5.out.lt; omega
 clear hE1 hE2 b6 hE02 HT hml hmi
 simp only [mthCs, hn] at hw2
 have HW2' := hid hw2
 clear hw2 hn
 simp only [mthCs, HN.out]
 go_wp2_with fail
 rw [← HW2'.out]
 (refine region_mixN f 10 [([0, 1, 2, 3, 4, 5, 6], 7), ([8], 9)] [] (HTH.out.out _ ?_) (by kernel_rfl) (by kernel_rfl) ?_)
 · exact (Kp.refl _ _).drew
 (refine wpMix_cons rfl rfl fun K hK => ?_); (change wpQuiet _ _ _ _ [_, _, _, _, _, _, _] _); (repeat (go_big_quiet_step (fail))); (refine wpQuiet_nil ?_); (refine hK _ fun K2 hK2 => ?_); clear hK K; (change wpList _ _ _ [_] _ _)
 refine wpList_make elem_tag (z := .agg #[.int .i64 0, .string ⟨#[]⟩]) (by kernel_rfl) _ rfl (.tmp 19) (.tmp 19) rfl w.heap.size n rfl rfl (by omega) (by simp; omega) ?_
 intro w3 hrow3 hE3 hz3
 change K2 _ _
 simp only [Act.put, List.setIfInBounds_toArray, List.set_cons_succ, List.set_cons_zero]
 rw [made_tags hn6] at hrow3
 have hE23 : Ext w2 w3 := ((Kp.refl _ w2).drew : Ext w2 _).trans hE3
 (refine hK2 _ _ (HTH.out.out _ hE23) ?_); clear hK2 K2
 have HE3 := hid hE23
 have HROW := hid hrow3
 clear hE3 hE23 hrow3
 (refine wpMix_cons rfl rfl fun K hK => ?_); (change wpQuiet _ _ _ _ [_] _); (repeat (go_big_quiet_step (fail))); (refine wpQuiet_nil ?_); (refine hK _ fun K2 hK2 => ?_); clear hK K; (change wpList _ _ _ [_] _ _)
 go_wp2_with fail
 obtain ⟨w4, hw4⟩ : ∃ w4, w4 = w3.alloc (.cells #[.pointer (some ⟨l.L, 0, none⟩), .int .i64 xk, .string m.name, .slice a1 m.args.length c1, .int .i64 m.ret.kind, .string m.ret.name, .int .i64 n, .int .i64 m.stack, .slice a2 m.code.length c2, .slice a3 m.maps.length c3, .int .i64 0, .slice (some ⟨w2.heap.size, 0, none⟩) n n, .slice none 0 0] 180) := ⟨_, rfl⟩
 have hE4 : Ext w3 w4 := by rw [hw4]; exact (KX.k (by repeat (first | assumption | constructor)))
 have hbk : Blk w4 w3.heap.size 180 (lkCs l.L xk m ⟨a1, c1, a2, c2, a3, c3⟩ 0 (.slice (some ⟨w2.heap.size, 0, none⟩) n n) (.slice none 0 0)) := by
  unfold lkCs
  rw [hw4, HN.out]; exact Blk.new _ _ _
 (refine hK2 _ _ (HTH.out.out _ (HE3.out.alloc _)) ?_); clear hK2 K2
 rw [← hw4]
 have hE24 : Ext w2 w4 := HE3.out.trans hE4
 have hA4 : LookAt w4 l p w.heap.size w3.heap.size xk m ⟨a1, c1, a2, c2, a3, c3⟩ 0 ⟨List.replicate n M.ztag, []⟩ (.slice (some ⟨w2.heap.size, 0, none⟩) n n) (.slice none 0 0) :=
  ⟨H.out.ext (HE2.out.trans hE24), hLw, (by have := HE3.out.size; omega), Stays.ext MethodL.stays hE24 HML.out, HMI.out, hbk,
   (by rw [List.length_replicate]; exact owns_kp HROW.out hE4 (fun _ _ _ x => x)), World.ownsRow_nil _ _ _ _, (fun g _ e => by cases e), (by omega), (by have := HMI.out.stack1; simp; omega), (by rw [List.length_replicate]; exact HN.out.symm)⟩
 have HA4 := hid hA4
 have HE24 := hid hE24
 have HW4 := hid hw4
 clear hw4 hE4 hbk hE24 hA4 HTH r30 r60 r61 r62 r63 r64 r65 r66 r67
 (refine wpMix_nil rfl fun K hK => ?_); (change wpQuiet _ _ _ _ [] _); (refine wpQuiet_nil ?_); (refine hK _ ?_); clear hK K
 go_wp2_with fail
 simp only [noP]
 go_wp2_with fail
 obtain ⟨n1, rfl⟩ : ∃ n1, n = n1 + 1 := ⟨n - 1, by have := HMI.out.args; have := HN.out; omega⟩
 obtain ⟨T, f, hneT, HT⟩ := Cls.ex (fun W' => Ext w4 W') _ (Kp.refl _ _)
 have r11 := fun z => (HA4.out.ext (HT.inn z)).blk.c 11 (.slice (some ⟨w2.heap.size, 0, none⟩) (n1 + 1) (n1 + 1)) rfl
 have r31 := fun z => (((HB3.out.ext HE02.out).ext HE24.out).ext (HT.inn z)).c 1 (.string xn) rfl
 have HTH := hid HT
 clear HT
 (refine region_mixN f 8 [([0, 1, 2, 3, 4, 5, 6], 7)] [] (HTH.out.out _ ?_) (by kernel_rfl) (by kernel_rfl) ?_)
 · exact (Kp.refl _ _).drew
 (refine wpMix_cons rfl rfl fun K hK => ?_); (change wpQuiet _ _ _ _ [_, _, _, _, _, _, _] _); (repeat (go_big_quiet_step (fail))); (refine wpQuiet_nil ?_); (refine hK _ fun K2 hK2 => ?_); clear hK K; (change wpList _ _ _ [_] _ _)
 go_wp2_with fail
 refine (cls_tag _ xn).mono ?_
 rintro e w5 ⟨rfl, hE5⟩
 have HE5 : Hid (Ext w4 w5) := hid (((Kp.refl _ w4).drew : Ext w4 _).trans hE5)
 clear hE5
 go_wp2_with fail
 (refine hK2 _ _ (HTH.out.out _ HE5.out) ?_); clear hK2 K2
 have hA5 := HA4.out.ext HE5.out
 have hloc := hA5.loc
 obtain ⟨cur, hcur⟩ := owns_blk hloc rfl
 obtain ⟨x0, x1⟩ := (owns_at (enc := tagCs) (k := 2) (fun _ => rfl) (l := List.replicate (n1 + 1) M.ztag) (by simpa using hloc) (i := 0) (x := M.ztag) (by simp)).two
 rw [Nat.zero_mul] at x0 x1
 have f0 := hcur.frozen 0
 have f1 := hcur.frozen 1
 have hz5 := hcur.lt
 have HA5 := hid hA5
 clear hA5 hloc hcur HTH r11 r31
 (refine wpMix_nil rfl fun K hK => ?_); (change wpQuiet _ _ _ _ [] _); (refine wpQuiet_nil ?_); (refine hK _ ?_); clear hK K
 go_wp2_with fail
 simp only [noP]
 have hA5' : LookAt w5 l p w.heap.size w3.heap.size xk m ⟨a1, c1, a2, c2, a3, c3⟩ 0 ⟨List.replicate (n1 + 1) M.ztag, []⟩ (.slice (some ⟨w2.heap.size, 0, none⟩) (List.replicate (n1 + 1) M.ztag).length (n1 + 1)) (.slice none 0 0) := by
  rw [List.length_replicate]; exact HA5.out
 obtain ⟨hA6, -⟩ := hA5'.setLocal 0 (M.clsTag xn)
 obtain ⟨w6, hw6⟩ : ∃ w6, w6 = (w5.setCell ⟨w2.heap.size, 0, none⟩ (.int .i64 (M.clsTag xn).kind)).setCell ⟨w2.heap.size, 1, none⟩ (.string (M.clsTag xn).name) := ⟨_, rfl⟩
 have hK6 : Kp (· = w2.heap.size) w4 w6 := by
  rw [hw6]
  exact (HE5.out.any).trans (((Kp.refl (· = w2.heap.size) w5).setCell (p := ⟨w2.heap.size, 0, none⟩) (fun _ => rfl) _).setCell (p := ⟨w2.heap.size, 1, none⟩) (fun _ => rfl) _)
 rw [← hw6]
 replace hA6 : LookAt w6 l p w.heap.size w3.heap.size xk m ⟨a1, c1, a2, c2, a3, c3⟩ 0 ⟨argsTo xn m 0 n1, []⟩ (.slice (some ⟨w2.heap.size, 0, none⟩) (n1 + 1) (n1 + 1)) (.slice none 0 0) := by
  rw [List.length_replicate] at hA6
  rw [hw6]
  exact hA6
 have hargs : m.args.length ≤ n1 := by have := HMI.out.args; have := HN.out; omega
 have hargs3 := HMI.out.args3
 have y1 := ((HB6.out.ext HE24.out).kp hK6 (by have := HB6.out.lt; omega)).c 1 (.slice a1 m.args.length c1) rfl
 have HA6 := hid hA6
 have HK6 := hid hK6
 clear hA5' hA6 hK6 hw6 x0 x1 f0 f1 hz5
 go_wp2_with fail
 go_loopw [35] (fun i wr => ∃ q : Nat, q ≤ m.args.length ∧ i = .int .i64 q ∧ LookAt wr l p w.heap.size w3.heap.size xk m ⟨a1, c1, a2, c2, a3, c3⟩ 0 ⟨argsTo xn m q (n1 - q), []⟩ (.slice (some ⟨w2.heap.size, 0, none⟩) (n1 + 1) (n1 + 1)) (.slice none 0 0) ∧ Kp (· = w2.heap.size) w4 wr) (fun i _ => m.args.length - (intOf i).toNat)
 case atStart => exact ⟨0, Nat.zero_le _, rfl, HA6.out, HK6.out⟩
 case round =>
  obtain ⟨q, hq, rfl, hA, hK⟩ := hrel
  by_cases hlt : q < m.args.length
  · obtain ⟨⟨kk, kn⟩, hy⟩ := elemF m.args q hlt
    obtain ⟨b, off, cs, rfl, hIb, rfl, -, hcc⟩ := (MethodL.args hA.ml).get hy
    obtain ⟨g0, g1⟩ := hcc.two
    have gz := cell_lt g0
    obtain ⟨r, hr⟩ : ∃ r, n1 - q = r + 1 := ⟨n1 - q - 1, by omega⟩
    rw [hr] at hA
    have hr1 : n1 - (q + 1) = r := by omega
    obtain ⟨W4, hW4⟩ : ∃ W4, W4 = wr.alloc (.cells #[.int .i64 kk, .string kn] 55) := ⟨_, rfl⟩
    have hE4 : Ext wr W4 := by rw [hW4]; exact (KX.k (by repeat (first | assumption | constructor)))
    have b9 : Blk W4 wr.heap.size 55 #[.int .i64 kk, .string kn] := by rw [hW4]; exact Blk.new _ _ _
    obtain ⟨T, f, hneT, HT⟩ := Cls.ex (fun W' => Ext W4 W') _ (Kp.refl _ _)
    have r11 := fun z => ((hA.ext hE4).ext (HT.inn z)).blk.c 11 (.slice (some ⟨w2.heap.size, 0, none⟩) (n1 + 1) (n1 + 1)) rfl
    have r90 := fun z => (b9.ext (HT.inn z)).c 0 (.int .i64 kk) rfl
    have r91 := fun z => (b9.ext (HT.inn z)).c 1 (.string kn) rfl
    have HTH := hid HT
    have HAr := hid hA
    have HKr := hid hK
    have HE4 := hid hE4
    have HX4 := hid hW4
    have hqq : (q : Int) < m.args.length := by omega
    have hwq : IntKind.i64.wrap ((q : Int) + 1) = q + 1 := IntWalk.i64_in _ (by omega)
    clear HT hA hK hE4 hW4 b9 hcc
    go_wp2_with fail
    rw [← HX4.out]
    (refine region_mixN f 8 [([0, 1, 2, 3, 4, 5, 6], 7)] [] (HTH.out.out _ ?_) (by kernel_rfl) (by kernel_rfl) ?_)
    · exact (Kp.refl _ _).drew
    (refine wpMix_cons rfl rfl fun K hK => ?_); (change wpQuiet _ _ _ _ [_, _, _, _, _, _, _] _); (repeat (go_big_quiet_step (fail))); (refine wpQuiet_nil ?_); (refine hK _ fun K2 hK2 => ?_); clear hK K; (change wpList _ _ _ [_] _ _)
    go_wp2_with fail
    refine (tag_of _ ⟨kk, kn⟩).mono ?_
    rintro e w5 ⟨rfl, hE5⟩
    have HE5 : Hid (Ext W4 w5) := hid (((Kp.refl _ W4).drew : Ext W4 _).trans hE5)
    clear hE5
    go_wp2_with fail
    (refine hK2 _ _ (HTH.out.out _ HE5.out) ?_); clear hK2 K2
    have hA5 := HAr.out.ext (HE4.out.trans HE5.out)
    have hloc := hA5.loc
    have hlen := argsTo_len (n := xn) (r := r + 1) hq
    have hl2 : q + 1 + (r + 1) = n1 + 1 := by omega
    obtain ⟨cur, hcur⟩ := owns_blk hloc rfl
    obtain ⟨x0, x1⟩ := (owns_at (enc := tagCs) (k := 2) (fun _ => rfl) (l := argsTo xn m q (r + 1)) (by simpa [hlen, hl2] using hloc) (argsTo_get hq)).two
    have f0 := hcur.frozen ((q + 1) * 2)
    have f1 := hcur.frozen ((q + 1) * 2 + 1)
    have hz5 := hcur.lt
    have hb0 : (q : Int) + 1 < n1 + 1 := by omega
    have hA5' : LookAt w5 l p w.heap.size w3.heap.size xk m ⟨some ⟨b, off, none⟩, c1, a2, c2, a3, c3⟩ 0 ⟨argsTo xn m q (r + 1), []⟩ (.slice (some ⟨w2.heap.size, 0, none⟩) (argsTo xn m q (r + 1)).length (n1 + 1)) (.slice none 0 0) := by
     rw [hlen, hl2]; exact hA5
    have HS5 := hid (hA5'.setLocal (q + 1) (M.tagOf ⟨kk, kn⟩)).1
    have HL := hid (hlen.trans hl2)
    have HY := hid hy
    clear hA5 hA5' hloc hcur HTH r11 r90 r91 hlen hl2 hy
    (refine wpMix_nil rfl fun K hK => ?_); (change wpQuiet _ _ _ _ [] _); (refine wpQuiet_nil ?_); (refine hK _ ?_); clear hK K
    go_wp2_with fail
    simp only [noP]
    go_wp2_with fail
    refine ⟨⟨q + 1, by omega, by simp, ?_, ?_⟩, by simp [intOf]; omega⟩
    · rw [hr1]
      have := HS5.out
      rw [HL.out] at this
      rw [← argsTo_set HY.out]
      exact this
    · refine HKr.out.trans ((HE4.out.trans HE5.out).any.trans ?_)
      exact ((Kp.refl (· = w2.heap.size) w5).setCell (p := ⟨w2.heap.size, (q + 1) * 2, none⟩) (fun _ => rfl) _).setCell (p := ⟨w2.heap.size, (q + 1) * 2 + 1, none⟩) (fun _ => rfl) _
  · have hqe : q = m.args.length := by omega
    have hst : (⟨argsTo xn m q (n1 - q), []⟩ : M.Frm) = M.lkStart ⟨⟨xk, xn⟩, xa⟩ m := by
     unfold argsTo M.lkStart
     rw [hqe, List.take_length, HN.out]
     congr 3
     simp
    rw [hst] at hA
    have hlook : Hid (M.look p ⟨⟨xk, xn⟩, xa⟩ = match M.framesGo p xk m m.code 0 true (M.lkStart ⟨⟨xk, xn⟩, xa⟩ m) [] with
     | .inl n => ([], n)
     | .inr l => (l, 0)) := hid (by unfold M.look; rw [HM.out]; rfl)
    have hKw : Ext w wr := (HE2.out.trans HE24.out).own hK (fun b e => by omega)
    have hB4r := ((HB4.out.ext HE02.out).ext HE24.out).kp hK (by omega)
    have hB5r := ((HB5.out.ext HE02.out).ext HE24.out).kp hK (by omega)
    have HAr := hid hA
    have HKw := hid hKw
    have HB4r := hid hB4r
    have HB5r := hid hB5r
    have hkB := HB3.out.lt
    have hw3z := HE3.out.size
    have hord := H.out.ord
    have hlow : ∀ b, w.heap.size ≤ b → b < w.heap.size + 3 → ¬ LkO l w3.heap.size (.slice (some ⟨w2.heap.size, 0, none⟩) (n1 + 1) (n1 + 1)) (.slice none 0 0) b := fun b h1 h2 => by
     rintro (e | e | e | e)
     · omega
     · omega
     · have : w2.heap.size = b := by simpa [Value.ownBlock] using e
       omega
     · cases e
    have HLOW := hid hlow
    have hmix : ∀ W, Kp (LkO l w3.heap.size (.slice (some ⟨w2.heap.size, 0, none⟩) (n1 + 1) (n1 + 1)) (.slice none 0 0)) wr W → Kp (· = l.D) w W := fun W hW => hKw.any.mix hW (fun k hk e => by
     rcases e with e | e | e | e
     · exact e
     · omega
     · have : w2.heap.size = k := by simpa [Value.ownBlock] using e
       omega
     · cases e)
    have HMIX := hid hmix
    clear hmix
    clear hA hK hKw hB4r hB5r hqe hst hlow
    go_wp2_with fail
    refine (look_frames _ _ _ _ _ _ _ _ _ _ _ _ HAr.out).mono ?_
    rintro e w7 ⟨hK7, hL7, ⟨n', ho, rfl⟩ | ⟨fs, v, vl', vs', ho, rfl, hkn⟩⟩
    · have hB4 := HB4r.out.kp hK7 (HLOW.out _ (by omega) (by omega))
      have hB5 := HB5r.out.kp hK7 (HLOW.out _ (by omega) (by omega))
      have hK07 := HMIX.out _ hK7
      refine leaves_cons (f := 102) (args := #[.pointer (some ⟨w.heap.size + 1, 0, none⟩), .pointer (some ⟨w.heap.size + 2, 0, none⟩)]) (by simp) (by simp [go_sem]) ?_
      refine (look_caught w7 _ _ _ _ hB4 hB5 n' []).mono ?_
      rintro e u' w8 ⟨rfl, rfl, hK8, h4, h5⟩
      have c4 := h4.c 0 (.slice none 0 0) rfl
      have c5 := h5.c 0 (.int .i64 n') rfl
      have hF : Kp (· = l.D) w w8 ∧ LodgeAt w8 l p ∧ ∃ v vl vs, Ending.returned (.tuple #[.slice none 0 0, .int .i64 n']) = .returned (.tuple #[v, .int .i64 (M.look p ⟨⟨xk, xn⟩, xa⟩).2]) ∧ Kn w8 w.heap.size v vl vs (M.look p ⟨⟨xk, xn⟩, xa⟩).1 := by
       refine ⟨hK07.own hK8 (fun k e => by omega), hL7.kp hK8 (fun b hb e => by omega), .slice none 0 0, .slice none 0 0, .slice none 0 0, ?_, ?_⟩
       · rw [hlook.out, ho]
       · rw [hlook.out, ho]; exact Kn.nil _ _ _ _
      have HF := hid hF
      clear hB4 hB5 hK07 hK8 h4 h5 hF hK7 hL7
      have hF := HF.out
      simpa [Leaves, settle, results, Tryz.results76, go_sem, c4, c5] using hF
    · obtain ⟨ks, hkc⟩ := hkn
      obtain ⟨va, vc, rfl⟩ := owns_val hkc.2.1
      have hB4 := HB4r.out.kp hK7 (HLOW.out _ (by omega) (by omega))
      have hB5 := HB5r.out.kp hK7 (HLOW.out _ (by omega) (by omega))
      have hK07 := HMIX.out _ hK7
      have c4 := hB4.c 0 (.slice none 0 0) rfl
      have c5 := hB5.c 0 (.int .i64 0) rfl
      have f4 := hB4.frozen 0
      have f5 := hB5.frozen 0
      have hz7 := hB5.lt
      have HB47 := hid hB4
      have HB57 := hid hB5
      have HK07 := hid hK07
      have HKN := hid hkc
      clear hB4 hB5 hK07 hkc hK7
      go_wp2_with fail
      refine leaves_cons (f := 102) (args := #[.pointer (some ⟨w.heap.size + 1, 0, none⟩), .pointer (some ⟨w.heap.size + 2, 0, none⟩)]) (by simp) (by simp [go_sem]) ?_
      refine (look_idle _ _ _).mono ?_
      rintro e u' w8 ⟨rfl, rfl, rfl⟩
      have k1 : Kp (· = w.heap.size + 1) w7 (w7.setCell ⟨w.heap.size + 1, 0, none⟩ (.slice va fs.length vc)) := (Kp.refl (· = w.heap.size + 1) w7).setCell (p := ⟨w.heap.size + 1, 0, none⟩) (fun _ => rfl) _
      have k2 : Kp (· = w.heap.size + 2) (w7.setCell ⟨w.heap.size + 1, 0, none⟩ (.slice va fs.length vc)) ((w7.setCell ⟨w.heap.size + 1, 0, none⟩ (.slice va fs.length vc)).setCell ⟨w.heap.size + 2, 0, none⟩ (.int .i64 0)) := (Kp.refl (· = w.heap.size + 2) _).setCell (p := ⟨w.heap.size + 2, 0, none⟩) (fun _ => rfl) _
      have k12 : Kp (fun b => b = w.heap.size + 1 ∨ b = w.heap.size + 2) w7 ((w7.setCell ⟨w.heap.size + 1, 0, none⟩ (.slice va fs.length vc)).setCell ⟨w.heap.size + 2, 0, none⟩ (.int .i64 0)) := (k1.weak fun b _ e => .inl e).trans (k2.weak fun b _ e => .inr e)
      have h4 : Blk ((w7.setCell ⟨w.heap.size + 1, 0, none⟩ (.slice va fs.length vc)).setCell ⟨w.heap.size + 2, 0, none⟩ (.int .i64 0)) (w.heap.size + 1) 137 #[.slice va fs.length vc] := Blk.kp (HB47.out.set_ 0 _) k2 (by omega)
      have h5 : Blk ((w7.setCell ⟨w.heap.size + 1, 0, none⟩ (.slice va fs.length vc)).setCell ⟨w.heap.size + 2, 0, none⟩ (.int .i64 0)) (w.heap.size + 2) 3 #[.int .i64 0] := (HB57.out.kp k1 (by omega)).set_ 0 _
      have hwr : w.heap.size + 3 ≤ wr.heap.size := by have := HB5r.out.lt; omega
      have hF : Kp (· = l.D) w ((w7.setCell ⟨w.heap.size + 1, 0, none⟩ (.slice va fs.length vc)).setCell ⟨w.heap.size + 2, 0, none⟩ (.int .i64 0)) ∧ LodgeAt ((w7.setCell ⟨w.heap.size + 1, 0, none⟩ (.slice va fs.length vc)).setCell ⟨w.heap.size + 2, 0, none⟩ (.int .i64 0)) l p ∧
          ∃ v vl vs, Ending.returned (.tuple #[.slice va fs.length vc, .int .i64 0]) = .returned (.tuple #[v, .int .i64 (M.look p ⟨⟨xk, xn⟩, xa⟩).2]) ∧ Kn ((w7.setCell ⟨w.heap.size + 1, 0, none⟩ (.slice va fs.length vc)).setCell ⟨w.heap.size + 2, 0, none⟩ (.int .i64 0)) w.heap.size v vl vs (M.look p ⟨⟨xk, xn⟩, xa⟩).1 := by
       refine ⟨HK07.out.own k12 (fun k e => by omega), hL7.kp k12 (fun b hb e => by omega), .slice va fs.length vc, vl', vs', ?_, ks, ?_⟩
       · rw [hlook.out, ho]
       · rw [hlook.out, ho]
         exact KnC.low HKN.out k12 (fun b hb e => by omega) (by omega)
      have d4 := h4.c 0 (.slice va fs.length vc) rfl
      have d5 := h5.c 0 (.int .i64 0) rfl
      obtain ⟨w8, hw8⟩ : ∃ w8, w8 = (w7.setCell ⟨w.heap.size + 1, 0, none⟩ (.slice va fs.length vc)).setCell ⟨w.heap.size + 2, 0, none⟩ (.int .i64 0) := ⟨_, rfl⟩
      rw [← hw8] at hF d4 d5
      have HF := hid hF
      have HW8 := hid hw8
      clear hF k1 k2 k12 h4 h5 c4 c5 f4 f5 hw8
      show Leaves _ _ _ _ _ _ _
      rw [show w.heap.size + 1 + 1 = w.heap.size + 2 from rfl, ← HW8.out]
      have hF := HF.out
      simpa [Leaves, settle, results, Tryz.results76, go_sem, d4, d5] using hF
end Go.Proofs.YtjdfceejkneofaaGreat
