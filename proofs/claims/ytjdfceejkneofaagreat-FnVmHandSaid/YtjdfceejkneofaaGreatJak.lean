/- Walks: the looker's instructions that are a row of steps (printed by gen_l8.py).; Walks: the looker's lookTake, lookPut.; region_mix with branches: two operations that write may come up at once.; Walks: the looker's field.; Walks: lookGet, lookSet (printed by gen_l8.py). -/
import Derived.Test.YtjdfceejkneofaaGreatJaj
import Derived.Test.YtjdfceejkneofaaGreatJaf
set_option maxRecDepth 100000
set_option maxHeartbeats 4000000
set_option linter.unusedSimpArgs false
set_option linter.unusedVariables false
namespace Go.Proofs.YtjdfceejkneofaaGreat
open Go Go.RowKit
open Go.Lib (hid)
theorem LookAt.notNew {w : World} {l : Lodge} {p : M.Plan} {B kb : Nat} {k : Int} {m : M.Method} {t : MSl} {at_ : Int} {s : M.Frm} {vl vs : Value} (h : LookAt w l p B kb k m t at_ s vl vs) : ¬ LkO l kb vl vs w.heap.size := by
 have h1 := h.blk.lt
 have h2 := h.lod.ord
 have h3 := h.hB
 have h4 := h.hk
 rintro (e | e | e | e)
 · omega
 · omega
 · have := (h.loc.lt _ e).2; omega
 · have := (h.stk.lt _ e).2; omega
theorem look_add (w : World) (l : Lodge) (p : M.Plan) (B kb : Nat) (k : Int) (m : M.Method) (t : MSl) (at_ : Int) (s : M.Frm) (vl vs : Value) (h : LookAt w l p B kb k m t at_ s vl vs) (i : M.Ins) (hop : i.op = 4) :
    Calls Tryz.prog 118 #[.pointer (some ⟨kb, 0, none⟩), .agg #[.int .i64 i.op, .int .i64 i.a, .string i.name, .string i.member]] w (LkEnd w l p B kb k m t at_ vl vs (M.lkIns p k m i s)) := by
 have HO : Hid (M.lkIns p k m i s = (M.lkAs p k M.numTag s).bind fun s1 => (M.lkAs p k M.numTag s1).bind (M.lkPut m M.numTag)) := hid (by unfold M.lkIns; rw [hop]; rfl)
 obtain ⟨w0, hw0⟩ : ∃ w0, w0 = w.alloc (.cells #[.int .i64 i.op, .int .i64 i.a, .string i.name, .string i.member] 28) := ⟨_, rfl⟩
 have hE0 : Ext w w0 := by rw [hw0]; exact (KX.k (by repeat (first | assumption | constructor)))
 have b3 : Blk w0 w.heap.size 28 #[.int .i64 i.op, .int .i64 i.a, .string i.name, .string i.member] := by rw [hw0]; exact Blk.new _ _ _
 have HW0 := hid hw0
 have HA := hid (h.ext hE0)
 have HK : Hid (Kp (LkO l kb vl vs) w0 w0) := hid (Kp.refl _ _)
 have HS := hid (OwnSub.refl w0.heap.size vl vs)
 have HE0 := hid hE0
 have HB3 := hid b3
 have hlk := h.blk.lt
 have hnb1 : ¬ LkO l kb vl vs w.heap.size := LookAt.notNew h
 clear hop h hE0 b3 hw0
 go_enter Tryz.func118, Tryz.ntmps118
 go_wp2_with fail
 rw [← HW0.out]
 refine (num_tag _).mono ?_
 rintro e w1 ⟨rfl, hE⟩
 replace HA := hid (HA.out.ext hE)
 replace HK := hid (HK.out.trans hE.any)
 clear hE
 go_wp2_with fail
 refine (look_takeAs _ _ _ _ _ _ _ _ _ _ _ _ HA.out M.numTag).mono ?_
 rintro e w2 hEnd
 replace hEnd := LkEnd.after HK.out HS.out hEnd
 rcases hEnd with ⟨hK, hL, ⟨ho, rfl⟩ | ⟨s2, ho, rfl, vl2, vs2, hA, hO⟩⟩
 · exact ⟨rfl, LkEnd.behind HE0.out ⟨hK, hL, .inl ⟨by rw [HO.out, ho]; try rfl, rfl⟩⟩⟩
 replace HO : Hid (M.lkIns p k m i s = (M.lkAs p k M.numTag s2).bind (M.lkPut m M.numTag)) := hid (by rw [HO.out, ho]; try rfl)
 replace HA := hid hA
 replace HK := hid hK
 replace HS := hid hO
 clear hA hK hO hL ho
 go_wp2_with fail
 refine (num_tag _).mono ?_
 rintro e w3 ⟨rfl, hE⟩
 replace HA := hid (HA.out.ext hE)
 replace HK := hid (HK.out.trans hE.any)
 clear hE
 go_wp2_with fail
 refine (look_takeAs _ _ _ _ _ _ _ _ _ _ _ _ HA.out M.numTag).mono ?_
 rintro e w4 hEnd
 replace hEnd := LkEnd.after HK.out HS.out hEnd
 rcases hEnd with ⟨hK, hL, ⟨ho, rfl⟩ | ⟨s4, ho, rfl, vl4, vs4, hA, hO⟩⟩
 · exact ⟨rfl, LkEnd.behind HE0.out ⟨hK, hL, .inl ⟨by rw [HO.out, ho]; try rfl, rfl⟩⟩⟩
 replace HO : Hid (M.lkIns p k m i s = M.lkPut m M.numTag s4) := hid (by rw [HO.out, ho]; try rfl)
 replace HA := hid hA
 replace HK := hid hK
 replace HS := hid hO
 clear hA hK hO hL ho
 go_wp2_with fail
 refine (num_tag _).mono ?_
 rintro e w5 ⟨rfl, hE⟩
 replace HA := hid (HA.out.ext hE)
 replace HK := hid (HK.out.trans hE.any)
 clear hE
 go_wp2_with fail
 refine (look_put' _ _ _ _ _ _ _ _ _ _ _ _ HA.out M.numTag).mono ?_
 rintro e w6 hEnd
 replace hEnd := LkEnd.after HK.out HS.out hEnd
 rcases hEnd with ⟨hK, hL, ⟨ho, rfl⟩ | ⟨s6, ho, rfl, vl6, vs6, hA, hO⟩⟩
 · exact ⟨rfl, LkEnd.behind HE0.out ⟨hK, hL, .inl ⟨by rw [HO.out, ho]; try rfl, rfl⟩⟩⟩
 replace HO : Hid (M.lkIns p k m i s = some s6) := hid (by rw [HO.out, ho]; try rfl)
 replace HA := hid hA
 replace HK := hid hK
 replace HS := hid hO
 clear hA hK hO hL ho
 go_wp2_with fail
 ((try simp only [Exit.inBlock, Exit.then]); (first | refine bodyPost_ret (results_none rfl _ _ _) rfl ?_ | refine bodyPost_end (results_none rfl _ _ _) rfl ?_))
 exact LkEnd.behind HE0.out ⟨HK.out, HA.out.lod, .inr ⟨_, HO.out, rfl, _, _, HA.out, HS.out⟩⟩
theorem look_null (w : World) (l : Lodge) (p : M.Plan) (B kb : Nat) (k : Int) (m : M.Method) (t : MSl) (at_ : Int) (s : M.Frm) (vl vs : Value) (h : LookAt w l p B kb k m t at_ s vl vs) (i : M.Ins) (hop : i.op = 5) :
    Calls Tryz.prog 119 #[.pointer (some ⟨kb, 0, none⟩), .agg #[.int .i64 i.op, .int .i64 i.a, .string i.name, .string i.member]] w (LkEnd w l p B kb k m t at_ vl vs (M.lkIns p k m i s)) := by
 have HO : Hid (M.lkIns p k m i s = M.lkPut m M.nullTag s) := hid (by unfold M.lkIns; rw [hop]; rfl)
 obtain ⟨w0, hw0⟩ : ∃ w0, w0 = w.alloc (.cells #[.int .i64 i.op, .int .i64 i.a, .string i.name, .string i.member] 28) := ⟨_, rfl⟩
 have hE0 : Ext w w0 := by rw [hw0]; exact (KX.k (by repeat (first | assumption | constructor)))
 have b3 : Blk w0 w.heap.size 28 #[.int .i64 i.op, .int .i64 i.a, .string i.name, .string i.member] := by rw [hw0]; exact Blk.new _ _ _
 have HW0 := hid hw0
 have HA := hid (h.ext hE0)
 have HK : Hid (Kp (LkO l kb vl vs) w0 w0) := hid (Kp.refl _ _)
 have HS := hid (OwnSub.refl w0.heap.size vl vs)
 have HE0 := hid hE0
 have HB3 := hid b3
 have hlk := h.blk.lt
 have hnb1 : ¬ LkO l kb vl vs w.heap.size := LookAt.notNew h
 clear hop h hE0 b3 hw0
 go_enter Tryz.func119, Tryz.ntmps119
 go_wp2_with fail
 rw [← HW0.out]
 refine (look_put' _ _ _ _ _ _ _ _ _ _ _ _ HA.out M.nullTag).mono ?_
 rintro e w1 hEnd
 replace hEnd := LkEnd.after HK.out HS.out hEnd
 rcases hEnd with ⟨hK, hL, ⟨ho, rfl⟩ | ⟨s1, ho, rfl, vl1, vs1, hA, hO⟩⟩
 · exact ⟨rfl, LkEnd.behind HE0.out ⟨hK, hL, .inl ⟨by rw [HO.out, ho]; try rfl, rfl⟩⟩⟩
 replace HO : Hid (M.lkIns p k m i s = some s1) := hid (by rw [HO.out, ho]; try rfl)
 replace HA := hid hA
 replace HK := hid hK
 replace HS := hid hO
 clear hA hK hO hL ho
 go_wp2_with fail
 ((try simp only [Exit.inBlock, Exit.then]); (first | refine bodyPost_ret (results_none rfl _ _ _) rfl ?_ | refine bodyPost_end (results_none rfl _ _ _) rfl ?_))
 exact LkEnd.behind HE0.out ⟨HK.out, HA.out.lod, .inr ⟨_, HO.out, rfl, _, _, HA.out, HS.out⟩⟩
theorem look_new (w : World) (l : Lodge) (p : M.Plan) (B kb : Nat) (k : Int) (m : M.Method) (t : MSl) (at_ : Int) (s : M.Frm) (vl vs : Value) (h : LookAt w l p B kb k m t at_ s vl vs) (i : M.Ins) (hop : i.op = 6) :
    Calls Tryz.prog 120 #[.pointer (some ⟨kb, 0, none⟩), .agg #[.int .i64 i.op, .int .i64 i.a, .string i.name, .string i.member]] w (LkEnd w l p B kb k m t at_ vl vs (M.lkIns p k m i s)) := by
 have HO : Hid (M.lkIns p k m i s = M.lkPut m (M.clsTag i.name) s) := hid (by unfold M.lkIns; rw [hop]; rfl)
 obtain ⟨w0, hw0⟩ : ∃ w0, w0 = w.alloc (.cells #[.int .i64 i.op, .int .i64 i.a, .string i.name, .string i.member] 28) := ⟨_, rfl⟩
 have hE0 : Ext w w0 := by rw [hw0]; exact (KX.k (by repeat (first | assumption | constructor)))
 have b3 : Blk w0 w.heap.size 28 #[.int .i64 i.op, .int .i64 i.a, .string i.name, .string i.member] := by rw [hw0]; exact Blk.new _ _ _
 have HW0 := hid hw0
 have HA := hid (h.ext hE0)
 have HK : Hid (Kp (LkO l kb vl vs) w0 w0) := hid (Kp.refl _ _)
 have HS := hid (OwnSub.refl w0.heap.size vl vs)
 have HE0 := hid hE0
 have HB3 := hid b3
 have hlk := h.blk.lt
 have hnb1 : ¬ LkO l kb vl vs w.heap.size := LookAt.notNew h
 have y2 := b3.c 2 (.string i.name) rfl
 clear hop h hE0 b3 hw0
 go_enter Tryz.func120, Tryz.ntmps120
 go_wp2_with fail
 rw [← HW0.out]
 refine (cls_tag _ i.name).mono ?_
 rintro e w1 ⟨rfl, hE⟩
 replace HA := hid (HA.out.ext hE)
 replace HK := hid (HK.out.trans hE.any)
 clear hE
 go_wp2_with fail
 refine (look_put' _ _ _ _ _ _ _ _ _ _ _ _ HA.out (M.clsTag i.name)).mono ?_
 rintro e w2 hEnd
 replace hEnd := LkEnd.after HK.out HS.out hEnd
 rcases hEnd with ⟨hK, hL, ⟨ho, rfl⟩ | ⟨s2, ho, rfl, vl2, vs2, hA, hO⟩⟩
 · exact ⟨rfl, LkEnd.behind HE0.out ⟨hK, hL, .inl ⟨by rw [HO.out, ho]; try rfl, rfl⟩⟩⟩
 replace HO : Hid (M.lkIns p k m i s = some s2) := hid (by rw [HO.out, ho]; try rfl)
 replace HA := hid hA
 replace HK := hid hK
 replace HS := hid hO
 clear hA hK hO hL ho
 go_wp2_with fail
 ((try simp only [Exit.inBlock, Exit.then]); (first | refine bodyPost_ret (results_none rfl _ _ _) rfl ?_ | refine bodyPost_end (results_none rfl _ _ _) rfl ?_))
 exact LkEnd.behind HE0.out ⟨HK.out, HA.out.lod, .inr ⟨_, HO.out, rfl, _, _, HA.out, HS.out⟩⟩
theorem look_out (w : World) (l : Lodge) (p : M.Plan) (B kb : Nat) (k : Int) (m : M.Method) (t : MSl) (at_ : Int) (s : M.Frm) (vl vs : Value) (h : LookAt w l p B kb k m t at_ s vl vs) (i : M.Ins) (hop : i.op = 14) :
    Calls Tryz.prog 128 #[.pointer (some ⟨kb, 0, none⟩), .agg #[.int .i64 i.op, .int .i64 i.a, .string i.name, .string i.member]] w (LkEnd w l p B kb k m t at_ vl vs (M.lkIns p k m i s)) := by
 have HO : Hid (M.lkIns p k m i s = M.lkAs p k M.numTag s) := hid (by unfold M.lkIns; rw [hop]; rfl)
 obtain ⟨w0, hw0⟩ : ∃ w0, w0 = w.alloc (.cells #[.int .i64 i.op, .int .i64 i.a, .string i.name, .string i.member] 28) := ⟨_, rfl⟩
 have hE0 : Ext w w0 := by rw [hw0]; exact (KX.k (by repeat (first | assumption | constructor)))
 have b3 : Blk w0 w.heap.size 28 #[.int .i64 i.op, .int .i64 i.a, .string i.name, .string i.member] := by rw [hw0]; exact Blk.new _ _ _
 have HW0 := hid hw0
 have HA := hid (h.ext hE0)
 have HK : Hid (Kp (LkO l kb vl vs) w0 w0) := hid (Kp.refl _ _)
 have HS := hid (OwnSub.refl w0.heap.size vl vs)
 have HE0 := hid hE0
 have HB3 := hid b3
 have hlk := h.blk.lt
 have hnb1 : ¬ LkO l kb vl vs w.heap.size := LookAt.notNew h
 clear hop h hE0 b3 hw0
 go_enter Tryz.func128, Tryz.ntmps128
 go_wp2_with fail
 rw [← HW0.out]
 refine (num_tag _).mono ?_
 rintro e w1 ⟨rfl, hE⟩
 replace HA := hid (HA.out.ext hE)
 replace HK := hid (HK.out.trans hE.any)
 clear hE
 go_wp2_with fail
 refine (look_takeAs _ _ _ _ _ _ _ _ _ _ _ _ HA.out M.numTag).mono ?_
 rintro e w2 hEnd
 replace hEnd := LkEnd.after HK.out HS.out hEnd
 rcases hEnd with ⟨hK, hL, ⟨ho, rfl⟩ | ⟨s2, ho, rfl, vl2, vs2, hA, hO⟩⟩
 · exact ⟨rfl, LkEnd.behind HE0.out ⟨hK, hL, .inl ⟨by rw [HO.out, ho]; try rfl, rfl⟩⟩⟩
 replace HO : Hid (M.lkIns p k m i s = some s2) := hid (by rw [HO.out, ho]; try rfl)
 replace HA := hid hA
 replace HK := hid hK
 replace HS := hid hO
 clear hA hK hO hL ho
 go_wp2_with fail
 ((try simp only [Exit.inBlock, Exit.then]); (first | refine bodyPost_ret (results_none rfl _ _ _) rfl ?_ | refine bodyPost_end (results_none rfl _ _ _) rfl ?_))
 exact LkEnd.behind HE0.out ⟨HK.out, HA.out.lod, .inr ⟨_, HO.out, rfl, _, _, HA.out, HS.out⟩⟩
theorem look_go (w : World) (l : Lodge) (p : M.Plan) (B kb : Nat) (k : Int) (m : M.Method) (t : MSl) (at_ : Int) (s : M.Frm) (vl vs : Value) (h : LookAt w l p B kb k m t at_ s vl vs) (i : M.Ins) (hop : i.op = 13) :
    Calls Tryz.prog 127 #[.pointer (some ⟨kb, 0, none⟩), .agg #[.int .i64 i.op, .int .i64 i.a, .string i.name, .string i.member]] w (LkEnd w l p B kb k m t at_ vl vs (M.lkIns p k m i s)) := by
 have HO : Hid (M.lkIns p k m i s = M.lkBranch p k m i.a s) := hid (by unfold M.lkIns; rw [hop]; rfl)
 obtain ⟨w0, hw0⟩ : ∃ w0, w0 = w.alloc (.cells #[.int .i64 i.op, .int .i64 i.a, .string i.name, .string i.member] 28) := ⟨_, rfl⟩
 have hE0 : Ext w w0 := by rw [hw0]; exact (KX.k (by repeat (first | assumption | constructor)))
 have b3 : Blk w0 w.heap.size 28 #[.int .i64 i.op, .int .i64 i.a, .string i.name, .string i.member] := by rw [hw0]; exact Blk.new _ _ _
 have HW0 := hid hw0
 have HA := hid (h.ext hE0)
 have HK : Hid (Kp (LkO l kb vl vs) w0 w0) := hid (Kp.refl _ _)
 have HS := hid (OwnSub.refl w0.heap.size vl vs)
 have HE0 := hid hE0
 have HB3 := hid b3
 have hlk := h.blk.lt
 have hnb1 : ¬ LkO l kb vl vs w.heap.size := LookAt.notNew h
 have y1 := b3.c 1 (.int .i64 i.a) rfl
 have hb3z := b3.lt
 clear hop h hE0 b3 hw0
 go_enter Tryz.func127, Tryz.ntmps127
 go_wp2_with fail
 rw [← HW0.out]
 refine (look_branch _ _ _ _ _ _ _ _ _ _ _ _ HA.out i.a).mono ?_
 rintro e w1 hEnd
 replace hEnd := LkEnd.after HK.out HS.out hEnd
 rcases hEnd with ⟨hK, hL, ⟨ho, rfl⟩ | ⟨s1, ho, rfl, vl1, vs1, hA, hO⟩⟩
 · exact ⟨rfl, LkEnd.behind HE0.out ⟨hK, hL, .inl ⟨by rw [HO.out, ho]; try rfl, rfl⟩⟩⟩
 replace HO : Hid (M.lkIns p k m i s = some s1) := hid (by rw [HO.out, ho]; try rfl)
 replace HA := hid hA
 replace HK := hid hK
 replace HS := hid hO
 clear hA hK hO hL ho
 go_wp2_with fail
 ((try simp only [Exit.inBlock, Exit.then]); (first | refine bodyPost_ret (results_none rfl _ _ _) rfl ?_ | refine bodyPost_end (results_none rfl _ _ _) rfl ?_))
 exact LkEnd.behind HE0.out ⟨HK.out, HA.out.lod, .inr ⟨_, HO.out, rfl, _, _, HA.out, HS.out⟩⟩
theorem look_zero (w : World) (l : Lodge) (p : M.Plan) (B kb : Nat) (k : Int) (m : M.Method) (t : MSl) (at_ : Int) (s : M.Frm) (vl vs : Value) (h : LookAt w l p B kb k m t at_ s vl vs) (i : M.Ins) (hop : i.op = 11) :
    Calls Tryz.prog 125 #[.pointer (some ⟨kb, 0, none⟩), .agg #[.int .i64 i.op, .int .i64 i.a, .string i.name, .string i.member]] w (LkEnd w l p B kb k m t at_ vl vs (M.lkIns p k m i s)) := by
 have HO : Hid (M.lkIns p k m i s = (M.lkAs p k M.numTag s).bind (M.lkBranch p k m i.a)) := hid (by unfold M.lkIns; rw [hop]; rfl)
 obtain ⟨w0, hw0⟩ : ∃ w0, w0 = w.alloc (.cells #[.int .i64 i.op, .int .i64 i.a, .string i.name, .string i.member] 28) := ⟨_, rfl⟩
 have hE0 : Ext w w0 := by rw [hw0]; exact (KX.k (by repeat (first | assumption | constructor)))
 have b3 : Blk w0 w.heap.size 28 #[.int .i64 i.op, .int .i64 i.a, .string i.name, .string i.member] := by rw [hw0]; exact Blk.new _ _ _
 have HW0 := hid hw0
 have HA := hid (h.ext hE0)
 have HK : Hid (Kp (LkO l kb vl vs) w0 w0) := hid (Kp.refl _ _)
 have HS := hid (OwnSub.refl w0.heap.size vl vs)
 have HE0 := hid hE0
 have HB3 := hid b3
 have hlk := h.blk.lt
 have hnb1 : ¬ LkO l kb vl vs w.heap.size := LookAt.notNew h
 clear hop h hE0 b3 hw0
 go_enter Tryz.func125, Tryz.ntmps125
 go_wp2_with fail
 rw [← HW0.out]
 refine (num_tag _).mono ?_
 rintro e w1 ⟨rfl, hE⟩
 replace HA := hid (HA.out.ext hE)
 replace HK := hid (HK.out.trans hE.any)
 clear hE
 go_wp2_with fail
 refine (look_takeAs _ _ _ _ _ _ _ _ _ _ _ _ HA.out M.numTag).mono ?_
 rintro e w2 hEnd
 replace hEnd := LkEnd.after HK.out HS.out hEnd
 rcases hEnd with ⟨hK, hL, ⟨ho, rfl⟩ | ⟨s2, ho, rfl, vl2, vs2, hA, hO⟩⟩
 · exact ⟨rfl, LkEnd.behind HE0.out ⟨hK, hL, .inl ⟨by rw [HO.out, ho]; try rfl, rfl⟩⟩⟩
 replace HO : Hid (M.lkIns p k m i s = M.lkBranch p k m i.a s2) := hid (by rw [HO.out, ho]; try rfl)
 replace HA := hid hA
 replace HK := hid hK
 replace HS := hid hO
 clear hA hK hO hL ho
 have y1 := (HB3.out.kp HK.out hnb1).c 1 (.int .i64 i.a) rfl
 go_wp2_with fail
 refine (look_branch _ _ _ _ _ _ _ _ _ _ _ _ HA.out i.a).mono ?_
 rintro e w3 hEnd
 replace hEnd := LkEnd.after HK.out HS.out hEnd
 rcases hEnd with ⟨hK, hL, ⟨ho, rfl⟩ | ⟨s3, ho, rfl, vl3, vs3, hA, hO⟩⟩
 · exact ⟨rfl, LkEnd.behind HE0.out ⟨hK, hL, .inl ⟨by rw [HO.out, ho]; try rfl, rfl⟩⟩⟩
 replace HO : Hid (M.lkIns p k m i s = some s3) := hid (by rw [HO.out, ho]; try rfl)
 replace HA := hid hA
 replace HK := hid hK
 replace HS := hid hO
 clear hA hK hO hL ho
 go_wp2_with fail
 ((try simp only [Exit.inBlock, Exit.then]); (first | refine bodyPost_ret (results_none rfl _ _ _) rfl ?_ | refine bodyPost_end (results_none rfl _ _ _) rfl ?_))
 exact LkEnd.behind HE0.out ⟨HK.out, HA.out.lod, .inr ⟨_, HO.out, rfl, _, _, HA.out, HS.out⟩⟩
theorem look_isnil (w : World) (l : Lodge) (p : M.Plan) (B kb : Nat) (k : Int) (m : M.Method) (t : MSl) (at_ : Int) (s : M.Frm) (vl vs : Value) (h : LookAt w l p B kb k m t at_ s vl vs) (i : M.Ins) (hop : i.op = 12) :
    Calls Tryz.prog 126 #[.pointer (some ⟨kb, 0, none⟩), .agg #[.int .i64 i.op, .int .i64 i.a, .string i.name, .string i.member]] w (LkEnd w l p B kb k m t at_ vl vs (M.lkIns p k m i s)) := by
 have HO : Hid (M.lkIns p k m i s = (M.lkObj s).bind (M.lkBranch p k m i.a)) := hid (by unfold M.lkIns; rw [hop]; rfl)
 obtain ⟨w0, hw0⟩ : ∃ w0, w0 = w.alloc (.cells #[.int .i64 i.op, .int .i64 i.a, .string i.name, .string i.member] 28) := ⟨_, rfl⟩
 have hE0 : Ext w w0 := by rw [hw0]; exact (KX.k (by repeat (first | assumption | constructor)))
 have b3 : Blk w0 w.heap.size 28 #[.int .i64 i.op, .int .i64 i.a, .string i.name, .string i.member] := by rw [hw0]; exact Blk.new _ _ _
 have HW0 := hid hw0
 have HA := hid (h.ext hE0)
 have HK : Hid (Kp (LkO l kb vl vs) w0 w0) := hid (Kp.refl _ _)
 have HS := hid (OwnSub.refl w0.heap.size vl vs)
 have HE0 := hid hE0
 have HB3 := hid b3
 have hlk := h.blk.lt
 have hnb1 : ¬ LkO l kb vl vs w.heap.size := LookAt.notNew h
 clear hop h hE0 b3 hw0
 go_enter Tryz.func126, Tryz.ntmps126
 go_wp2_with fail
 rw [← HW0.out]
 refine (look_takeObject _ _ _ _ _ _ _ _ _ _ _ _ HA.out).mono ?_
 rintro e w1 hEnd
 replace hEnd := LkEnd.after HK.out HS.out hEnd
 rcases hEnd with ⟨hK, hL, ⟨ho, rfl⟩ | ⟨s1, ho, rfl, vl1, vs1, hA, hO⟩⟩
 · exact ⟨rfl, LkEnd.behind HE0.out ⟨hK, hL, .inl ⟨by rw [HO.out, ho]; try rfl, rfl⟩⟩⟩
 replace HO : Hid (M.lkIns p k m i s = M.lkBranch p k m i.a s1) := hid (by rw [HO.out, ho]; try rfl)
 replace HA := hid hA
 replace HK := hid hK
 replace HS := hid hO
 clear hA hK hO hL ho
 have y1 := (HB3.out.kp HK.out hnb1).c 1 (.int .i64 i.a) rfl
 go_wp2_with fail
 refine (look_branch _ _ _ _ _ _ _ _ _ _ _ _ HA.out i.a).mono ?_
 rintro e w2 hEnd
 replace hEnd := LkEnd.after HK.out HS.out hEnd
 rcases hEnd with ⟨hK, hL, ⟨ho, rfl⟩ | ⟨s2, ho, rfl, vl2, vs2, hA, hO⟩⟩
 · exact ⟨rfl, LkEnd.behind HE0.out ⟨hK, hL, .inl ⟨by rw [HO.out, ho]; try rfl, rfl⟩⟩⟩
 replace HO : Hid (M.lkIns p k m i s = some s2) := hid (by rw [HO.out, ho]; try rfl)
 replace HA := hid hA
 replace HK := hid hK
 replace HS := hid hO
 clear hA hK hO hL ho
 go_wp2_with fail
 ((try simp only [Exit.inBlock, Exit.then]); (first | refine bodyPost_ret (results_none rfl _ _ _) rfl ?_ | refine bodyPost_end (results_none rfl _ _ _) rfl ?_))
 exact LkEnd.behind HE0.out ⟨HK.out, HA.out.lod, .inr ⟨_, HO.out, rfl, _, _, HA.out, HS.out⟩⟩
theorem look_cast (w : World) (l : Lodge) (p : M.Plan) (B kb : Nat) (k : Int) (m : M.Method) (t : MSl) (at_ : Int) (s : M.Frm) (vl vs : Value) (h : LookAt w l p B kb k m t at_ s vl vs) (i : M.Ins) (hop : i.op = 15) :
    Calls Tryz.prog 129 #[.pointer (some ⟨kb, 0, none⟩), .agg #[.int .i64 i.op, .int .i64 i.a, .string i.name, .string i.member]] w (LkEnd w l p B kb k m t at_ vl vs (M.lkIns p k m i s)) := by
 have HO : Hid (M.lkIns p k m i s = (M.lkObj s).bind (M.lkPut m (M.clsTag i.name))) := hid (by unfold M.lkIns; rw [hop]; rfl)
 obtain ⟨w0, hw0⟩ : ∃ w0, w0 = w.alloc (.cells #[.int .i64 i.op, .int .i64 i.a, .string i.name, .string i.member] 28) := ⟨_, rfl⟩
 have hE0 : Ext w w0 := by rw [hw0]; exact (KX.k (by repeat (first | assumption | constructor)))
 have b3 : Blk w0 w.heap.size 28 #[.int .i64 i.op, .int .i64 i.a, .string i.name, .string i.member] := by rw [hw0]; exact Blk.new _ _ _
 have HW0 := hid hw0
 have HA := hid (h.ext hE0)
 have HK : Hid (Kp (LkO l kb vl vs) w0 w0) := hid (Kp.refl _ _)
 have HS := hid (OwnSub.refl w0.heap.size vl vs)
 have HE0 := hid hE0
 have HB3 := hid b3
 have hlk := h.blk.lt
 have hnb1 : ¬ LkO l kb vl vs w.heap.size := LookAt.notNew h
 clear hop h hE0 b3 hw0
 go_enter Tryz.func129, Tryz.ntmps129
 go_wp2_with fail
 rw [← HW0.out]
 refine (look_takeObject _ _ _ _ _ _ _ _ _ _ _ _ HA.out).mono ?_
 rintro e w1 hEnd
 replace hEnd := LkEnd.after HK.out HS.out hEnd
 rcases hEnd with ⟨hK, hL, ⟨ho, rfl⟩ | ⟨s1, ho, rfl, vl1, vs1, hA, hO⟩⟩
 · exact ⟨rfl, LkEnd.behind HE0.out ⟨hK, hL, .inl ⟨by rw [HO.out, ho]; try rfl, rfl⟩⟩⟩
 replace HO : Hid (M.lkIns p k m i s = M.lkPut m (M.clsTag i.name) s1) := hid (by rw [HO.out, ho]; try rfl)
 replace HA := hid hA
 replace HK := hid hK
 replace HS := hid hO
 clear hA hK hO hL ho
 have y2 := (HB3.out.kp HK.out hnb1).c 2 (.string i.name) rfl
 go_wp2_with fail
 refine (cls_tag _ i.name).mono ?_
 rintro e w2 ⟨rfl, hE⟩
 replace HA := hid (HA.out.ext hE)
 replace HK := hid (HK.out.trans hE.any)
 clear hE
 go_wp2_with fail
 refine (look_put' _ _ _ _ _ _ _ _ _ _ _ _ HA.out (M.clsTag i.name)).mono ?_
 rintro e w3 hEnd
 replace hEnd := LkEnd.after HK.out HS.out hEnd
 rcases hEnd with ⟨hK, hL, ⟨ho, rfl⟩ | ⟨s3, ho, rfl, vl3, vs3, hA, hO⟩⟩
 · exact ⟨rfl, LkEnd.behind HE0.out ⟨hK, hL, .inl ⟨by rw [HO.out, ho]; try rfl, rfl⟩⟩⟩
 replace HO : Hid (M.lkIns p k m i s = some s3) := hid (by rw [HO.out, ho]; try rfl)
 replace HA := hid hA
 replace HK := hid hK
 replace HS := hid hO
 clear hA hK hO hL ho
 go_wp2_with fail
 ((try simp only [Exit.inBlock, Exit.then]); (first | refine bodyPost_ret (results_none rfl _ _ _) rfl ?_ | refine bodyPost_end (results_none rfl _ _ _) rfl ?_))
 exact LkEnd.behind HE0.out ⟨HK.out, HA.out.lod, .inr ⟨_, HO.out, rfl, _, _, HA.out, HS.out⟩⟩
theorem look_ret (w : World) (l : Lodge) (p : M.Plan) (B kb : Nat) (k : Int) (m : M.Method) (t : MSl) (at_ : Int) (s : M.Frm) (vl vs : Value) (h : LookAt w l p B kb k m t at_ s vl vs) (i : M.Ins) (hop : i.op = 10) :
    Calls Tryz.prog 124 #[.pointer (some ⟨kb, 0, none⟩), .agg #[.int .i64 i.op, .int .i64 i.a, .string i.name, .string i.member]] w (LkEnd w l p B kb k m t at_ vl vs (M.lkIns p k m i s)) := by
 have HO : Hid (M.lkIns p k m i s = M.lkAs p k (M.tagOf m.ret) s) := hid (by unfold M.lkIns; rw [hop]; rfl)
 obtain ⟨w0, hw0⟩ : ∃ w0, w0 = w.alloc (.cells #[.int .i64 i.op, .int .i64 i.a, .string i.name, .string i.member] 28) := ⟨_, rfl⟩
 have hE0 : Ext w w0 := by rw [hw0]; exact (KX.k (by repeat (first | assumption | constructor)))
 have b3 : Blk w0 w.heap.size 28 #[.int .i64 i.op, .int .i64 i.a, .string i.name, .string i.member] := by rw [hw0]; exact Blk.new _ _ _
 have HW0 := hid hw0
 have HA := hid (h.ext hE0)
 have HK : Hid (Kp (LkO l kb vl vs) w0 w0) := hid (Kp.refl _ _)
 have HS := hid (OwnSub.refl w0.heap.size vl vs)
 have HE0 := hid hE0
 have HB3 := hid b3
 have hlk := h.blk.lt
 have hnb1 : ¬ LkO l kb vl vs w.heap.size := LookAt.notNew h
 have y4 := h.blk.c 4 (.int .i64 m.ret.kind) rfl
 have y5 := h.blk.c 5 (.string m.ret.name) rfl
 clear hop h hE0 b3 hw0
 go_enter Tryz.func124, Tryz.ntmps124
 go_wp2_with fail
 rw [← HW0.out]
 refine (tag_of _ m.ret).mono ?_
 rintro e w1 ⟨rfl, hE⟩
 replace HA := hid (HA.out.ext hE)
 replace HK := hid (HK.out.trans hE.any)
 clear hE
 go_wp2_with fail
 refine (look_takeAs _ _ _ _ _ _ _ _ _ _ _ _ HA.out (M.tagOf m.ret)).mono ?_
 rintro e w2 hEnd
 replace hEnd := LkEnd.after HK.out HS.out hEnd
 rcases hEnd with ⟨hK, hL, ⟨ho, rfl⟩ | ⟨s2, ho, rfl, vl2, vs2, hA, hO⟩⟩
 · exact ⟨rfl, LkEnd.behind HE0.out ⟨hK, hL, .inl ⟨by rw [HO.out, ho]; try rfl, rfl⟩⟩⟩
 replace HO : Hid (M.lkIns p k m i s = some s2) := hid (by rw [HO.out, ho]; try rfl)
 replace HA := hid hA
 replace HK := hid hK
 replace HS := hid hO
 clear hA hK hO hL ho
 go_wp2_with fail
 ((try simp only [Exit.inBlock, Exit.then]); (first | refine bodyPost_ret (results_none rfl _ _ _) rfl ?_ | refine bodyPost_end (results_none rfl _ _ _) rfl ?_))
 exact LkEnd.behind HE0.out ⟨HK.out, HA.out.lod, .inr ⟨_, HO.out, rfl, _, _, HA.out, HS.out⟩⟩
theorem look_tak (w : World) (l : Lodge) (p : M.Plan) (B kb : Nat) (k : Int) (m : M.Method) (t : MSl) (at_ : Int) (s : M.Frm) (vl vs : Value) (h : LookAt w l p B kb k m t at_ s vl vs) (i : M.Ins) (hop : i.op = 2) (ha : 0 ≤ i.a ∧ i.a < m.locals) :
    Calls Tryz.prog 116 #[.pointer (some ⟨kb, 0, none⟩), .agg #[.int .i64 i.op, .int .i64 i.a, .string i.name, .string i.member]] w (LkEnd w l p B kb k m t at_ vl vs (M.lkIns p k m i s)) := by
 have HO : Hid (M.lkIns p k m i s = (s.locals[i.a.toNat]?).bind fun t => if t.kind = 0 then none else M.lkPut m t s) := hid (by unfold M.lkIns; rw [hop]; rfl)
 obtain ⟨op, a, nm, mb⟩ := i
 dsimp only at hop ha HO
 obtain ⟨q, rfl⟩ : ∃ q : Nat, a = q := ⟨a.toNat, by omega⟩
 have hql : q < s.locals.length := by have := h.lsz; omega
 obtain ⟨x, hx⟩ := elemF s.locals q hql
 replace HO : Hid (M.lkIns p k m ⟨op, q, nm, mb⟩ s = if x.kind = 0 then none else M.lkPut m x s) := hid (by rw [HO.out, Int.toNat_natCast, hx]; rfl)
 obtain ⟨w0, hw0⟩ : ∃ w0, w0 = w.alloc (.cells #[.int .i64 op, .int .i64 q, .string nm, .string mb] 28) := ⟨_, rfl⟩
 have hE0 : Ext w w0 := by rw [hw0]; exact (KX.k (by repeat (first | assumption | constructor)))
 have b3 : Blk w0 w.heap.size 28 #[.int .i64 op, .int .i64 q, .string nm, .string mb] := by rw [hw0]; exact Blk.new _ _ _
 have hA := h.ext hE0
 have hloc := hA.loc
 obtain ⟨lg, lcp, hlv, hg1, hg2, hg3⟩ := owns_form hloc (by omega)
 subst hlv
 obtain ⟨x0, x1⟩ := (owns_at (enc := tagCs) (k := 2) (fun _ => rfl) hloc hx).two
 obtain ⟨T, f, hneT, HT⟩ := Cls.ex (fun W' => Ext w0 W') _ (Kp.refl _ _)
 have e11 := fun z => (hA.blk.ext (HT.inn z)).c 11 (.slice (some ⟨lg, 0, none⟩) s.locals.length lcp) rfl
 have e1 := fun z => (b3.ext (HT.inn z)).c 1 (.int .i64 q) rfl
 have e2 := fun z => (HT.inn z).cellE x0
 have e3 := fun z => (HT.inn z).cellE x1
 have hq' : (q : Int) < s.locals.length := by omega
 have hat := h.hat
 have hz := h.blk.lt
 have HTH := hid HT
 have HW0 := hid hw0
 have HE0 := hid hE0
 have HA := hid hA
 clear h hop hx hw0 hE0 b3 hA hloc HT x0 x1 ha
 have hcase : (x.kind == 0) = true ∨ (x.kind == 0) = false := by cases (x.kind == 0) <;> simp
 go_enter Tryz.func116, Tryz.ntmps116
 go_wp2_with fail
 rw [← HW0.out]
 (refine region_mix f 9 [([0, 1, 2, 3, 4, 5, 6, 7], 8)] [] (HTH.out.out _ ?_) (by kernel_rfl) (by kernel_rfl) (fun _ _ d _ _ h => by cases d <;> exact h) ?_)
 · exact (Kp.refl _ _).drew
 (refine wpMix_cons rfl rfl fun K hK => ?_); (change wpQuiet _ _ _ _ [_, _, _, _, _, _, _, _] _); (repeat (go_big_quiet_step (fail))); (refine wpQuiet_nil ?_); (refine hK _ fun K2 hK2 => ?_); clear hK K; (change wpList _ _ _ [_] _ _)
 go_wp2_with fail
 (refine hK2 _ _ (HTH.out.out _ (KX.k (by repeat (first | assumption | constructor)))) ?_); clear hK2 K2
 (refine wpMix_nil rfl fun K hK => ?_); (change wpQuiet _ _ _ _ [] _); (refine wpQuiet_nil ?_); (refine hK _ ?_); clear hK K
 go_wp2_with fail
 · clear hcase e11 e1 e2 e3
   have hx0 : (x.kind == 0) = true := by assumption
   replace HO : Hid (M.lkIns p k m ⟨op, q, nm, mb⟩ s = none) := hid (by rw [HO.out, if_pos (by simpa using hx0)])
   have hA3 := HA.out.ext ((KX.k (by repeat (first | assumption | constructor))) : Ext w0 ((w0.alloc (.cells #[.int .i64 x.kind, .string x.name] 25)).drew))
   refine (look_wrong _ kb at_ (hA3.blk.c 10 _ rfl) hat.1 (by omega)).mono ?_
   rintro e w3 ⟨rfl, rfl⟩
   exact ⟨rfl, LkEnd.behind HE0.out ⟨((KX.k (by repeat (first | assumption | constructor))) : Ext w0 ((w0.alloc (.cells #[.int .i64 x.kind, .string x.name] 25)).drew)).any, hA3.lod, .inl ⟨HO.out, rfl⟩⟩⟩
 · clear hcase e11 e1 e2 e3
   have hx0 : (x.kind == 0) = false := by assumption
   replace HO : Hid (M.lkIns p k m ⟨op, q, nm, mb⟩ s = M.lkPut m x s) := hid (by rw [HO.out, if_neg (by simpa using hx0)])
   have HE3 : Hid (Ext w0 ((w0.alloc (.cells #[.int .i64 x.kind, .string x.name] 25)).drew)) := hid (KX.k (by repeat (first | assumption | constructor)))
   refine (look_put' _ _ _ _ _ _ _ _ _ _ _ _ (HA.out.ext HE3.out) x).mono ?_
   rintro e w2 hEnd
   replace hEnd := LkEnd.behind (HE0.out.trans HE3.out) hEnd
   rw [← HO.out] at hEnd
   have HZ := hid hEnd
   rcases hEnd.2.2 with ⟨-, rfl⟩ | ⟨s', -, rfl, -⟩
   · exact ⟨rfl, HZ.out⟩
   · clear hEnd
     go_wp2_with fail
     ((try simp only [Exit.inBlock, Exit.then]); (first | refine bodyPost_ret (results_none rfl _ _ _) rfl ?_ | refine bodyPost_end (results_none rfl _ _ _) rfl ?_))
     exact HZ.out
theorem flat_set2 : ∀ (ls : List M.Tag) (q : Nat) (x : M.Tag), ((ls.flatMap tagCs).set (q * 2) (.int .i64 x.kind)).set (q * 2 + 1) (.string x.name) = (ls.set q x).flatMap tagCs := by
 intro ls
 induction ls with
 | nil => intro q x; rfl
 | cons y r ih =>
  intro q x
  cases q with
  | zero => simp [tagCs]
  | succ q =>
   have := ih q x
   rw [show (q + 1) * 2 = q * 2 + 2 from by omega]
   simp [tagCs, List.flatMap_cons, List.set_cons_succ] at this ⊢
   exact this
theorem LookAt.setLocal {w : World} {l : Lodge} {p : M.Plan} {B kb : Nat} {k : Int} {m : M.Method} {t : MSl} {at_ : Int} {s : M.Frm} {lg lcp : Nat} {vs : Value} (h : LookAt w l p B kb k m t at_ s (.slice (some ⟨lg, 0, none⟩) s.locals.length lcp) vs) (q : Nat) (x : M.Tag) :
    LookAt ((w.setCell ⟨lg, q * 2, none⟩ (.int .i64 x.kind)).setCell ⟨lg, q * 2 + 1, none⟩ (.string x.name)) l p B kb k m t at_ ⟨s.locals.set q x, s.stack⟩ (.slice (some ⟨lg, 0, none⟩) s.locals.length lcp) vs ∧
    Kp (LkO l kb (.slice (some ⟨lg, 0, none⟩) s.locals.length lcp) vs) w ((w.setCell ⟨lg, q * 2, none⟩ (.int .i64 x.kind)).setCell ⟨lg, q * 2 + 1, none⟩ (.string x.name)) := by
 have hk : Kp (· = lg) w ((w.setCell ⟨lg, q * 2, none⟩ (.int .i64 x.kind)).setCell ⟨lg, q * 2 + 1, none⟩ (.string x.name)) :=
  ((Kp.refl (· = lg) w).setCell (p := ⟨lg, q * 2, none⟩) (fun _ => rfl) _).setCell (p := ⟨lg, q * 2 + 1, none⟩) (fun _ => rfl) _
 have hg := (h.loc.lt lg rfl).1
 have hO := h.lod.ord
 have hB := h.hB
 have hn := h.neb.1
 have h2 := (h.loc.stored (q * 2) (.int .i64 x.kind)).1.stored (q * 2 + 1) (.string x.name)
 rw [flat_set2] at h2
 refine ⟨⟨h.lod.kp hk (fun b hb e => by omega), h.hB, h.hk, Stays.kp MethodL.stays hk (fun b hb e => by omega) h.ml, h.mi, h.blk.kp hk (fun e => hn (by rw [e]; rfl)), by simpa using h2.1, owns_kp h.stk hk (fun g hg _ e => h.ne lg rfl (by rw [← e]; exact hg)), h.ne, h.hat, h.ssz, by simpa using h.lsz⟩, hk.weak fun b _ e => .inr (.inr (.inl (by rw [e]; rfl)))⟩
theorem look_pt (w : World) (l : Lodge) (p : M.Plan) (B kb : Nat) (k : Int) (m : M.Method) (t : MSl) (at_ : Int) (s : M.Frm) (vl vs : Value) (h : LookAt w l p B kb k m t at_ s vl vs) (i : M.Ins) (hop : i.op = 3) (ha : 0 ≤ i.a ∧ i.a < m.locals) :
    Calls Tryz.prog 117 #[.pointer (some ⟨kb, 0, none⟩), .agg #[.int .i64 i.op, .int .i64 i.a, .string i.name, .string i.member]] w (LkEnd w l p B kb k m t at_ vl vs (M.lkIns p k m i s)) := by
 have HO : Hid (M.lkIns p k m i s = (M.lkTake s).map fun x => ⟨x.2.locals.set i.a.toNat x.1, x.2.stack⟩) := hid (by unfold M.lkIns; rw [hop]; rfl)
 obtain ⟨op, a, nm, mb⟩ := i
 dsimp only at hop ha HO
 obtain ⟨q, rfl⟩ : ∃ q : Nat, a = q := ⟨a.toNat, by omega⟩
 have hql : q < s.locals.length := by have := h.lsz; omega
 obtain ⟨w0, hw0⟩ : ∃ w0, w0 = w.alloc (.cells #[.int .i64 op, .int .i64 q, .string nm, .string mb] 28) := ⟨_, rfl⟩
 have hE0 : Ext w w0 := by rw [hw0]; exact (KX.k (by repeat (first | assumption | constructor)))
 have b3 : Blk w0 w.heap.size 28 #[.int .i64 op, .int .i64 q, .string nm, .string mb] := by rw [hw0]; exact Blk.new _ _ _
 have hA := h.ext hE0
 have hn := h.notNew
 obtain ⟨lg, lcp, hlv, hg1, hg2, hg3⟩ := owns_form hA.loc (by omega)
 subst hlv
 obtain ⟨T, f, hneT, HT⟩ := Cls.ex (fun W' => Kp (LkO l kb (.slice (some ⟨lg, 0, none⟩) s.locals.length lcp) vs) w0 W' ∧ ∃ s' vs', LookAt W' l p B kb k m t at_ s' (.slice (some ⟨lg, 0, none⟩) s.locals.length lcp) vs') w0 ⟨Kp.refl _ _, _, _, hA⟩
 have e11 : ∀ z, (f z).cell? ⟨kb, 11, none⟩ = some (.slice (some ⟨lg, 0, none⟩) s.locals.length lcp) := fun z => by
  obtain ⟨_, s', vs', hz⟩ := HT.inn z
  exact hz.blk.c 11 _ rfl
 have e1 := fun z => (b3.kp (HT.inn z).1 hn).c 1 (.int .i64 q) rfl
 have hq' : (q : Int) < s.locals.length := by omega
 have hat := h.hat
 have hz := h.blk.lt
 have HTH := hid HT
 have HW0 := hid hw0
 have HE0 := hid hE0
 have HA := hid hA
 clear h hop hw0 hE0 b3 hA HT ha hn
 rcases List.eq_nil_or_concat s.stack with hs | ⟨st, x, hs⟩
 · replace HO : Hid (M.lkIns p k m ⟨op, q, nm, mb⟩ s = none) := hid (by rw [HO.out]; unfold M.lkTake; rw [hs]; rfl)
   have HS := hid hs
   clear hs
   go_enter Tryz.func117, Tryz.ntmps117
   go_wp2_with fail
   rw [← HW0.out]
   (refine region_mix f 8 [([0, 1, 2, 3, 4, 5, 6], 7)] [] (HTH.out.out _ ?_) (by kernel_rfl) (by kernel_rfl) (fun _ _ d _ _ h => by cases d <;> exact h) ?_)
   · exact ⟨(Kp.refl _ _).drew, _, _, HA.out.ext (Kp.refl _ _).drew⟩
   (refine wpMix_cons rfl rfl fun K hK => ?_); (change wpQuiet _ _ _ _ [_, _, _, _, _, _, _] _); (repeat (go_big_quiet_step (fail))); (refine wpQuiet_nil ?_); (refine hK _ fun K2 hK2 => ?_); clear hK K; (change wpList _ _ _ [_] _ _)
   go_wp2_with fail
   refine (look_take_no _ _ _ _ _ _ _ _ _ _ _ _ (HA.out.ext (Kp.refl _ _).drew) HS.out).mono ?_
   rintro e w1 ⟨rfl, hE1⟩
   have hE := (HE0.out.trans (Kp.refl _ _).drew).trans hE1
   exact ⟨rfl, hE.any, ((HA.out.ext (Kp.refl _ _).drew).ext hE1).lod, .inl ⟨HO.out, rfl⟩⟩
 · rw [List.concat_eq_append] at hs
   replace HO : Hid (M.lkIns p k m ⟨op, q, nm, mb⟩ s = some ⟨s.locals.set q x, st⟩) := hid (by rw [HO.out]; unfold M.lkTake; rw [hs]; simp)
   have HS := hid hs
   clear hs
   go_enter Tryz.func117, Tryz.ntmps117
   go_wp2_with fail
   rw [← HW0.out]
   (refine region_mix f 8 [([0, 1, 2, 3, 4, 5, 6], 7)] [] (HTH.out.out _ ?_) (by kernel_rfl) (by kernel_rfl) (fun _ _ d _ _ h => by cases d <;> exact h) ?_)
   · exact ⟨(Kp.refl _ _).drew, _, _, HA.out.ext (Kp.refl _ _).drew⟩
   (refine wpMix_cons rfl rfl fun K hK => ?_); (change wpQuiet _ _ _ _ [_, _, _, _, _, _, _] _); (repeat (go_big_quiet_step (fail))); (refine wpQuiet_nil ?_); (refine hK _ fun K2 hK2 => ?_); clear hK K; (change wpList _ _ _ [_] _ _)
   go_wp2_with fail
   refine (look_take _ _ _ _ _ _ _ _ _ _ _ _ (HA.out.ext (Kp.refl _ _).drew) st x HS.out).mono ?_
   rintro e w1 ⟨rfl, ⟨vs1, hA1, hO1⟩, hK1⟩
   have HK1 : Hid (Kp (LkO l kb (.slice (some ⟨lg, 0, none⟩) s.locals.length lcp) vs) w0 w1) := hid (((Kp.refl _ w0).drew).trans hK1)
   have HO1 := hid hO1
   have HA1 := hid hA1
   clear hA1 hO1 hK1
   go_wp2_with fail
   (refine hK2 _ _ (HTH.out.out _ ⟨HK1.out, _, _, HA1.out⟩) ?_); clear hK2 K2
   obtain ⟨y, hy⟩ := elemF s.locals q hql
   obtain ⟨x0, x1⟩ := (owns_at (enc := tagCs) (k := 2) (fun _ => rfl) HA1.out.loc hy).two
   have f0 := HA1.out.loc.frozenAt (q * 2)
   have f1 := HA1.out.loc.frozenAt (q * 2 + 1)
   have hgz := (HA1.out.loc.lt lg rfl).2
   clear e11 e1 hy
   (refine wpMix_nil rfl fun K hK => ?_); (change wpQuiet _ _ _ _ [] _); (refine wpQuiet_nil ?_); (refine hK _ ?_); clear hK K
   go_wp2_with fail
   ((try simp only [Exit.inBlock, Exit.then]); (first | refine bodyPost_ret (results_none rfl _ _ _) rfl ?_ | refine bodyPost_end (results_none rfl _ _ _) rfl ?_))
   obtain ⟨hA2, hK2'⟩ := HA1.out.setLocal q x
   exact LkEnd.behind HE0.out ⟨HK1.out.look hK2' HO1.out, hA2.lod, .inr ⟨_, HO.out, rfl, _, _, hA2, HO1.out⟩⟩
end Go.Proofs.YtjdfceejkneofaaGreat
namespace Go.Proofs.YtjdfceejkneofaaGreat
open Go Go.RowKit
inductive MT where
 | fin (q : List Nat)
 | one (q : List Nat) (i : Nat) (t : MT)
 | two (q : List Nat) (i j : Nat) (ti tj : MT)
def MT.cost : MT → Nat
 | .fin q => q.length
 | .one q _ t => q.length + 1 + t.cost
 | .two q _ _ ti _ => q.length + 1 + ti.cost
def MT.ok (md : Region.Mode) (ops : Array Oper) (n : Nat) : MT → Array Bool → Bool
 | .fin q, listed => match okQ md ops n q listed with
  | some L => Region.seqB md ops (ops.size - n) n L
  | none => false
 | .one q i t, listed => match okQ md ops n q listed with
  | some L => decide (Region.ready md ops L = [i]) && decide (i < n) && t.ok md ops n (L.setIfInBounds i true)
  | none => false
 | .two q i j ti tj, listed => match okQ md ops n q listed with
  | some L => decide (Region.ready md ops L = [i, j]) && decide (i < n) && decide (j < n) && decide (tj.cost = ti.cost) && ti.ok md ops n (L.setIfInBounds i true) && tj.ok md ops n (L.setIfInBounds j true)
  | none => false
def goodT (ops : Array Oper) (n : Nat) (t : MT) : Bool :=
 Region.noSelect ops && tailB .any ops n && decide (t.cost = n) && decide (n ≤ ops.size) && t.ok .any ops n (Array.replicate ops.size false)
def wpT (P : Program) (l : List Oper) (C : World → Prop) (Q : Exit → Act → World → Prop) (fin : Act → World → Prop) : MT → Act → World → Prop
 | .fin q, a, w => wpQuiet P l.toArray C (fun a' => fin a' w) (q.filterMap (l[·]?)) a
 | .one q i t, a, w => wpQuiet P l.toArray C (fun a' => wpList P l.toArray (Exit.then (fun a'' w' => C w' ∧ wpT P l C Q fin t a'' w') Q) (l[i]?).toList a' w) (q.filterMap (l[·]?)) a
 | .two q i j ti tj, a, w => wpQuiet P l.toArray C (fun a' => wpList P l.toArray (Exit.then (fun a'' w' => C w' ∧ wpT P l C Q fin ti a'' w') Q) (l[i]?).toList a' w ∧ wpList P l.toArray (Exit.then (fun a'' w' => C w' ∧ wpT P l C Q fin tj a'' w') Q) (l[j]?).toList a' w) (q.filterMap (l[·]?)) a
section
variable {P : Program} {ops : Array Oper} {md : Region.Mode} {Q : Exit → Act → World → Prop} {C : World → Prop} {n : Nat}
theorem pick_step {l : List Oper} {L : Array Bool} {j : Nat} {a : Act} {w : World} {K K' : Act → World → Prop} (hr : j ∈ Region.ready md l.toArray L)
    (hk : wpList P l.toArray (Exit.then K Q) (l[j]?).toList a w) (step : ∀ a'' w', K a'' w' → K' a'' w') : wpOp P l.toArray Q j K' a w := by
 cases hoi : l[j]? with
 | none =>
  exfalso
  obtain ⟨_, o, ho, _⟩ := mem_ready.1 hr
  simp [hoi] at ho
 | some o =>
  rw [hoi] at hk
  simp only [Option.toList, wpList] at hk
  unfold wpOp
  have hoi' : l.toArray[j]? = some o := by simpa using hoi
  simp only [hoi']
  split
  · rename_i hw
    rw [if_pos hw] at hk
    rcases hk with hk | hk
    · left
      exact Oper.wp_mono (fun a'' w' h' => step a'' w' h') (wp_then hk)
    · right; exact hk
  · rename_i hw
    rw [if_neg hw] at hk
    exact step _ _ hk
theorem tree_sound {l : List Oper} (hs : Region.noSelect l.toArray = true) (ht : tailB md l.toArray n = true) (hQ : ∀ c a d v w, Q (.panic c) (a.put d v) w → Q (.panic c) a w) (hn : n ≤ l.length) : ∀ (t : MT) (listed : Array Bool) (a : Act) (w : World), C w →
    t.ok md l.toArray n listed = true → wpT P l C Q (fun a' w' => wpList P l.toArray Q (l.drop n) a' w') t a w → wpAnyC P md l.toArray n C Q ((l.length - n) + t.cost) listed a w
 | .fin q', listed, a, w, hC, hB, h => by
  unfold MT.ok at hB
  split at hB
  · rename_i L hL
    refine quiet_sound hs ht hQ hC _ L (fun a' hk => ?_) q' listed a hL h
    have := seqC_sound (md := md) (C := C) (l := l) (l.drop n) n L a' w (Nat.le_refl _) (fun j => by simp [List.getElem?_drop]) (by simpa using hB) hk
    simpa using this
  · cases hB
 | .one q i t, listed, a, w, hC, hB, h => by
  unfold MT.ok at hB
  split at hB
  · rename_i L hL
    simp only [Bool.and_eq_true, decide_eq_true_eq] at hB
    obtain ⟨⟨hr, hin⟩, hB⟩ := hB
    have e : l.length - n + (MT.one q i t).cost = ((l.length - n + t.cost) + 1) + q.length := by simp [MT.cost]; omega
    rw [e]
    refine quiet_sound hs ht hQ hC _ L (fun a' hk => ?_) q listed a hL h
    refine ⟨fun h1 => (by rw [hr] at h1; cases h1), fun j hj => ?_⟩
    have hji : j = i := by rw [hr] at hj; simpa using hj
    subst hji
    exact pick_step hj hk fun a'' w' h3 => ⟨fun _ => h3.1, tree_sound hs ht hQ hn t _ a'' w' h3.1 hB h3.2⟩
  · cases hB
 | .two q i j ti tj, listed, a, w, hC, hB, h => by
  unfold MT.ok at hB
  split at hB
  · rename_i L hL
    simp only [Bool.and_eq_true, decide_eq_true_eq] at hB
    obtain ⟨⟨⟨⟨⟨hr, hin⟩, hjn⟩, hc⟩, hB1⟩, hB2⟩ := hB
    have e : l.length - n + (MT.two q i j ti tj).cost = ((l.length - n + ti.cost) + 1) + q.length := by simp [MT.cost]; omega
    rw [e]
    refine quiet_sound hs ht hQ hC _ L (fun a' hk => ?_) q listed a hL h
    refine ⟨fun h1 => (by rw [hr] at h1; cases h1), fun x hx => ?_⟩
    have hx' : x = i ∨ x = j := by rw [hr] at hx; simpa using hx
    rcases hx' with rfl | rfl
    · exact pick_step hx hk.1 fun a'' w' h3 => ⟨fun _ => h3.1, tree_sound hs ht hQ hn ti _ a'' w' h3.1 hB1 h3.2⟩
    · rw [← hc]
      exact pick_step hx hk.2 fun a'' w' h3 => ⟨fun _ => h3.1, tree_sound hs ht hQ hn tj _ a'' w' h3.1 hB2 h3.2⟩
  · cases hB
end
section
variable {P : Program} {l : List Oper} {C : World → Prop} {Q : Exit → Act → World → Prop} {fin : Act → World → Prop} {q : List Nat} {i j : Nat} {t ti tj : MT} {a : Act} {w : World} {qs os oj : List Oper}
theorem wpT_fin (he : q.filterMap (l[·]?) = qs) (h : ∀ K : Act → Prop, (∀ a', fin a' w → K a') → wpQuiet P l.toArray C K qs a) : wpT P l C Q fin (.fin q) a w := by
 subst he
 exact h _ fun _ h => h
theorem wpT_one (he : q.filterMap (l[·]?) = qs) (ho : (l[i]?).toList = os)
    (h : ∀ K : Act → Prop, (∀ a', (∀ K2 : Act → World → Prop, (∀ a'' w', C w' → wpT P l C Q fin t a'' w' → K2 a'' w') → wpList P l.toArray (Exit.then K2 Q) os a' w) → K a') → wpQuiet P l.toArray C K qs a) : wpT P l C Q fin (.one q i t) a w := by
 subst he ho
 refine h _ fun a' h2 => ?_
 exact h2 _ fun _ _ h3 h4 => ⟨h3, h4⟩
theorem wpT_two (he : q.filterMap (l[·]?) = qs) (ho : (l[i]?).toList = os) (hj : (l[j]?).toList = oj)
    (h : ∀ K : Act → Prop, (∀ a', (∀ K2 : Act → World → Prop, (∀ a'' w', C w' → wpT P l C Q fin ti a'' w' → K2 a'' w') → wpList P l.toArray (Exit.then K2 Q) os a' w) → (∀ K2 : Act → World → Prop, (∀ a'' w', C w' → wpT P l C Q fin tj a'' w' → K2 a'' w') → wpList P l.toArray (Exit.then K2 Q) oj a' w) → K a') → wpQuiet P l.toArray C K qs a) : wpT P l C Q fin (.two q i j ti tj) a w := by
 subst he ho hj
 refine h _ fun a' h2 h5 => ?_
 exact ⟨h2 _ fun _ _ h3 h4 => ⟨h3, h4⟩, h5 _ fun _ _ h3 h4 => ⟨h3, h4⟩⟩
end
theorem region_tree {P : Program} {id : Nat} {Q : Exit → Act → World → Prop} {a : Act} {w : World} {l : List Oper} {T : Type} (f : T → World) (n : Nat) (t : MT) (h0 : ∃ s, w.drew = f s) (hm : P.follows .mixedOrders = true) (hB : goodT l.toArray n t = true)
    (hQ : ∀ c a d v w, Q (.panic c) (a.put d v) w → Q (.panic c) a w)
    (h : wpT P l (fun w' => ∃ s, w' = f s) Q (fun a' w' => wpList P l.toArray Q (l.drop n) a' w') t a w.drew) : (Code.region id l.toArray true).wp P Q a w := by
 unfold goodT at hB
 simp only [Bool.and_eq_true, decide_eq_true_eq] at hB
 obtain ⟨⟨⟨⟨h1, h2⟩, h3⟩, h4⟩, h5⟩ := hB
 refine wp_region_any hm (wpAny_of_C (C := fun w' => ∃ s, w' = f s) (n := n) _ _ _ _ ?_)
 have := tree_sound (C := fun w' => ∃ s, w' = f s) (md := .any) h1 h2 hQ (by simpa using h4) t _ a w.drew h0 h5 h
 have e : l.length - n + t.cost = l.toArray.size := by
  have : n ≤ l.length := by simpa using h4
  simp; omega
 rw [e] at this
 exact this
end Go.Proofs.YtjdfceejkneofaaGreat
namespace Go.Proofs.YtjdfceejkneofaaGreat
open Go Go.RowKit
open Go.Lib (hid)
theorem field_end {w w0 w7 : World} {l : Lodge} {p : M.Plan} {b : Nat} (hE : Ext w w0) (hK : Kp (· = l.D) w0 w7) (hL : LodgeAt w7 l p) (hb : l.L < b) (hw : w.heap.size ≤ b) (u0 u1 u2 u3 u4 : Value) :
    Kp (· = l.D) w (((((w7.setCell ⟨b, 0, none⟩ u0).setCell ⟨b, 1, none⟩ u1).setCell ⟨b, 2, none⟩ u2).setCell ⟨b, 3, none⟩ u3).setCell ⟨b, 4, none⟩ u4) ∧
    LodgeAt (((((w7.setCell ⟨b, 0, none⟩ u0).setCell ⟨b, 1, none⟩ u1).setCell ⟨b, 2, none⟩ u2).setCell ⟨b, 3, none⟩ u3).setCell ⟨b, 4, none⟩ u4) l p := by
 have h5 := Kp.set5 (D := (· = b)) (w := w7) rfl u0 u1 u2 u3 u4
 generalize (((((w7.setCell ⟨b, 0, none⟩ u0).setCell ⟨b, 1, none⟩ u1).setCell ⟨b, 2, none⟩ u2).setCell ⟨b, 3, none⟩ u3).setCell ⟨b, 4, none⟩ u4) = w8 at *
 exact ⟨(hE.any.trans hK).own h5 (fun k e => by omega), hL.kp h5 (fun k hk e => by omega)⟩
theorem look_field (w : World) (l : Lodge) (p : M.Plan) (B kb : Nat) (k : Int) (m : M.Method) (t : MSl) (at_ : Int) (s : M.Frm) (vl vs : Value) (h : LookAt w l p B kb k m t at_ s vl vs) (i : M.Ins) :
    Calls Tryz.prog 144 #[.pointer (some ⟨kb, 0, none⟩), .agg #[.int .i64 i.op, .int .i64 i.a, .string i.name, .string i.member]] w fun e w' =>
     Kp (· = l.D) w w' ∧ LodgeAt w' l p ∧ (((M.get p k i.name i.member).2 ≠ 1 ∧ e = .panicked (wrongP (at_ + 1))) ∨ ((M.get p k i.name i.member).2 = 1 ∧ e = .returned (.agg (frefCs (M.get p k i.name i.member).1).toArray))) := by
 obtain ⟨w0, hw0⟩ : ∃ w0, w0 = (w.alloc (.cells #[.int .i64 i.op, .int .i64 i.a, .string i.name, .string i.member] 28)).alloc (.cells #[.int .i64 0, .string ⟨#[]⟩, .int .i64 0, .int .i64 0, .string ⟨#[]⟩] 159) := ⟨_, rfl⟩
 have hE0 : Ext w w0 := by rw [hw0]; exact (KX.k (by repeat (first | assumption | constructor)))
 have b3 : Blk w0 w.heap.size 28 #[.int .i64 i.op, .int .i64 i.a, .string i.name, .string i.member] := by rw [hw0]; exact (Blk.new _ _ _).ext (KX.k (by repeat (first | assumption | constructor)))
 have b4 : Blk w0 (w.heap.size + 1) 159 #[.int .i64 0, .string ⟨#[]⟩, .int .i64 0, .int .i64 0, .string ⟨#[]⟩] := by rw [hw0]; exact Blk.newAt _ _ (by simp)
 have hA := h.ext hE0
 have hD := h.lod.dlt
 have hord := h.lod.ord
 have hB := h.hB
 have hk := h.hk
 have hz := h.blk.lt
 have hat := h.hat
 have hkD : ¬ kb = l.D := by omega
 have hnD : ¬ w.heap.size = l.D := by omega
 have hn1 : ¬ w.heap.size + 1 = l.D := by omega
 obtain ⟨T, f, hneT, HT⟩ := Cls.ex (fun W' => Kp (· = l.D) w0 W') _ (Kp.refl _ _)
 have r0 := fun z => (hA.blk.kp (HT.inn z) hkD).c 0 (.pointer (some ⟨l.L, 0, none⟩)) rfl
 have r1 := fun z => (hA.blk.kp (HT.inn z) hkD).c 1 (.int .i64 k) rfl
 have r2 := fun z => (b3.kp (HT.inn z) hnD).c 2 (.string i.name) rfl
 have r3 := fun z => (b3.kp (HT.inn z) hnD).c 3 (.string i.member) rfl
 have HTH := hid HT
 have HW0 := hid hw0
 have HE0 := hid hE0
 have HA := hid hA
 have HB4 := hid b4
 obtain ⟨v0, v1, v2, v3, v4, hv⟩ : ∃ a b c d e, (frefCs (M.get p k i.name i.member).1).toArray = #[.int .i64 a, .string b, .int .i64 c, .int .i64 d, .string e] := ⟨_, _, _, _, _, rfl⟩
 have HV := hid hv
 rw [hv]
 clear hv
 clear h hw0 hE0 b3 b4 hA HT
 go_enter Tryz.func144, Tryz.ntmps144
 go_wp2_with fail
 rw [← HW0.out]
 (refine region_tree f 18 (.two [0, 1, 2, 3, 4, 5, 6, 7, 8, 9, 10, 11] 12 16 (.one [13, 14, 15] 16 (.one [] 17 (.fin []))) (.one [] 12 (.one [13, 14, 15] 17 (.fin [])))) (HTH.out.out _ ?_) (by kernel_rfl) (by kernel_rfl) (fun _ _ d _ _ h => by cases d <;> exact h) ?_)
 · exact (Kp.refl _ _).drew
 (refine wpT_two rfl rfl rfl fun K hK => ?_); (change wpQuiet _ _ _ _ [_, _, _, _, _, _, _, _, _, _, _, _] _); (repeat (go_big_quiet_step (fail))); (refine wpQuiet_nil ?_); ((refine hK _ (fun K2 hK2 => ?_) (fun K2 hK2 => ?_)) <;> (clear hK K; (change wpList _ _ _ [_] _ _)))
 · go_wp2_with fail
   refine (lodge_get _ _ _ (HA.out.lod.ext (Kp.refl _ _).drew) k i.name i.member).mono ?_
   rintro e w3 ⟨⟨ev, he, hev⟩, hL3, hK3⟩
   rw [HV.out] at he
   subst he
   have HK3 : Hid (Kp (· = l.D) w0 w3) := hid (((Kp.refl _ _).drew).trans hK3)
   have HL3 := hid hL3
   clear hL3 hK3
   obtain ⟨w7, hw7⟩ : ∃ w7, w7 = w3.alloc (.cells #[.int .i64 v0, .string v1, .int .i64 v2, .int .i64 v3, .string v4] 159) := ⟨_, rfl⟩
   have HK7 : Hid (Kp (· = l.D) w0 w7) := hid (by rw [hw7]; exact HK3.out.alloc _)
   have HL7 : Hid (LodgeAt w7 l p) := hid (by rw [hw7]; exact HL3.out.ext (KX.k (by repeat (first | assumption | constructor))))
   have b57 : Blk w7 w3.heap.size 159 #[.int .i64 v0, .string v1, .int .i64 v2, .int .i64 v3, .string v4] := by rw [hw7]; exact Blk.new _ _ _
   have HW7 := hid hw7
   have u0 := b57.c 0 (.int .i64 v0) rfl
   have u1 := b57.c 1 (.string v1) rfl
   have u2 := b57.c 2 (.int .i64 v2) rfl
   have u3 := b57.c 3 (.int .i64 v3) rfl
   have u4 := b57.c 4 (.string v4) rfl
   have hn5 : ¬ w.heap.size + 1 = w3.heap.size := by have := HB4.out.lt; have := HK3.out.size; omega
   have hn6 : ¬ w3.heap.size = w.heap.size + 1 := by omega
   clear b57 hw7
   rcases hev with ⟨hc, rfl⟩ | ⟨hc, b, rfl, -⟩
   all_goals
    have HC := hid hc
    clear hc
    go_wp2_with fail
    (refine hK2 _ _ (HTH.out.out _ HK3.out) ?_); clear hK2 K2
    (refine wpT_one rfl rfl fun K hK => ?_); (change wpQuiet _ _ _ _ [_, _, _] _); (repeat (go_big_quiet_step (fail))); (refine wpQuiet_nil ?_); (refine hK _ fun K2 hK2 => ?_); clear hK K; (change wpList _ _ _ [_] _ _)
    go_wp2_with fail
    (refine hK2 _ _ (HTH.out.out _ (HK3.out.alloc _)) ?_); clear hK2 K2
    (refine wpT_one rfl rfl fun K hK => ?_); (change wpQuiet _ _ _ _ [] _); (refine wpQuiet_nil ?_); (refine hK _ fun K2 hK2 => ?_); clear hK K; (change wpList _ _ _ [_] _ _)
    go_wp2_with fail
    rw [← HW7.out]
    (refine hK2 _ _ (HTH.out.out _ HK7.out) ?_); clear hK2 K2
    clear HTH r0 r1 r2 r3
    have b4 := HB4.out.kp HK7.out hn1
    have x0 := b4.c 0 (.int .i64 0) rfl
    have x1 := b4.c 1 (.string ⟨#[]⟩) rfl
    have x2 := b4.c 2 (.int .i64 0) rfl
    have x3 := b4.c 3 (.int .i64 0) rfl
    have x4 := b4.c 4 (.string ⟨#[]⟩) rfl
    have f0 := b4.frozen 0
    have f1 := b4.frozen 1
    have f2 := b4.frozen 2
    have f3 := b4.frozen 3
    have f4 := b4.frozen 4
    have z4 := b4.lt
    have HB4X := hid b4
    clear b4
    (refine wpT_fin rfl fun K hK => ?_); (change wpQuiet _ _ _ _ [] _); (refine wpQuiet_nil ?_); (refine hK _ ?_); clear hK K
    go_wp2_with fail
   · refine bodyPost_ret (results_agg agg_fref rfl _ _ (w.heap.size + 1) rfl [.int .i64 v0, .string v1, .int .i64 v2, .int .i64 v3, .string v4] (CellsAt.ofB (HB4X.out.set5 _ _ _ _ _)) rfl) rfl ?_
     have hfe := field_end (b := w.heap.size + 1) HE0.out HK7.out HL7.out (by omega) (by omega) (.int .i64 v0) (.string v1) (.int .i64 v2) (.int .i64 v3) (.string v4)
     exact ⟨hfe.1, hfe.2, .inr ⟨HC.out, rfl⟩⟩
   · refine (look_wrong _ kb at_ ((HA.out.blk.kp HK7.out hkD).c 10 _ rfl) hat.1 (by omega)).mono ?_
     rintro e w9 ⟨rfl, rfl⟩
     exact ⟨rfl, HE0.out.any.trans HK7.out, HL7.out, .inl ⟨HC.out, rfl⟩⟩
 · go_wp2_with fail
   (refine hK2 _ _ (HTH.out.out _ (((Kp.refl _ _).drew).alloc _)) ?_); clear hK2 K2
   (refine wpT_one rfl rfl fun K hK => ?_); (change wpQuiet _ _ _ _ [] _); (refine wpQuiet_nil ?_); (refine hK _ fun K2 hK2 => ?_); clear hK K; (change wpList _ _ _ [_] _ _)
   go_wp2_with fail
   have b5 : Blk (w0.alloc (.cells #[.int .i64 0, .string ⟨#[]⟩, .int .i64 0, .int .i64 0, .string ⟨#[]⟩] 159)).drew w0.heap.size 159 #[.int .i64 0, .string ⟨#[]⟩, .int .i64 0, .int .i64 0, .string ⟨#[]⟩] := (Blk.new _ _ _).ext (Kp.refl _ _).drew
   have hD0 := HA.out.lod.dlt
   have hzD : ¬ w0.heap.size = l.D := by omega
   refine (lodge_get _ _ _ (HA.out.lod.ext ((Kp.refl _ _).alloc _).drew) k i.name i.member).mono ?_
   rintro e w3 ⟨⟨ev, he, hev⟩, hL3, hK3⟩
   rw [HV.out] at he
   subst he
   have HK3 : Hid (Kp (· = l.D) w0 w3) := hid ((((Kp.refl _ w0).alloc _).drew).trans hK3)
   have b53 := b5.kp hK3 hzD
   have hzw := HE0.out.size
   have hn5 : ¬ w.heap.size + 1 = w0.heap.size := by have := HB4.out.lt; omega
   have hn6 : ¬ w0.heap.size = w.heap.size + 1 := by omega
   have y0 := b53.c 0 (.int .i64 0) rfl
   have y1 := b53.c 1 (.string ⟨#[]⟩) rfl
   have y2 := b53.c 2 (.int .i64 0) rfl
   have y3 := b53.c 3 (.int .i64 0) rfl
   have y4 := b53.c 4 (.string ⟨#[]⟩) rfl
   have g0 := b53.frozen 0
   have g1 := b53.frozen 1
   have g2 := b53.frozen 2
   have g3 := b53.frozen 3
   have g4 := b53.frozen 4
   have z5 := b53.lt
   obtain ⟨w7, hw7⟩ : ∃ w7, w7 = (((((w3.setCell ⟨w0.heap.size, 0, none⟩ (.int .i64 v0)).setCell ⟨w0.heap.size, 1, none⟩ (.string v1)).setCell ⟨w0.heap.size, 2, none⟩ (.int .i64 v2)).setCell ⟨w0.heap.size, 3, none⟩ (.int .i64 v3)).setCell ⟨w0.heap.size, 4, none⟩ (.string v4)) := ⟨_, rfl⟩
   have hK7 : Kp (· = w0.heap.size) w3 w7 := by rw [hw7]; exact Kp.set5 (D := (· = w0.heap.size)) rfl _ _ _ _ _
   have b57 : Blk w7 w0.heap.size 159 #[.int .i64 v0, .string v1, .int .i64 v2, .int .i64 v3, .string v4] := by rw [hw7]; exact b53.set5 _ _ _ _ _
   have HK7 : Hid (Kp (· = l.D) w0 w7) := hid (HK3.out.own hK7 (fun k e => by omega))
   have HL7 : Hid (LodgeAt w7 l p) := hid (hL3.kp hK7 (fun b hb e => by omega))
   have HB5 := hid b57
   have HW7 := hid hw7
   have u0 := b57.c 0 (.int .i64 v0) rfl
   have u1 := b57.c 1 (.string v1) rfl
   have u2 := b57.c 2 (.int .i64 v2) rfl
   have u3 := b57.c 3 (.int .i64 v3) rfl
   have u4 := b57.c 4 (.string v4) rfl
   clear b5 b53 hL3 hK3 hK7 b57 hw7
   rcases hev with ⟨hc, rfl⟩ | ⟨hc, b, rfl, -⟩
   all_goals
    have HC := hid hc
    clear hc
    go_wp2_with fail
    (refine hK2 _ _ (HTH.out.out _ HK3.out) ?_); clear hK2 K2
    (refine wpT_one rfl rfl fun K hK => ?_); (change wpQuiet _ _ _ _ [_, _, _] _); (repeat (go_big_quiet_step (fail))); (refine wpQuiet_nil ?_); (refine hK _ fun K2 hK2 => ?_); clear hK K; (change wpList _ _ _ [_] _ _)
    go_wp2_with fail
    rw [← HW7.out]
    (refine hK2 _ _ (HTH.out.out _ HK7.out) ?_); clear hK2 K2
    clear HTH r0 r1 r2 r3 y0 y1 y2 y3 y4 g0 g1 g2 g3 g4
    have b4 := HB4.out.kp HK7.out hn1
    have x0 := b4.c 0 (.int .i64 0) rfl
    have x1 := b4.c 1 (.string ⟨#[]⟩) rfl
    have x2 := b4.c 2 (.int .i64 0) rfl
    have x3 := b4.c 3 (.int .i64 0) rfl
    have x4 := b4.c 4 (.string ⟨#[]⟩) rfl
    have f0 := b4.frozen 0
    have f1 := b4.frozen 1
    have f2 := b4.frozen 2
    have f3 := b4.frozen 3
    have f4 := b4.frozen 4
    have z4 := b4.lt
    have HB4X := hid b4
    clear b4
    (refine wpT_fin rfl fun K hK => ?_); (change wpQuiet _ _ _ _ [] _); (refine wpQuiet_nil ?_); (refine hK _ ?_); clear hK K
    go_wp2_with fail
   · refine bodyPost_ret (results_agg agg_fref rfl _ _ (w.heap.size + 1) rfl [.int .i64 v0, .string v1, .int .i64 v2, .int .i64 v3, .string v4] (CellsAt.ofB (HB4X.out.set5 _ _ _ _ _)) rfl) rfl ?_
     have hfe := field_end (b := w.heap.size + 1) HE0.out HK7.out HL7.out (by omega) (by omega) (.int .i64 v0) (.string v1) (.int .i64 v2) (.int .i64 v3) (.string v4)
     exact ⟨hfe.1, hfe.2, .inr ⟨HC.out, rfl⟩⟩
   · refine (look_wrong _ kb at_ ((HA.out.blk.kp HK7.out hkD).c 10 _ rfl) hat.1 (by omega)).mono ?_
     rintro e w9 ⟨rfl, rfl⟩
     exact ⟨rfl, HE0.out.any.trans HK7.out, HL7.out, .inl ⟨HC.out, rfl⟩⟩
theorem look_get (w : World) (l : Lodge) (p : M.Plan) (B kb : Nat) (k : Int) (m : M.Method) (t : MSl) (at_ : Int) (s : M.Frm) (vl vs : Value) (h : LookAt w l p B kb k m t at_ s vl vs) (i : M.Ins) (hop : i.op = 7) :
    Calls Tryz.prog 121 #[.pointer (some ⟨kb, 0, none⟩), .agg #[.int .i64 i.op, .int .i64 i.a, .string i.name, .string i.member]] w (LkEnd w l p B kb k m t at_ vl vs (M.lkIns p k m i s)) := by
 have HO : Hid (M.lkIns p k m i s = if (M.get p k i.name i.member).2 = 1 then (M.lkAs p k (M.clsTag i.name) s).bind (M.lkPut m (M.tagOf (M.get p k i.name i.member).1.kind)) else none) := hid (by unfold M.lkIns; rw [hop]; rfl)
 obtain ⟨w0, hw0⟩ : ∃ w0, w0 = w.alloc (.cells #[.int .i64 i.op, .int .i64 i.a, .string i.name, .string i.member] 28) := ⟨_, rfl⟩
 have hE0 : Ext w w0 := by rw [hw0]; exact (KX.k (by repeat (first | assumption | constructor)))
 have b3 : Blk w0 w.heap.size 28 #[.int .i64 i.op, .int .i64 i.a, .string i.name, .string i.member] := by rw [hw0]; exact Blk.new _ _ _
 have HW0 := hid hw0
 have HA := hid (h.ext hE0)
 have HK : Hid (Kp (LkO l kb vl vs) w0 w0) := hid (Kp.refl _ _)
 have HS := hid (OwnSub.refl w0.heap.size vl vs)
 have HE0 := hid hE0
 have HB3 := hid b3
 have hlk := h.blk.lt
 have hnb1 : ¬ LkO l kb vl vs w.heap.size := LookAt.notNew h
 clear hop h hE0 b3 hw0
 go_enter Tryz.func121, Tryz.ntmps121
 go_wp2_with fail
 rw [← HW0.out]
 obtain ⟨G, hG⟩ : ∃ G, M.get p k i.name i.member = G := ⟨_, rfl⟩
 have hfc := look_field _ _ _ _ _ _ _ _ _ _ _ _ HA.out i
 rw [hG] at hfc
 replace HO : Hid (M.lkIns p k m i s = if G.2 = 1 then ((M.lkAs p k (M.clsTag i.name) s).bind (M.lkPut m (M.tagOf G.1.kind))) else none) := hid (by rw [HO.out, hG])
 have hord := HA.out.lod.ord
 have hlB := HA.out.hB
 have hlk2 := HA.out.hk
 refine hfc.mono ?_
 rintro e w1 ⟨hK1, hL1, ⟨hc, rfl⟩ | ⟨hc, he⟩⟩
 · exact ⟨rfl, LkEnd.behind HE0.out ⟨hK1.weak (fun b _ e => .inl e), hL1, .inl ⟨by rw [HO.out, if_neg hc], rfl⟩⟩⟩
 replace HO : Hid (M.lkIns p k m i s = ((M.lkAs p k (M.clsTag i.name) s).bind (M.lkPut m (M.tagOf G.1.kind)))) := hid (by rw [HO.out, if_pos hc])
 replace he : e = .returned (.agg #[.int .i64 G.1.of.keeper, .string G.1.of.name, .int .i64 G.1.at_, .int .i64 G.1.kind.kind, .string G.1.kind.name]) := he
 subst he
 have hA1 := HA.out.lod' hK1 hL1
 obtain ⟨w2, hw2⟩ : ∃ w2, w2 = w1.alloc (.cells #[.int .i64 G.1.of.keeper, .string G.1.of.name, .int .i64 G.1.at_, .int .i64 G.1.kind.kind, .string G.1.kind.name] 159) := ⟨_, rfl⟩
 have hE2 : Ext w1 w2 := by rw [hw2]; exact (KX.k (by repeat (first | assumption | constructor)))
 have b5 : Blk w2 w1.heap.size 159 #[.int .i64 G.1.of.keeper, .string G.1.of.name, .int .i64 G.1.at_, .int .i64 G.1.kind.kind, .string G.1.kind.name] := by rw [hw2]; exact Blk.new _ _ _
 have hb31 := HB3.out.kp hK1 (fun e => hnb1 (.inl e))
 have hz1 := hb31.lt
 have y2 := hb31.c 2 (.string i.name) rfl
 have hnb5 : ¬ LkO l kb vl vs w1.heap.size := hA1.notNew
 have HKB : Hid (Kp (LkO l kb vl vs) w w2) := hid ((HE0.out.any.trans (hK1.weak (fun b _ e => .inl e))).trans hE2.any)
 have HB5 := hid b5
 replace HB3 := hid (hb31.ext hE2)
 replace HA := hid (hA1.ext hE2)
 replace HK : Hid (Kp (LkO l kb vl vs) w2 w2) := hid (Kp.refl _ _)
 replace HS := hid (OwnSub.refl w2.heap.size vl vs)
 have HW2 := hid hw2
 have HG := hid hG
 clear hfc hK1 hL1 hc hw2 hE2 b5 hb31 hA1 hG
 go_wp2_with fail
 rw [← HW2.out]
 clear y2
 refine (cls_tag _ i.name).mono ?_
 rintro e w1 ⟨rfl, hE⟩
 replace HA := hid (HA.out.ext hE)
 replace HK := hid (HK.out.trans hE.any)
 clear hE
 go_wp2_with fail
 refine (look_takeAs _ _ _ _ _ _ _ _ _ _ _ _ HA.out (M.clsTag i.name)).mono ?_
 rintro e w2 hEnd
 replace hEnd := LkEnd.after HK.out HS.out hEnd
 rcases hEnd with ⟨hK, hL, ⟨ho, rfl⟩ | ⟨s2, ho, rfl, vl2, vs2, hA, hO⟩⟩
 · exact ⟨rfl, LkEnd.after HKB.out (OwnSub.refl _ _ _) ⟨hK, hL, .inl ⟨by rw [HO.out, ho]; try rfl, rfl⟩⟩⟩
 replace HO : Hid (M.lkIns p k m i s = M.lkPut m (M.tagOf G.1.kind) s2) := hid (by rw [HO.out, ho]; try rfl)
 replace HA := hid hA
 replace HK := hid hK
 replace HS := hid hO
 clear hA hK hO hL ho
 have y3 := (HB5.out.kp HK.out hnb5).c 3 (.int .i64 G.1.kind.kind) rfl
 have y4 := (HB5.out.kp HK.out hnb5).c 4 (.string G.1.kind.name) rfl
 go_wp2_with fail
 refine (tag_of _ G.1.kind).mono ?_
 rintro e w3 ⟨rfl, hE⟩
 replace HA := hid (HA.out.ext hE)
 replace HK := hid (HK.out.trans hE.any)
 clear hE
 go_wp2_with fail
 refine (look_put' _ _ _ _ _ _ _ _ _ _ _ _ HA.out (M.tagOf G.1.kind)).mono ?_
 rintro e w4 hEnd
 replace hEnd := LkEnd.after HK.out HS.out hEnd
 rcases hEnd with ⟨hK, hL, ⟨ho, rfl⟩ | ⟨s4, ho, rfl, vl4, vs4, hA, hO⟩⟩
 · exact ⟨rfl, LkEnd.after HKB.out (OwnSub.refl _ _ _) ⟨hK, hL, .inl ⟨by rw [HO.out, ho]; try rfl, rfl⟩⟩⟩
 replace HO : Hid (M.lkIns p k m i s = some s4) := hid (by rw [HO.out, ho]; try rfl)
 replace HA := hid hA
 replace HK := hid hK
 replace HS := hid hO
 clear hA hK hO hL ho
 go_wp2_with fail
 ((try simp only [Exit.inBlock, Exit.then]); (first | refine bodyPost_ret (results_none rfl _ _ _) rfl ?_ | refine bodyPost_end (results_none rfl _ _ _) rfl ?_))
 exact LkEnd.after HKB.out (OwnSub.refl _ _ _) ⟨HK.out, HA.out.lod, .inr ⟨_, HO.out, rfl, _, _, HA.out, HS.out⟩⟩
theorem look_set (w : World) (l : Lodge) (p : M.Plan) (B kb : Nat) (k : Int) (m : M.Method) (t : MSl) (at_ : Int) (s : M.Frm) (vl vs : Value) (h : LookAt w l p B kb k m t at_ s vl vs) (i : M.Ins) (hop : i.op = 8) :
    Calls Tryz.prog 122 #[.pointer (some ⟨kb, 0, none⟩), .agg #[.int .i64 i.op, .int .i64 i.a, .string i.name, .string i.member]] w (LkEnd w l p B kb k m t at_ vl vs (M.lkIns p k m i s)) := by
 have HO : Hid (M.lkIns p k m i s = if (M.get p k i.name i.member).2 = 1 then (M.lkAs p k (M.tagOf (M.get p k i.name i.member).1.kind) s).bind (M.lkAs p k (M.clsTag i.name)) else none) := hid (by unfold M.lkIns; rw [hop]; rfl)
 obtain ⟨w0, hw0⟩ : ∃ w0, w0 = w.alloc (.cells #[.int .i64 i.op, .int .i64 i.a, .string i.name, .string i.member] 28) := ⟨_, rfl⟩
 have hE0 : Ext w w0 := by rw [hw0]; exact (KX.k (by repeat (first | assumption | constructor)))
 have b3 : Blk w0 w.heap.size 28 #[.int .i64 i.op, .int .i64 i.a, .string i.name, .string i.member] := by rw [hw0]; exact Blk.new _ _ _
 have HW0 := hid hw0
 have HA := hid (h.ext hE0)
 have HK : Hid (Kp (LkO l kb vl vs) w0 w0) := hid (Kp.refl _ _)
 have HS := hid (OwnSub.refl w0.heap.size vl vs)
 have HE0 := hid hE0
 have HB3 := hid b3
 have hlk := h.blk.lt
 have hnb1 : ¬ LkO l kb vl vs w.heap.size := LookAt.notNew h
 clear hop h hE0 b3 hw0
 go_enter Tryz.func122, Tryz.ntmps122
 go_wp2_with fail
 rw [← HW0.out]
 obtain ⟨G, hG⟩ : ∃ G, M.get p k i.name i.member = G := ⟨_, rfl⟩
 have hfc := look_field _ _ _ _ _ _ _ _ _ _ _ _ HA.out i
 rw [hG] at hfc
 replace HO : Hid (M.lkIns p k m i s = if G.2 = 1 then ((M.lkAs p k (M.tagOf G.1.kind) s).bind (M.lkAs p k (M.clsTag i.name))) else none) := hid (by rw [HO.out, hG])
 have hord := HA.out.lod.ord
 have hlB := HA.out.hB
 have hlk2 := HA.out.hk
 refine hfc.mono ?_
 rintro e w1 ⟨hK1, hL1, ⟨hc, rfl⟩ | ⟨hc, he⟩⟩
 · exact ⟨rfl, LkEnd.behind HE0.out ⟨hK1.weak (fun b _ e => .inl e), hL1, .inl ⟨by rw [HO.out, if_neg hc], rfl⟩⟩⟩
 replace HO : Hid (M.lkIns p k m i s = ((M.lkAs p k (M.tagOf G.1.kind) s).bind (M.lkAs p k (M.clsTag i.name)))) := hid (by rw [HO.out, if_pos hc])
 replace he : e = .returned (.agg #[.int .i64 G.1.of.keeper, .string G.1.of.name, .int .i64 G.1.at_, .int .i64 G.1.kind.kind, .string G.1.kind.name]) := he
 subst he
 have hA1 := HA.out.lod' hK1 hL1
 obtain ⟨w2, hw2⟩ : ∃ w2, w2 = w1.alloc (.cells #[.int .i64 G.1.of.keeper, .string G.1.of.name, .int .i64 G.1.at_, .int .i64 G.1.kind.kind, .string G.1.kind.name] 159) := ⟨_, rfl⟩
 have hE2 : Ext w1 w2 := by rw [hw2]; exact (KX.k (by repeat (first | assumption | constructor)))
 have b5 : Blk w2 w1.heap.size 159 #[.int .i64 G.1.of.keeper, .string G.1.of.name, .int .i64 G.1.at_, .int .i64 G.1.kind.kind, .string G.1.kind.name] := by rw [hw2]; exact Blk.new _ _ _
 have hb31 := HB3.out.kp hK1 (fun e => hnb1 (.inl e))
 have hz1 := hb31.lt
 have y2 := hb31.c 2 (.string i.name) rfl
 have hnb5 : ¬ LkO l kb vl vs w1.heap.size := hA1.notNew
 have HKB : Hid (Kp (LkO l kb vl vs) w w2) := hid ((HE0.out.any.trans (hK1.weak (fun b _ e => .inl e))).trans hE2.any)
 have HB5 := hid b5
 replace HB3 := hid (hb31.ext hE2)
 replace HA := hid (hA1.ext hE2)
 replace HK : Hid (Kp (LkO l kb vl vs) w2 w2) := hid (Kp.refl _ _)
 replace HS := hid (OwnSub.refl w2.heap.size vl vs)
 have HW2 := hid hw2
 have HG := hid hG
 clear hfc hK1 hL1 hc hw2 hE2 b5 hb31 hA1 hG
 go_wp2_with fail
 rw [← HW2.out]
 clear y2
 refine (tag_of _ G.1.kind).mono ?_
 rintro e w1 ⟨rfl, hE⟩
 replace HA := hid (HA.out.ext hE)
 replace HK := hid (HK.out.trans hE.any)
 clear hE
 go_wp2_with fail
 refine (look_takeAs _ _ _ _ _ _ _ _ _ _ _ _ HA.out (M.tagOf G.1.kind)).mono ?_
 rintro e w2 hEnd
 replace hEnd := LkEnd.after HK.out HS.out hEnd
 rcases hEnd with ⟨hK, hL, ⟨ho, rfl⟩ | ⟨s2, ho, rfl, vl2, vs2, hA, hO⟩⟩
 · exact ⟨rfl, LkEnd.after HKB.out (OwnSub.refl _ _ _) ⟨hK, hL, .inl ⟨by rw [HO.out, ho]; try rfl, rfl⟩⟩⟩
 replace HO : Hid (M.lkIns p k m i s = M.lkAs p k (M.clsTag i.name) s2) := hid (by rw [HO.out, ho]; try rfl)
 replace HA := hid hA
 replace HK := hid hK
 replace HS := hid hO
 clear hA hK hO hL ho
 have y2 := (HB3.out.kp HK.out hnb1).c 2 (.string i.name) rfl
 go_wp2_with fail
 refine (cls_tag _ i.name).mono ?_
 rintro e w3 ⟨rfl, hE⟩
 replace HA := hid (HA.out.ext hE)
 replace HK := hid (HK.out.trans hE.any)
 clear hE
 go_wp2_with fail
 refine (look_takeAs _ _ _ _ _ _ _ _ _ _ _ _ HA.out (M.clsTag i.name)).mono ?_
 rintro e w4 hEnd
 replace hEnd := LkEnd.after HK.out HS.out hEnd
 rcases hEnd with ⟨hK, hL, ⟨ho, rfl⟩ | ⟨s4, ho, rfl, vl4, vs4, hA, hO⟩⟩
 · exact ⟨rfl, LkEnd.after HKB.out (OwnSub.refl _ _ _) ⟨hK, hL, .inl ⟨by rw [HO.out, ho]; try rfl, rfl⟩⟩⟩
 replace HO : Hid (M.lkIns p k m i s = some s4) := hid (by rw [HO.out, ho]; try rfl)
 replace HA := hid hA
 replace HK := hid hK
 replace HS := hid hO
 clear hA hK hO hL ho
 go_wp2_with fail
 ((try simp only [Exit.inBlock, Exit.then]); (first | refine bodyPost_ret (results_none rfl _ _ _) rfl ?_ | refine bodyPost_end (results_none rfl _ _ _) rfl ?_))
 exact LkEnd.after HKB.out (OwnSub.refl _ _ _) ⟨HK.out, HA.out.lod, .inr ⟨_, HO.out, rfl, _, _, HA.out, HS.out⟩⟩
end Go.Proofs.YtjdfceejkneofaaGreat
