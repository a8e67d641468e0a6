/- Walks. -/
import Derived.Test.YtohpiobncgafeaaGreatDoorLnkd
import Derived.Laws.Rows
import Derived.ArgAppend
set_option maxRecDepth 100000
set_option maxHeartbeats 4000000
set_option linter.unusedSimpArgs false
set_option linter.unusedVariables false
namespace Go.Proofs.YtohpiobncgafeaaGreatDoor
open Go Go.RowKit
theorem qC(w:World)(L:Nat)(a:Option Addr)(n cap:Nat)(hc:w.cell? ⟨L,0,none⟩=some (.slice a n cap))(k:Int):
    Calls Tryz.prog 24 #[.pointer (some ⟨L,0,none⟩),.int .i64 k] w fun e w'=>e=.returned (.bool (decide (0≤k)&&decide (k<n)))∧w=w':=by
 go_enter Tryz.func24,Tryz.ntmps24;go_wp2
 · go_ret;exact⟨ae (by rw[decide_eq_true (p:=0≤k) (by omega)];rfl),rfl⟩
 · go_ret;exact⟨ae (by rw[decide_eq_false (p:=0≤k) (by omega)];rfl),rfl⟩
theorem dU.CY{w:World}{l:au}{p:M.ai}{k i j:Nat}(h:dU w l p k i j)(q:Int)(s:ByteArray):
    (Instr.lookup 92 (.map (some l.O)) (.agg #[.int .i64 q,.string s]) true).run Tryz.prog w=.ok (.tuple #[.int .i64 ((pV p k i q s).getD 0),.bool (pV p k i q s).isSome]) w:=by
 obtain⟨m,hm,e⟩:=h.own;rw[kJ hm,e]
theorem dU.CX{w:World}{l:au}{p:M.ai}{k i j:Nat}(h:dU w l p k i j)(q:Int)(s:ByteArray):
    (Instr.lookup 92 (.map (some l.A)) (.agg #[.int .i64 q,.string s]) true).run Tryz.prog w=.ok (.tuple #[.int .i64 ((pR p k j q s).getD 0),.bool (pR p k j q s).isSome]) w:=by
 obtain⟨m,hm,e⟩:=h.ask;rw[kJ hm,e]
theorem E5{p:M.ai}{k i:Nat}{Q:M.jc}(hQ:p[k]?=some Q)(s:ByteArray):(pV p k i k s).isSome=(((Q.owns.take i).map M.Class.name).any fun y=>decide (y=s)):=by
 unfold pV;rw[if_neg (by omega),if_pos rfl,hQ,Option.bind_some,Option.isSome_map,List.findIdx?_isSome,List.any_map];rfl
theorem DX{p:M.ai}{k i:Nat}{Q:M.jc}(hQ:p[k]?=some Q)(s:ByteArray):(pR p k i k s).isSome=(((Q.asks.take i).map M.Ask.name).any fun y=>decide (y=s)):=by
 unfold pR;rw[if_neg (by omega),if_pos rfl,hQ,Option.bind_some,Option.isSome_map,List.any_map,Bool.eq_iff_iff,List.find?_isSome];simp
theorem vT{α:Type}{name:α→ByteArray}{ok:α→Bool}{l:List α}{i:Nat}{x:α}(hx:l[i]?=some x):
    M.bT name ok (l.drop i) ((l.take i).map name)=(ok x&& !(((l.take i).map name).any fun y=>decide (y=name x))&&M.bT name ok (l.drop (i+1)) ((l.take (i+1)).map name)):=by
 rw[gX hx,List.take_add_one,hx];simp only[M.bT,Option.toList_some,List.map_append,List.map_cons,List.map_nil]
abbrev TM(l:au):Nat→Prop:=fun b=>b=l.O∨b=l.A
theorem EH (w : World) (l : au) (p : M.ai) (k : Nat) (Q : M.jc) (hQ : p[k]? = some Q) (h : dU w l p k 0 0) :
    Calls Tryz.prog 28 #[.pointer (some ⟨l.L,0,none⟩),.int .i64 k] w fun e w'=>
     e=.returned (.bool (M.cB p Q))∧Kp (TM l) w w'∧(M.cB p Q=true→dU w' l p (k+1) 0 0):=by
 obtain⟨a,cap,hb,hs⟩:=h.blk;obtain⟨b,off,cs,rfl,hI,GL, -,hc⟩:=hs.get hQ;obtain⟨vo,va,rfl,s1,s2⟩:=GL;obtain⟨a1,c1,rfl,kP,hm1⟩:=s1.form;obtain⟨a2,c2,rfl,uV,RX⟩:=s2.form;obtain⟨g0,g1⟩:=hc.two;have gD:k<p.length:=(List.getElem?_eq_some_iff.1 hQ).1;have d0:=hb.c 0 _ rfl;have hzL:=hb.lt;have H0:=Ys h;have HQ:=Ys hQ;have aM:Ext w (w.alloc (.cells #[.slice a1 Q.owns.length c1,.slice a2 Q.asks.length c2] 49)):=((Kp.refl _ _).alloc _);have bK:=az.new w 49 #[.slice a1 Q.owns.length c1,.slice a2 Q.asks.length c2];clear h hQ hc;have Fv:Zs (M.cB p Q=(decide (Q.owns.length≤5)&&decide (Q.asks.length≤4)&&M.bT M.Class.name M.jU Q.owns []&&M.bT M.Ask.name (fun a=>M.aY a.name&&M.has p a.keeper) Q.asks [])):=Ys rfl;by_cases yI:5<Q.owns.length
 · have hF:Zs (M.cB p Q=false):=Ys (by rw[Fv.o,decide_eq_false (p:=Q.owns.length≤5) (by omega)];rfl);go_enter Tryz.func28,Tryz.ntmps28;go_wp2;go_ret;exact⟨ae hF.o.symm,aM.any,fun e=>by rw[hF.o]at e;cases e⟩
 by_cases DD:4<Q.asks.length
 · have hF:Zs (M.cB p Q=false):=Ys (by rw[Fv.o,decide_eq_false (p:=Q.asks.length≤4) (by omega)];simp);go_enter Tryz.func28,Tryz.ntmps28;go_wp2;go_ret;exact⟨ae hF.o.symm,aM.any,fun e=>by rw[hF.o]at e;cases e⟩
 have Pn:Zs (M.cB p Q=(M.bT M.Class.name M.jU Q.owns []&&M.bT M.Ask.name (fun a=>M.aY a.name&&M.has p a.keeper) Q.asks [])):=Ys (by
  rw[Fv.o,decide_eq_true (p:=Q.owns.length≤5) (by omega),decide_eq_true (p:=Q.asks.length≤4) (by omega)];rfl)
 clear Fv;go_enter Tryz.func28,Tryz.ntmps28;go_wp2;generalize bN:(w.alloc (.cells #[.slice a1 Q.owns.length c1,.slice a2 Q.asks.length c2] 49))=w0 at*;have ad1:w0.heap.size=w.heap.size+1:=by rw[←bN];simp
 clear bN;go_loopw [36] (fun i wr=>∃n:Nat,n≤Q.owns.length∧i=.int .i64 n∧Kp (TM l) w0 wr∧Zs (dU wr l p k n 0)∧Zs (M.bT M.Class.name M.jU Q.owns []=M.bT M.Class.name M.jU (Q.owns.drop n) ((Q.owns.take n).map M.Class.name))) (fun i _=>Q.owns.length - (intOf i).toNat)
 case atStart=>exact⟨0,Nat.zero_le _,rfl,Kp.refl _ _,Ys (H0.o.ext aM),Ys rfl⟩
 case round =>
  obtain⟨n,hn,rfl,hK,HH,HA⟩:=hrel;by_cases cK:n<Q.owns.length
  · obtain⟨x,hx⟩:=get_some cK;obtain⟨b',off',cs,he,Qe,zW, -,gI⟩:=s1.get hx;subst he;obtain⟨o1,o2,o3⟩:=HH.o.ord;have hIk:∀z,z<l.O→¬TM l z:=fun z hz e=>by rcases e with e|e<;>omega
    have Qk:af wr b' (off'+n*4) cs:=(gI.ext aM).keep fun o v hv=>hK.jF hv (hIk _ Qe);have Zk:=bD.kp aL.stays hK hIk (bD.ext aL.stays aM zW);obtain⟨y1,z1,y2,z2,rfl⟩:=zW.form;obtain⟨e0,e1,e2,e3⟩:=Qk.four;obtain⟨ma,acT,IK, -⟩:=HH.o.blk;have r1:=IK.c 1 _ rfl;have Nb:=IK.lt;have HX:=Ys hx;have Tp:=Ys Zk;have hW:Ext wr ((wr.alloc (.cells #[.string x.name,.string x.aW,.slice y1 x.fields.length z1,.slice y2 x.methods.length z2] 38)).alloc (.cells #[.int .i64 k,.string x.name] 51)):=kx;have lk:=fun d=>(HH.o.ext (hW.drewN d)).CY k x.name;have tV:=E5 (i:=n) HQ.o x.name;have Re:=Ys (vT (name:=M.Class.name) (ok:=M.jU) hx);clear hx gI Qk zW Zk IK;cases JN:pV p k n k x.name with
    |some v=>
     rw[JN]at lk tV;simp only[Option.getD_some,Option.isSome_some]at lk;have hF:Zs (M.cB p Q=false):=Ys (by rw[Pn.o,HA.o,Re.o,←tV];simp);clear JN tV;go_wp2;go_quiet (fail);go_wp2;go_ret;exact⟨ae hF.o.symm,(aM.any.trans hK).trans (kx:Ext wr _).any,fun e=>by rw[hF.o]at e;cases e⟩
    | none =>
     have Pt:=Ys JN;rw[JN]at lk tV;simp only[Option.getD_none,Option.isSome_none]at lk;have bC:=(az.new wr 38 #[.string x.name,.string x.aW,.slice y1 x.fields.length z1,.slice y2 x.methods.length z2]).ext ((Kp.refl _ _).alloc (.cells #[.int .i64 k,.string x.name] 51));have q0:=bC.c 0 _ rfl;have q1:=bC.c 1 _ rfl;have q2:=bC.c 2 _ rfl;have q3:=bC.c 3 _ rfl;have bR:=az.new (wr.alloc (.cells #[.string x.name,.string x.aW,.slice y1 x.fields.length z1,.slice y2 x.methods.length z2] 38)) 51 #[.int .i64 k,.string x.name];simp only[World.size_alloc]at bR;have aa9:=Ys (fun d=>bD.ext aL.stays (hW.drewN d) Tp.o);cases kX:M.jU x
     all_goals
      have Lj:=Ys kX;clear kX JN;go_wp2;go_quiet (fail);go_wp2_with fail;refine(Cc _ _ _ _ (aa9.o _)).mono ?_;rintro e w1 ⟨rfl,hB⟩;rw[Lj.o];have rr1:=((hW.drewN _).trans hB).aJ r1;have bR2:=(bR.ext ((Kp.refl _ _).drewN _)).ext hB;have u0:=bR2.c 0 _ rfl;have u1:=bR2.c 1 _ rfl;have uz:=bR2.lt;have Cw:=(hW.drewN _).trans hB;clear e0 e1 e2 e3 q0 q1 q2 q3 r1 bC bR bR2 lk hB hW
     · have hF:Zs (M.cB p Q=false):=Ys (by rw[Pn.o,HA.o,Re.o,Lj.o];simp);go_wp2;go_ret;exact⟨ae hF.o.symm,(aM.any.trans hK).trans Cw.any,fun e=>by rw[hF.o]at e;cases e⟩
     · go_wp2;(refine fP 6 (by kernel_rfl) (by kernel_rfl) ?_);(simp only[List.take_succ_cons,List.take_zero,List.drop_succ_cons,List.drop_zero]);(repeat still_step);(refine wpStill_nil ?_);have hHd:dU w1.drew l p k n 0:=HH.o.ext (Cw.drew);obtain⟨m,hm,zZ⟩:=hHd.own;have HHd:=Ys hHd;refine eO _ rfl _ _ _ rfl l.O m k x.name n rfl rfl rfl hm (by rw[zZ];exact Pt.o) ?_;intro w2 RX pq EA;go_wp2;go_roundw
       case rel=>
        refine⟨n+1,by omega,by go_num,?_,Ys (HHd.o.VL pq ⟨_,RX,BA zZ Pt.o (NT HQ.o HX.o Pt.o)⟩),Ys ?_⟩
        · exact(hK.trans (Cw.drew).any).trans (pq.weak fun _ _ e=>.inl e)
        · rw[HA.o,Re.o,Lj.o,←E5 HQ.o,Pt.o];rfl
       case measure=>simp[intOf];omega
  · have GQ : n = Q.owns.length := by omega
    subst GQ;have Po:Zs (M.cB p Q=M.bT M.Ask.name (fun a=>M.aY a.name&&M.has p a.keeper) Q.asks []):=Ys (by
     rw[Pn.o,HA.o,List.drop_eq_nil_of_le (Nat.le_refl _)];rfl)
    have hKx:Kp (TM l) w wr:=aM.any.trans hK;have hbO:b<l.O:=hI;have hIk:∀z,z<l.O→¬TM l z:=by
     obtain⟨o1,o2,o3⟩:=HH.o.ord;exact fun z hz e=>by rcases e with e|e<;>omega
    have hzz:=hK.size;have hOz:l.A<l.L:=by obtain⟨o1,o2,o3⟩:=HH.o.ord;omega
    have bKr:=bK.kp hK (fun e=>by obtain⟨o1,o2,o3⟩:=HH.o.ord;rcases e with e|e<;>omega);have v1:=bKr.c 1 _ rfl;have hzK:=bKr.lt;clear HA Pn bK;obtain⟨wo,rfl⟩:∃wo:World,wo=wr:=⟨_,rfl⟩;go_wp2;go_loopw [70] (fun i wr=>∃n:Nat,n≤Q.asks.length∧i=.int .i64 n∧Kp (TM l) w wr∧Zs (dU wr l p k Q.owns.length n)∧Zs (M.bT M.Ask.name (fun a=>M.aY a.name&&M.has p a.keeper) Q.asks []=M.bT M.Ask.name (fun a=>M.aY a.name&&M.has p a.keeper) (Q.asks.drop n) ((Q.asks.take n).map M.Ask.name))) (fun i _=>Q.asks.length - (intOf i).toNat)
    case atStart=>exact⟨0,Nat.zero_le _,rfl,hKx,HH,Ys rfl⟩
    case round=>
     obtain⟨n,hn,rfl,hK,HH,HA⟩:=hrel;by_cases cK:n<Q.asks.length
     · obtain⟨x,hx⟩:=get_some cK;obtain⟨b',off',cs,he,Qe,rfl, -,gI⟩:=s2.get hx;subst he;have Qk:af wr b' (off'+n*2) [.string x.name,.int .i64 x.keeper]:=gI.keep fun o v hv=>hK.jF hv (hIk _ Qe);obtain⟨e0,e1⟩:=Qk.two;obtain⟨ma,acT,IK, -⟩:=HH.o.blk;have r0:=IK.c 0 _ rfl;have r2:=IK.c 2 _ rfl;have Nb:=IK.lt;have HX:=Ys hx;have hW:Ext wr ((wr.alloc (.cells #[.string x.name,.int .i64 x.keeper] 46)).alloc (.cells #[.int .i64 k,.string x.name] 51)):=kx;have lk:=fun d=>(HH.o.ext (hW.drewN d)).CX k x.name;have tV:=DX (i:=n) HQ.o x.name;have Re:=Ys (vT (name:=M.Ask.name) (ok:=fun a=>M.aY a.name&&M.has p a.keeper) hx);clear hx gI Qk IK;cases JN:pR p k n k x.name with
       |some v=>
        rw[JN]at lk tV;simp only[Option.getD_some,Option.isSome_some]at lk;have hF:Zs (M.cB p Q=false):=Ys (by rw[Po.o,HA.o,Re.o,←tV];simp);clear JN tV;go_wp2;go_quiet (fail);go_wp2;go_ret;exact⟨ae hF.o.symm,hK.trans (kx:Ext wr _).any,fun e=>by rw[hF.o]at e;cases e⟩
       |none=>
        have Pt:=Ys JN;rw[JN]at lk tV;simp only[Option.getD_none,Option.isSome_none]at lk;cases kX:M.aY x.name
        · have Lj:=Ys kX;have hF:Zs (M.cB p Q=false):=Ys (by rw[Po.o,HA.o,Re.o,kX];simp);clear kX JN;go_wp2;go_quiet (fail);go_wp2_with (go_at_call 25;refine(eY _ _).mono ?_;rintro e w1 ⟨rfl,rfl⟩;rw[Lj.o]);go_ret;exact⟨ae hF.o.symm,hK.trans (kx:Ext wr _).any,fun e=>by rw[hF.o]at e;cases e⟩
        · have Lj:=Ys kX;clear kX;have uT:M.has p x.keeper=(decide (0≤x.keeper)&&decide (x.keeper<p.length)):=rfl;cases Az:M.has p x.keeper
          · have hF:Zs (M.cB p Q=false):=Ys (by rw[Po.o,HA.o,Re.o,Az];simp);have Tn:Zs ((decide (0≤x.keeper)&&decide (x.keeper<p.length))=false):=Ys Az;clear Az JN uT;go_wp2;go_quiet (fail);go_wp2_with (first|(go_at_call 25;refine(eY _ _).mono ?_;rintro e w1 ⟨rfl,rfl⟩;rw[Lj.o])|(go_at_call 24;refine(qC _ _ _ _ _ ((hW.drewN _).aJ r0) _).mono ?_;rintro e w1 ⟨rfl,rfl⟩;rw[Tn.o]));go_ret;exact⟨ae hF.o.symm,hK.trans (kx:Ext wr _).any,fun e=>by rw[hF.o]at e;cases e⟩
          · have Tn:Zs ((decide (0≤x.keeper)&&decide (x.keeper<p.length))=true):=Ys Az;have aa8:=Ys Az;clear Az JN uT;go_wp2;go_quiet (fail);go_wp2_with (first|(go_at_call 25;refine(eY _ _).mono ?_;rintro e w1 ⟨rfl,rfl⟩;rw[Lj.o])|(go_at_call 24;refine(qC _ _ _ _ _ ((hW.drewN _).aJ r0) _).mono ?_;rintro e w1 ⟨rfl,rfl⟩;rw[Tn.o]));obtain⟨m,hm,zZ⟩:=HH.o.ask;have HHd:=Ys HH.o;(refine fP 7 (by kernel_rfl) (by kernel_rfl) ?_);(simp only[List.take_succ_cons,List.take_zero,List.drop_succ_cons,List.drop_zero]);(repeat still_step);(refine wpStill_nil ?_);refine eO _ rfl _ _ _ rfl l.A m k x.name x.keeper rfl rfl rfl (hm.kp ((hW.drewN _).drew) fun x=>x) (by rw[zZ];exact Pt.o) ?_;intro w2 RX pq EA;have II:=Ys (HHd.o.ext ((hW.drewN _).drew)|>.VK pq ⟨_,RX,BA zZ Pt.o (LF HQ.o HX.o Pt.o)⟩);have We:=Ys ((hK.trans ((hW.drewN _).drew).any).trans (pq.weak fun _ _ e=>.inr e));go_wp2;go_roundw
            case rel=>
             refine⟨n+1,by omega,by go_num,We.o,II,Ys ?_⟩;rw[HA.o,Re.o,Lj.o,aa8.o,←DX HQ.o,Pt.o];rfl
            case measure=>simp[intOf];omega
     · have GQ:n=Q.asks.length:=by omega
       subst GQ;have hF:Zs (M.cB p Q=true):=Ys (by rw[Po.o,HA.o,List.drop_eq_nil_of_le (Nat.le_refl _)];rfl);go_wp2;go_ret;exact⟨ae hF.o.symm,hK,fun _=>HH.o.next HQ.o⟩
theorem LD{α:Type}{f:α→Bool}{l:List α}{k:Nat}{x:α}(hx:l[k]?=some x):(l.drop k).all f=(f x&&(l.drop (k+1)).all f):=by
 rw[gX hx,List.all_cons]
theorem qY(w:World)(I:Nat→Prop)(v:Value)(p:M.ai)(h:SliceOf 2 aH w I v p)(hI:∀b,I b→b<w.heap.size):
    Calls Tryz.prog 15 #[.agg #[v]] w fun e w'=>
     Ext w w'∧((M.dM p=false∧e=.returned (.pointer none))∨(M.dM p=true∧∃l:au,e=.returned (.pointer (some ⟨l.L,0,none⟩))∧aj w' l p∧w.heap.size≤l.O)):=by
 obtain⟨a,cap,rfl,hn,dx⟩:=h.form;by_cases yI:p.length<1
 · have hF:Zs (M.dM p=false):=Ys (by unfold M.dM;rw[decide_eq_false (p:=1≤p.length) (by omega)];rfl);go_enter Tryz.func15,Tryz.ntmps15;go_wp2;go_ret;exact⟨kx,.inl ⟨hF.o,rfl⟩⟩
 by_cases DD:3<p.length
 · have hF:Zs (M.dM p=false):=Ys (by unfold M.dM;rw[decide_eq_false (p:=p.length≤3) (by omega)];simp);go_enter Tryz.func15,Tryz.ntmps15;go_wp2;go_ret;exact⟨kx,.inl ⟨hF.o,rfl⟩⟩
 have HK:Zs (M.dM p=p.all (M.cB p)):=Ys (by unfold M.dM;rw[decide_eq_true (p:=1≤p.length) (by omega),decide_eq_true (p:=p.length≤3) (by omega)];rfl);have mk:∀W:World,(Instr.makeMap 92 none).run Tryz.prog W=.ok (.map (some W.heap.size)) (W.alloc (.map #[] 0)):=fun W=>by kernel_rfl
 have aZ:Ext w (((((w.alloc (.cells #[.slice a p.length cap] 41)).alloc (.map #[] 0)).alloc (.map #[] 0)).alloc (.map #[] 0)).alloc (.cells #[.slice a p.length cap,.map (some (w.heap.size+1)),.map (some (w.heap.size+1+1)),.map (some (w.heap.size+1+1+1))] 94)):=kx;have hH:dU (((((w.alloc (.cells #[.slice a p.length cap] 41)).alloc (.map #[] 0)).alloc (.map #[] 0)).alloc (.map #[] 0)).alloc (.cells #[.slice a p.length cap,.map (some (w.heap.size+1)),.map (some (w.heap.size+1+1)),.map (some (w.heap.size+1+1+1))] 94)) ⟨w.heap.size+1+1+1+1,w.heap.size+1,w.heap.size+1+1,w.heap.size+1+1+1⟩ p 0 0 0:=by
  have e1:=fI.new (w.alloc (.cells #[.slice a p.length cap] 41));have e2:=fI.new ((w.alloc (.cells #[.slice a p.length cap] 41)).alloc (.map #[] 0));have e3:=fI.new (((w.alloc (.cells #[.slice a p.length cap] 41)).alloc (.map #[] 0)).alloc (.map #[] 0));have e4:=az.new ((((w.alloc (.cells #[.slice a p.length cap] 41)).alloc (.map #[] 0)).alloc (.map #[] 0)).alloc (.map #[] 0)) 94 #[.slice a p.length cap,.map (some (w.heap.size+1)),.map (some (w.heap.size+1+1)),.map (some (w.heap.size+1+1+1))];simp only[World.size_alloc]at e1 e2 e3 e4;refine⟨⟨Nat.lt_succ_self _,Nat.lt_succ_self _,Nat.lt_succ_self _⟩,⟨a,cap,e4,h.keep aH.stays (Ext.same aZ) fun b hb=>Nat.lt_succ_of_lt (hI b hb)⟩,⟨[],e1.kp (((((Kp.refl (fun _=>False) _).alloc _).alloc _).alloc _)) fun x=>x,fun q s=>(NU p q s).symm⟩,⟨[],e2.kp ((((Kp.refl (fun _=>False) _).alloc _).alloc _)) fun x=>x,fun q s=>(LG p q s).symm⟩,e3.kp ((Kp.refl (fun _=>False) _).alloc _) fun x=>x⟩
 go_enter Tryz.func15,Tryz.ntmps15;go_wp2;obtain⟨l,hl⟩:∃l:au,l=⟨w.heap.size+1+1+1+1,w.heap.size+1,w.heap.size+1+1,w.heap.size+1+1+1⟩:=⟨_,rfl⟩;have hL:w.heap.size+1+1+1+1=l.L:=by rw[hl]
 have hO:w.heap.size<l.O∧w.heap.size<l.A:=by rw[hl];exact⟨Nat.lt_succ_self _,by show w.heap.size<w.heap.size+1+1;omega⟩
 rw[←hl]at hH;generalize (((((w.alloc (.cells #[.slice a p.length cap] 41)).alloc (.map #[] 0)).alloc (.map #[] 0)).alloc (.map #[] 0)).alloc (.cells #[.slice a p.length cap,.map (some (w.heap.size+1)),.map (some (w.heap.size+1+1)),.map (some (w.heap.size+1+1+1))] 94))=w1 at*;rw[hL];have HL:=Ys hl;clear hl mk;go_loopw [25] (fun i wr=>∃n:Nat,n≤p.length∧i=.int .i64 n∧Kp (TM l) w1 wr∧Zs (dU wr l p n 0 0)∧Zs (p.all (M.cB p)=(p.drop n).all (M.cB p))) (fun i _=>p.length - (intOf i).toNat)
 case atStart=>exact⟨0,Nat.zero_le _,rfl,Kp.refl _ _,Ys hH,Ys rfl⟩
 case round =>
  obtain⟨n,hn,rfl,hK,HH,HA⟩:=hrel;have hEr:Ext w wr:=aZ.own hK (fun b hb=>by rcases hb with rfl|rfl<;>omega);by_cases cK:n<p.length
  · obtain⟨Q,hQ⟩:=get_some cK;have hdr:=LD (f:=M.cB p) hQ;have HDR:=Ys hdr;go_wp2_with fail;refine(EH _ _ _ _ _ hQ HH.o).mono ?_;rintro e w2 ⟨rfl,ag,MR⟩;cases kX:M.cB p Q
    · have HF:Zs (M.dM p=false):=Ys (by rw[HK.o,HA.o,HDR.o,kX];rfl);clear MR hdr;go_wp2;go_ret;exact⟨hEr.own ag (fun b hb=>by rcases hb with rfl|rfl<;>omega),.inl ⟨HF.o,rfl⟩⟩
    · have HN:=Ys (MR kX);have HOk:=Ys kX;clear MR hdr;go_wp2;go_roundw
      case rel=>exact⟨n+1,by omega,by go_num,hK.trans ag,HN,Ys (by rw[HA.o,HDR.o,HOk.o];rfl)⟩
      case measure=>simp[intOf];omega
  · have GQ:n=p.length:=by omega
    subst GQ;have HF:Zs (M.dM p=true):=Ys (by rw[HK.o,HA.o,List.drop_eq_nil_of_le (Nat.le_refl _)];rfl);go_wp2;go_ret;exact⟨hEr,.inr ⟨HF.o,l,rfl,HH.o.done HF.o,Nat.le_of_lt hO.1⟩⟩
def iw:M.jR:=⟨⟨0,M.none_⟩,0⟩
theorem yY(w:World)(l:au)(p:M.ai)(h:aj w l p)(r:M.Ref)(n:ByteArray):
    Calls Tryz.prog 30 #[.pointer (some ⟨l.L,0,none⟩),.agg #[.int .i64 r.keeper,.string r.name],.string n] w fun e w'=>
     e=.returned (.tuple #[.agg #[.int .i64 ((M.pick p r n).getD iw).of.keeper,.string ((M.pick p r n).getD iw).of.name,.int .i64 ((M.pick p r n).getD iw).at_],.bool (M.pick p r n).isSome])∧aj w' l p∧Kp (·=l.D) w w':=by
 have aM:Ext w ((w.alloc (.cells #[.int .i64 r.keeper,.string r.name] 51)).alloc (.cells #[.int .i64 0,.string ⟨#[]⟩,.int .i64 0] 53)):=kx;have H:=Ys (h.ext aM);have cK:=h.lt;have YC:l.D<l.L:=h.ord.2.2;clear h;have b4:=(az.new w 51 #[.int .i64 r.keeper,.string r.name]).ext ((Kp.refl _ _).alloc (.cells #[.int .i64 0,.string ⟨#[]⟩,.int .i64 0] 53));have b6:=az.new (w.alloc (.cells #[.int .i64 r.keeper,.string r.name] 51)) 53 #[.int .i64 0,.string ⟨#[]⟩,.int .i64 0];simp only[World.size_alloc]at b6;go_enter Tryz.func30,Tryz.ntmps30;go_wp2_with fail;generalize ((w.alloc (.cells #[.int .i64 r.keeper,.string r.name] 51)).alloc (.cells #[.int .i64 0,.string ⟨#[]⟩,.int .i64 0] 53))=w0 at*;refine(eX _ _ _ H.o r).mono ?_;rintro e w1 ⟨rfl,vV,j3⟩;have c4:=b4.kp j3 (by omega);have c6:=b6.kp j3 (by omega);have Eo:Kp (·=l.D) w w1:=(aM.any).trans j3;have p0:=c4.c 0 _ rfl;have p1:=c4.c 1 _ rfl;have q0:=c6.c 0 _ rfl;have q1:=c6.c 1 _ rfl;have q2:=c6.c 2 _ rfl;have f0:=c6.frozen 0;have f1:=c6.frozen 1;have f2:=c6.frozen 2;have FW:=Ys vV;have OY:=c6.lt;clear b4 b6 H aM vV j3;cases lF:M.bI p r
 · have hP:M.pick p r n=none:=by unfold M.pick;rw[lF];rfl
   have HP:=Ys hP;clear lF hP;go_wp2;refine bodyPost_ret (v:=.tuple #[.agg #[.int .i64 0,.string ⟨#[]⟩,.int .i64 0],.bool false]) (by simp[results,Tryz.results30,go_sem,q0,q1,q2]) rfl ?_;have jA:Kp (·=w.heap.size+1) w1 (((w1.setCell ⟨w.heap.size+1,0,none⟩ (.int .i64 0)).setCell ⟨w.heap.size+1,1,none⟩ (.string ⟨#[]⟩)).setCell ⟨w.heap.size+1,2,none⟩ (.int .i64 0)):=
    (((Kp.refl (·=w.heap.size+1) w1).setCell (p:=⟨w.heap.size+1,0,none⟩) (fun _=>rfl) _).setCell (p:=⟨w.heap.size+1,1,none⟩) (fun _=>rfl) _).setCell (p:=⟨w.heap.size+1,2,none⟩) (fun _=>rfl) _
   exact⟨by rw[HP.o];rfl,FW.o.kp jA (fun k hk e=>by omega),Eo.own jA (fun k hk=>by omega)⟩
 · have hP:M.pick p r n=M.kD p n (M.chain p r):=by unfold M.pick;rw[lF];rfl
   have HP:=Ys hP;clear lF hP;go_wp2_with fail;refine(kS _ _ _ FW.o _).mono ?_;rintro e w2 ⟨⟨v,rfl,hs⟩,hB⟩;obtain⟨a,cap,rfl,hn,dx⟩:=hs.form;have HO:Zs (∀x∈M.chain p r,∃c,M.cls? p x=some c):=Ys fJ;have zT:=Ys (FW.o.ext hB);have c62:=c6.ext hB;have ag:Kp (·=l.D) w w2:=Eo.trans hB.any;clear p0 p1 q0 q1 q2 f0 f1 f2 OY c4 c6 Eo hB FW;generalize M.chain p r=xs at*;go_wp2;go_loopw [20] (fun i wr=>∃k:Nat,k≤xs.length∧i=.int .i64 k∧Ext w2 wr∧Zs (M.kD p n xs=M.kD p n (xs.drop k))) (fun i _=>xs.length - (intOf i).toNat)
   case atStart=>exact⟨0,Nat.zero_le _,rfl,Kp.refl _ _,Ys rfl⟩
   case round=>
    obtain⟨k,hk,rfl,hE,HA⟩:=hrel;have PK:=c62.ext hE;have q0:=PK.c 0 _ rfl;have q1:=PK.c 1 _ rfl;have q2:=PK.c 2 _ rfl;have f0:=PK.frozen 0;have f1:=PK.frozen 1;have f2:=PK.frozen 2;have OY:=PK.lt;have jA:Zs (∀W (u v t:Value),Ext w2 W→Kp (·=l.D) w (((W.setCell ⟨w.heap.size+1,0,none⟩ u).setCell ⟨w.heap.size+1,1,none⟩ v).setCell ⟨w.heap.size+1,2,none⟩ t)∧aj (((W.setCell ⟨w.heap.size+1,0,none⟩ u).setCell ⟨w.heap.size+1,1,none⟩ v).setCell ⟨w.heap.size+1,2,none⟩ t) l p):=Ys (fun W u v t hW=>by
     have jA:Kp (·=w.heap.size+1) W (((W.setCell ⟨w.heap.size+1,0,none⟩ u).setCell ⟨w.heap.size+1,1,none⟩ v).setCell ⟨w.heap.size+1,2,none⟩ t):=
      (((Kp.refl (·=w.heap.size+1) W).setCell (p:=⟨w.heap.size+1,0,none⟩) (fun _=>rfl) _).setCell (p:=⟨w.heap.size+1,1,none⟩) (fun _=>rfl) _).setCell (p:=⟨w.heap.size+1,2,none⟩) (fun _=>rfl) _
     exact⟨(ag.trans hW.any).own jA (fun k hk=>by omega),(zT.o.ext hW).kp jA (fun k hk e=>by omega)⟩)
    by_cases cK:k<xs.length
    · obtain⟨x,hx⟩:=get_some cK;obtain⟨b,off,cs,rfl,hI,rfl, -,hc⟩:=hs.get hx;obtain⟨g0,g1⟩:=(hc.ext hE).two;obtain⟨c,zW⟩:=HO.o x (List.mem_of_getElem? hx);have HX:=Ys hx;have Tp:=Ys zW;have Ey:Zs (M.kD p n xs=match M.jK c n with|some i=>some ⟨x,i⟩|none=>M.kD p n (xs.drop (k+1))):=Ys (by
       rw[HA.o,gX hx];have gI:M.cls p x=c:=by unfold M.cls;rw[zW];rfl
       rw[←gI];rfl)
      clear hx hc zW;have bx:=az.new wr 51 #[.int .i64 x.keeper,.string x.name];go_wp2_with fail;refine(kT _ _ _ (zT.o.ext (hE.alloc (.cells #[.int .i64 x.keeper,.string x.name] 51))) _ _ _ Tp.o).mono ?_;rintro e w3 ⟨⟨cs,ek,rfl⟩,Ar⟩;have zR:=Ys (bD.ext aL.stays Ar ek);have dA:Ext wr w3:=((Kp.refl (fun _=>False) wr).alloc (.cells #[.int .i64 x.keeper,.string x.name] 51)).trans Ar;have bx3:=bx.ext Ar;have c63:=PK.ext dA;clear q0 q1 q2 f0 f1 f2 OY g0 g1 bx;go_wp2_with fail;refine(vB _ _ _ _ zR.o _).mono ?_;rintro e w4 ⟨rfl,tF⟩;have bx4:=bx3.ext tF;have x0:=bx4.c 0 _ rfl;have x1:=bx4.c 1 _ rfl;have xz:=bx4.lt;have c64:=c63.ext tF;have q0:=c64.c 0 _ rfl;have q1:=c64.c 1 _ rfl;have q2:=c64.c 2 _ rfl;have f0:=c64.frozen 0;have f1:=c64.frozen 1;have f2:=c64.frozen 2;have OY:=c64.lt;have dN:=(hE.trans dA).trans tF;clear bx3 bx4 c63 c64 PK;cases hix:M.jK c n with
      |none=>
       have HS:=Ys (Ey.o.trans (by rw[hix]));simp only[OZ,Option.elim];clear hix;go_wp2;go_roundw
       case rel=>exact⟨k+1,by omega,by go_num,dN,Ys HS.o⟩
       case measure=>simp[intOf];omega
      |some i=>
       have HS:=Ys (Ey.o.trans (by rw[hix]));simp only[OZ,Option.elim];clear hix;have hi0:(0:Int)≤(i:Int):=by omega
       go_wp2;refine bodyPost_ret (v:=.tuple #[.agg #[.int .i64 x.keeper,.string x.name,.int .i64 i],.bool true]) (by simp[results,Tryz.results30,go_sem,q0,q1,q2]) rfl ?_;have:=jA.o w4 (.int .i64 x.keeper) (.string x.name) (.int .i64 i) dN;exact⟨by rw[HP.o,HS.o];rfl,this.2,this.1⟩
    · go_wp2;refine bodyPost_ret (v:=.tuple #[.agg #[.int .i64 0,.string ⟨#[]⟩,.int .i64 0],.bool false]) (by simp[results,Tryz.results30,go_sem,q0,q1,q2]) rfl ?_;have:=jA.o wr (.int .i64 0) (.string ⟨#[]⟩) (.int .i64 0) hE;exact⟨by rw[HP.o,HA.o,List.drop_eq_nil_of_le (by omega)];rfl,this.2,this.1⟩
def uJ(w:World)(ev:Value)(code:Int):Prop:=(code=1∧ev=Value.nilIface)∨(code≠1∧∃b,ev=.iface 99 (.pointer (some ⟨b,0,none⟩))∧az w b 101 #[.int .i64 code])
theorem pI(w:World)(l:au)(p:M.ai)(h:aj w l p)(k:Int)(n m:ByteArray):
    Calls Tryz.prog 29 #[.pointer (some ⟨l.L,0,none⟩),.int .i64 k,.string n,.string m] w fun e w'=>
     (∃ev,e=.returned (.tuple #[.agg #[.int .i64 (M.aT p k n m).1.keeper,.string (M.aT p k n m).1.name],ev])∧uJ w' ev (M.aT p k n m).2)∧aj w' l p∧Kp (·=l.D) w w':=by
 have aM:Ext w (w.alloc (.cells #[.int .i64 0,.string ⟨#[]⟩] 51)):=kx;have H:=Ys (h.ext aM);have H0:=Ys h;have cK:=h.lt;have YC:l.D<l.L:=h.ord.2.2;clear h;have b8:=az.new w 51 #[.int .i64 0,.string ⟨#[]⟩];have c0:=b8.c 0 _ rfl;have c1:=b8.c 1 _ rfl;have nT:Zs (¬(M.has p k&&M.aY n&&M.aY m)=true→M.aT p k n m=(M.lv,2)):=Ys (fun h=>by unfold M.aT;rw[if_neg h]);have AJ:Zs ((M.has p k&&M.aY n&&M.aY m)=true→M.aT p k n m=(if(M.find p k n).2=1 then(if M.bI p (M.find p k n).1 then((M.find p k n).1,1)else(M.lv,4))else(M.lv,2))):=Ys (fun h=>by unfold M.aT;rw[if_pos h]);have FIN:Zs (∀(e:Ending) (w':World) (b:Nat),M.aT p k n m=(M.lv,2)→e=.returned (.tuple #[.agg #[.int .i64 0,.string ⟨#[]⟩],.iface 99 (.pointer (some ⟨b,0,none⟩))])→az w' b 101 #[.int .i64 2]→aj w' l p→Kp (·=l.D) w w'→
     (∃ev,e=.returned (.tuple #[.agg #[.int .i64 (M.aT p k n m).1.keeper,.string (M.aT p k n m).1.name],ev])∧uJ w' ev (M.aT p k n m).2)∧aj w' l p∧Kp (·=l.D) w w'):=Ys (fun e w' b e1 e2 e3 e4 e5=>by
  rw[e1];exact⟨⟨_,e2,.inr ⟨by decide,b,rfl,e3⟩⟩,e4,e5⟩)
 cases h1:M.has p k
 · have H1:=Ys h1;have HN:Zs (M.aT p k n m=(M.lv,2)):=Ys (nT.o (by rw[h1];simp));clear h1;go_enter Tryz.func29,Tryz.ntmps29;go_wp2_with (go_at_call 24;refine(ku _ _ _ H.o _).mono ?_;rintro e w1 ⟨rfl,rfl⟩;rw[H1.o]);refine bodyPost_ret (v:=.tuple #[.agg #[.int .i64 0,.string ⟨#[]⟩],.iface 99 (.pointer (some ⟨w.heap.size+1,0,none⟩))]) (by simp[results,Tryz.results29,go_sem,c0,c1]) rfl ?_;refine FIN.o _ _ _ HN.o rfl ?_ (H0.o.ext kx) (kx:Ext w _).any;have:=az.new (w.alloc (.cells #[.int .i64 0,.string ⟨#[]⟩] 51)) 101 #[.int .i64 2];simpa only[World.size_alloc]using this
 have H1:=Ys h1;cases h2:M.aY n
 · have H2:=Ys h2;have HN:Zs (M.aT p k n m=(M.lv,2)):=Ys (nT.o (by rw[h2];simp));clear h1 h2;go_enter Tryz.func29,Tryz.ntmps29;go_wp2_with (first|(go_at_call 24;refine(ku _ _ _ H.o _).mono ?_;rintro e w1 ⟨rfl,rfl⟩;rw[H1.o])|(go_at_call 25;refine(eY _ _).mono ?_;rintro e w1 ⟨rfl,rfl⟩;rw[H2.o]));refine bodyPost_ret (v:=.tuple #[.agg #[.int .i64 0,.string ⟨#[]⟩],.iface 99 (.pointer (some ⟨w.heap.size+1,0,none⟩))]) (by simp[results,Tryz.results29,go_sem,c0,c1]) rfl ?_;refine FIN.o _ _ _ HN.o rfl ?_ (H0.o.ext kx) (kx:Ext w _).any;have:=az.new (w.alloc (.cells #[.int .i64 0,.string ⟨#[]⟩] 51)) 101 #[.int .i64 2];simpa only[World.size_alloc]using this
 have H2:=Ys h2;cases h3:M.aY m
 · have H3:=Ys h3;have HN:Zs (M.aT p k n m=(M.lv,2)):=Ys (nT.o (by rw[h3];simp));clear h1 h2 h3;go_enter Tryz.func29,Tryz.ntmps29;go_wp2_with fail;refine(ku _ _ _ H.o _).mono ?_;rintro e w1 ⟨rfl,rfl⟩;rw[H1.o];go_wp2_with fail;refine(eY _ _).mono ?_;rintro e w1 ⟨rfl,rfl⟩;rw[H2.o];go_wp2_with fail;refine(eY _ _).mono ?_;rintro e w1 ⟨rfl,rfl⟩;rw[H3.o];go_wp2;refine bodyPost_ret (v:=.tuple #[.agg #[.int .i64 0,.string ⟨#[]⟩],.iface 99 (.pointer (some ⟨w.heap.size+1,0,none⟩))]) (by simp[results,Tryz.results29,go_sem,c0,c1]) rfl ?_;refine FIN.o _ _ _ HN.o rfl ?_ (H0.o.ext kx) (kx:Ext w _).any;have:=az.new (w.alloc (.cells #[.int .i64 0,.string ⟨#[]⟩] 51)) 101 #[.int .i64 2];simpa only[World.size_alloc]using this
 have H3:=Ys h3;have HY:=Ys (AJ.o (by rw[h1,h2,h3];rfl));clear h1 h2 h3 nT AJ;go_enter Tryz.func29,Tryz.ntmps29;go_wp2_with fail;refine(ku _ _ _ H.o _).mono ?_;rintro e w1 ⟨rfl,rfl⟩;rw[H1.o];go_wp2_with fail;refine(eY _ _).mono ?_;rintro e w1 ⟨rfl,rfl⟩;rw[H2.o];go_wp2_with fail;refine(eY _ _).mono ?_;rintro e w1 ⟨rfl,rfl⟩;rw[H3.o];go_wp2_with fail;refine(gN _ _ _ H.o _ _).mono ?_;rintro e w1 ⟨rfl,hB⟩;have TV:=b8.ext hB;have q0:=TV.c 0 _ rfl;have q1:=TV.c 1 _ rfl;have f0:=TV.frozen 0;have f1:=TV.frozen 1;have hz:=TV.lt;have aZ:Ext w w1:=aM.trans hB;have FW:=Ys (H0.o.ext aZ);clear c0 c1 H hB b8;have TJ:Zs (∀(W:World) (u v:Value),Kp (·=w.heap.size) W ((W.setCell ⟨w.heap.size,0,none⟩ u).setCell ⟨w.heap.size,1,none⟩ v)):=Ys (fun W u v=>((Kp.refl (·=w.heap.size) W).setCell (p:=⟨w.heap.size,0,none⟩) (fun _=>rfl) _).setCell (p:=⟨w.heap.size,1,none⟩) (fun _=>rfl) _);have aa4:Zs (∀(W:World) (u v x:Value),az (((W.setCell ⟨w.heap.size,0,none⟩ u).setCell ⟨w.heap.size,1,none⟩ v).alloc (.cells #[x] 101)) W.heap.size 101 #[x]):=Ys (fun W u v x=>by
  have:=az.new ((W.setCell ⟨w.heap.size,0,none⟩ u).setCell ⟨w.heap.size,1,none⟩ v) 101 #[x];simpa using this)
 generalize M.find p k n=F at*;obtain⟨⟨fk,fn⟩,code⟩:=F;simp only at*;by_cases hc:code=1
 · subst hc;have bF:=az.new w1 51 #[.int .i64 fk,.string fn];go_wp2_with fail;refine(eX _ _ _ (FW.o.ext ((Kp.refl _ _).alloc (.cells #[.int .i64 fk,.string fn] 51))) ⟨fk,fn⟩).mono ?_;rintro e w2 ⟨rfl,UJ,ag⟩;have hD1:l.D<w1.heap.size:=by have:=aZ.size;omega
   have bF2:=bF.kp ag (by omega);have sO:=(TV.ext ((Kp.refl _ _).alloc (.cells #[.int .i64 fk,.string fn] 51))).kp ag (by omega);have u0:=bF2.c 0 _ rfl;have u1:=bF2.c 1 _ rfl;have uz:=bF2.lt;have r0:=sO.c 0 _ rfl;have r1:=sO.c 1 _ rfl;have e0:=sO.frozen 0;have e1:=sO.frozen 1;have ez:=sO.lt;have Eo:Kp (·=l.D) w w2:=((aZ.alloc _).any).trans ag;clear q0 q1 f0 f1 TV bF ag;have jA:Kp (·=w.heap.size) w2 ((w2.setCell ⟨w.heap.size,0,none⟩ (.int .i64 0)).setCell ⟨w.heap.size,1,none⟩ (.string ⟨#[]⟩)):=((Kp.refl (·=w.heap.size) w2).setCell (p:=⟨w.heap.size,0,none⟩) (fun _=>rfl) _).setCell (p:=⟨w.heap.size,1,none⟩) (fun _=>rfl) _;clear jA;have zT:=Ys UJ;cases lF:M.bI p ⟨fk,fn⟩
   · have HN:Zs (M.aT p k n m=(M.lv,4)):=Ys (by rw[HY.o,lF];rfl);clear lF;go_wp2;refine bodyPost_ret (v:=.tuple #[.agg #[.int .i64 0,.string ⟨#[]⟩],.iface 99 (.pointer (some ⟨w2.heap.size,0,none⟩))]) (by simp[results,Tryz.results29,go_sem,r0,r1,ez]) rfl ?_;have jA:=TJ.o w2 (.int .i64 0) (.string ⟨#[]⟩);rw[HN.o];exact⟨⟨_,rfl,.inr ⟨by decide,_,rfl,aa4.o w2 _ _ _⟩⟩,(zT.o.kp jA (fun j hj e=>by omega)).ext ((Kp.refl _ _).alloc _),(Eo.own jA (fun j hj=>by omega)).alloc _⟩
   · have HN:Zs (M.aT p k n m=(⟨fk,fn⟩,1)):=Ys (by rw[HY.o,lF];rfl);clear lF;go_wp2;refine bodyPost_ret (v:=.tuple #[.agg #[.int .i64 fk,.string fn],Value.nilIface]) (by simp[results,Tryz.results29,go_sem,r0,r1,ez]) rfl ?_;have jA:=TJ.o w2 (.int .i64 fk) (.string fn);rw[HN.o];exact⟨⟨_,rfl,.inl ⟨rfl,rfl⟩⟩,zT.o.kp jA (fun j hj e=>by omega),Eo.own jA (fun j hj=>by omega)⟩
 · have sH:(code !=1)=true:=bne_iff_ne.2 hc;have HN:Zs (M.aT p k n m=(M.lv,2)):=Ys (by rw[HY.o,if_neg hc]);clear hc HY;go_wp2;refine bodyPost_ret (v:=.tuple #[.agg #[.int .i64 0,.string ⟨#[]⟩],.iface 99 (.pointer (some ⟨w1.heap.size+1,0,none⟩))]) (by simp[results,Tryz.results29,go_sem,q0,q1,hz]) rfl ?_;have jA:=TJ.o w1 (.int .i64 0) (.string ⟨#[]⟩);refine FIN.o _ _ _ HN.o rfl ?_ ((FW.o.kp jA (fun j hj e=>by omega)).ext (((Kp.refl _ _).alloc _).alloc _)) (((aZ.any.own jA (fun j hj=>by omega)).alloc _).alloc _);have:=az.new (((w1.setCell ⟨w.heap.size,0,none⟩ (.int .i64 0)).setCell ⟨w.heap.size,1,none⟩ (.string ⟨#[]⟩)).alloc (.cells #[.int .i64 fk,.string fn] 51)) 101 #[.int .i64 2];simpa using this
def bq(v:M.Val):List Value:=[.int .i64 v.kind,.int .i64 v.n]
def ig:fD M.Val:=fun _ _ x cs=>cs=bq x
theorem ig.stays:bD ig:=fun _ _ _ _ _ _ _ _ h=>h
def gZ(t:M.Tag):List Value:=[.int .i64 t.kind,.string t.name]
def nH(n:Int):List Value:=[.int .i64 n]
theorem ym:Elem 109 112 2:=iJ (z:=.agg #[.int .i64 0,.string ⟨#[]⟩]) (bytes:=24) Tryz.underlying109 (by kernel_rfl) rfl (by decide) (by decide)
theorem flat_get{α:Type}{enc:α→List Value}{k:Nat}(Aw:∀x,(enc x).length=k):∀(l:List α) (j:Nat) (u:Value),(l.flatMap enc)[j]?=some u→∃i r x,l[i]?=some x∧(enc x)[r]?=some u∧j=i*k+r:=by
 intro l;induction l with
 |nil=>intro j u h;simp at h
 |cons x t ih=>
  intro j u h;rw[List.flatMap_cons]at h;rcases Nat.lt_or_ge j (enc x).length with hj|hj
  · rw[List.getElem?_append_left hj]at h;exact⟨0,j,x,rfl,h,by omega⟩
  · rw[List.getElem?_append_right hj]at h;obtain⟨i,r,y,h1,h2,h3⟩:=ih _ _ h;refine⟨i+1,r,y,by simpa using h1,h2,?_⟩;rw[Aw]at h3 hj;rw[Nat.succ_mul];omega
theorem lU{α:Type}{enc:α→List Value}{k:Nat}(Aw:∀x,(enc x).length=k)(l:List α):(l.flatMap enc).length=l.length*k:=by
 induction l with
 |nil=>simp
 |cons x t ih=>rw[List.flatMap_cons,List.length_append,ih,Aw,List.length_cons,Nat.succ_mul];omega
theorem jG{α:Type}{enc:α→List Value}(h1:∀x,∀u∈enc x,u.oneCell'=true)(l:List α):∀u∈l.flatMap enc,u.oneCell'=true:=by
 intro u hu;obtain⟨x,_,hx⟩:=List.mem_flatMap.1 hu;exact h1 x u hx
theorem SliceOf.flat{α:Type}{k:Nat}{R:fD α}{enc:α→List Value}(hR:∀w I x cs,R w I x cs→cs=enc x)(Aw:∀x,(enc x).length=k){w:World}{I:Nat→Prop}{ad:Addr}{n cap:Nat}{xs:List α}
    (h:SliceOf k R w I (.slice (some ad) n cap) xs):∀j u,(xs.flatMap enc)[j]?=some u→w.cell? (ad.add j)=some u:=by
 intro j u hu;obtain⟨i,r,x,h1,h2,rfl⟩:=flat_get Aw xs j u hu;obtain⟨b,off,cs,e,_,hr,hl,hc⟩:=h.get h1;cases e;have e2:=hR _ _ _ _ hr;subst e2;have:=hc r u h2;unfold Addr.add;split
 · rename_i h0;have e1:i*k=0:=by omega
   have e3:r=0:=by omega
   rw[e1,e3]at this;exact this
 · simpa [Nat.add_assoc]using this
theorem oN(x:M.Val):∀u∈bq x,u.oneCell'=true:=by simp[bq,Value.oneCell']
theorem oM(x:M.Tag):∀u∈gZ x,u.oneCell'=true:=by simp[gZ,Value.oneCell']
theorem xN(x:Int):∀u∈nH x,u.oneCell'=true:=by simp[nH,Value.oneCell']
structure Flat(w:World)(k:Nat)(v:Value)(n:Nat)(xs:List Value):Prop where
 len:xs.length=n*k
 ex:∃a c,v=.slice a n c∧(a=none→n=0)∧∀ad,a=some ad→∀j u,xs[j]?=some u→w.cell? (ad.add j)=some u
 one:∀u∈xs,u.oneCell'=true
theorem SliceOf.toFlat{α:Type}{k:Nat}{R:fD α}{enc:α→List Value}(hR:∀w I x cs,R w I x cs→cs=enc x)(Aw:∀x,(enc x).length=k)(h1:∀x,∀u∈enc x,u.oneCell'=true){w:World}{I:Nat→Prop}{v:Value}{xs:List α}
    (h:SliceOf k R w I v xs):Flat w k v xs.length (xs.flatMap enc):=by
 obtain⟨a,c,rfl,_⟩:=h.form;refine⟨lU Aw xs,⟨a,c,rfl,?_,?_⟩,jG h1 xs⟩
 · rintro rfl;cases xs with
   |nil=>rfl
   |cons x r=>
    obtain⟨_,_,_,e,_⟩:=h.get (i:=0) (x:=x) rfl;cases e
 · rintro ad rfl;exact h.flat hR Aw
theorem kC{w:World}{base e k n:Nat}{v:Value}{xs:List Value}(h:w.ownsRow base e k v n xs)(h1:∀u∈xs,u.oneCell'=true):Flat w k v n xs:=by
 refine⟨h.1,?_,h1⟩;rcases h.2 with⟨rfl,rfl⟩|⟨g,c,cur,rfl,_⟩
 · exact⟨none,0,rfl,fun _=>rfl,fun _ e=>by cases e⟩
 · exact⟨_,c,rfl,(fun e=>by cases e),fun ad e=>by cases e;exact h.cells rfl⟩
theorem zm{w:World}{base e k n c g:Nat}{xs:List Value}(h:w.ownsRow base e k (.slice (some ⟨g,0,none⟩) n c) n xs)(h1:∀u∈xs,u.oneCell'=true){i:Nat}(c':Nat):
    Flat w k (.slice (some ⟨g,i*k,none⟩) (n - i) c') (n - i) (xs.drop (i*k)):=by
 refine⟨by rw[List.length_drop,h.1,Nat.sub_mul],⟨_,c',rfl,(fun e=>by cases e),fun ad e j u hu=>?_⟩,fun u hu=>h1 u (List.mem_of_mem_drop hu)⟩;cases e;rw[List.getElem?_drop]at hu;have:=h.cells (g:=g) rfl _ _ hu;unfold Addr.add at this ⊢;split at this<;>split
 · rename_i h2 h3;rw[show i*k=0 by omega];exact this
 · omega
 · rename_i h2 h3;rw[h3]at this;simpa using this
 · simpa using this
theorem LK{w:World}{ad:Addr}{v:Value}(h:w.cell? ad=some v):ad.block<w.heap.size:=by
 rcases Nat.lt_or_ge ad.block w.heap.size with h1|h1
 · exact h1
 · simp[World.cell?,Array.getElem?_eq_none h1]at h
theorem Flat.ext{w w':World}{k n:Nat}{v:Value}{xs:List Value}(h:Flat w k v n xs)(hE:Ext w w'):Flat w' k v n xs:=by
 obtain⟨h1,⟨a,c,e,h2,h3⟩,h4⟩:=h;exact⟨h1,⟨a,c,e,h2,fun ad ea j u hu=>(World.cell?_of_block (hE.block _ (LK (h3 ad ea j u hu)) fun x=>x)).trans (h3 ad ea j u hu)⟩,h4⟩
theorem dH{t e k:Nat}(E:Elem t e k)(w:World){ops:Array Oper}{rest:List Oper}{o:Oper}{a:Act}{Q:Exit→Act→World→Prop}(JI:o.guard=none)(s x:Operand)
    (ho:o.op=.call {callee:=.builtin .append,args:=#[s,x],argTypes:=#[t,t]}) (base:Nat) (v:Value) (n:Nat) (xs:List Value) (hs:a.eval s=v) (dI:w.ownsRow base e k v n xs)
    (ad:Addr) (m c:Nat) (news:List Value) (hx:a.eval x=.slice (some ad) m c) (hf:Flat w k (.slice (some ad) m c) m news)
    (hn:n+m≤8589934592) (qo:base≤w.heap.size)
    (h:∀v' w',w'.ownsRow base e k v' (n+m) (xs++news)→Kp (fun b=>v.ownBlock=some b) w w'→wpList Tryz.prog ops Q rest (a.put o.dst v') w'):
    wpList Tryz.prog ops Q (o::rest) a w:=by
 obtain⟨i,z,bytes,ht,hi,hz,qx,KW,K5,hk,hb⟩:=E;obtain⟨f1,⟨a1,c1,e1,_,f2⟩,f3⟩:=hf;cases e1;refine wpList_append_own w JI s x t ho base e i z k bytes ht hi hz qx KW K5 hk v n xs hs dI ad m c news hx f1 (f2 ad rfl) f3 (by unfold maxLen;omega) ?_ qo ?_
 · have:(n+m)*bytes≤8589934592*4096:=Nat.mul_le_mul hn hb;omega
 · intro v' w' h2 h3 _;exact h v' w' h2 ⟨h3.os,h3.tape,h3.output,h3.size,fun k hk hd=>h3.block k hk (fun e=>hd e.symm)⟩
theorem l7(W:World)(e k:Nat)(B:Nat)(hB:B≤W.heap.size)(g:Nat)(hg:W.heap.size=g):(W.alloc (.cells #[] e)).ownsRow B e k (.slice (some ⟨g,0,none⟩) 0 0) 0 []:=by
 subst hg;exact⟨by simp,.inr ⟨_,0,#[],rfl,hB,heap_alloc_new W _,Nat.le_refl _,by simp,by simp,by simp⟩⟩
theorem lL(w:World)(v:Value)(n:Nat)(xs:List Value)(h:Flat w 2 v n xs)(hn:n≤4294967296):
    Calls Tryz.prog 45 #[v] w fun e w'=>(∃v',e=.returned v'∧w'.ownsRow w.heap.size 63 2 v' n xs)∧Ext w w':=by
 obtain⟨a,c,rfl,h0,hc⟩:=h.ex;have en:=fun W=>Lib.run_eql_slice_nil (P:=Tryz.prog) W 119 63 a n c 0 0 Tryz.underlying119;have GZ:=h.len;cases a with
 |none=>
  obtain rfl:=h0 rfl;have hx:xs=[]:=List.eq_nil_of_length_eq_zero (by simpa using GZ);subst hx;clear h h0 hc GZ;go_enter Tryz.func45,Tryz.ntmps45;go_wp2;go_ret;exact⟨⟨_,rfl,World.ownsRow_nil _ _ _ _⟩,Kp.refl _ _⟩
 |some ad=>
  have HF:=Ys (h.ext ((Kp.refl _ _).alloc (.cells #[] 63):Ext w _));have MU:0+n≤8589934592:=by omega
  clear h h0 hc GZ;go_enter Tryz.func45,Tryz.ntmps45;go_wp2_with (at_builtin;refine dH lT _ rfl _ _ rfl w.heap.size _ 0 [] rfl (l7 w _ 2 _ (Nat.le_refl _) _ rfl) ad n c xs rfl HF.o MU (by simp) ?_);intro v' w' dI hK;have HO:=Ys dI;have HK:=Ys hK;clear dI hK;go_wp2;go_ret;exact⟨⟨_,rfl,by simpa using HO.o⟩,((Kp.refl _ _).alloc _:Ext w _).own HK.o (fun b hb=>by simp only[Value.ownBlock,Option.some.injEq]at hb;omega)⟩
theorem lK(w:World)(v:Value)(n:Nat)(xs:List Value)(h:Flat w 2 v n xs)(hn:n≤4294967296):
    Calls Tryz.prog 95 #[v] w fun e w'=>(∃v',e=.returned v'∧w'.ownsRow w.heap.size 112 2 v' n xs)∧Ext w w':=by
 obtain⟨a,c,rfl,h0,hc⟩:=h.ex;have en:=fun W=>Lib.run_eql_slice_nil (P:=Tryz.prog) W 109 112 a n c 0 0 Tryz.underlying109;have GZ:=h.len;cases a with
 |none=>
  obtain rfl:=h0 rfl;have hx:xs=[]:=List.eq_nil_of_length_eq_zero (by simpa using GZ);subst hx;clear h h0 hc GZ;go_enter Tryz.func95,Tryz.ntmps95;go_wp2;go_ret;exact⟨⟨_,rfl,World.ownsRow_nil _ _ _ _⟩,Kp.refl _ _⟩
 |some ad=>
  have HF:=Ys (h.ext ((Kp.refl _ _).alloc (.cells #[] 112):Ext w _));have MU:0+n≤8589934592:=by omega
  clear h h0 hc GZ;go_enter Tryz.func95,Tryz.ntmps95;go_wp2_with (at_builtin;refine dH ym _ rfl _ _ rfl w.heap.size _ 0 [] rfl (l7 w _ 2 _ (Nat.le_refl _) _ rfl) ad n c xs rfl HF.o MU (by simp) ?_);intro v' w' dI hK;have HO:=Ys dI;have HK:=Ys hK;clear dI hK;go_wp2;go_ret;exact⟨⟨_,rfl,by simpa using HO.o⟩,((Kp.refl _ _).alloc _:Ext w _).own HK.o (fun b hb=>by simp only[Value.ownBlock,Option.some.injEq]at hb;omega)⟩
theorem qP(w:World)(v:Value)(n:Nat)(xs:List Value)(h:Flat w 1 v n xs)(hn:n≤4294967296):
    Calls Tryz.prog 44 #[v] w fun e w'=>(∃v',e=.returned v'∧w'.ownsRow w.heap.size 3 1 v' n xs)∧Ext w w':=by
 obtain⟨a,c,rfl,h0,hc⟩:=h.ex;have en:=fun W=>Lib.run_eql_slice_nil (P:=Tryz.prog) W 61 3 a n c 0 0 Tryz.underlying61;have GZ:=h.len;cases a with
 |none=>
  obtain rfl:=h0 rfl;have hx:xs=[]:=List.eq_nil_of_length_eq_zero (by simpa using GZ);subst hx;clear h h0 hc GZ;go_enter Tryz.func44,Tryz.ntmps44;go_wp2;go_ret;exact⟨⟨_,rfl,World.ownsRow_nil _ _ _ _⟩,Kp.refl _ _⟩
 |some ad=>
  have HF:=Ys (h.ext ((Kp.refl _ _).alloc (.cells #[] 3):Ext w _));have MU:0+n≤8589934592:=by omega
  clear h h0 hc GZ;go_enter Tryz.func44,Tryz.ntmps44;go_wp2_with (at_builtin;refine dH yl _ rfl _ _ rfl w.heap.size _ 0 [] rfl (l7 w _ 1 _ (Nat.le_refl _) _ rfl) ad n c xs rfl HF.o MU (by simp) ?_);intro v' w' dI hK;have HO:=Ys dI;have HK:=Ys hK;clear dI hK;go_wp2;go_ret;exact⟨⟨_,rfl,by simpa using HO.o⟩,((Kp.refl _ _).alloc _:Ext w _).own HK.o (fun b hb=>by simp only[Value.ownBlock,Option.some.injEq]at hb;omega)⟩
theorem wI(w:World)(k o:Nat)(T:TypeId)(cs:Array Value)(vs:Value)(n:Nat)(hB:az w k T cs)(h0:cs[o]?=some vs)(hv:∃a c,vs=.slice a n c)(c:Nat)(hc:n<c)(Qi:c≤1000):
    Calls Tryz.prog 102 #[.pointer (some ⟨k,o,none⟩),.int .i64 c] w fun e w'=>e=.returned (.tuple #[.slice none 0 0,.bool false])∧w=w':=by
 obtain⟨a,cp,rfl⟩:=hv;have c0:=hB.c o _ h0;have hz:=aS c0;have gI:(n:Int) - c<0:=by omega
 have hw:IntKind.i64.wrap ((n:Int) - c)=(n:Int) - c:=IntWalk.i64_in _ (by omega);clear hB h0;go_enter Tryz.func102,Tryz.ntmps102;go_wp2;go_ret2;exact⟨rfl,rfl⟩
theorem kV(w:World)(k o B:Nat)(T:TypeId)(cs:Array Value)(vs:Value)(n:Nat)(xs:List M.Val)(hB:az w k T cs)(h0:cs[o]?=some vs)(own:w.ownsRow B 63 2 vs n (xs.flatMap bq))(hl:xs.length=n)
    (c:Nat) (hc:c≤n) (MF:0<c) (hn:n≤1000) (jy:vs.ownBlock≠some k):
    Calls Tryz.prog 102 #[.pointer (some ⟨k,o,none⟩),.int .i64 c] w fun e w'=>
     ∃v',e=.returned (.tuple #[v',.bool true])∧w'.ownsRow w.heap.size 63 2 v' c ((xs.drop (n - c)).flatMap bq)∧
      (∃a c',vs=.slice a n c'∧az w' k T (cs.setIfInBounds o (.slice a (n - c) c')))∧Kp (·=k) w w':=by
 obtain⟨g,cp,rfl,hg,Qm,Zi⟩:=aX own (by omega);obtain⟨r,hr⟩:∃r,n=r+c:=⟨n - c,by omega⟩;have ZZ:n - c=r:=by omega
 have c0:=hB.c o _ h0;have f0:=hB.frozen o;have hz:=aS c0;have hw:IntKind.i64.wrap ((n:Int) - c)=(r:Int):=by rw[IntWalk.i64_in _ (by omega)];omega
 have jS:(n:Int) - c=(r:Int):=by omega
 have Vk:(0:Int)≤(r:Int):=by omega
 have M0:(r:Int)≤n:=by omega
 have Qy:(n:Int)≤cp:=by omega
 have hr3:¬cp=r:=by omega
 have hf:=zm own (jG oN xs) (i:=r) (cp - r);have hnr:n - r=c:=by omega
 have HNR:=Ys hnr;have hd:(xs.flatMap bq).drop (r*2)=(xs.drop r).flatMap bq:=by
  rw[←List.take_append_drop r xs,List.flatMap_append,List.drop_left' (by rw[lU (k:=2) (fun _=>rfl)];simp;omega)];simp
 rw[hd]at hf;have HF:=Ys hf;have HRN:=Ys ZZ;have HB:=Ys hB;have HO:=Ys own;have Ib:=Ys jy;clear hf hd ZZ hB own jy h0 hr hnr;go_enter Tryz.func102,Tryz.ntmps102;go_wp2_with fail;refine(lL _ _ _ _ HF.o (by omega)).mono ?_;rintro e w1 ⟨⟨v',rfl,dI⟩,hE⟩;obtain⟨a',c',rfl⟩:=bJ dI;have HW:=Ys dI;have hB1:=HB.o.ext hE;have d0:=hE.aJ c0;have e0:=hB1.frozen o;have z1:=hB1.lt;have BJ:=Ys hB1;have HE:=Ys hE;clear hE dI hB1 c0 f0 hz;go_wp2;go_ret2;refine⟨_,rfl,?_,⟨_,_,rfl,by rw[HRN.o];exact BJ.o.bA _ _⟩,Kp.setCell (p:=⟨k,o,none⟩) (D:=(·=k)) HE.o.any (fun _=>rfl) _⟩;have h2:w1.ownsRow w.heap.size 63 2 (.slice a' (n - r) c') c ((xs.drop (n - c)).flatMap bq):=by
  have h2:=HW.o;rw[HNR.o]at h2;rw[HNR.o,HRN.o];exact h2
 refine aA (D:=(·=k)) h2 (Kp.setCell (p:=⟨k,o,none⟩) (D:=(·=k)) (Kp.refl _ _) (fun _=>rfl) _) (fun q hq hb e=>?_);have e':q=k:=e;subst e';have:=HB.o.lt;omega
theorem NW(w:World)(k o:Nat)(T:TypeId)(cs:Array Value)(vs:Value)(hB:az w k T cs)(h0:cs[o]?=some vs)(hv:∃a c,vs=.slice a 0 c):
    Calls Tryz.prog 100 #[.pointer (some ⟨k,o,none⟩)] w fun e w'=>e=.returned (.tuple #[.agg #[.int .i64 0,.int .i64 0],.bool false])∧Ext w w':=by
 have HB:=Ys hB;have H0:=Ys h0;have HV:=Ys hv;have hz:=hB.lt;clear hB h0 hv;go_enter Tryz.func100,Tryz.ntmps100;go_wp2_with fail;refine(wI _ _ _ _ _ _ 0 (HB.o.ext kx) H0.o HV.o 1 (by omega) (by omega)).mono ?_;rintro e w1 ⟨rfl,rfl⟩;go_wp2;refine bodyPost_ret (v:=.tuple #[.agg #[.int .i64 0,.int .i64 0],.bool false]) (by simp[results,Tryz.results100,go_sem]) rfl ?_;exact⟨rfl,kx⟩
theorem NY(w:World)(k o B:Nat)(T:TypeId)(cs:Array Value)(vs:Value)(n:Nat)(xs:List M.Val)(x:M.Val)(hB:az w k T cs)(h0:cs[o]?=some vs)(own:w.ownsRow B 63 2 vs (n+1) ((xs++[x]).flatMap bq))(hl:xs.length=n)
    (hn:n+1≤1000) (jy:vs.ownBlock≠some k):
    Calls Tryz.prog 100 #[.pointer (some ⟨k,o,none⟩)] w fun e w'=>
     e=.returned (.tuple #[.agg #[.int .i64 x.kind,.int .i64 x.n],.bool true])∧(∃a c',vs=.slice a (n+1) c'∧az w' k T (cs.setIfInBounds o (.slice a n c')))∧Kp (·=k) w w':=by
 have HB:=Ys hB;have H0:=Ys h0;have HO:=Ys own;have Ib:=Ys jy;have hz:=hB.lt;have hd:(xs++[x]).drop (n+1 - 1)=[x]:=by rw[Nat.add_sub_cancel,←hl,List.drop_left]
 have HD:=Ys hd;have HL:=Ys hl;have bz:=az.new w 63 #[.int .i64 0,.int .i64 0];clear hB h0 own jy hd hl;go_enter Tryz.func100,Tryz.ntmps100;go_wp2_with fail;refine(kV _ k o B _ _ _ (n+1) (xs++[x]) (HB.o.ext kx) H0.o (aA (D:=fun _=>False) HO.o kx fun _ _ _ x=>x) (by have:=HL.o;simp;omega) 1 (by omega) (by omega) hn Ib.o).mono ?_;rintro e w1 ⟨v',rfl,dI,⟨a,c',rfl,hB1⟩,hK⟩;rw[HD.o]at dI;obtain⟨g,cp,rfl,hg,Qm,Zi⟩:=aX dI (by omega);have q0:=dI.cells (g:=g) rfl 0 (.int .i64 x.kind) rfl;have q1:=dI.cells (g:=g) rfl 1 (.int .i64 x.n) rfl;simp only[Addr.add_lit,Nat.zero_add]at q0 q1;have X5:=bz.kp hK (by omega);have y0:=X5.c 0 _ rfl;have y1:=X5.c 1 _ rfl;have u0:=X5.frozen 0;have u1:=X5.frozen 1;have BJ:=Ys hB1;have HK:=Ys hK;have HZ:Zs (k<w.heap.size):=Ys hz;clear dI hB1 hK bz X5 hz;go_wp2;have jA:∀D:Nat→Prop,D w.heap.size→Kp D w1 ((w1.setCell ⟨w.heap.size,0,none⟩ (.int .i64 x.kind)).setCell ⟨w.heap.size,1,none⟩ (.int .i64 x.n)):=fun D hD=>((Kp.refl D w1).setCell (p:=⟨w.heap.size,0,none⟩) (fun _=>hD) _).setCell (p:=⟨w.heap.size,1,none⟩) (fun _=>hD) _;refine bodyPost_ret (v:=.tuple #[.agg #[.int .i64 x.kind,.int .i64 x.n],.bool true]) (by simp[results,Tryz.results100,go_sem,y0,y1]) rfl ?_;refine⟨rfl,⟨a,c',rfl,?_⟩,?_⟩
 · exact BJ.o.kp (jA (·=w.heap.size) rfl) (by have:=HZ.o;omega)
 · exact((((Kp.refl _ _).alloc _:Ext w _).any).trans HK.o).own (jA (·=w.heap.size) rfl) (fun q hq=>by omega)
def FN(t k:Nat):Prop:=∃fs,Tryz.prog.underlying t=some (.struct fs)∧(Tryz.prog.info? t).map (·.size)=some k
theorem FN.is{t k:Nat}(h:FN t k)(w:World):(isAgg t).run Tryz.prog w=.ok true w∧(sizeOf t).run Tryz.prog w=.ok k w:=by
 obtain⟨fs,h1,h2⟩:=h;cases hq:Tryz.prog.info? t with
 |none=>rw[hq]at h2;cases h2
 |some i=>
  rw[hq]at h2;have Gw:i.size=k:=by simpa using h2
  subst Gw;constructor
  · unfold isAgg;rw[Sem.run_bind,run_underlying h1 w];simp
  · simp[sizeOf,typeInfo,hq]
theorem pO{t k:Nat}(h:FN t k){w:World}{b o:Nat}{cs:List Value}(hc:af w b o cs)(hl:cs.length=k):(loadVar t ⟨b,o,none⟩).run Tryz.prog w=.ok (.agg cs.toArray) w:=by
 subst hl;obtain⟨h1,h2⟩:=h.is w;have h3:=run_loadCells_list (P:=Tryz.prog) w ⟨b,o,none⟩ cs (fun j v hv=>by
  have:=hc j v hv;unfold Addr.add;split
  · rename_i h0;subst h0;simpa using this
  · exact this)
 simp[loadVar,Sem.run_bind,h1,h2,h3]
theorem aP{t k:Nat}(h:FN t k){fn:Func}{p:Tmp}(hf:fn.results=#[.cell p t])(tmps:Array Value)(w:World)(b:Nat)(hp:tmps.getD p undef=.pointer (some ⟨b,0,none⟩))(cs:List Value)(hc:af w b 0 cs)(hl:cs.length=k):
    (results fn tmps).run Tryz.prog w=.ok (.agg cs.toArray) w:=by
 have hp':tmps[p]?.getD undef=.pointer (some ⟨b,0,none⟩):=by simpa using hp
 simp[results,hf,hp',asAddr,pO h hc hl]
theorem bP{t k:Nat}(h:FN t k){fn:Func}{p q:Tmp}(hf:fn.results=#[.cell p t,.tmp q])(tmps:Array Value)(w:World)(b:Nat)(hp:tmps.getD p undef=.pointer (some ⟨b,0,none⟩))(cs:List Value)(hc:af w b 0 cs)(hl:cs.length=k):
    (results fn tmps).run Tryz.prog w=.ok (.tuple #[.agg cs.toArray,tmps.getD q undef]) w:=by
 have hp':tmps[p]?.getD undef=.pointer (some ⟨b,0,none⟩):=by simpa using hp
 simp[results,hf,hp',asAddr,pO h hc hl]
theorem Ih:FN 51 2:=⟨_,Tryz.underlying51,by kernel_rfl⟩
theorem Gb:FN 34 8:=⟨_,Tryz.underlying34,by kernel_rfl⟩
theorem qg:FN 53 3:=⟨_,Tryz.underlying53,by kernel_rfl⟩
theorem nz:FN 187 5:=⟨_,Tryz.underlying187,by kernel_rfl⟩
theorem sM:FN 63 2:=⟨_,Tryz.underlying63,by kernel_rfl⟩
theorem dB:FN 65 6:=⟨_,Tryz.underlying65,by kernel_rfl⟩
theorem CW(w:World)(l:au)(p:M.ai)(h:aj w l p)(k:Int)(n:ByteArray)(i:Nat)(c:M.Class)(m:M.Method)(hc:M.cls? p ⟨k,n⟩=some c)(hm:c.methods[i]?=some m):
    Calls Tryz.prog 32 #[.pointer (some ⟨l.L,0,none⟩),.agg #[.int .i64 k,.string n,.int .i64 i]] w fun e w'=>
     (∃cs,aC w' (· <l.O) m cs∧e=.returned (.agg cs.toArray))∧Ext w w':=by
 have Zx:i<c.methods.length:=(List.getElem?_eq_some_iff.1 hm).1;have H:=Ys h;have H0:=Ys h;have HC:=Ys hc;have HM:=Ys hm;clear h hc hm;have b3:=(az.new w 53 #[.int .i64 k,.string n,.int .i64 i]);have q0:=b3.c 0 _ rfl;have q1:=b3.c 1 _ rfl;have q2:=b3.c 2 _ rfl;clear b3;go_enter Tryz.func32,Tryz.ntmps32;go_upto_region 1 with(fail);first|(go_region_with (go_at_call 35;refine(kT _ l p (H.o.ext kx) k n c HC.o).mono ?_;rintro e w1 ⟨⟨cs,ek,rfl⟩,hB⟩;obtain⟨y1,z1,y2,z2,rfl⟩:=ek.form;obtain⟨p8,hf1⟩:=DZ hB;have FD:∀W,(Instr.field 38 (.agg #[.string c.name,.string c.aW,.slice y1 c.fields.length z1,.slice y2 c.methods.length z2]) 3).run Tryz.prog W=.ok (.slice y2 c.methods.length z2) W:=(fun W=>by kernel_rfl);obtain⟨vf',vm',RN, -,s2⟩:=bD.ext aL.stays hB ek;simp only[List.cons.injEq,and_true,true_and]at RN;obtain⟨rfl,rfl⟩:=RN;obtain⟨b',off',cs,rfl,Qe,jk, -,gI⟩:=s2.get HM.o;have zU:=Ys jk;obtain⟨a1,c1,a2,c2,a3,c3,rfl⟩:=jk.form;obtain⟨g0,g1,g2,g3,g4,g5,g6,g7⟩:=gI.eight))|fail
 all_goals
  have bz:=((az.new (w.alloc (.cells #[.int .i64 k,.string n,.int .i64 i] 53)) 34 #[.string ⟨#[]⟩,.slice none 0 0,.int .i64 0,.string ⟨#[]⟩,.int .i64 0,.int .i64 0,.slice none 0 0,.slice none 0 0]).ext ((Kp.refl _ _).drew)).ext hB;simp only[World.size_alloc]at bz;have B:=(((((((bz.bA 0 (.string m.name)).bA 1 (.slice a1 m.args.length c1)).bA 2 (.int .i64 m.ret.kind)).bA 3 (.string m.ret.name)).bA 4 (.int .i64 m.locals)).bA 5 (.int .i64 m.stack)).bA 6 (.slice a2 m.code.length c2)).bA 7 (.slice a3 m.maps.length c3);have IQ:∀(D:Nat→Prop),D (w.heap.size+1)→Kp D w1 ((((((((w1.setCell ⟨w.heap.size+1,0,none⟩ (.string m.name)).setCell ⟨w.heap.size+1,1,none⟩ (.slice a1 m.args.length c1)).setCell ⟨w.heap.size+1,2,none⟩ (.int .i64 m.ret.kind)).setCell ⟨w.heap.size+1,3,none⟩ (.string m.ret.name)).setCell ⟨w.heap.size+1,4,none⟩ (.int .i64 m.locals)).setCell ⟨w.heap.size+1,5,none⟩ (.int .i64 m.stack)).setCell ⟨w.heap.size+1,6,none⟩ (.slice a2 m.code.length c2)).setCell ⟨w.heap.size+1,7,none⟩ (.slice a3 m.maps.length c3)):=fun D hD=>
   ((((((((Kp.refl D w1).setCell (p:=⟨w.heap.size+1,0,none⟩) (fun _=>hD) _).setCell (p:=⟨w.heap.size+1,1,none⟩) (fun _=>hD) _).setCell (p:=⟨w.heap.size+1,2,none⟩) (fun _=>hD) _).setCell (p:=⟨w.heap.size+1,3,none⟩) (fun _=>hD) _).setCell (p:=⟨w.heap.size+1,4,none⟩) (fun _=>hD) _).setCell (p:=⟨w.heap.size+1,5,none⟩) (fun _=>hD) _).setCell (p:=⟨w.heap.size+1,6,none⟩) (fun _=>hD) _).setCell (p:=⟨w.heap.size+1,7,none⟩) (fun _=>hD) _
  have aZ:Ext w w1:=((((Kp.refl _ w).alloc _).alloc _).drew).trans hB;clear p8 hf1 FD g0 g1 g2 g3 g4 g5 g6 g7 q0 q1 q2 gI bz ek s2;revert B IQ;generalize ((((((((w1.setCell ⟨w.heap.size+1,0,none⟩ (.string m.name)).setCell ⟨w.heap.size+1,1,none⟩ (.slice a1 m.args.length c1)).setCell ⟨w.heap.size+1,2,none⟩ (.int .i64 m.ret.kind)).setCell ⟨w.heap.size+1,3,none⟩ (.string m.ret.name)).setCell ⟨w.heap.size+1,4,none⟩ (.int .i64 m.locals)).setCell ⟨w.heap.size+1,5,none⟩ (.int .i64 m.stack)).setCell ⟨w.heap.size+1,6,none⟩ (.slice a2 m.code.length c2)).setCell ⟨w.heap.size+1,7,none⟩ (.slice a3 m.maps.length c3))=W;intro B IQ;have HB:=Ys (af.iV B);have XI:=Ys IQ;clear IQ B;have hOw:l.O<w.heap.size:=by have:=H0.o.ord;have:=H0.o.lt;omega
  go_wp2_with fail;refine bodyPost_ret (v:=.agg #[.string m.name,.slice a1 m.args.length c1,.int .i64 m.ret.kind,.string m.ret.name,.int .i64 m.locals,.int .i64 m.stack,.slice a2 m.code.length c2,.slice a3 m.maps.length c3]) (aP Gb rfl _ _ (w.heap.size+1) rfl _ HB.o rfl) rfl ?_;trace "x";exact⟨⟨_,bD.kp aC.stays (XI.o (·=w.heap.size+1) rfl) (fun b hb e=>by omega) zU.o,rfl⟩,aZ.own (XI.o (·=w.heap.size+1) rfl) (fun j hj=>by omega)⟩
structure LC(l:au)(p:M.ai)(w W:World):Prop where
 kp:Kp (·=l.D) w W
 at_:aj W l p
theorem LC.refl{l:au}{p:M.ai}{w:World}(h:aj w l p):LC l p w w:=⟨Kp.refl _ _,h⟩
theorem LC.ext{l:au}{p:M.ai}{w W W':World}(h:LC l p w W)(hE:Ext W W'):LC l p w W':=⟨h.kp.trans hE.any,h.at_.ext hE⟩
theorem LC.drew{l:au}{p:M.ai}{w W:World}(h:LC l p w W):LC l p w W.drew:=h.ext (Kp.refl _ _).drew
theorem LC.step{l:au}{p:M.ai}{w W W':World}(h:LC l p w W)(h1:aj W' l p)(h2:Kp (·=l.D) W W'):LC l p w W':=⟨h.kp.trans h2,h1⟩
theorem LC.trans{l:au}{p:M.ai}{w W W':World}(h:LC l p w W)(h2:LC l p W W'):LC l p w W':=h.step h2.at_ h2.kp
theorem aj.Cg{w:World}{l:au}{p:M.ai}(h:aj w l p):l.D<w.heap.size:=by have:=h.lt;have:=h.ord;omega
theorem mr(w:World)(l:au)(p:M.ai)(h:aj w l p)(k:Int)(n:ByteArray)(c:M.Class)(GI:M.cls? p ⟨k,n⟩=some c):
    ∃cs,aL w (· <l.O) c cs∧∀W,Kp (·=l.D) w W→
    Calls Tryz.prog 35 #[.pointer (some ⟨l.L,0,none⟩),.agg #[.int .i64 k,.string n]] W fun e w'=>e=.returned (.agg cs.toArray)∧Ext W w':=by
 obtain⟨q,i,hq,hi,ZX,Zx⟩:=M.uN GI;obtain⟨uG,pg⟩:=M.Cb GI;simp only at uG pg;obtain⟨k,rfl⟩:=Int.eq_ofNat_of_zero_le uG;have gD:p[k]?=some q:=by
  unfold M.iq at hq;rw[if_pos uG]at hq;exact hq
 obtain⟨a,cap,hs,c0,c1,c2,c3⟩:=h.cells;obtain⟨mm,hm,hme⟩:=h.own;obtain⟨b,off,cs,rfl,hI,GL, -,hc⟩:=hs.get gD;obtain⟨vo,va,rfl,s1,s2⟩:=GL;obtain⟨a1,abV,rfl,kP,l8⟩:=s1.form;obtain⟨b1,acU,cs1,rfl,YK,ek, -,gI⟩:=s1.get ZX;obtain⟨y1,z1,y2,z2,rfl⟩:=ek.form;obtain⟨g0,g1⟩:=hc.two;obtain⟨e0,e1,e2,e3⟩:=gI.four;have hp3:(p.length:Int)≤3:=by have:=(M.qV h.ok).2;omega
 have hO:=h.ord;have cK:=h.lt;refine⟨_,ek,fun W hK=>?_⟩;have l1:∀W',Ext W W'→(Instr.lookup 92 (.map (some l.O)) (.agg #[.int .i64 (k:Int),.string n]) false).run Tryz.prog W'=.ok (.int .i64 i) W':=by
  intro W' hW;rw[sj ((hm.kp hK (by omega)).kp hW fun x=>x),hme,hi];rfl
 have l2:=fun(X Y:Obj)=>l1 _ ((((Kp.refl _ W).alloc X).alloc Y).drew);clear l1;have d0:=hK.jF (c0 _ (Kp.refl _ w)) (by omega);have d1:=hK.jF (c1 _ (Kp.refl _ w)) (by omega);replace g0:=hK.jF g0 (by omega);replace g1:=hK.jF g1 (by omega);replace e0:=hK.jF e0 (by omega);replace e1:=hK.jF e1 (by omega);replace e2:=hK.jF e2 (by omega);replace e3:=hK.jF e3 (by omega);have hbw:=aS g0;have ach:=aS e0;have Wn:=aS d0;clear hm hme ek hs s1 s2 hc gI c0 c1 c2 c3 gD ZX hq hi GI h cK hK;have ZA:k<p.length:=by omega
 clear uG pg;go_enter Tryz.func35,Tryz.ntmps35;go_wp2;(refine fP 17 (by kernel_rfl) (by kernel_rfl) ?_);(simp only[List.take_succ_cons,List.take_zero,List.drop_succ_cons,List.drop_zero]);(repeat still_step);(refine wpStill_nil ?_);go_wp2;refine bodyPost_ret (v:=.agg #[.string c.name,.string c.aW,.slice y1 c.fields.length z1,.slice y2 c.methods.length z2]) (by simp[results,Tryz.results35,go_sem]) rfl ?_;exact⟨rfl,kx⟩
end Go.Proofs.YtohpiobncgafeaaGreatDoor
