/- Walks. -/
import Derived.Test.YtohpiobncgafeaaGreatDoorLnkm
set_option maxRecDepth 100000
set_option maxHeartbeats 4000000
set_option linter.unusedSimpArgs false
set_option linter.unusedVariables false
namespace Go.Proofs.YtohpiobncgafeaaGreatDoor
open Go Go.RowKit
theorem CZ(w:World)(l:au)(p:M.ai)(own:Own)(B mb:Nat)(lk:Bool)(g:Gh)(h:ay w l p own B mb lk g)(r:List GC)(c:GC)(bE:g.cs=r++[c])(st vs:List M.Val)(n:Nat)(bU:c.f.stack=st++vs)(hn:vs.length=n)(FH:0<n):
    Calls Tryz.prog 102 #[.pointer (some ⟨c.cb,13,none⟩),.int .i64 n] w fun e w'=>∃v',e=.returned (.tuple #[v',.bool true])∧w'.ownsRow w.heap.size 63 2 v' n (vs.flatMap bq)∧Kp (PO own (xZ r.length)) w w'∧∃vs',ay w' l p own B mb lk (g.bQ r c st vs'):=by
 have hc:=h.at_ bE;have je:=M.aF.1 (h.Aq bE);have MQ:=(h.mi bE).stack;have oD:=je.2.2.2.2.1;have hlen:c.f.stack.length=st.length+n:=by rw[bU];simp[hn]
 refine(kV w c.cb 13 B _ _ c.vs c.f.stack.length c.f.stack hc.blk rfl hc.bQ.row rfl n (by omega) FH (by omega) (fun e=>by have:=hc.bQ.role _ e;rw[hc.role]at this;cases this)).mono ?_;rintro e w' ⟨v',rfl,aU,⟨a,k,hv,hb⟩,hK⟩;rw[hlen]at hv;rw[hlen,Nat.add_sub_cancel]at hb;have e1:c.f.stack.drop (c.f.stack.length - n)=vs:=by rw[hlen,Nat.add_sub_cancel,bU,List.drop_left]
 rw[e1]at aU;obtain⟨h1,h2⟩:=h.popped bE hv ⟨vs,bU,hn⟩ FH hb hK;exact⟨v',rfl,aU,h.Dl bE (hK.weak fun b _ e=>.inl e),_,h2⟩
theorem PM (w : World) (l : au) (p : M.ai) (own : Own) (B mb : Nat) (lk : Bool) (Ic : Zs (lk = true → qd)) (g : Gh) (h : ay w l p own B mb lk g) (r : List GC) (c : GC) (bE : g.cs = r ++ [c]) (bU : g.status = 1) (i : M.Ins) (hi : M.fM (M.method p c.f.of) i = true) (dL : i.op = 9) :
    Calls Tryz.prog 54 #[.pointer (some ⟨mb,0,none⟩),.agg #[.int .i64 i.op,.int .i64 i.a,.string i.name,.string i.member]] w (bG w l p own B mb lk (.int .i64 (M.aB p lk i g.st).1) (M.aB p lk i g.st).2):=by
 have HI:=Ys (M.jm hi);obtain⟨w0,bN,aM,b3⟩:=nu w #[.int .i64 i.op,.int .i64 i.a,.string i.name,.string i.member] 30;have vM:=Ys (h.fresh (Nat.le_refl _));have BO:Zs (∀b,w.heap.size≤b→¬MO l own b):=Ys (fun b hb=>h.fresh hb);have YR:=h.cu.lt;have YC:=h.cu.ord.2.2;have xB:=Ys (h.ext aM);have bW:=Ys aM;have gW:=Ys b3;have dS:=Ys bN;have dF:=Ys bE;have Ez:=b3.lt;clear h aM b3 bN bE hi;obtain⟨⟨⟨⟨v0,v1⟩,v2⟩,cd⟩,hF⟩:∃F,M.call p c.f.of.of.keeper i.name i.member=F:=⟨_,rfl⟩
 have HV : Zs (M.aB p lk i g.st = if cd = 1 then (match M.gp ((M.method p ⟨⟨v0, v1⟩, v2⟩).args.length + 1) g.st with
     |some (vs,s1)=>if M.object p (vs.headD M.dE) ⟨v0,v1⟩ s1=1 then(match M.pick p (M.mY s1.heap (vs.headD M.dE).n) i.member with
         |some x=>M.enter p lk x vs s1
         |none=>(10,s1))else(M.object p (vs.headD M.dE) ⟨v0,v1⟩ s1,s1)
     |none=>(10,g.st))else(4,g.st)):=Ys (by
  unfold M.aB;rw[dL];simp only[Gh.top dF.o,hF];rfl)
 have HF:=Ys hF;have Ls:=Ys dL;clear dL;go_enter Tryz.func54,Tryz.ntmps54;go_wp2_with fail;rw[←dS.o];refine(di _ _ _ _ _ _ _ _ xB.o r c dF.o).mono ?_;rintro e w1 ⟨rfl,aZ⟩;have HA:=Ys (xB.o.ext aZ);have eP:Zs (Ext w w1):=Ys (bW.o.trans aZ);have sI:=Ys (gW.o.ext aZ);have vW:l.L<w1.heap.size:=HA.o.cu.lt;have Fz:l.D<w1.heap.size:=by omega
 have aah:w.heap.size<w1.heap.size:=sI.o.lt;have tN:∀W,LC l p w1 W→Calls Tryz.prog 16 #[.pointer (some ⟨l.L,0,none⟩),.int .i64 c.f.of.of.keeper,.string i.name,.string i.member] W fun e w'=>∃ev,e=.returned (.tuple #[.agg #[.int .i64 v0,.string v1,.int .i64 v2],ev])∧vL ev cd∧Kp (·=l.D) W w'∧LC l p w1 w':=fun W hW=>by
  have hl:=lZ W l p hW.at_ c.f.of.of.keeper i.name i.member;rw[HF.o]at hl;refine hl.mono ?_;rintro e w' ⟨⟨ev,rfl,ji⟩,hL,hK⟩;exact⟨ev,rfl,ji.weak,hK,hW.step hL hK⟩
 have sJ := Ys tN; have HC : Zs (LC l p w1 w1.drew) := Ys (LC.refl HA.o.cu).drew; obtain ⟨T, f, dm, HT⟩ := gy.ex (fun W' => LC l p w1 W') w1 (LC.refl HA.o.cu); have rO := fun z => (HA.o.il (HT.aK z).kp (HT.aK z).at_).blk.c 0 (.pointer (some ⟨l.L, 0, none⟩)) rfl; have r32 := fun z => (sI.o.kp (HT.aK z).kp (by omega)).c 2 (.string i.name) rfl; have I1 := fun z => (sI.o.kp (HT.aK z).kp (by omega)).c 3 (.string i.member) rfl; have ax := Ys HT; clear HT tN aZ; go_wp2_with fail; rename_i K hK; have tail : ∀ (b6 : Nat) (w7 : World) (ev : Value), LC l p w1 w7 → az w7 b6 53 #[.int .i64 v0, .string v1, .int .i64 v2] → w1.heap.size ≤ b6 → vL ev cd → K { tmps := #[.pointer (some ⟨mb, 0, none⟩), .agg #[.int .i64 i.op, .int .i64 i.a, .string i.name, .string i.member], undef, .pointer (some ⟨w.heap.size, 0, none⟩), .int .i64 0, .pointer (some ⟨c.cb, 0, none⟩), .pointer (some ⟨b6, 0, none⟩), ev, undef, undef, undef, undef, undef, .pointer (some ⟨mb, 0, none⟩), .pointer (some ⟨c.cb, 0, none⟩), .tuple #[.agg #[.int .i64 v0, .string v1, .int .i64 v2], ev], .pointer (some ⟨mb, 0, none⟩), .pointer (some ⟨mb, 0, none⟩), .pointer (some ⟨mb, 0, none⟩), .pointer (some ⟨l.L, 0, none⟩), .pointer (some ⟨c.cb, 0, none⟩), .int .i64 c.f.of.of.keeper, .pointer (some ⟨w.heap.size, 2, none⟩), .string i.name, .pointer (some ⟨w.heap.size, 3, none⟩), .string i.member, .tuple #[.agg #[.int .i64 v0, .string v1, .int .i64 v2], ev], .agg #[.int .i64 v0, .string v1, .int .i64 v2], ev, undef, undef, undef, undef, undef, undef, undef, undef, undef, undef, undef, undef, undef, undef, undef, undef, undef, undef, undef, undef, undef, undef, undef, undef, undef, undef, undef, undef, undef, undef, undef, undef, undef, undef, undef, undef, undef, undef, undef, undef, undef, undef, undef, undef, undef, undef, undef, undef, undef, undef, undef, undef, undef, undef, undef, undef, undef], defers := [] } w7 := by
  intro b6 w7 ev hC Il kN ji;refine hK _ _ ?_;clear hK ax rO r32 I1 HC sJ;have Ai:=Ys (HA.o.il hC.kp hC.at_);have lI:Zs (Kp (MO l own) w w7):=Ys (eP.o.any.trans hC.mo);have bV:=Ys Il;have Td:=Ys (sI.o.kp hC.kp (by omega));have Pm:=Ys (BO.o b6 (by omega));clear hC Il;rcases ji with⟨rfl,rfl⟩|⟨hc,eb,rfl⟩;rotate_left
  · replace HV:Zs (M.aB p lk i g.st=(4,g.st)):=Ys (by rw[HV.o,if_neg hc]);clear hc;go_wp2_with fail;go_ret;rw[HV.o];exact bG.mk' lI.o (eF.refl _ _) Ai.o rfl
  have uT:M.bM p ⟨⟨v0,v1⟩,v2⟩=true:=by
   have h1:(M.call p c.f.of.of.keeper i.name i.member).2=1:=by rw[HF.o]
   obtain⟨rr,OV⟩:=M.jY h1;rw[HF.o]at OV;exact M.jN OV
  have Ty := Ys uT; have uH : M.xY (M.method p ⟨⟨v0, v1⟩, v2⟩) := M.ll (M.fH Ai.o.cu.ok uT).1; obtain ⟨m, hm⟩ : ∃ m, M.method p ⟨⟨v0, v1⟩, v2⟩ = m := ⟨_, rfl⟩; have xG := fun W (hW : aj W l p) => dK W l p hW ⟨⟨v0, v1⟩, v2⟩ uT; rw [hm] at uH xG; replace HV : Zs (M.aB p lk i g.st = (match M.gp (m.args.length + 1) g.st with
   |some (vs,s1)=>if M.object p (vs.headD M.dE) ⟨v0,v1⟩ s1=1 then(match M.pick p (M.mY s1.heap (vs.headD M.dE).n) i.member with
       |some x=>M.enter p lk x vs s1
       |none=>(10,s1))else(M.object p (vs.headD M.dE) ⟨v0,v1⟩ s1,s1)
   |none=>(10,g.st))):=Ys (by rw[HV.o,if_pos rfl,hm])
  have GA:=uH.DW;have Aj:=Ys xG;have HM:=Ys hm;obtain⟨T,f,dm,HT⟩:=gy.ex (fun W'=>Kp (PO own (xZ r.length)) w7 W') _ (Kp.refl _ _);have no:∀b q,own b=some q→¬xZ r.length q→¬PO own (xZ r.length) b:=fun b q hb hq ⟨q',h1,h2⟩=>by rw[hb]at h1;cases h1;exact hq h2
  have Vz:∀b,¬MO l own b→¬PO own (xZ r.length) b:=fun b hb hp=>hb hp.mo;have rO:=fun z=>(Ai.o.blk.kp (HT.aK z) (no _ _ Ai.o.role (by simp[xZ]))).c 0 (.pointer (some ⟨l.L,0,none⟩)) rfl;have FK:=fun z=>(bV.o.kp (HT.aK z) (Vz _ Pm.o)).c 0 (.int .i64 v0) rfl;have I4:=fun z=>(bV.o.kp (HT.aK z) (Vz _ Pm.o)).c 1 (.string v1) rfl;have r62:=fun z=>(bV.o.kp (HT.aK z) (Vz _ Pm.o)).c 2 (.int .i64 v2) rfl;have ax:=Ys HT;have K4:IntKind.i64.wrap ((m.args.length:Int)+1)=m.args.length+1:=IntWalk.i64_in _ (by omega);clear HT uT uH hm xG no Vz;go_wp2_with fail;(refine dQ ax 17 [([0,1,2,3,4,5,6,7],8),([9,10,11],12)] [13,14,15,16] ?_ ?_)
  · exact(Kp.refl _ _).drew
  (refine dn [_,_,_,_,_,_,_,_] rfl rfl fun K hK=>?_);(repeat (go_big_quiet_step (fail)));(refine qn hK fun K2 ag=>?_);clear hK K;go_wp2_with fail;refine(Aj.o _ (Ai.o.cu.ext (Kp.refl _ _).drew)).mono ?_;rintro e w8 ⟨⟨cs,jk,rfl⟩,lC⟩;obtain⟨t,rfl⟩:=gP jk;obtain⟨a1,c1,a2,c2,a3,c3⟩:=t;have jQ:Zs (Ext w7 w8):=Ys (((Kp.refl _ w7).drew:Ext w7 _).trans lC);have FD:∀W,(Instr.field 34 (.agg (eG m ⟨a1,c1,a2,c2,a3,c3⟩).toArray) 1).run Tryz.prog W=.ok (.slice a1 m.args.length c1) W:=(fun W=>by kernel_rfl);simp only[eG]at FD ⊢;clear jk lC;go_wp2_with fail;(refine kk ax ag jQ.o.any ?_);clear ag K2;(refine dn [_,_,_] rfl rfl fun K hK=>?_);(repeat (go_big_quiet_step (fail)));(refine qn hK fun K2 ag=>?_);clear hK K;by_cases hlen:c.f.stack.length<m.args.length+1
  · replace HV:Zs (M.aB p lk i g.st=(10,g.st)):=Ys (by rw[HV.o,Gh.q8 dF.o hlen]);have hpn:=l5 _ _ _ _ _ _ _ _ (Ai.o.ext jQ.o) r c dF.o (m.args.length+1) hlen (by omega);have HPN:=Ys hpn;clear hpn hlen;go_wp2_with fail;refine HPN.o.mono ?_;rintro e w9 ⟨rfl,rfl⟩;go_wp2_with fail;(refine kk ax ag jQ.o.any ?_);clear ag K2;(refine qJ [_,_,_,_] rfl fun K hK=>?_);(repeat (go_big_quiet_step (fail)));(refine qn hK ?_);clear hK K;go_wp2_with fail;go_ret;rw[HV.o];exact bG.mk' (lI.o.trans jQ.o.any) (eF.refl _ _) (Ai.o.ext jQ.o) rfl
  · obtain ⟨st, vs, hs, wh⟩ : ∃ st vs, c.f.stack = st ++ vs ∧ vs.length = m.args.length + 1 :=
     ⟨c.f.stack.take (c.f.stack.length - (m.args.length+1)),c.f.stack.drop (c.f.stack.length - (m.args.length+1)),(List.take_append_drop _ _).symm,by rw[List.length_drop];omega⟩
    have qy:=(M.aF.1 (Ai.o.Aq dF.o)).2.2.2.2.2.2;have XK:Zs (∀v∈vs,M.aR v g.os.length=true):=Ys (fun v hv=>by simpa [Gh.st]using qy v (by rw[hs];exact List.mem_append_right _ hv));have Fw:Zs (∀vs',M.aB p lk i g.st=if M.object p (vs.headD M.dE) ⟨v0,v1⟩ (g.bQ r c st vs').st=1 then(match M.pick p (M.mY g.st.heap (vs.headD M.dE).n) i.member with
        |some x=>M.enter p lk x vs (g.bQ r c st vs').st
        |none=>(10,(g.bQ r c st vs').st))else(M.object p (vs.headD M.dE) ⟨v0,v1⟩ (g.bQ r c st vs').st,(g.bQ r c st vs').st)):=Ys (fun vs'=>by rw[HV.o,Gh.gp dF.o hs wh vs'];rfl)
    have hpp:=CZ _ _ _ _ _ _ _ _ (Ai.o.ext jQ.o) r c dF.o st vs (m.args.length+1) hs wh (by omega);have HPP:=Ys hpp;have Rm:=Ys wh;clear hpp hlen hs qy HV wh;obtain⟨⟨ok,on⟩,Zv⟩:∃o,vs[0]?=some o:=⟨vs[0]'(by have:=Rm.o;omega),List.getElem?_eq_getElem _⟩;have RP:vs.headD M.dE=⟨ok,on⟩:=by
     cases vs with
     |nil=>cases Zv
     |cons y r=>simpa using Zv
    rw[RP]at Fw;simp only at Fw;have Fv:Zs (M.aR ⟨ok,on⟩ g.os.length=true):=Ys (XK.o _ (List.mem_of_getElem? Zv));have HHD:=Ys Zv;clear RP Zv;go_wp2_with fail;refine HPP.o.mono ?_;rintro e w9 ⟨v',rfl,aU,KV,vs',OM⟩;have HV:=Ys (Fw.o vs');obtain⟨gt,gc,rfl,hgb, -⟩:=aX aU (by omega);have xS:Zs (Kp (MO l own) w w9):=Ys ((lI.o.trans jQ.o.any).trans (KV.weak fun b _ e=>e.mo));have Ps:Zs (Kp (PO own (xZ r.length)) w7 w9):=Ys (jQ.o.any.trans KV);have BS:=Ys OM;have pU:=Ys aU;clear aU KV OM HPP Fw;go_wp2_with fail;(refine kk ax ag Ps.o ?_);clear ag K2;clear ax rO FK I4 r62;(refine qJ [_,_,_,_] rfl fun K hK=>?_);(repeat (go_big_quiet_step (fail)));(refine qn hK ?_);clear hK K;have MF:=dG (enc:=bq) (k:=2) (fun _=>rfl) pU.o HHD.o;have Us:=bV.o.kp Ps.o (fun hp=>Pm.o hp.mo);have Yu:=Td.o.kp Ps.o (fun hp=>vM.o hp.mo);obtain⟨T,f,dm,HT⟩:=gy.ex (fun W'=>Ext w9 W') _ (Kp.refl _ _);have VE:=fun z=>(af.ext MF (HT.aK z)).two.1;have VF:=fun z=>(af.ext MF (HT.aK z)).two.2;simp only[Nat.zero_mul,Nat.zero_add]at VE VF;have FK:=fun z=>(Us.ext (HT.aK z)).c 0 (.int .i64 v0) rfl;have I4:=fun z=>(Us.ext (HT.aK z)).c 1 (.string v1) rfl;have ax:=Ys HT;have Xm:=Ys MF;have aaT:=Ys Yu;have FH:(0:Int)<m.args.length+1:=by omega
    clear HT MF Us Yu;go_wp2_with fail;(refine dQ ax 7 [([0,1,2,3,4,5],6)] [] ?_ ?_)
    · exact(Kp.refl _ _).drew
    (refine dn [_,_,_,_,_,_] rfl rfl fun K hK=>?_);(repeat (go_big_quiet_step (fail)));(refine qn hK fun K2 ag=>?_);clear hK K;go_wp2_with fail;refine(qG _ _ _ _ _ _ _ _ (BS.o.ext (Kp.refl _ _).drew) ⟨ok,on⟩ Fv.o ⟨v0,v1⟩).mono ?_;rintro e dR ⟨rfl,iy⟩;have kY:Zs (Ext w9 dR):=Ys (((Kp.refl _ w9).drew:Ext w9 _).trans iy);have fC:=Ys (BS.o.ext kY.o);have nV:Zs (Kp (MO l own) w dR):=Ys (xS.o.trans kY.o.any);clear iy;obtain⟨ob,xH⟩:∃ob,M.object p ⟨ok,on⟩ ⟨v0,v1⟩ (g.bQ r c st vs').st=ob:=⟨_,rfl⟩;by_cases IP:ob=1;rotate_left
    · replace HV:Zs (M.aB p lk i g.st=(ob,(g.bQ r c st vs').st)):=Ys (by rw[HV.o,xH,if_neg IP]);have ZQ:(ob !=1)=true:=bne_iff_ne.2 IP;rw[xH];clear xH IP;go_wp2_with fail;(refine kk ax ag kY.o ?_);clear ag K2;clear ax VE VF FK I4;(refine dD ?_);go_wp2_with fail;go_ret;rw[HV.o];exact bG.mk' nV.o (eF.refl _ _) fC.o rfl
    · subst IP;replace HV:Zs (M.aB p lk i g.st=(match M.pick p (M.mY g.st.heap on) i.member with
       |some x=>M.enter p lk x vs (g.bQ r c st vs').st
       |none=>(10,(g.bQ r c st vs').st))):=Ys (by rw[HV.o,if_pos xH])
      have HOB:=Ys xH;obtain⟨Az, -⟩:=M.l6 xH;simp only at Az;obtain⟨acF,kP⟩:=M.kF Fv.o Az;simp only at acF kP;obtain⟨n,rfl⟩:∃n:Nat,on=n:=⟨on.toNat,by omega⟩;obtain⟨go,tQ⟩:∃o,g.os[n]?=some o:=⟨g.os[n]'(by omega),List.getElem?_eq_getElem _⟩;have HGO:Zs (M.mY g.st.heap n=go.o.of):=Ys (uq (by simp[Gh.st,tQ]));obtain⟨rr,hpx⟩:∃rr,M.pick p rr i.member=some ⟨⟨v0,v1⟩,v2⟩:=by
       have h1:(M.call p c.f.of.of.keeper i.name i.member).2=1:=by rw[HF.o]
       obtain⟨rr,OV⟩:=M.jY h1;rw[HF.o]at OV;exact⟨rr,OV⟩
      have HPX:=Ys hpx;obtain⟨pk,pn,pa,pb,hpa,hpb⟩:∃pk pn pa pb,((M.pick p go.o.of i.member).getD iw=⟨⟨pk,pn⟩,pa⟩∧(M.pick p go.o.of i.member).isSome=pb)∧((pb=false→M.pick p (M.mY g.st.heap n) i.member=none)∧(pb=true→M.pick p (M.mY g.st.heap n) i.member=some ⟨⟨pk,pn⟩,pa⟩)):=by
       rw[HGO.o];cases e:M.pick p go.o.of i.member with
       |none=>exact⟨_,_,_,_,⟨rfl,rfl⟩,(fun _=>rfl),(fun h=>by cases h)⟩
       |some x=>exact⟨x.of.keeper,x.of.name,x.at_,true,⟨rfl,rfl⟩,(fun h=>by cases h),(fun _=>rfl)⟩
      have VY:=Ys hpb;have MZ:=fun W (hW:aj W l p)=>yY W l p hW go.o.of i.member;rw[hpa.1,hpa.2]at MZ;have Rl:=Ys MZ;have aU:=fC.o.heap.row;obtain⟨ha,dx,mh⟩:=fC.o.heap.form;rw[mh]at aU;obtain⟨hb,GH,eb, -⟩:=aX aU (by show 0<g.os.length;omega);cases eb;have gI:=dG (enc:=iD) (k:=3) (fun _=>rfl) aU (l:=g.os) tQ;have ada:l.D<w.heap.size:=by omega
      have oG:w.heap.size≤dR.heap.size:=nV.o.size;have YS:l.L<dR.heap.size:=by omega
      have aco:w.heap.size≤gt:=by have:=jQ.o.size;have:=lI.o.size;omega
      have HGT:=Ys aco;have HRW:Zs (∀W,Kp (·=l.D) dR W→W.ownsRow w8.heap.size 63 2 (.slice (some ⟨gt,0,none⟩) (m.args.length+1) gc) vs.length (vs.flatMap bq)):=Ys (fun W hW=>by
       rw[show vs.length=m.args.length+1 from Rm.o];exact aA (aA (D:=fun _=>False) pU.o kY.o fun _ _ _ x=>x) hW (fun q hq _ e=>by
        have h1:gt=q:=by simpa [Value.ownBlock]using hq
        omega))
      have KZ:∀b,B≤b→¬b=l.D:=fun b hb e=>by have:=fC.o.hB;have:=fC.o.cu.ord;omega
      obtain⟨T2,f2,R3,qc⟩:=gy.ex (fun W'=>LC l p dR W') dR (LC.refl fC.o.cu);have s0:=fun z=>(fC.o.il (qc.aK z).kp (qc.aK z).at_).blk.c 0 (.pointer (some ⟨l.L,0,none⟩)) rfl;have s4:=fun z=>(fC.o.il (qc.aK z).kp (qc.aK z).at_).blk.c 4 (.slice (some ⟨hb,0,none⟩) g.os.length dx) (by rw[show(Value.slice (some ⟨hb,0,none⟩) g.os.length dx)=g.vh from mh.symm];rfl);have hgD:¬gt=l.D:=by omega
      have sg:=fun z=>(qc.aK z).kp.jF (af.ext Xm.o kY.o).two.2 hgD;simp only[Nat.zero_mul,Nat.zero_add]at sg;have Wu:=(aU.lt hb rfl).1;have sh0:=fun z=>(qc.aK z).kp.jF gI.three.1 (KZ _ Wu);have sh1:=fun z=>(qc.aK z).kp.jF gI.three.2.1 (KZ _ Wu);have s33:=fun z=>((aaT.o.ext kY.o).kp (qc.aK z).kp (by omega)).c 3 (.string i.member) rfl;have rP:=Ys qc;have Qs:(n:Int)<g.os.length:=kP;have hnv:(0:Int)<m.args.length+1:=by omega
      clear qc aU gI mh tQ MZ hpa hpb hpx Az kP KZ Wu;rw[xH];clear xH;go_wp2_with fail;(refine kk ax ag kY.o ?_);clear ag K2;clear ax VE VF FK I4;(refine dD ?_);go_wp2_with fail;(refine wK f2 23 (.two [0,1,2,3,4,5,6,7,8,9,10,11,12,13,14,15,16] 17 21 (.one [18,19,20] 21 (.one [] 22 (.fin []))) (.one [] 17 (.one [18,19,20] 22 (.fin [])))) (rP.o.o _ ?_) (by kernel_rfl) (by kernel_rfl) (fun _ _ d _ _ h=>by cases d<;>exact h) ?_)
      · exact(LC.refl fC.o.cu).drew
      (refine two [_,_,_,_,_,_,_,_,_,_,_,_,_,_,_,_,_] rfl rfl rfl fun K hK=>?_);(repeat (go_big_quiet_step (fail)));((refine Hp hK (fun K2 ag=>?_) fun K2 ag=>?_)<;>clear hK K)
      · go_wp2_with fail;refine(Rl.o _ (fC.o.cu.ext (Kp.refl _ _).drew)).mono ?_;rintro e wP ⟨rfl,YQ,Wd⟩;have Ow:Zs (LC l p dR wP):=Ys ((LC.refl fC.o.cu).drew.step YQ Wd);clear YQ Wd;go_wp2_with fail;((refine ag _ _ (rP.o.o _ Ow.o) ?_);clear ag K2);(refine lu [_,_,_] rfl rfl fun K hK=>?_);(repeat (go_big_quiet_step (fail)));(refine qn hK fun K2 ag=>?_);clear hK K;go_wp2_with fail;((refine ag _ _ (rP.o.o _ (Ow.o.ext ((Kp.refl _ _).alloc _))) ?_);clear ag K2);(refine bX rfl fun K2 ag=>?_);go_wp2_with fail;obtain⟨Ac,xm⟩:∃Ac,Ac=wP.alloc (.cells #[.int .i64 pk,.string pn,.int .i64 pa] 53):=⟨_,rfl⟩;rw[←xm];have qa:Zs (LC l p dR Ac):=Ys (by rw[xm];exact Ow.o.ext ((Kp.refl _ _).alloc _));have wN:Zs (az Ac wP.heap.size 53 #[.int .i64 pk,.string pn,.int .i64 pa]):=Ys (by rw[xm];exact az.new _ _ _);((refine ag _ _ (rP.o.o _ qa.o) ?_);clear ag K2);clear rP s0 s4 sg sh0 sh1 s33 xm;(refine dz ?_);cases pb
        · replace HV:Zs (M.aB p lk i g.st=(10,(g.bQ r c st vs').st)):=Ys (by rw[HV.o,VY.o.1 rfl]);go_wp2_with fail;go_ret;rw[HV.o];skip;exact bG.mk' (nV.o.trans qa.o.mo) (eF.refl _ _) (fC.o.il qa.o.kp qa.o.at_) rfl
        · replace HV:Zs (M.aB p lk i g.st=M.enter p lk ⟨⟨pk,pn⟩,pa⟩ vs (g.bQ r c st vs').st):=Ys (by rw[HV.o,VY.o.2 rfl]);have TI:=Ys (VY.o.2 rfl);have HP2:Zs (M.pick p go.o.of i.member=some ⟨⟨pk,pn⟩,pa⟩):=Ys (by rw[←HGO.o];exact TI.o);have e0:=wN.o.c 0 (.int .i64 pk) rfl;have e1:=wN.o.c 1 (.string pn) rfl;have e2:=wN.o.c 2 (.int .i64 pa) rfl;have ez:=wN.o.lt;go_wp2_with fail;skip;refine(rZ _ _ _ _ _ _ _ Ic _ (fC.o.il qa.o.kp qa.o.at_) bU ⟨⟨pk,pn⟩,pa⟩ (M.jN TI.o) w8.heap.size (.slice (some ⟨gt,0,none⟩) (m.args.length+1) gc) vs (HRW.o _ qa.o.kp) (fun q hq=>by
           have h1:gt=q:=by simpa [Value.ownBlock]using hq
           rw[←h1];exact BO.o gt HGT.o) XK.o (by
           have:=M.vE HPX.o (M.l6 HOB.o).2 TI.o;rw[this,HM.o];exact Rm.o)).mono ?_
          rintro e pY aI;have HZ:=Ys (bG.after (nV.o.trans qa.o.mo) (eF.refl _ _) aI);obtain⟨rfl, -⟩:=aI;rw[←HV.o]at HZ ⊢;clear e0 e1 e2 ez;go_wp2_with fail;go_ret;exact HZ.o
      · go_wp2_with fail;((refine ag _ _ (rP.o.o _ ((LC.refl fC.o.cu).drew.ext ((Kp.refl _ _).alloc _))) ?_);clear ag K2);(refine bX rfl fun K2 ag=>?_);have Xn:Zs (LC l p dR (dR.drew.alloc (.cells #[.int .i64 0,.string ⟨#[]⟩,.int .i64 0] 53))):=Ys ((LC.refl fC.o.cu).drew.ext ((Kp.refl _ _).alloc _));have aaQ:Zs (az (dR.drew.alloc (.cells #[.int .i64 0,.string ⟨#[]⟩,.int .i64 0] 53)) dR.heap.size 53 #[.int .i64 0,.string ⟨#[]⟩,.int .i64 0]):=Ys (az.new _ _ _);go_wp2_with fail;refine(Rl.o _ Xn.o.at_).mono ?_;rintro e wP ⟨rfl,YQ,Wd⟩;have Ow:Zs (LC l p dR wP):=Ys (Xn.o.step YQ Wd);have FR:=Ys (aaQ.o.kp Wd (by omega));clear YQ Wd;go_wp2_with fail;((refine ag _ _ (rP.o.o _ Ow.o) ?_);clear ag K2);(refine lu [_,_,_] rfl rfl fun K hK=>?_);(repeat (go_big_quiet_step (fail)));(refine qn hK fun K2 ag=>?_);clear hK K;have y0:=FR.o.c 0 (.int .i64 0) rfl;have y1:=FR.o.c 1 (.string ⟨#[]⟩) rfl;have y2:=FR.o.c 2 (.int .i64 0) rfl;have g0:=FR.o.frozen 0;have g1:=FR.o.frozen 1;have g2:=FR.o.frozen 2;have z6:=FR.o.lt;have qa:=Ys (LC.own Ow.o (Kp.lq (D:=(·=dR.heap.size)) rfl (.int .i64 pk) (.string pn) (.int .i64 pa)) (Nat.le_refl _) YS);have wN:=Ys (FR.o.lq (.int .i64 pk) (.string pn) (.int .i64 pa));go_wp2_with fail;((refine ag _ _ (rP.o.o _ qa.o) ?_);clear ag K2);clear rP s0 s4 sg sh0 sh1 s33 y0 y1 y2 g0 g1 g2 z6;(refine dz ?_);cases pb
        · replace HV:Zs (M.aB p lk i g.st=(10,(g.bQ r c st vs').st)):=Ys (by rw[HV.o,VY.o.1 rfl]);go_wp2_with fail;go_ret;rw[HV.o];skip;exact bG.mk' (nV.o.trans qa.o.mo) (eF.refl _ _) (fC.o.il qa.o.kp qa.o.at_) rfl
        · replace HV:Zs (M.aB p lk i g.st=M.enter p lk ⟨⟨pk,pn⟩,pa⟩ vs (g.bQ r c st vs').st):=Ys (by rw[HV.o,VY.o.2 rfl]);have TI:=Ys (VY.o.2 rfl);have HP2:Zs (M.pick p go.o.of i.member=some ⟨⟨pk,pn⟩,pa⟩):=Ys (by rw[←HGO.o];exact TI.o);have e0:=wN.o.c 0 (.int .i64 pk) rfl;have e1:=wN.o.c 1 (.string pn) rfl;have e2:=wN.o.c 2 (.int .i64 pa) rfl;have ez:=wN.o.lt;go_wp2_with fail;skip;refine(rZ _ _ _ _ _ _ _ Ic _ (fC.o.il qa.o.kp qa.o.at_) bU ⟨⟨pk,pn⟩,pa⟩ (M.jN TI.o) w8.heap.size (.slice (some ⟨gt,0,none⟩) (m.args.length+1) gc) vs (HRW.o _ qa.o.kp) (fun q hq=>by
           have h1:gt=q:=by simpa [Value.ownBlock]using hq
           rw[←h1];exact BO.o gt HGT.o) XK.o (by
           have:=M.vE HPX.o (M.l6 HOB.o).2 TI.o;rw[this,HM.o];exact Rm.o)).mono ?_
          rintro e pY aI;have HZ:=Ys (bG.after (nV.o.trans qa.o.mo) (eF.refl _ _) aI);obtain⟨rfl, -⟩:=aI;rw[←HV.o]at HZ ⊢;clear e0 e1 e2 ez;go_wp2_with fail;go_ret;exact HZ.o
 have TAIL:=Ys tail;clear tail hK;(refine nM ax 16 (.two [0,1,2,3,4,6,7,8,9] 5 14 (.two [] 10 14 (.one [11,12,13] 14 (.one [] 15 (.fin []))) (.one [] 10 (.one [11,12,13] 15 (.fin [])))) (.one [] 5 (.one [] 10 (.one [11,12,13] 15 (.fin []))))) ?_ ?_)
 · exact HC.o
 (refine two [_,_,_,_,_,_,_,_,_] rfl rfl rfl fun K hK=>?_);(repeat (go_big_quiet_step (fail)));((refine Hp hK (fun K2 ag=>?_) fun K2 ag=>?_)<;>clear hK K)
 · go_wp2_with fail;refine(fe _ _ c.f.of.of.keeper (((HA.o.il HC.o.kp HC.o.at_).at_ dF.o).blk.c 0 _ rfl)).mono ?_;rintro e we ⟨rfl,rfl⟩;go_wp2_with fail;(refine kk ax ag HC.o ?_);clear ag K2;(refine zK rfl rfl (fun K2 ag=>?_) fun K2 ag=>?_)
   · go_wp2_with fail;refine(sJ.o _ HC.o).mono ?_;rintro e wc ⟨ev,rfl,ji,hk,hc⟩;replace HC:=Ys hc;have xR:=Ys ji;clear hk hc ji;go_wp2_with fail;(refine kk ax ag HC.o ?_);clear ag K2;(refine lu [_,_,_] rfl rfl fun K hK=>?_);(repeat (go_big_quiet_step (fail)));(refine qn hK fun K2 ag=>?_);clear hK K;go_wp2_with fail;(refine kk ax ag (HC.o.ext ((Kp.refl _ _).alloc _)) ?_);clear ag K2;(refine bX rfl fun K2 ag=>?_);go_wp2_with fail;(refine kk ax ag (HC.o.ext ((Kp.refl _ _).alloc _)) ?_);clear ag K2;have kN:=HC.o.kp.size;have bV:=Ys (az.new (wc) 53 #[.int .i64 v0,.string v1,.int .i64 v2]);replace HC:=Ys (HC.o.ext ((Kp.refl _ _).alloc (.cells #[.int .i64 v0,.string v1,.int .i64 v2] 53)));clear ax rO r32 I1;(refine dz ?_);go_wp2_with fail;exact TAIL.o _ _ _ HC.o bV.o kN xR.o
   · go_wp2_with fail;(refine kk ax ag (HC.o.ext ((Kp.refl _ _).alloc _)) ?_);clear ag K2;have kN:w1.heap.size≤w1.heap.size:=HC.o.kp.size;have bV:Zs (az (w1.drew.alloc (.cells #[.int .i64 0,.string ⟨#[]⟩,.int .i64 0] 53)) w1.heap.size 53 #[.int .i64 0,.string ⟨#[]⟩,.int .i64 0]):=Ys (az.new _ _ _);replace HC:=Ys (HC.o.ext ((Kp.refl _ _).alloc (.cells #[.int .i64 0,.string ⟨#[]⟩,.int .i64 0] 53)));(refine bX rfl fun K2 ag=>?_);go_wp2_with fail;refine(sJ.o _ HC.o).mono ?_;rintro e wc ⟨ev,rfl,ji,hk,hc⟩;replace bV:=Ys (bV.o.kp hk (by omega));replace HC:=Ys hc;have xR:=Ys ji;clear hk hc ji;go_wp2_with fail;(refine kk ax ag HC.o ?_);clear ag K2;(refine lu [_,_,_] rfl rfl fun K hK=>?_);(repeat (go_big_quiet_step (fail)));(refine qn hK fun K2 ag=>?_);clear hK K;have y0:=bV.o.c 0 (.int .i64 0) rfl;have y1:=bV.o.c 1 (.string ⟨#[]⟩) rfl;have y2:=bV.o.c 2 (.int .i64 0) rfl;have g0:=bV.o.frozen 0;have g1:=bV.o.frozen 1;have g2:=bV.o.frozen 2;have z6:=bV.o.lt;go_wp2_with fail;replace HC:=Ys (LC.own HC.o (Kp.lq (D:=(·=_)) rfl (.int .i64 v0) (.string v1) (.int .i64 v2)) kN vW);replace bV:=Ys (bV.o.lq (.int .i64 v0) (.string v1) (.int .i64 v2));(refine kk ax ag HC.o ?_);clear ag K2;clear y0 g0 y1 g1 y2 g2 z6;clear ax rO r32 I1;(refine dz ?_);go_wp2_with fail;exact TAIL.o _ _ _ HC.o bV.o kN xR.o
 · go_wp2_with fail;(refine kk ax ag (HC.o.ext ((Kp.refl _ _).alloc _)) ?_);clear ag K2;have kN:w1.heap.size≤w1.heap.size:=HC.o.kp.size;have bV:Zs (az (w1.drew.alloc (.cells #[.int .i64 0,.string ⟨#[]⟩,.int .i64 0] 53)) w1.heap.size 53 #[.int .i64 0,.string ⟨#[]⟩,.int .i64 0]):=Ys (az.new _ _ _);replace HC:=Ys (HC.o.ext ((Kp.refl _ _).alloc (.cells #[.int .i64 0,.string ⟨#[]⟩,.int .i64 0] 53)));(refine bX rfl fun K2 ag=>?_);go_wp2_with fail;refine(fe _ _ c.f.of.of.keeper (((HA.o.il HC.o.kp HC.o.at_).at_ dF.o).blk.c 0 _ rfl)).mono ?_;rintro e we ⟨rfl,rfl⟩;go_wp2_with fail;(refine kk ax ag HC.o ?_);clear ag K2;(refine bX rfl fun K2 ag=>?_);go_wp2_with fail;refine(sJ.o _ HC.o).mono ?_;rintro e wc ⟨ev,rfl,ji,hk,hc⟩;replace bV:=Ys (bV.o.kp hk (by omega));replace HC:=Ys hc;have xR:=Ys ji;clear hk hc ji;go_wp2_with fail;(refine kk ax ag HC.o ?_);clear ag K2;(refine lu [_,_,_] rfl rfl fun K hK=>?_);(repeat (go_big_quiet_step (fail)));(refine qn hK fun K2 ag=>?_);clear hK K;have y0:=bV.o.c 0 (.int .i64 0) rfl;have y1:=bV.o.c 1 (.string ⟨#[]⟩) rfl;have y2:=bV.o.c 2 (.int .i64 0) rfl;have g0:=bV.o.frozen 0;have g1:=bV.o.frozen 1;have g2:=bV.o.frozen 2;have z6:=bV.o.lt;go_wp2_with fail;replace HC:=Ys (LC.own HC.o (Kp.lq (D:=(·=_)) rfl (.int .i64 v0) (.string v1) (.int .i64 v2)) kN vW);replace bV:=Ys (bV.o.lq (.int .i64 v0) (.string v1) (.int .i64 v2));(refine kk ax ag HC.o ?_);clear ag K2;clear y0 g0 y1 g1 y2 g2 z6;clear ax rO r32 I1;(refine dz ?_);go_wp2_with fail;exact TAIL.o _ _ _ HC.o bV.o kN xR.o
def QP(n:Nat):Nat:=
 if n=1 then 46 else if n=2 then 47 else if n=3 then 48 else if n=4 then 49 else if n=5 then 50 else if n=6 then 51 else
 if n=7 then 52 else if n=8 then 53 else if n=9 then 54 else if n=10 then 55 else if n=11 then 56 else if n=12 then 57 else
 if n=13 then 58 else if n=14 then 59 else 60
def ER(v:Value):Array Value:=#[.nilFunc,.func (.func 46) #[v] #[],.func (.func 47) #[v] #[],.func (.func 48) #[v] #[],.func (.func 49) #[v] #[],.func (.func 50) #[v] #[],.func (.func 51) #[v] #[],
 .func (.func 52) #[v] #[],.func (.func 53) #[v] #[],.func (.func 54) #[v] #[],.func (.func 55) #[v] #[],.func (.func 56) #[v] #[],.func (.func 57) #[v] #[],.func (.func 58) #[v] #[],
 .func (.func 59) #[v] #[],.func (.func 60) #[v] #[]]
theorem Kh(v:Value){n:Nat}(h1:1≤n)(h2:n≤15):(ER v)[n]?=some (.func (.func (QP n)) #[v] #[]):=by
 have:n=1∨n=2∨n=3∨n=4∨n=5∨n=6∨n=7∨n=8∨n=9∨n=10∨n=11∨n=12∨n=13∨n=14∨n=15:=by omega
 rcases this with rfl|rfl|rfl|rfl|rfl|rfl|rfl|rfl|rfl|rfl|rfl|rfl|rfl|rfl|rfl<;>rfl
theorem NM{n:Nat}(h1:1≤n)(h2:n≤15)(args:Array Value)(w:World):(callFunc (QP n) args).run Tryz.prog w=.ok (.enter (QP n) args) w:=by
 have:n=1∨n=2∨n=3∨n=4∨n=5∨n=6∨n=7∨n=8∨n=9∨n=10∨n=11∨n=12∨n=13∨n=14∨n=15:=by omega
 rcases this with rfl|rfl|rfl|rfl|rfl|rfl|rfl|rfl|rfl|rfl|rfl|rfl|rfl|rfl|rfl
 · exact aG Tryz.func46 rfl (by kernel_rfl) args w
 · exact aG Tryz.func47 rfl (by kernel_rfl) args w
 · exact aG Tryz.func48 rfl (by kernel_rfl) args w
 · exact aG Tryz.func49 rfl (by kernel_rfl) args w
 · exact aG Tryz.func50 rfl (by kernel_rfl) args w
 · exact aG Tryz.func51 rfl (by kernel_rfl) args w
 · exact aG Tryz.func52 rfl (by kernel_rfl) args w
 · exact aG Tryz.func53 rfl (by kernel_rfl) args w
 · exact aG Tryz.func54 rfl (by kernel_rfl) args w
 · exact aG Tryz.func55 rfl (by kernel_rfl) args w
 · exact aG Tryz.func56 rfl (by kernel_rfl) args w
 · exact aG Tryz.func57 rfl (by kernel_rfl) args w
 · exact aG Tryz.func58 rfl (by kernel_rfl) args w
 · exact aG Tryz.func59 rfl (by kernel_rfl) args w
 · exact aG Tryz.func60 rfl (by kernel_rfl) args w
theorem Ua(w:World)(l:au)(p:M.ai)(own:Own)(B mb:Nat)(lk:Bool)(Ic:Zs (lk=true→qd))(g:Gh)(h:ay w l p own B mb lk g)(r:List GC)(c:GC)(bE:g.cs=r++[c])(bU:g.status=1)(i:M.Ins)(n:Nat)(hn:i.op=n)(hi:M.fM (M.method p c.f.of) i=true):
    Calls Tryz.prog (QP n) #[.pointer (some ⟨mb,0,none⟩),.agg #[.int .i64 i.op,.int .i64 i.a,.string i.name,.string i.member]] w (bG w l p own B mb lk (.int .i64 (M.aB p lk i g.st).1) (M.aB p lk i g.st).2):=by
 obtain⟨_,_,_,_,h5,_⟩:=M.jm hi;have:n=1∨n=2∨n=3∨n=4∨n=5∨n=6∨n=7∨n=8∨n=9∨n=10∨n=11∨n=12∨n=13∨n=14∨n=15:=by omega
 rcases this with rfl|rfl|rfl|rfl|rfl|rfl|rfl|rfl|rfl|rfl|rfl|rfl|rfl|rfl|rfl
 · exact Uc _ _ _ _ _ _ _ _ h r c bE bU i hi hn
 · exact PR _ _ _ _ _ _ _ _ h r c bE bU i hi hn
 · exact Ue _ _ _ _ _ _ _ _ h r c bE bU i hi hn
 · exact TZ _ _ _ _ _ _ _ _ h r c bE bU i hi hn
 · exact PQ _ _ _ _ _ _ _ _ h r c bE bU i hn
 · exact Ub _ _ _ _ _ _ _ _ h r c bE bU i hi hn
 · exact T9 _ _ _ _ _ _ _ _ h r c bE bU i hi hn
 · exact Ug _ _ _ _ _ _ _ _ h r c bE bU i hi hn
 · exact PM _ _ _ _ _ _ _ Ic _ h r c bE bU i hi hn
 · exact Uf _ _ _ _ _ _ _ _ h r c bE bU i hi hn
 · exact PS _ _ _ _ _ _ _ _ h r c bE bU i hi hn
 · exact LP _ _ _ _ _ _ _ _ h r c bE bU i hi hn
 · exact X8 _ _ _ _ _ _ _ _ h r c bE bU i hi hn
 · exact Ud _ _ _ _ _ _ _ _ h r c bE bU i hi hn
 · exact PN _ _ _ _ _ _ _ _ h r c bE bU i hi hn
theorem Kb(w:World)(l:au)(p:M.ai)(own:Own)(B mb:Nat)(lk:Bool)(Ic:Zs (lk=true→qd))(g:Gh)(h:ay w l p own B mb lk g)(r:List GC)(c:GC)(bE:g.cs=r++[c])(bU:g.status=1):
    Calls Tryz.prog 22 #[.pointer (some ⟨mb,0,none⟩)] w (bG w l p own B mb lk (.tuple #[]) (M.step p lk g.st)):=by
 have uH:=h.mi bE;have je:=h.Aq bE;obtain⟨n,hn⟩:∃n:Nat,c.f.pc=n:=⟨c.f.pc.toNat,by simp[M.cZ]at je;omega⟩;have cK:n<(M.method p c.f.of).code.length:=by simp[M.cZ]at je;omega
 obtain⟨⟨op,ia,nm,mem⟩,hi⟩:=gH (M.method p c.f.of).code n cK;have Cy:=uH.ins _ (List.mem_of_getElem? hi);obtain⟨k,rfl⟩:∃k:Nat,op=k:=⟨op.toNat,by have:=(M.jm Cy).2.2.2.2.1;simp only at this;omega⟩;have kP:1≤k∧k≤15:=by have:=(M.jm Cy).2.2.2.2.1;simp only at this;omega
 have HS:Zs (M.step p lk g.st=M.end_ (M.aB p lk ⟨k,ia,nm,mem⟩ g.st).1 (M.aB p lk ⟨k,ia,nm,mem⟩ g.st).2):=Ys (by
  unfold M.step M.stepped;rw[if_pos (show g.st.status=1 from bU),Gh.top bE,hn];simp[hi])
 have e2:=h.blk.c 2 (.int .i64 g.status) rfl;rw[bU]at e2;obtain⟨w0,bN⟩:∃w0,w0=w.alloc (.cells (ER (.pointer (some ⟨mb,0,none⟩))) 134):=⟨_,rfl⟩;have b2:az w0 w.heap.size 134 (ER (.pointer (some ⟨mb,0,none⟩))):=by rw[bN];exact az.new _ _ _
 have aM:Ext w w0:=by rw[bN];exact kx
 have HA:=Ys h;have xB:=Ys (h.ext aM);have bW:=Ys aM;have uF:=Ys b2;have dS:=Ys bN;have dF:=Ys bE;have qN:=Ys bU;have HI:=Ys hi;have Tz:=Ys Cy;have HN:=Ys hn;unfold ER at bN;have HX:=Ys bN;clear h aM b2 bN bE bU hi Cy uH je hn;go_enter Tryz.func22,Tryz.ntmps22;go_wp2_with fail;rw[←HX.o];refine(di _ _ _ _ _ _ _ _ xB.o r c dF.o).mono ?_;rintro e w1 ⟨rfl,aZ⟩;have ng:=xB.o.ext aZ;have hB1:=uF.o.ext aZ;have AL:w.heap.size<w1.heap.size:=hB1.lt;have Au:=ng.at_ dF.o;have cz:=Au.blk.lt;obtain⟨b,off,cs,ea,Dz,rfl, -,gI⟩:=(aC.code Au.ml).get HI.o;have hz:=gI;obtain⟨g0,g1,g2,g3⟩:=gI.four;have gz:=aS g0;obtain⟨T,f,dm,HT⟩:=gy.ex (fun W'=>Ext w1 W') _ (Kp.refl _ _);have d9:=fun z=>(Au.blk.ext (HT.aK z)).c 9 (.slice c.t.a2 (M.method p c.f.of).code.length c.t.c2) rfl;have d11:=fun z=>(Au.blk.ext (HT.aK z)).c 11 (.int .i64 n) (by rw[←HN.o];rfl);have y0:=fun z=>(HT.aK z).aJ g0;have y1:=fun z=>(HT.aK z).aJ g1;have y2:=fun z=>(HT.aK z).aJ g2;have y3:=fun z=>(HT.aK z).aJ g3;rw[ea]at d9;have ax:=Ys HT;have iF:=Ys ng;have BJ:=Ys hB1;have eP:Zs (Ext w w1):=Ys (bW.o.trans aZ);have hq8:(n:Int)<(M.method p c.f.of).code.length:=by omega
 clear ng hB1 Au aZ gI hz ea Dz HT g0 g1 g2 g3;go_wp2_with fail;(refine dQ ax 12 [([0,1,2,3,4,5,6,7,8,9,10],11)] [] ?_ ?_)
 · exact(Kp.refl _ _).drew
 (refine dn [_,_,_,_,_,_,_,_,_,_,_] rfl rfl fun K hK=>?_);(repeat (go_big_quiet_step (fail)));(refine qn hK fun K2 ag=>?_);clear hK K;go_wp2_with fail;(refine kk ax ag ((Kp.refl _ w1).drew.alloc _:Ext w1 _) ?_);clear ag K2;obtain⟨w2,jS⟩:∃w2,w2=(w1.alloc (.cells #[.int .i64 k,.int .i64 ia,.string nm,.string mem] 30)).drew:=⟨_,rfl⟩;have bY:Ext w1 w2:=by rw[jS];exact((Kp.refl _ w1).alloc _).drew
 have b4:az w2 w1.heap.size 30 #[.int .i64 k,.int .i64 ia,.string nm,.string mem]:=by rw[jS];exact(az.newAt _ _ rfl).ext (Kp.refl _ _).drew
 have jC:=Ys bY;have nQ:=Ys b4;have xX:=Ys jS;clear bY b4 jS ax d9 d11 y0 y1 y2 y3;(refine dD ?_);go_wp2_with fail;rw[←xX.o];have xC:Zs (ay w2 l p own B mb lk g):=Ys (iF.o.ext jC.o);have aaS:Zs (az w2 w.heap.size 134 (ER (.pointer (some ⟨mb,0,none⟩)))):=Ys (BJ.o.ext jC.o);have nT:¬MO l own w.heap.size:=HA.o.fresh (Nat.le_refl _);have Qu:¬MO l own w1.heap.size:=HA.o.fresh (by omega);obtain⟨T,f,dm,HT⟩:=gy.ex (fun W'=>Kp (MO l own) w2 W') _ (Kp.refl _ _);have r0:=fun z=>(nQ.o.kp (HT.aK z) Qu).c 0 (.int .i64 k) rfl;have r1:=fun z=>(nQ.o.kp (HT.aK z) Qu).c 1 (.int .i64 ia) rfl;have r2:=fun z=>(nQ.o.kp (HT.aK z) Qu).c 2 (.string nm) rfl;have r3:=fun z=>(nQ.o.kp (HT.aK z) Qu).c 3 (.string mem) rfl;have rf:=fun z=>(aaS.o.kp (HT.aK z) nT).c k _ (Kh (.pointer (some ⟨mb,0,none⟩)) kP.1 kP.2);have acG:(k:Int)<16:=by omega
 have FH:(0:Int)≤k:=by omega
 have ax:=Ys HT;have Zg:=NM kP.1 kP.2;clear HT;(refine dQ ax 8 [([0,1,2,3,4,5],6),([],7)] [] ?_ ?_)
 · exact(Kp.refl _ _).drew
 (refine dn [_,_,_,_,_,_] rfl rfl fun K hK=>?_);(repeat (go_big_quiet_step (fail)));(refine qn hK fun K2 ag=>?_);clear hK K;go_wp2_with fail;refine(Ua _ _ _ _ _ _ _ Ic _ (xC.o.ext (Kp.refl _ _).drew) r c dF.o qN.o ⟨k,ia,nm,mem⟩ k rfl Tz.o).mono ?_;rintro e w3 aI;obtain⟨rfl,mg,VB,g3,Y2,KQ,Wt⟩:=aI.behind ((Kp.refl _ w2).drew);have Ta:=Ys KQ;have jT:=Ys mg;have WV:=Ys Y2;have HG3:=Ys Wt;clear aI mg KQ Y2 Wt;go_wp2_with fail;(refine kk ax ag jT.o ?_);clear ag K2;(refine fG rfl fun K2 ag=>?_);go_wp2_with fail;refine(EO _ _ _ _ _ _ _ _ Ta.o _).mono ?_;rintro e w4 aI;rw[HG3.o]at aI;have hE:=(aI.after jT.o WV.o).behind (eP.o.trans jC.o);obtain⟨rfl,ni,hX⟩:=hE;have HX4:=Ys hX;have KJ:=Ys ni;have HKe:Zs (Kp (MO l own) w2 w4):=Ys (aI.after jT.o WV.o).2.1;clear aI hX ni;go_wp2_with fail;(refine kk ax ag HKe.o ?_);clear ag K2;(refine C9 rfl ?_);((try simp only[Exit.inBlock,Exit.then]);(first|refine bodyPost_ret (results_none rfl _ _ _) rfl ?_|refine bodyPost_end (results_none rfl _ _ _) rfl ?_));rw[HS.o];exact⟨rfl,KJ.o,HX4.o⟩
theorem zu (w : World) (I : Nat → Prop) (cs : List Value) (m : M.Method) (h : aC w I m cs) (args : List Int) (aa : Option Addr) (ac : Nat) (hal : args.length ≤ 4294967296) :
    Calls Tryz.prog 65 #[.agg cs.toArray,.slice aa args.length ac] w fun e w'=>e=.returned (.bool (M.ic m args))∧Ext w w':=by
 obtain⟨va,vc,vm,rfl,h1,h2,h3⟩:=h;obtain⟨a,cap,rfl,hn,dx⟩:=h1.form;by_cases yI:m.args.length=args.length
 · have HL : Zs (M.ic m args = m.args.all fun k => decide (k.kind = 1)) := Ys (by unfold M.ic; rw [decide_eq_true yI]; rfl); have p8 : ((m.args.length : Int) != args.length) = false := by simp [yI]
   have FW:=Ys yI;clear yI;obtain⟨w0,bN⟩:∃w0,w0=w.alloc (.cells #[.string m.name,.slice a m.args.length cap,.int .i64 m.ret.kind,.string m.ret.name,.int .i64 m.locals,.int .i64 m.stack,vc,vm] 34):=⟨_,rfl⟩;have aM:Ext w w0:=by rw[bN];exact kx
   have bW:=Ys aM;have dS:=Ys bN;clear aM bN;go_enter Tryz.func65,Tryz.ntmps65;go_wp2_with fail;rw[←dS.o];go_loopw [16] (fun i wr=>∃k:Nat,k≤m.args.length∧i=.int .i64 k∧Ext w0 wr∧Zs ((m.args.take k).all (fun k=>decide (k.kind=1))=true)) (fun i _=>m.args.length - (intOf i).toNat)
   case atStart=>exact⟨0,Nat.zero_le _,rfl,Kp.refl _ _,Ys (by simp)⟩
   case round =>
    obtain⟨k,hk,rfl,hE,HA⟩:=hrel;by_cases cK:k<m.args.length
    · obtain⟨x,hx⟩:=get_some cK;obtain⟨b,off,cs,rfl,hI,rfl, -,hc⟩:=h1.get hx;obtain⟨g0,g1⟩:=((hc.ext bW.o).ext hE).two;have gz:=aS g0;have HX:=Ys hx;clear hx hc;by_cases pg:x.kind=1
      · have e1:((x.kind:Int) !=1)=false:=by simp[pg]
        have HT:Zs (decide (x.kind=1)=true):=Ys (by simp[pg]);clear pg;go_wp2_with fail;go_roundw
        case rel=>exact⟨k+1,by omega,by go_num,kx,Ys (all_succ HA.o HX.o HT.o)⟩
        case measure=>simp[intOf];omega
      · have e1:((x.kind:Int) !=1)=true:=bne_iff_ne.2 pg;have HT:Zs (decide (x.kind=1)=false):=Ys (by simp[pg]);clear pg;go_wp2_with fail;go_ret;exact⟨ae (by rw[HL.o];exact(jD HX.o HT.o).symm),bW.o.trans kx⟩
    · go_wp2_with fail;go_ret;exact⟨ae (by rw[HL.o];exact(iH HA.o (by omega)).symm),bW.o.trans kx⟩
 · have p8:((m.args.length:Int) !=args.length)=true:=bne_iff_ne.2 (by omega);have HL:Zs (M.ic m args=false):=Ys (by unfold M.ic;rw[decide_eq_false yI];rfl);clear yI;go_enter Tryz.func65,Tryz.ntmps65;go_wp2_with fail;go_ret;exact⟨ae (by rw[HL.o]),kx⟩
theorem Fe (w : World) (v : M.Val) (n : Nat) :
    Calls Tryz.prog 42 #[.agg #[.int .i64 v.kind,.int .i64 v.n],.int .i64 n] w fun e w'=>e=.returned (.bool (M.aR v n))∧Ext w w':=by
 obtain⟨k,m⟩:=v;by_cases h0:k=0∨k=3
 · have HL:Zs (M.aR ⟨k,m⟩ n=decide (m=0)):=Ys (by unfold M.aR;rw[if_pos h0]);rcases h0 with rfl|rfl
   all_goals
    go_enter Tryz.func42,Tryz.ntmps42;go_wp2_with fail;go_ret;exact⟨ae (by rw[HL.o];by_cases hm:m=0<;>simp[hm]),kx⟩
 · have e0 : ((k : Int) == 0) = false := beq_eq_false_iff_ne.2 (by omega); have e3 : ((k : Int) == 3) = false := beq_eq_false_iff_ne.2 (by omega); by_cases h1 : k = 1
   · subst h1;have HL:Zs (M.aR ⟨1,m⟩ n=M.dw m):=Ys (by unfold M.aR;simp);clear h0 e0 e3;go_enter Tryz.func42,Tryz.ntmps42;go_wp2_with fail;refine(Df m _).mono ?_;rintro e w1 ⟨rfl,rfl⟩;go_wp2_with fail;go_ret;exact⟨ae (by rw[HL.o];rfl),kx⟩
   · have e1:((k:Int)==1)=false:=beq_eq_false_iff_ne.2 h1;by_cases h2:k=2
     · subst h2;have HL:Zs (M.aR ⟨2,m⟩ n=(decide (0≤m)&&decide (m<n))):=Ys (by unfold M.aR;simp);clear h0 e0 e3 h1 e1;go_enter Tryz.func42,Tryz.ntmps42;go_wp2_with fail
       all_goals
        go_ret;exact⟨ae (by rw[HL.o];by_cases x0:0≤m<;>by_cases x1:m<n<;>simp_all<;>omega),kx⟩
     · have e2:((k:Int)==2)=false:=beq_eq_false_iff_ne.2 h2;have HL:Zs (M.aR ⟨k,m⟩ n=false):=Ys (by unfold M.aR;rw[if_neg h0,if_neg h1,if_neg h2]);clear h0 h1 h2;go_enter Tryz.func42,Tryz.ntmps42;go_wp2_with fail;go_ret;exact⟨ae (by rw[HL.o]),kx⟩
theorem vJ(w:World)(I:Nat→Prop)(v:Value)(l:List M.Val)(h:SliceOf 2 ig w I v l)(n:Nat):
    Calls Tryz.prog 97 #[v,.int .i64 n] w fun e w'=>e=.returned (.bool (l.all (M.aR · n)))∧Ext w w':=by
 obtain⟨a,cap,rfl,hn,dx⟩:=h.form;go_enter Tryz.func97,Tryz.ntmps97;go_wp2;go_loopw [9] (fun i wr=>∃k:Nat,k≤l.length∧i=.int .i64 k∧Ext w wr∧Zs ((l.take k).all (M.aR · n)=true)) (fun i _=>l.length - (intOf i).toNat)
 case atStart=>exact⟨0,Nat.zero_le _,rfl,Kp.refl _ _,Ys (by simp)⟩
 case round =>
  obtain⟨k,hk,rfl,hE,HA⟩:=hrel;by_cases cK:k<l.length
  · obtain⟨x,hx⟩:=get_some cK;obtain⟨b,off,cs,rfl,hI,rfl, -,hc⟩:=h.get hx;obtain⟨g0,g1⟩:=(hc.ext hE).two;have HX:=Ys hx;clear hx hc;cases ht:M.aR x n
    all_goals
     have HT:=Ys ht;clear ht;go_wp2_with (go_at_call 42;refine(Fe _ x n).mono ?_;rintro e w1 ⟨rfl,hB⟩;rw[HT.o])
    · go_ret;exact⟨ae (jD HX.o HT.o).symm,(by repeat (first|assumption|exact Kp.refl _ _|apply Kp.alloc|apply Kp.drew|apply Kp.drewN|refine Kp.trans ?_ (by assumption)))⟩
    · go_roundw
      case rel=>exact⟨k+1,by omega,by go_num,(by repeat (first|assumption|exact Kp.refl _ _|apply Kp.alloc|apply Kp.drew|apply Kp.drewN|refine Kp.trans ?_ (by assumption))),Ys (all_succ HA.o HX.o HT.o)⟩
      case measure=>simp[intOf];omega
  · go_wp2;go_ret;exact⟨ae (iH HA.o (by omega)).symm,kx⟩
def rQ:fD M.kZ:=fun w I x cs=>∃vf,cs=[.int .i64 x.of.keeper,.string x.of.name,vf]∧SliceOf 2 ig w I vf x.fields
def KE:fD M.Fr:=fun w I x cs=>∃vl vs,cs=[.int .i64 x.of.of.keeper,.string x.of.of.name,.int .i64 x.of.at_,.int .i64 x.pc,vl,vs]∧SliceOf 2 ig w I vl x.locals∧SliceOf 2 ig w I vs x.stack
theorem rQ.stays:bD rQ:=fun _ _ _ _ _ _ hs hI ⟨vf,e,h⟩=>⟨vf,e,h.keep ig.stays hs hI⟩
theorem KE.stays:bD KE:=fun _ _ _ _ _ _ hs hI ⟨vl,vs,e,h1,h2⟩=>⟨vl,vs,e,h1.keep ig.stays hs hI,h2.keep ig.stays hs hI⟩
def cO:fD M.St:=fun w I x cs=>∃vf vh vo,cs=[.int .i64 x.status,vf,vh,vo,.int .i64 x.back.kind,.int .i64 x.back.n]∧SliceOf 6 KE w I vf x.frames∧SliceOf 3 rQ w I vh x.heap∧SliceOf 1 kL w I vo x.outs
theorem cO.stays:bD cO:=fun _ _ _ _ _ _ hs hI ⟨vf,vh,vo,e,h1,h2,h3⟩=>⟨vf,vh,vo,e,h1.keep KE.stays hs hI,h2.keep rQ.stays hs hI,h3.keep kL.stays hs hI⟩
theorem cO.form{w:World}{I:Nat→Prop}{x:M.St}{cs:List Value}(h:cO w I x cs):∃a1 c1 a2 c2 a3 c3,
    cs=[.int .i64 x.status,.slice a1 x.frames.length c1,.slice a2 x.heap.length c2,.slice a3 x.outs.length c3,.int .i64 x.back.kind,.int .i64 x.back.n]∧
    SliceOf 6 KE w I (.slice a1 x.frames.length c1) x.frames∧SliceOf 3 rQ w I (.slice a2 x.heap.length c2) x.heap∧SliceOf 1 kL w I (.slice a3 x.outs.length c3) x.outs:=by
 obtain⟨_,_,_,rfl,h1,h2,h3⟩:=h;obtain⟨a1,c1,rfl,_⟩:=h1.form;obtain⟨a2,c2,rfl,_⟩:=h2.form;obtain⟨a3,c3,rfl,_⟩:=h3.form;exact⟨a1,c1,a2,c2,a3,c3,rfl,h1,h2,h3⟩
theorem LC.same{l:au}{p:M.ai}{w W:World}(h:LC l p w W)(ho:l.O<l.D):Same (· <l.O) w W:=h.kp.same fun b hb e=>by omega
theorem SliceOf.lc{α:Type}{k:Nat}{R:fD α}(hR:bD R){l:au}{p:M.ai}{w W:World}{v:Value}{xs:List α}(hs:SliceOf k R w (· <l.O) v xs)(h:LC l p w W):SliceOf k R W (· <l.O) v xs:=
 hs.keep hR (h.same (by have:=h.at_.ord;omega)) fun _ x=>x
theorem F7.bad{p:M.ai}{hs:List M.kZ}{q:Nat}{o:M.kZ}(hq:hs[q]?=some o)(h:(M.bI p o.of&&decide (o.fields.length=(M.layout p o.of).length)&&o.fields.all (M.aR · hs.length))=false):M.gm p hs=false:=by
 unfold M.gm;rw[Bool.and_eq_false_iff];right;rw[List.all_eq_false];exact⟨o,List.mem_of_getElem? hq,by rw[h];simp⟩
theorem CV (w : World) (l : au) (p : M.ai) (h : aj w l p) (v : Value) (hs : List M.kZ) (hh : SliceOf 3 rQ w (· < l.O) v hs) :
    Calls Tryz.prog 41 #[.pointer (some ⟨l.L,0,none⟩),v] w fun e w'=>e=.returned (.bool (M.gm p hs))∧LC l p w w':=by
 obtain⟨a,cap,rfl,hn,dx⟩:=hh.form;have hOw:=h.Cg;have rX:=h.ord;by_cases Rv:12<hs.length
 · have HV:Zs (M.gm p hs=false):=Ys (by unfold M.gm;rw[decide_eq_false (by omega)];rfl);have P5:(12:Int)<hs.length:=by omega
   have HL:=Ys h;clear h hh Rv;go_enter Tryz.func41,Tryz.ntmps41;go_wp2_with fail;go_ret;exact⟨ae HV.o.symm,LC.refl HL.o⟩
 · have HV : Zs (M.gm p hs = hs.all fun o => M.bI p o.of && decide (o.fields.length = (M.layout p o.of).length) && o.fields.all (M.aR · hs.length)) := Ys (by unfold M.gm; rw [decide_eq_true (by omega)]; rfl); have P5 : ((12 : Int) < hs.length) = False := eq_false (by omega); have HL := Ys h; have HH := Ys hh; have acw : hs.length ≤ 12 := by omega
   clear h hh Rv;go_enter Tryz.func41,Tryz.ntmps41;go_wp2_with fail;go_loopw [12] (fun i wr=>∃q:Nat,q≤hs.length∧i=.int .i64 q∧LC l p w wr∧Zs (((hs.take q).all fun o=>M.bI p o.of&&decide (o.fields.length=(M.layout p o.of).length)&&o.fields.all (M.aR · hs.length))=true)) (fun i _=>hs.length - (intOf i).toNat)
   case atStart=>exact⟨0,Nat.zero_le _,rfl,LC.refl HL.o,Ys (by simp)⟩
   case round =>
    obtain⟨q,hq,rfl,hC,HQ⟩:=hrel;have HC:=Ys hC;by_cases cK:q<hs.length
    · obtain⟨⟨⟨ok,on⟩,xq⟩,ho⟩:=gH hs q cK;obtain⟨b,off,cs,rfl,hI,⟨vf,rfl,hf⟩, -,hc⟩:=(SliceOf.lc rQ.stays HH.o hC).get ho;obtain⟨fa,fc,rfl,FE,vY⟩:=hf.form;obtain⟨g0,g1,g2⟩:=hc.three;have gz:=aS g0;obtain⟨w6,wm,iZ,b6⟩:=nu wr #[.int .i64 ok,.string on,.slice fa xq.length fc] 174;have hCz:=hC.at_.Cg;obtain⟨T,f,dm,HT⟩:=gy.ex (fun W'=>LC l p w6 W') w6 (LC.refl (hC.at_.ext iZ));have r0:=fun z=>(b6.kp (HT.aK z).kp (by omega)).c 0 (.int .i64 ok) rfl;have r1:=fun z=>(b6.kp (HT.aK z).kp (by omega)).c 1 (.string on) rfl;have r2:=fun z=>(b6.kp (HT.aK z).kp (by omega)).c 2 (.slice fa xq.length fc) rfl;have ax:=Ys HT;have Pw:=Ys wm;have bV:=Ys b6;have VW:=Ys (hC.at_.ext iZ);have Tm:=Ys (hC.ext iZ);have HF:=Ys ((hf.ext ig.stays iZ));have HO:=Ys ho;have El:∀W,LC l p w6 W→LC l p w W:=fun _ hx=>Tm.o.step hx.at_ hx.kp;have gF:=Ys El;clear hC iZ b6 wm HT hf hc ho El;go_wp2_with fail;rw[←Pw.o];clear g0 g1 g2;(refine dQ ax 16 [([0,1,2],3),([4,5,6,7,8,9,10,11],12)] [13,14,15] ?_ ?_)
      · exact(LC.refl VW.o).drew
      (refine dn [_,_,_] rfl rfl fun K hK=>?_);(repeat (go_big_quiet_step (fail)));(refine qn hK fun K2 ag=>?_);clear hK K;go_wp2_with fail;refine(eX _ _ _ (VW.o.ext (Kp.refl _ _).drew) ⟨ok,on⟩).mono ?_;rintro e w7 ⟨rfl,Qf,yE⟩;have A8:Zs (LC l p w6 w7):=Ys ((LC.refl VW.o).drew.step Qf yE);clear Qf yE;cases ek:M.bI p ⟨ok,on⟩
      · have HR:Zs (M.gm p hs=false):=Ys (F7.bad HO.o (by rw[ek];rfl));clear ek;go_wp2_with fail;(refine kk ax ag A8.o ?_);clear ag K2;(refine dn [_,_,_,_,_,_,_,_] rfl rfl fun K hK=>?_);(repeat (go_big_quiet_step (fail)));(refine qn hK fun K2 ag=>?_);clear hK K;go_wp2_with fail;(refine kk ax ag A8.o ?_);clear ag K2;(refine fq [_,_,_] rfl rfl fun K hK=>?_);(repeat (go_big_quiet_step (fail)));(refine qn hK ?_);clear hK K;go_wp2_with fail;go_ret;exact⟨ae HR.o.symm,gF.o _ A8.o⟩
      · have zR:=Ys ek;clear ek;go_wp2_with fail;(refine kk ax ag A8.o ?_);clear ag K2;(refine dn [_,_,_,_,_,_,_,_] rfl rfl fun K hK=>?_);(repeat (go_big_quiet_step (fail)));(refine qn hK fun K2 ag=>?_);clear hK K;go_wp2_with fail;refine(oK _ _ _ A8.o.at_ ⟨ok,on⟩).mono ?_;rintro e w8 ⟨⟨v8,rfl,hs8⟩,hL8,Gx⟩;obtain⟨a8,c8,rfl, -,hn8⟩:=hs8.form;have Ia:Zs (LC l p w6 w8):=Ys (A8.o.step hL8 Gx);clear hs8 hL8 Gx;by_cases ZF:xq.length=(M.layout p ⟨ok,on⟩).length
        · have hb8:((xq.length:Int) !=(M.layout p ⟨ok,on⟩).length)=false:=by simp[ZF]
          have HL8:=Ys ZF;clear ZF;go_wp2_with fail;(refine kk ax ag Ia.o ?_);clear ag K2;(refine fq [_,_,_] rfl rfl fun K hK=>?_);(repeat (go_big_quiet_step (fail)));(refine qn hK ?_);clear hK K;have q2:=(bV.o.kp Ia.o.kp (by omega)).c 2 (.slice fa xq.length fc) rfl;have qz:=(bV.o.kp Ia.o.kp (by omega)).lt;clear r0 r1 r2 ax;go_wp2_with fail;refine(vJ _ (· <l.O) _ xq (SliceOf.lc ig.stays HF.o Ia.o) hs.length).mono ?_;rintro e w9 ⟨rfl,jV⟩;have Je:=Ys (Ia.o.ext jV);clear jV;cases nU:xq.all (M.aR · hs.length)
          · have HR:Zs (M.gm p hs=false):=Ys (F7.bad HO.o (by simp only[nU,Bool.and_false]));clear nU;go_wp2_with fail;go_ret;exact⟨ae HR.o.symm,gF.o _ Je.o⟩
          · have HT:Zs ((M.bI p ⟨ok,on⟩&&decide (xq.length=(M.layout p ⟨ok,on⟩).length)&&xq.all (M.aR · hs.length))=true):=Ys (by rw[zR.o,nU,decide_eq_true HL8.o];rfl);clear nU;go_wp2_with fail;exact⟨⟨q+1,by omega,by go_num,gF.o _ Je.o,Ys (all_succ HQ.o HO.o HT.o)⟩,by simp[intOf];omega⟩
        · have hb8:((xq.length:Int) !=(M.layout p ⟨ok,on⟩).length)=true:=bne_iff_ne.2 (by omega);have HR:Zs (M.gm p hs=false):=Ys (F7.bad HO.o (by simp only[decide_eq_false ZF,Bool.and_false,Bool.false_and]));clear ZF;go_wp2_with fail;(refine kk ax ag Ia.o ?_);clear ag K2;(refine fq [_,_,_] rfl rfl fun K hK=>?_);(repeat (go_big_quiet_step (fail)));(refine qn hK ?_);clear hK K;go_wp2_with fail;go_ret;exact⟨ae HR.o.symm,gF.o _ Ia.o⟩
    · have HR:Zs (M.gm p hs=true):=Ys (by rw[HV.o];exact iH HQ.o (by omega));clear hC;go_wp2_with fail;go_ret;exact⟨ae HR.o.symm,HC.o⟩
theorem pG(w:World)(l:au)(p:M.ai)(h:aj w l p)(m:M.jR):
    Calls Tryz.prog 18 #[.pointer (some ⟨l.L,0,none⟩),.agg #[.int .i64 m.of.keeper,.string m.of.name,.int .i64 m.at_]] w fun e w'=>
     e=.returned (.bool (M.bM p m))∧aj w' l p∧Kp (·=l.D) w w':=by
 have Fz:=h.Cg;have aM:Ext w (w.alloc (.cells #[.int .i64 m.of.keeper,.string m.of.name,.int .i64 m.at_] 53)):=kx;have b3:=(az.new w 53 #[.int .i64 m.of.keeper,.string m.of.name,.int .i64 m.at_]);obtain⟨T,f,jy,HT⟩:=gy.ex (LC l p (w.alloc (.cells #[.int .i64 m.of.keeper,.string m.of.name,.int .i64 m.at_] 53))) _ (LC.refl (h.ext aM));have q0:=fun s=>(b3.kp (HT.aK s).kp (by omega)).c 0 (.int .i64 m.of.keeper) rfl;have q1:=fun s=>(b3.kp (HT.aK s).kp (by omega)).c 1 (.string m.of.name) rfl;have q2:=fun s=>(b3.kp (HT.aK s).kp (by omega)).c 2 (.int .i64 m.at_) rfl;have HL0:=Ys (h.ext aM);have H0:=Ys h;have ax:=Ys HT;have bW:=Ys aM;have FIN:Zs (∀s,aj (f s) l p∧Kp (·=l.D) w (f s)):=Ys (fun s=>⟨(HT.aK s).at_,bW.o.any.trans (HT.aK s).kp⟩);clear b3 Fz h aM HT;cases hc:M.bI p m.of
 · have HV:Zs (M.bM p m=false):=Ys (by unfold M.bM;rw[hc];rfl);have HC:=Ys hc;clear hc;go_enter Tryz.func18,Tryz.ntmps18;go_wp2;(refine O0 ax ?_ ?_);rotate_left;(repeat (go_big_quiet_step ((go_at_call 34;refine(eX _ _ _ (ax.o.aK _).at_ m.of).mono ?_;rintro e w1 ⟨rfl,vV,j3⟩;rw[HC.o];exact⟨rfl,ax.o.o w1 ((ax.o.aK _).step vV j3)⟩))));(refine wpQuiet_nil ?_);(rintro _ ⟨sW,rfl⟩);rotate_left
   · exact(LC.refl HL0.o).drew
   go_wp2;go_ret;exact⟨ae HV.o.symm,FIN.o sW⟩
 · have HC:=Ys hc;clear hc;by_cases h0:m.at_ <0
   · have HV:Zs (M.bM p m=false):=Ys (by unfold M.bM;rw[HC.o,decide_eq_false (p:=0≤m.at_) (by omega)];rfl);go_enter Tryz.func18,Tryz.ntmps18;go_wp2;have hd:decide (0≤m.at_)=false:=decide_eq_false (by omega);(refine O0 ax ?_ ?_);rotate_left;(repeat (go_big_quiet_step ((go_at_call 34;refine(eX _ _ _ (ax.o.aK _).at_ m.of).mono ?_;rintro e w1 ⟨rfl,vV,j3⟩;rw[HC.o];exact⟨rfl,ax.o.o w1 ((ax.o.aK _).step vV j3)⟩))));(refine wpQuiet_nil ?_);(rintro _ ⟨sW,rfl⟩);rotate_left
     · exact(LC.refl HL0.o).drew
     go_wp2;go_ret;exact⟨ae HV.o.symm,FIN.o sW⟩
   · obtain⟨c,ek⟩:=M.fJ (M.sQ HC.o).2;obtain⟨cs,bE,jW⟩:=mr _ l p HL0.o m.of.keeper m.of.name c ek;obtain⟨a1,c1,a2,c2,rfl⟩:=bE.form;have FD:∀W,(Instr.field 38 (.agg #[.string c.name,.string c.aW,.slice a1 c.fields.length c1,.slice a2 c.methods.length c2]) 3).run Tryz.prog W=.ok (.slice a2 c.methods.length c2) W:=(fun W=>by kernel_rfl);have KH:=Ys jW;have Yk:0≤m.at_:=by omega
     have HV:Zs (M.bM p m=decide (m.at_ <c.methods.length)):=Ys (by
      unfold M.bM;rw[HC.o,decide_eq_true (p:=0≤m.at_) (by omega)];have:M.cls p m.of=c:=by unfold M.cls;rw[ek];rfl
      rw[this];rfl)
     clear ek bE jW h0;go_enter Tryz.func18,Tryz.ntmps18;go_wp2;have hd:decide (0≤m.at_)=true:=decide_eq_true Yk;(refine O0 ax ?_ ?_);rotate_left;(repeat (go_big_quiet_step (first|(go_at_call 34;refine(eX _ _ _ (ax.o.aK _).at_ m.of).mono ?_;rintro e w1 ⟨rfl,vV,j3⟩;rw[HC.o];exact⟨rfl,ax.o.o w1 ((ax.o.aK _).step vV j3)⟩)|(go_at_call 35;refine(KH.o _ (ax.o.aK _).kp).mono ?_;rintro e w1 ⟨rfl,aZ⟩;exact⟨rfl,ax.o.o w1 ((ax.o.aK _).ext aZ)⟩))));(refine wpQuiet_nil ?_);(rintro _ ⟨sW,rfl⟩);rotate_left
     · exact(LC.refl HL0.o).drew
     go_wp2;go_ret;exact⟨ae HV.o.symm,FIN.o sW⟩
theorem AQ(w:World)(l:au)(p:M.ai)(h:aj w l p)(x:M.Fr)(cs:List Value)(hx:KE w (· <l.O) x cs)(n:Nat):
    Calls Tryz.prog 40 #[.pointer (some ⟨l.L,0,none⟩),.agg cs.toArray,.int .i64 n] w fun e w'=>e=.returned (.bool (M.cZ p x n))∧LC l p w w':=by
 obtain⟨⟨⟨xk,xn⟩,xa⟩,pc,lo,st⟩:=x;obtain⟨vl,vs,rfl,hl,hs⟩:=hx;obtain⟨la,lc,rfl,hln,RV⟩:=hl.form;obtain⟨sa,sc,rfl,hsn,hsc⟩:=hs.form;obtain⟨w4,qR,dN,b4⟩:=nu w #[.int .i64 xk,.string xn,.int .i64 xa,.int .i64 pc,.slice la lo.length lc,.slice sa st.length sc] 121;have Fz:=h.Cg;have rX:=h.ord;have y0:=b4.c 0 (.int .i64 xk) rfl;have y1:=b4.c 1 (.string xn) rfl;have y2:=b4.c 2 (.int .i64 xa) rfl;have yz:=b4.lt;have HL:=Ys (h.ext dN);have iM:=Ys dN;have nQ:=Ys b4;have BX:=Ys qR;have HLO:=Ys (hl.ext ig.stays dN);have qN:=Ys (hs.ext ig.stays dN);have Li:=Ys ((LC.refl h).ext dN);have El:∀W,LC l p w4 W→LC l p w W:=fun _ hx=>(LC.refl h).ext dN |>.step hx.at_ hx.kp;have gF:=Ys El;simp only at hl hs;clear h dN b4 qR El hl hs;go_enter Tryz.func40,Tryz.ntmps40;go_wp2_with fail;rw[←BX.o];refine(pG _ _ _ HL.o ⟨⟨xk,xn⟩,xa⟩).mono ?_;rintro e w5 ⟨rfl,OI,ql⟩;have HC5:Zs (LC l p w4 w5):=Ys ((LC.refl HL.o).step OI ql);have b5:=nQ.o.kp ql (by omega);have ru:=Ys b5;clear OI ql y0 y1 y2 yz;have y0:=b5.c 0 (.int .i64 xk) rfl;have y1:=b5.c 1 (.string xn) rfl;have y2:=b5.c 2 (.int .i64 xa) rfl;have yz:=b5.lt;clear b5;cases U4:M.bM p ⟨⟨xk,xn⟩,xa⟩
 · have HR:Zs (M.cZ p ⟨⟨⟨xk,xn⟩,xa⟩,pc,lo,st⟩ n=false):=Ys (by unfold M.cZ;simp only[U4,Bool.false_and]);clear U4;go_wp2_with fail;go_ret;exact⟨ae HR.o.symm,gF.o _ HC5.o⟩
 have HHM:=Ys U4;obtain⟨m,hm⟩:∃m,M.method p ⟨⟨xk,xn⟩,xa⟩=m:=⟨_,rfl⟩;have qp:m.code.length≤16:=by rw[←hm];exact(M.ll (M.fH HL.o.ok U4).1).code
 have HV:Zs (M.cZ p ⟨⟨⟨xk,xn⟩,xa⟩,pc,lo,st⟩ n=(decide (0≤pc)&&decide (pc<m.code.length)&&decide ((lo.length:Int)=m.locals)&&decide ((st.length:Int)≤m.stack)&&lo.all (M.aR · n)&&st.all (M.aR · n))):=Ys (by
  unfold M.cZ;simp only[U4,hm,Bool.true_and])
 have xG:=dK w5 l p HC5.o.at_ ⟨⟨xk,xn⟩,xa⟩ U4;rw[hm]at xG;have Aj:=Ys xG;clear U4 hm xG;go_wp2_with fail;refine Aj.o.mono ?_;rintro e w6 ⟨⟨cs,jk,rfl⟩,iZ⟩;obtain⟨t2,rfl⟩:=gP jk;obtain⟨w7,Bt⟩:∃w7,w7=w6.alloc (.cells (eG m t2).toArray 34):=⟨_,rfl⟩;have Av:Ext w6 w7:=by rw[Bt];exact kx
 have b7:az w7 w6.heap.size 34 (eG m t2).toArray:=by rw[Bt];exact az.new _ _ _
 have b47:=ru.o.ext (iZ.trans Av);have A8:Zs (LC l p w4 w7):=Ys (HC5.o.ext (iZ.trans Av));have XV:=ru.o.ext iZ;have y3:=XV.c 3 (.int .i64 pc) rfl;have y4:=XV.c 4 (.slice la lo.length lc) rfl;have y5:=XV.c 5 (.slice sa st.length sc) rfl;have yz7:=XV.lt;have wO:=Ys b47;have KP:=Ys Bt;clear jk iZ Bt Av b7 b47 XV y0 y1 y2 yz Aj;simp only[eG];unfold eG at KP;have aaN:∀{b:Bool},M.cZ p ⟨⟨⟨xk,xn⟩,xa⟩,pc,lo,st⟩ n=b→b=false→M.cZ p ⟨⟨⟨xk,xn⟩,xa⟩,pc,lo,st⟩ n=false:=fun h e=>h.trans e;by_cases WB:pc<0
 · have acK:decide (pc<0)=true:=decide_eq_true WB;have HR:Zs (M.cZ p ⟨⟨⟨xk,xn⟩,xa⟩,pc,lo,st⟩ n=false):=Ys (by rw[HV.o,decide_eq_false (p:=0≤pc) (by omega)];simp only[Bool.false_and]);clear WB;go_wp2_with fail;go_ret;rw[←KP.o];exact⟨ae HR.o.symm,gF.o _ A8.o⟩
 have acK:decide (pc<0)=false:=decide_eq_false WB;by_cases ZU:(m.code.length:Int)≤pc
 · have acL:decide ((m.code.length:Int)≤pc)=true:=decide_eq_true ZU;have HR:Zs (M.cZ p ⟨⟨⟨xk,xn⟩,xa⟩,pc,lo,st⟩ n=false):=Ys (by rw[HV.o,decide_eq_false (p:=pc<m.code.length) (by omega)];simp only[Bool.false_and,Bool.and_false]);clear WB ZU;go_wp2_with fail;go_ret;rw[←KP.o];exact⟨ae HR.o.symm,gF.o _ A8.o⟩
 have acL:decide ((m.code.length:Int)≤pc)=false:=decide_eq_false ZU;have HP:Zs (0≤pc∧pc<m.code.length):=Ys (by omega);clear WB ZU;by_cases rC:(lo.length:Int)=m.locals;rotate_left
 · have acB:((lo.length:Int) !=m.locals)=true:=bne_iff_ne.2 rC;have HR:Zs (M.cZ p ⟨⟨⟨xk,xn⟩,xa⟩,pc,lo,st⟩ n=false):=Ys (by rw[HV.o,decide_eq_false (p:=(lo.length:Int)=m.locals) rC];simp only[Bool.false_and,Bool.and_false]);clear rC;go_wp2_with fail;go_ret;rw[←KP.o];exact⟨ae HR.o.symm,gF.o _ A8.o⟩
 have acB:((lo.length:Int) !=m.locals)=false:=by simp[rC]
 have uK:=Ys rC;clear rC;by_cases bU:m.stack<(st.length:Int)
 · have QA:decide (m.stack<(st.length:Int))=true:=decide_eq_true bU;have HR:Zs (M.cZ p ⟨⟨⟨xk,xn⟩,xa⟩,pc,lo,st⟩ n=false):=Ys (by rw[HV.o,decide_eq_false (p:=(st.length:Int)≤m.stack) (by omega)];simp only[Bool.false_and,Bool.and_false]);clear bU;go_wp2_with fail;go_ret;rw[←KP.o];exact⟨ae HR.o.symm,gF.o _ A8.o⟩
 have QA:decide (m.stack<(st.length:Int))=false:=decide_eq_false bU;replace HV:Zs (M.cZ p ⟨⟨⟨xk,xn⟩,xa⟩,pc,lo,st⟩ n=(lo.all (M.aR · n)&&st.all (M.aR · n))):=Ys (by
  rw[HV.o,decide_eq_true HP.o.1,decide_eq_true HP.o.2,decide_eq_true uK.o,decide_eq_true (p:=(st.length:Int)≤m.stack) (by omega)];simp only[Bool.true_and])
 clear bU;go_wp2_with fail;rw[←KP.o];refine(vJ _ (· <l.O) _ lo (SliceOf.lc ig.stays HLO.o A8.o) n).mono ?_;rintro e w8 ⟨rfl,lC⟩;have Ia:=Ys (A8.o.ext lC);have b48:=wO.o.ext lC;have x5:=b48.c 5 (.slice sa st.length sc) rfl;have xz:=b48.lt;clear b48 lC;cases mh:lo.all (M.aR · n)
 · have HR:Zs (M.cZ p ⟨⟨⟨xk,xn⟩,xa⟩,pc,lo,st⟩ n=false):=Ys (by rw[HV.o,mh];rfl);clear mh;go_wp2_with fail;go_ret;exact⟨ae HR.o.symm,gF.o _ Ia.o⟩
 · have HR:Zs (M.cZ p ⟨⟨⟨xk,xn⟩,xa⟩,pc,lo,st⟩ n=st.all (M.aR · n)):=Ys (by rw[HV.o,mh];rfl);clear mh;go_wp2_with fail;refine(vJ _ (· <l.O) _ st (SliceOf.lc ig.stays qN.o Ia.o) n).mono ?_;rintro e w9 ⟨rfl,jV⟩;have Je:=Ys (Ia.o.ext jV);clear jV;go_wp2_with fail;go_ret;exact⟨ae HR.o.symm,gF.o _ Je.o⟩
theorem af.six{w:World}{b o:Nat}{x0 x1 x2 x3 x4 x5:Value}(h:af w b o [x0,x1,x2,x3,x4,x5]):
    w.cell? ⟨b,o,none⟩=some x0∧w.cell? ⟨b,o+1,none⟩=some x1∧w.cell? ⟨b,o+2,none⟩=some x2∧w.cell? ⟨b,o+3,none⟩=some x3∧
    w.cell? ⟨b,o+4,none⟩=some x4∧w.cell? ⟨b,o+5,none⟩=some x5:=
 ⟨by simpa using h 0 x0 rfl,h 1 x1 rfl,h 2 x2 rfl,h 3 x3 rfl,h 4 x4 rfl,h 5 x5 rfl⟩
theorem M.Oh{p:M.ai}{s:M.St}:M.zL p s=true↔(1≤s.status∧s.status≤10)∧s.heap.length≤12∧s.outs.length≤40∧s.frames.length≤8∧(decide (0<s.frames.length)=decide (s.status=1))∧s.outs.all M.dw=true∧
    s.frames.all (M.cZ p · s.heap.length)=true∧M.gm p s.heap=true∧M.aR s.back s.heap.length=true:=by
 unfold M.zL;simp only[Bool.and_eq_true,decide_eq_true_eq,beq_iff_eq];constructor
 · rintro⟨⟨⟨⟨⟨⟨⟨⟨⟨a,b⟩,c⟩,d⟩,e⟩,f⟩,g⟩,h⟩,i⟩,j⟩;exact⟨⟨a,b⟩,c,d,e,f,g,h,i,j⟩
 · rintro⟨⟨a,b⟩,c,d,e,f,g,h,i,j⟩;exact⟨⟨⟨⟨⟨⟨⟨⟨⟨a,b⟩,c⟩,d⟩,e⟩,f⟩,g⟩,h⟩,i⟩,j⟩
theorem Hh (w : World) (l : au) (p : M.ai) (h : aj w l p) (s : M.St) (cs : List Value) (hs : cO w (· < l.O) s cs) :
    Calls Tryz.prog 20 #[.pointer (some ⟨l.L,0,none⟩),.agg cs.toArray] w fun e w'=>e=.returned (.bool (M.zL p s))∧LC l p w w':=by
 obtain⟨a1,c1,a2,c2,a3,c3,rfl,h1,h2,h3⟩:=hs.form;clear hs;obtain⟨st,rA,hp,outs,⟨bk,bn⟩⟩:=s;simp only at h1 h2 h3 ⊢;obtain⟨w3,hZ,dA,b3⟩:=nu w #[.int .i64 st,.slice a1 rA.length c1,.slice a2 hp.length c2,.slice a3 outs.length c3,.int .i64 bk,.int .i64 bn] 65;have Fz:=h.Cg;have rX:=h.ord;obtain⟨v,hv⟩:∃v,M.zL p ⟨st,rA,hp,outs,⟨bk,bn⟩⟩=v:=⟨_,rfl⟩;have HV0:=Ys hv;have HI:=Ys (M.Oh (p:=p) (s:=⟨st,rA,hp,outs,⟨bk,bn⟩⟩));rw[hv]at HI ⊢;simp only at HI;have y0:=b3.c 0 (.int .i64 st) rfl;have y1:=b3.c 1 (.slice a1 rA.length c1) rfl;have y2:=b3.c 2 (.slice a2 hp.length c2) rfl;have y3:=b3.c 3 (.slice a3 outs.length c3) rfl;have yz:=b3.lt;have HL:=Ys (h.ext dA);have gW:=Ys b3;have kK:=Ys hZ;have H1:=Ys (h1.ext KE.stays dA);have H2:=Ys (h2.ext rQ.stays dA);have H3:=Ys (h3.ext kL.stays dA);have kP:=h1.form;have uV:=h2.form;have Wz:=h3.form;obtain⟨_,_,e1,yI,hm1⟩:=kP;cases e1;obtain⟨_,_,e2,DD,RX⟩:=uV;cases e2;obtain⟨_,_,e3,U5,Wy⟩:=Wz;cases e3;have El:∀W,LC l p w3 W→LC l p w W:=fun _ hx=>(LC.refl h).ext dA |>.step hx.at_ hx.kp;have gF:=Ys El;clear hv h dA b3 hZ h1 h2 h3 El;go_enter Tryz.func20,Tryz.ntmps20;by_cases s1:st<1
 · have s1':decide (st<1)=true:=decide_eq_true s1;have HR:Zs (false=v):=Ys (by cases v;rfl;have:=HI.o.1 rfl;omega);clear s1;go_wp2_with fail;go_ret;rw[←kK.o];exact⟨ae HR.o,gF.o _ (LC.refl HL.o)⟩
 have s1':decide (st<1)=false:=decide_eq_false s1;by_cases s2:10<st
 · have s2':decide (10<st)=true:=decide_eq_true s2;have HR:Zs (false=v):=Ys (by cases v;rfl;have:=HI.o.1 rfl;omega);clear s1 s2;go_wp2_with fail;go_ret;rw[←kK.o];exact⟨ae HR.o,gF.o _ (LC.refl HL.o)⟩
 have s2':decide (10<st)=false:=decide_eq_false s2;by_cases s3:12<hp.length
 · have s3':decide ((12:Int)<hp.length)=true:=decide_eq_true (by omega);have HR:Zs (false=v):=Ys (by cases v;rfl;have:=HI.o.1 rfl;omega);clear s1 s2 s3;go_wp2_with fail;go_ret;rw[←kK.o];exact⟨ae HR.o,gF.o _ (LC.refl HL.o)⟩
 have s3':decide ((12:Int)<hp.length)=false:=decide_eq_false (by omega);by_cases s4:40<outs.length
 · have s4':decide ((40:Int)<outs.length)=true:=decide_eq_true (by omega);have HR:Zs (false=v):=Ys (by cases v;rfl;have:=HI.o.1 rfl;omega);clear s1 s2 s3 s4;go_wp2_with fail;go_ret;rw[←kK.o];exact⟨ae HR.o,gF.o _ (LC.refl HL.o)⟩
 have s4':decide ((40:Int)<outs.length)=false:=decide_eq_false (by omega);by_cases s5:8<rA.length
 · have s5':decide ((8:Int)<rA.length)=true:=decide_eq_true (by omega);have HR:Zs (false=v):=Ys (by cases v;rfl;have:=HI.o.1 rfl;omega);clear s1 s2 s3 s4 s5;go_wp2_with fail;go_ret;rw[←kK.o];exact⟨ae HR.o,gF.o _ (LC.refl HL.o)⟩
 have s5':decide ((8:Int)<rA.length)=false:=decide_eq_false (by omega);have HS:Zs ((1≤st∧st≤10)∧hp.length≤12∧outs.length≤40∧rA.length≤8):=Ys (by omega);clear s1 s2 s3 s4 s5;obtain⟨b1,p8⟩:∃b,decide (0<rA.length)=b:=⟨_,rfl⟩;obtain⟨b2,iA⟩:∃b,decide (st=1)=b:=⟨_,rfl⟩;have e36:decide ((0:Int)<rA.length)=b1:=by rw[←p8];exact decide_eq_decide.2 (by omega)
 have e39:((st:Int)==1)=b2:=by rw[←iA];rfl
 by_cases RJ:b1=b2;rotate_left
 · have e41:(b1==b2)=false:=beq_eq_false_iff_ne.2 RJ;have e42:decide (0<rA.length)=b1:=p8;have HR:Zs (false=v):=Ys (by
    cases v
    · rfl
    · exact absurd (p8.symm.trans ((HI.o.1 rfl).2.2.2.2.1.trans iA)) RJ)
   clear p8 iA RJ;go_wp2_with fail;go_ret;rw[←kK.o];exact⟨ae HR.o,gF.o _ (LC.refl HL.o)⟩
 have e41:(b1==b2)=true:=beq_iff_eq.2 RJ;have e42:decide (0<rA.length)=b1:=p8;have Xk:Zs (decide (0<rA.length)=decide (st=1)):=Ys (by rw[p8,iA,RJ]);clear p8 iA RJ;go_wp2_with fail;rw[←kK.o];clear e36 e39 e41 e42 s1' s2' s3' s4' s5';go_loopw [44] (fun i wr=>∃q:Nat,q≤outs.length∧i=.int .i64 q∧Ext w3 wr∧Zs ((outs.take q).all M.dw=true)) (fun i _=>outs.length - (intOf i).toNat)
 case atStart=>exact⟨0,Nat.zero_le _,rfl,Kp.refl _ _,Ys (by simp)⟩
 case round =>
  obtain⟨q,hq,rfl,hE,HQ⟩:=hrel;by_cases cK:q<outs.length
  · obtain⟨x,hx⟩:=gH outs q cK;obtain⟨b,off,cs,rfl,hI,rfl, -,hc⟩:=(H3.o.ext kL.stays hE).get hx;rw[Nat.mul_one]at hc;have g0:=hc.one;have gz:=aS g0;have HX:=Ys hx;have HE:=Ys hE;clear hx hc hE y0 y1 y2 y3;go_wp2_with fail;refine(Df x _).mono ?_;rintro e w4 ⟨rfl,rfl⟩;cases nT:(decide (-9999≤x)&&decide (x≤9999))
    · have HR:Zs (false=v):=Ys (by
       cases v
       · rfl
       · have h1:=(HI.o.1 rfl).2.2.2.2.2.1;have h2:=List.all_eq_true.1 h1 x (List.mem_of_getElem? HX.o);unfold M.dw at h2;rw[nT]at h2;cases h2)
      clear nT;go_wp2_with fail;go_ret;exact⟨ae HR.o,gF.o _ ((LC.refl HL.o).ext HE.o)⟩
    · have HN:Zs (M.dw x=true):=Ys nT;clear nT;go_wp2_with fail;exact⟨⟨q+1,by omega,by go_num,HE.o,Ys (all_succ HQ.o HX.o HN.o)⟩,by simp[intOf];omega⟩
  · have abI : Zs (outs.all M.dw = true) := Ys (iH HQ.o (by omega)); have HE := Ys hE; have x1 := (gW.o.ext hE).c 1 (.slice a1 rA.length c1) rfl; have xz1 := (gW.o.ext hE).lt; clear hE HQ y0 y1 y2 y3; go_wp2_with fail; obtain ⟨wo, rfl⟩ : ∃ wo : World, wo = wr := ⟨_, rfl⟩; go_loopw [55] (fun i wr => ∃ q : Nat, q ≤ rA.length ∧ i = .int .i64 q ∧ LC l p w3 wr ∧ Zs ((rA.take q).all (M.cZ p · hp.length) = true)) (fun i _ => rA.length - (intOf i).toNat)
    case atStart=>exact⟨0,Nat.zero_le _,rfl,(LC.refl HL.o).ext HE.o,Ys (by simp)⟩
    case round =>
     obtain⟨q,hq,rfl,hC,HQ⟩:=hrel;have HC:=Ys hC;by_cases cK:q<rA.length
     · obtain⟨x,hx⟩:=gH rA q cK;obtain⟨b,off,cs,rfl,hI,je, -,hc⟩:=(SliceOf.lc KE.stays H1.o hC).get hx;have acn:=je;obtain⟨vl,vs,rfl,hl,hs⟩:=acn;obtain⟨la,lc,rfl,hln,RV⟩:=hl.form;obtain⟨sa,sc,rfl,hsn,hsc⟩:=hs.form;obtain⟨g0,g1,g2,g3,g4,g5⟩:=hc.six;have gz:=aS g0;obtain⟨w8,wu,lC,b8⟩:=nu wr #[.int .i64 x.of.of.keeper,.string x.of.of.name,.int .i64 x.of.at_,.int .i64 x.pc,.slice la x.locals.length lc,.slice sa x.stack.length sc] 121;have k0:=b8.c 0 (.int .i64 x.of.of.keeper) rfl;have k1:=b8.c 1 (.string x.of.of.name) rfl;have k2:=b8.c 2 (.int .i64 x.of.at_) rfl;have k3:=b8.c 3 (.int .i64 x.pc) rfl;have k4:=b8.c 4 (.slice la x.locals.length lc) rfl;have k5:=b8.c 5 (.slice sa x.stack.length sc) rfl;have kz:=b8.lt;have TU:=gW.o.kp hC.kp (by omega);have x2:=TU.c 2 (.slice a2 hp.length c2) rfl;have xz:=TU.lt;have HX:=Ys hx;have Xu:=Ys (KE.stays _ _ _ _ _ _ (Ext.same lC) (fun _ h=>h) je);have Ia:=Ys (hC.ext lC);have TL:=Ys wu;clear hx hc hC lC b8 TU wu je hl hs x1 xz1;go_wp2_with fail;rw[←TL.o];refine(AQ _ _ _ Ia.o.at_ x _ Xu.o hp.length).mono ?_;rintro e w9 ⟨rfl,YA⟩;have Je:Zs (LC l p w3 w9):=Ys (Ia.o.trans YA);clear YA;cases zY:M.cZ p x hp.length
       · have HR:Zs (false=v):=Ys (by
          cases v
          · rfl
          · have h1:=(HI.o.1 rfl).2.2.2.2.2.2.1;have h2:=List.all_eq_true.1 h1 x (List.mem_of_getElem? HX.o);rw[zY]at h2;cases h2)
         clear zY;go_wp2_with fail;go_ret;exact⟨ae HR.o,gF.o _ Je.o⟩
       · have HN:=Ys zY;clear zY;go_wp2_with fail;exact⟨⟨q+1,by omega,by go_num,Je.o,Ys (all_succ HQ.o HX.o HN.o)⟩,by simp[intOf];omega⟩
     · have abr : Zs (rA.all (M.cZ p · hp.length) = true) := Ys (iH HQ.o (by omega)); have TU := gW.o.kp hC.kp (by omega); have x2 := TU.c 2 (.slice a2 hp.length c2) rfl; have xz := TU.lt; clear hC HQ x1 xz1 TU; go_wp2_with fail; refine (CV _ _ _ HC.o.at_ _ hp (SliceOf.lc rQ.stays H2.o HC.o)).mono ?_; rintro e w9 ⟨rfl, YA⟩; have Je : Zs (LC l p w3 w9) := Ys (HC.o.trans YA); have XT := gW.o.kp Je.o.kp (by omega); have z2 := XT.c 2 (.slice a2 hp.length c2) rfl; have z4 := XT.c 4 (.int .i64 bk) rfl; have z5 := XT.c 5 (.int .i64 bn) rfl; have zz := XT.lt; clear YA x2 xz XT; cases hho : M.gm p hp
       · have HR:Zs (false=v):=Ys (by
          cases v
          · rfl
          · have h1:=(HI.o.1 rfl).2.2.2.2.2.2.2.1;rw[hho]at h1;cases h1)
         clear hho;go_wp2_with fail;go_ret;exact⟨ae HR.o,gF.o _ Je.o⟩
       · have HHO:=Ys hho;clear hho;go_wp2_with fail;refine(Fe _ ⟨bk,bn⟩ hp.length).mono ?_;rintro e dR ⟨rfl,iy⟩;have aa7:=Ys (Je.o.ext iy);clear iy
         have HR:Zs (M.aR ⟨bk,bn⟩ hp.length=v):=Ys (by
          have hi:=HI.o;rw[HHO.o,abI.o,abr.o]at hi;have hs:=HS.o;have hb:=Xk.o;cases nU:M.aR ⟨bk,bn⟩ hp.length
          · cases v
            · rfl
            · have:=(hi.1 rfl).2.2.2.2.2.2.2.2;rw[nU]at this;cases this
          · exact(hi.2 ⟨hs.1,hs.2.1,hs.2.2.1,hs.2.2.2,hb,rfl,rfl,rfl,nU⟩).symm)
         go_wp2_with fail;go_ret;exact⟨ae HR.o,gF.o _ aa7.o⟩
theorem SliceOf.vals{w:World}{I:Nat→Prop}{v:Value}{xs:List M.Val}(h:SliceOf 2 ig w I v xs):Flat w 2 v xs.length (xs.flatMap bq):=SliceOf.toFlat (enc:=bq) (fun _ _ _ _ h=>h) (fun _=>rfl) oN h
theorem SliceOf.ints{w:World}{I:Nat→Prop}{v:Value}{xs:List Int}(h:SliceOf 1 kL w I v xs):Flat w 1 v xs.length (xs.flatMap nH):=SliceOf.toFlat (enc:=nH) (fun _ _ _ _ h=>h) (fun _=>rfl) xN h
theorem Own.more{w w':World}{own:Own}{B e k n:Nat}{v:Value}{xs:List Value}(hd:∀b,own b≠none→B≤b∧b<w.heap.size)(aU:w'.ownsRow w.heap.size e k v n xs)(hs:w.heap.size≤w'.heap.size)(hB:B≤w.heap.size)(r:Nat×Nat):
    ∃dO:Own,(∀b q,own b=some q→dO b=some q)∧(∀b,dO b≠none→B≤b∧b<w'.heap.size)∧eu w' dO B r e k v n xs∧eF w.heap.size own dO∧(∀b q,dO b=some q→own b=some q∨q=r):=by
 cases he:v.ownBlock with
 |none=>exact⟨own,fun _ _ h=>h,fun b hb=>⟨(hd b hb).1,Nat.lt_of_lt_of_le (hd b hb).2 hs⟩,⟨dJ aU hB,fun b hb=>by rw[he]at hb;cases hb⟩,eF.refl _ _,fun _ _ h=>.inl h⟩
 | some g =>
  have hg:=aU.lt g he;have hn:own g=none:=by
   cases e2:own g with
   |none=>rfl
   |some q=>have:=(hd g (by rw[e2];simp)).2;omega
  refine⟨own.add g r,fun b q hb=>?_,fun b hb=>?_,⟨dJ aU hB,fun b hb=>?_⟩,Own.qO (.inr hg.1),fun b q hb=>?_⟩
  · rw[Own.dV _ (fun e3=>by subst e3;rw[hn]at hb;cases hb)];exact hb
  · by_cases e3:b=g
    · subst e3;exact⟨by omega,hg.2⟩
    · rw[Own.dV _ e3]at hb;exact⟨(hd b hb).1,Nat.lt_of_lt_of_le (hd b hb).2 hs⟩
  · rw[he]at hb;cases hb;exact Own.add_eq _ _ _
  · by_cases e3:b=g
    · subst e3;rw[Own.add_eq]at hb;cases hb;exact .inr rfl
    · rw[Own.dV _ e3]at hb;exact .inl hb
theorem eu.app{w w':World}{own:Own}{B e k n m g' c':Nat}{r:Nat×Nat}{v:Value}{xs ys:List Value}(h:eu w own B r e k v n xs)(hd:∀b,own b≠none→B≤b∧b<w.heap.size)(ho:w'.ownsRow B e k (.slice (some ⟨g',0,none⟩) m c') m ys)
    (hk:Kp (fun b=>v.ownBlock=some b) w w') (hg:v.ownBlock=some g'∨w.heap.size≤g'):
    eu w' (own.add g' r) B r e k (.slice (some ⟨g',0,none⟩) m c') m ys∧eF w.heap.size own (own.add g' r)∧(∀b,own.add g' r b≠none→B≤b∧b<w'.heap.size)∧(∀b q,own.add g' r b=some q→own b=some q∨q=r):=
 ⟨⟨ho,fun b hb=>by cases hb;exact Own.add_eq _ _ _⟩,Own.qO (hg.imp (h.role _) id),fun b hb=>by
  by_cases e3:b=g'
  · subst e3;exact ho.lt b rfl
  · rw[Own.dV _ e3]at hb;exact⟨(hd b hb).1,Nat.lt_of_lt_of_le (hd b hb).2 hk.size⟩,fun b q hb=>by
  by_cases e3:b=g'
  · subst e3;rw[Own.add_eq]at hb;cases hb;exact .inr rfl
  · rw[Own.dV _ e3]at hb;exact .inl hb⟩
theorem eu.beside{w w':World}{own own':Own}{B e k n e2 k2 n2:Nat}{r r2:Nat×Nat}{v v2:Value}{xs xs2:List Value}(h:eu w own B r e k v n xs)(h2:eu w own B r2 e2 k2 v2 n2 xs2)(hk:Kp (fun b=>v.ownBlock=some b) w w')(ha:eF w.heap.size own own')(hr:r≠r2):eu w' own' B r2 e2 k2 v2 n2 xs2:=
 h2.keep hk ha fun b hb _ e=>hr (by have:=h.role b e;rw[hb]at this;cases this;rfl)
structure jh(w:World)(own:Own)(B:Nat)(v:Value)(os:List GO):Prop where
 dom:∀b,own b≠none→B≤b∧b<w.heap.size
 row:eu w own B (2,0) 174 3 v os.length (os.flatMap iD)
 obj:∀j o,os[j]?=some o→eu w own B (7,j) 63 2 o.v o.o.fields.length (o.o.fields.flatMap bq)
 I6:∀b q,own b=some q→q=(2,0)∨∃j,q=(7,j)
theorem jh.nil(w:World)(B:Nat):jh w (fun _=>none) B (.slice none 0 0) []:=
 ⟨fun b h=>absurd rfl h,eu.nil _ _ _ _ _ _,fun j o h=>by simp at h,fun b q h=>by cases h⟩
theorem jh.slice{w:World}{own:Own}{B:Nat}{v:Value}{os:List GO}(h:jh w own B v os){I:Nat→Prop}(hI:∀b,B≤b→b<w.heap.size→I b)(hl:os.length≤4294967296)(hf:∀o∈os,o.o.fields.length≤4294967296):SliceOf 3 rQ w I v (os.map GO.o):=by
 have hex:∀{l:List GO},(∀(j:Nat) (o:GO),l[j]?=some o→SliceOf 2 ig w I o.v o.o.fields)→∀o∈l,SliceOf 2 ig w I o.v o.o.fields:=fun hl o ho=>by
  obtain⟨j,hj,e⟩:=List.getElem_of_mem ho;exact hl j o (by rw[List.getElem?_eq_getElem hj,e])
 have oq:=hex (l:=os) fun j o ho=>SliceOf.gT bq (h.obj j o ho).row rfl rfl (fun _ _=>rfl) (fun _ _=>rfl) (fun b h1 h2=>hI b h1 h2) (hf o (List.mem_of_getElem? ho));have hs:SliceOf 3 (fun w I (x:GO) cs=>SliceOf 2 ig w I x.v x.o.fields∧cs=iD x) w I v os:=
  SliceOf.gT iD h.row.row rfl rfl (fun _ _=>rfl) (fun o ho=>⟨oq o ho,rfl⟩) (fun b h1 h2=>hI b h1 h2) hl
 obtain⟨a,c,e,h1,h2,h3⟩:=hs;refine⟨a,c,by rw[e,List.length_map],by rw[List.length_map];exact h1,by rw[List.length_map];exact h2,fun i x hx=>?_⟩;rw[List.getElem?_map]at hx;cases hi:os[i]? with
 |none=>rw[hi]at hx;cases hx
 |some o=>
  rw[hi]at hx;cases hx;obtain⟨b,off,cs,ea,Dz,⟨oD,rfl⟩,hlen,hc⟩:=h3 i o hi;exact⟨b,off,_,ea,Dz,⟨o.v,rfl,oD⟩,hlen,hc⟩
end Go.Proofs.YtohpiobncgafeaaGreatDoor
