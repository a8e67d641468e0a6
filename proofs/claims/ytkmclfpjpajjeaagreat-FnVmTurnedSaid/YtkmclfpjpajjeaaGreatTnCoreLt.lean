/- Walks. -/
import Derived.Test.YtkmclfpjpajjeaaGreatTnCoreLs
set_option maxRecDepth 100000
set_option maxHeartbeats 4000000
set_option linter.unusedSimpArgs false
set_option linter.unusedVariables false
namespace Go.Proofs.YtkmclfpjpajjeaaGreat
open Go Go.RowKit
theorem Kb(w:World)(l:aH)(p:M.ax)(own:Own)(B mb:Nat)(lk:Bool)(g:Gh)(h:aI w l p own B mb lk g)(r:List GC)(c:GC)(cK:g.cs=r++[c])(st vs:List M.Val)(n:Nat)(dw:c.f.stack=st++vs)(hn:vs.length=n)(IV:0<n):
    Calls Tryz.prog 97 #[.pointer (some ⟨c.cb,13,none⟩),.int .i64 n] w fun e w'=>∃v',e=.returned (.tuple #[v',.bool true])∧w'.ownsRow w.heap.size 38 2 v' n (vs.flatMap bV)∧Kp (PO own (EP r.length)) w w'∧∃vs',aI w' l p own B mb lk (g.dD r c st vs'):=by
 have hc:=h.at_ cK;have lX:=M.aM.1 (h.DL cK);have hms:=(h.mi cK).stack;have vC:=lX.2.2.2.2.1;have hlen:c.f.stack.length=st.length+n:=by rw[dw];simp[hn]
 refine(oP w c.cb 13 B _ _ c.vs c.f.stack.length c.f.stack hc.blk rfl hc.dD.row rfl n Wg IV Wg (fun e=>by have:=hc.dD.role _ e;rw[hc.role]at this;cases this)).mono ?_;rintro e w' ⟨v',rfl,bN,⟨a,k,hv,hb⟩,hK⟩;rw[hlen]at hv;rw[hlen,Nat.add_sub_cancel]at hb;have e1:c.f.stack.drop (c.f.stack.length - n)=vs:=by rw[hlen,Nat.add_sub_cancel,dw,List.drop_left]
 rw[e1]at bN;obtain⟨h1,h2⟩:=h.popped cK hv ⟨vs,dw,hn⟩ IV hb hK;exact⟨v',rfl,bN,h.Ky cK (hK.weak fun b _ e=>.inl e),_,h2⟩
theorem XV (w : World) (l : aH) (p : M.ax) (own : Own) (B mb : Nat) (lk : Bool) (KL : Zs (lk = true → wJ)) (g : Gh) (h : aI w l p own B mb lk g) (r : List GC) (c : GC) (cK : g.cs = r ++ [c]) (dw : g.status = 1) (i : M.Ins) (hi : M.iZ (M.method p c.f.of) i = true) (fF : i.op = 9) :
    Calls Tryz.prog 61 #[.pointer (some ⟨mb,0,none⟩),.agg #[.int .i64 i.op,.int .i64 i.a,.string i.name,.string i.member]] w (cu w l p own B mb lk (.int .i64 (M.aO p lk i g.st).1) (M.aO p lk i g.st).2):=by
 have HI:=Z3 (M.lL hi);obtain⟨w0,bI,aU,b3⟩:=nu w #[.int .i64 i.op,.int .i64 i.a,.string i.name,.string i.member] 130;have vN:=Z3 (h.fresh (Nat.le_refl _));have Jj:Zs (∀b,w.heap.size≤b→¬MO l own b):=Z3 (fun b hb=>h.fresh hb);have adN:=h.dN.lt;have hDL:=h.dN.ord.2.2;have⟨Eb,bM,gN,dO,fE⟩:=kL (h.ext aU) aU b3 bI cK;have Md:=b3.lt;clear h aU b3 bI cK hi;obtain⟨⟨⟨⟨v0,v1⟩,v2⟩,cd⟩,hF⟩:∃F,M.call p c.f.of.of.keeper i.name i.member=F:=⟨_,rfl⟩
 have HV : Zs (M.aO p lk i g.st = if cd = 1 then (match M.gG ((M.method p ⟨⟨v0, v1⟩, v2⟩).args.length + 1) g.st with
     |some (vs,s1)=>if M.object p (vs.headD M.eU) ⟨v0,v1⟩ s1=1 then(match M.pick p (M.oD s1.heap (vs.headD M.eU).n) i.member with
         |some x=>M.enter p lk x vs s1
         |none=>(10,s1))else(M.object p (vs.headD M.eU) ⟨v0,v1⟩ s1,s1)
     |none=>(10,g.st))else(4,g.st)):=Z3 (by
  unfold M.aO;rw[fF];simp only[Gh.top fE.o,hF];rfl)
 have⟨HF,PU⟩:=aJ hF fF;clear fF;go_enter Tryz.func61,Tryz.ntmps61;go_wp2_with fail;rw[←dO.o];refine(eD _ _ _ _ _ _ _ _ Eb.o r c fE.o).mono ?_;rintro e w1 ⟨rfl,bH⟩;have HA:=Z3 (Eb.o.ext bH);have eQ:Zs (Ext w w1):=Z3 (bM.o.trans bH);have Bu:=Z3 (gN.o.ext bH);have CV:l.L<w1.heap.size:=HA.o.dN.lt;have KM:l.D<w1.heap.size:=by omega
 have aeM:w.heap.size<w1.heap.size:=Bu.o.lt;have Fz:∀W,LC l p w1 W→Calls Tryz.prog 40 #[.pointer (some ⟨l.L,0,none⟩),.int .i64 c.f.of.of.keeper,.string i.name,.string i.member] W fun e w'=>∃ev,e=.returned (.tuple #[.agg #[.int .i64 v0,.string v1,.int .i64 v2],ev])∧CB ev cd∧Kp (·=l.D) W w'∧LC l p w1 w':=fun W hW=>by
  have hl:=uI W l p hW.at_ c.f.of.of.keeper i.name i.member;rw[HF.o]at hl;refine hl.mono ?_;rintro e w' ⟨⟨ev,rfl,nN⟩,hL,hK⟩;exact⟨ev,rfl,nN.weak,hK,hW.step hL hK⟩
 have Aa := Z3 Fz; have HC : Zs (LC l p w1 w1.drew) := Z3 (LC.refl HA.o.dN).drew; obtain ⟨T, f, dA, HT⟩ := iN.ex (fun W' => LC l p w1 W') w1 (LC.refl HA.o.dN); have yX := fun z => (HA.o.kM (HT.aW z).kp (HT.aW z).at_).blk.c 0 (.pointer (some ⟨l.L, 0, none⟩)) rfl; obtain ⟨-, -, -, r32, QA, -⟩ := ay.kY fun z => (Bu.o.kp (HT.aW z).kp Wg); have aj := Z3 HT; clear HT Fz bH; go_wp2_with fail; rename_i K hK; have tail : ∀ (b6 : Nat) (w7 : World) (ev : Value), LC l p w1 w7 → ay w7 b6 94 #[.int .i64 v0, .string v1, .int .i64 v2] → w1.heap.size ≤ b6 → CB ev cd → K { tmps := #[.pointer (some ⟨mb, 0, none⟩), .agg #[.int .i64 i.op, .int .i64 i.a, .string i.name, .string i.member], undef, .pointer (some ⟨w.heap.size, 0, none⟩), .int .i64 0, .pointer (some ⟨c.cb, 0, none⟩), .pointer (some ⟨b6, 0, none⟩), ev, undef, undef, undef, undef, undef, .pointer (some ⟨mb, 0, none⟩), .pointer (some ⟨c.cb, 0, none⟩), .tuple #[.agg #[.int .i64 v0, .string v1, .int .i64 v2], ev], .pointer (some ⟨mb, 0, none⟩), .pointer (some ⟨mb, 0, none⟩), .pointer (some ⟨mb, 0, none⟩), .pointer (some ⟨l.L, 0, none⟩), .pointer (some ⟨c.cb, 0, none⟩), .int .i64 c.f.of.of.keeper, .pointer (some ⟨w.heap.size, 2, none⟩), .string i.name, .pointer (some ⟨w.heap.size, 3, none⟩), .string i.member, .tuple #[.agg #[.int .i64 v0, .string v1, .int .i64 v2], ev], .agg #[.int .i64 v0, .string v1, .int .i64 v2], ev, undef, undef, undef, undef, undef, undef, undef, undef, undef, undef, undef, undef, undef, undef, undef, undef, undef, undef, undef, undef, undef, undef, undef, undef, undef, undef, undef, undef, undef, undef, undef, undef, undef, undef, undef, undef, undef, undef, undef, undef, undef, undef, undef, undef, undef, undef, undef, undef, undef, undef, undef, undef, undef, undef, undef, undef, undef], defers := [] } w7 := by
  intro b6 w7 ev hC P9 pQ nN;refine hK _ _ ?_;clear hK aj yX r32 QA HC Aa;have Hg:=Z3 (HA.o.kM hC.kp hC.at_);have mh:Zs (Kp (MO l own) w w7):=Z3 (eQ.o.any.trans hC.mo);have⟨dL,aaK,HN6⟩:=bg P9 (Bu.o.kp hC.kp Wg) (Jj.o b6 Wg);clear hC P9;rcases nN with⟨rfl,rfl⟩|⟨hc,eb,rfl⟩;rotate_left
  · replace HV:Zs (M.aO p lk i g.st=(4,g.st)):=Z3 (by rw[HV.o,if_neg hc]);clear hc;go_wp2_with fail;go_ret;rw[HV.o];exact cu.mk' mh.o (iw.refl _ _) Hg.o rfl
  have BX:M.bP p ⟨⟨v0,v1⟩,v2⟩=true:=by
   have h1:(M.call p c.f.of.of.keeper i.name i.member).2=1:=by rw[HF.o]
   obtain⟨rr,Xg⟩:=M.l7 h1;rw[HF.o]at Xg;exact M.kW Xg
  have aaY := Z3 BX; have Bp : M.EO (M.method p ⟨⟨v0, v1⟩, v2⟩) := M.pG (M.ji Hg.o.dN.ok BX).1; obtain ⟨m, hm⟩ : ∃ m, M.method p ⟨⟨v0, v1⟩, v2⟩ = m := ⟨_, rfl⟩; have zC := fun W (hW : aC W l p) => fQ W l p hW ⟨⟨v0, v1⟩, v2⟩ BX; rw [hm] at Bp zC; replace HV : Zs (M.aO p lk i g.st = (match M.gG (m.args.length + 1) g.st with
   |some (vs,s1)=>if M.object p (vs.headD M.eU) ⟨v0,v1⟩ s1=1 then(match M.pick p (M.oD s1.heap (vs.headD M.eU).n) i.member with
       |some x=>M.enter p lk x vs s1
       |none=>(10,s1))else(M.object p (vs.headD M.eU) ⟨v0,v1⟩ s1,s1)
   |none=>(10,g.st))):=Z3 (by rw[HV.o,if_pos rfl,hm])
  have Oz:=Bp.Lj;have⟨Bh,HM⟩:=aJ zC hm;obtain⟨T,f,dA,HT⟩:=iN.ex (fun W'=>Kp (PO own (EP r.length)) w7 W') _ Kp.rr;have no:∀b q,own b=some q→¬EP r.length q→¬PO own (EP r.length) b:=fun b q hb hq ⟨q',h1,h2⟩=>by rw[hb]at h1;cases h1;exact hq h2
  have noN:∀b,¬MO l own b→¬PO own (EP r.length) b:=fun b hb hp=>hb hp.mo;have yX:=fun z=>(Hg.o.blk.kp (HT.aW z) (no _ _ Hg.o.role (by simp[EP]))).c 0 (.pointer (some ⟨l.L,0,none⟩)) rfl;obtain⟨-,NJ,QB,r62, -⟩:=ay.kY fun z=>(dL.o.kp (HT.aW z) (noN _ HN6.o));have aj:=Z3 HT;have fO:IntKind.i64.wrap ((m.args.length:Int)+1)=m.args.length+1:=IntWalk.i64_in _ Wg;clear HT BX Bp hm zC no noN;go_wp2_with fail;(refine eO aj 17 [([0,1,2,3,4,5,6,7],8),([9,10,11],12)] [13,14,15,16] ?_ ?_)
  · exact Kp.rr.drew
  refine iX ?_;intro K2 ag;go_wp2_with fail;refine(Bh.o _ (Hg.o.dN.ext Kp.rr.drew)).mono ?_;rintro e w8 ⟨⟨cs,mF,rfl⟩,lK⟩;obtain⟨t,rfl⟩:=jS mF;obtain⟨a1,c1,a2,c2,a3,c3⟩:=t;have lJ:Zs (Ext w7 w8):=Z3 (((Kp.refl _ w7).drew:Ext w7 _).trans lK);have zA:∀W,(Instr.field 106 (.agg (iC m ⟨a1,c1,a2,c2,a3,c3⟩).toArray) 1).run Tryz.prog W=.ok (.slice a1 m.args.length c1) W:=(fun W=>by kernel_rfl);simp only[iC]at zA ⊢;clear mF lK;go_wp2_with fail;(refine kk aj ag lJ.o.any ?_);clear ag K2;refine iX ?_;intro K2 ag;by_cases hlen:c.f.stack.length<m.args.length+1
  · replace HV:Zs (M.aO p lk i g.st=(10,g.st)):=Z3 (by rw[HV.o,Gh.yl fE.o hlen]);have hpn:=qO _ _ _ _ _ _ _ _ (Hg.o.ext lJ.o) r c fE.o (m.args.length+1) hlen Wg;have HPN:=Z3 hpn;clear hpn hlen;go_wp2_with fail;refine HPN.o.mono ?_;rintro e w9 ⟨rfl,rfl⟩;go_wp2_with fail;(refine kk aj ag lJ.o.any ?_);clear ag K2;(refine vI [_,_,_,_] rfl fun K hK=>?_);(repeat (go_big_quiet_step (fail)));(refine qn hK ?_);clear hK K;go_wp2_with fail;go_ret;rw[HV.o];exact cu.mk' (mh.o.trans lJ.o.any) (iw.refl _ _) (Hg.o.ext lJ.o) rfl
  · obtain ⟨st, vs, hs, C9⟩ : ∃ st vs, c.f.stack = st ++ vs ∧ vs.length = m.args.length + 1 :=
     ⟨c.f.stack.take (c.f.stack.length - (m.args.length+1)),c.f.stack.drop (c.f.stack.length - (m.args.length+1)),(List.take_append_drop _ _).symm,by rw[List.length_drop];omega⟩
    have xU:=(M.aM.1 (Hg.o.DL fE.o)).2.2.2.2.2.2;have HVS:Zs (∀v∈vs,M.bD v g.os.length=true):=Z3 (fun v hv=>by simpa [Gh.st]using xU v (by rw[hs];exact List.mem_append_right _ hv));have GU:Zs (∀vs',M.aO p lk i g.st=if M.object p (vs.headD M.eU) ⟨v0,v1⟩ (g.dD r c st vs').st=1 then(match M.pick p (M.oD g.st.heap (vs.headD M.eU).n) i.member with
        |some x=>M.enter p lk x vs (g.dD r c st vs').st
        |none=>(10,(g.dD r c st vs').st))else(M.object p (vs.headD M.eU) ⟨v0,v1⟩ (g.dD r c st vs').st,(g.dD r c st vs').st)):=Z3 (fun vs'=>by rw[HV.o,Gh.gG fE.o hs C9 vs'];rfl)
    have hpp:=Kb _ _ _ _ _ _ _ _ (Hg.o.ext lJ.o) r c fE.o st vs (m.args.length+1) hs C9 Wg;have⟨HPP,ZC⟩:=aJ hpp C9;clear hpp hlen hs xU HV C9;obtain⟨⟨ok,on⟩,hhd⟩:∃o,vs[0]?=some o:=⟨vs[0]'(by have:=ZC.o;omega),List.getElem?_eq_getElem _⟩;have Z9:vs.headD M.eU=⟨ok,on⟩:=by
     cases vs with
     |nil=>cases hhd
     |cons y r=>simpa using hhd
    rw[Z9]at GU;simp only at GU;have Ny:Zs (M.bD ⟨ok,on⟩ g.os.length=true):=Z3 (HVS.o _ (List.mem_of_getElem? hhd));have HHD:=Z3 hhd;clear Z9 hhd;go_wp2_with fail;refine HPP.o.mono ?_;rintro e w9 ⟨v',rfl,bN,Tf,vs',W9⟩;have HV:=Z3 (GU.o vs');obtain⟨gt,gc,rfl,hgb, -⟩:=cB bN Wg;have vM:Zs (Kp (MO l own) w w9):=Z3 ((mh.o.trans lJ.o.any).trans (Tf.weak fun b _ e=>e.mo));have XG:Zs (Kp (PO own (EP r.length)) w7 w9):=Z3 (lJ.o.any.trans Tf);have⟨Jl,zk⟩:=aJ W9 bN;clear bN Tf W9 HPP GU;go_wp2_with fail;(refine kk aj ag XG.o ?_);clear ag K2;clear aj yX NJ QB r62;(refine vI [_,_,_,_] rfl fun K hK=>?_);(repeat (go_big_quiet_step (fail)));(refine qn hK ?_);clear hK K;have GZ:=fC (enc:=bV) (k:=2) (fun _=>rfl) zk.o HHD.o;have adH:=dL.o.kp XG.o (fun hp=>HN6.o hp.mo);have adC:=aaK.o.kp XG.o (fun hp=>vN.o hp.mo);obtain⟨T,f,dA,HT⟩:=iN.ex (fun W'=>Ext w9 W') _ Kp.rr;have rg0:=fun z=>(ae.ext GZ (HT.aW z)).two.1;have rg1:=fun z=>(ae.ext GZ (HT.aW z)).two.2;simp only[Nat.zero_mul,Nat.zero_add]at rg0 rg1;obtain⟨-,NJ,QB, -⟩:=ay.kY fun z=>(adH.ext (HT.aW z));have⟨aj,HC0,afq⟩:=bg HT GZ adC;have IV:(0:Int)<m.args.length+1:=by omega
    clear HT GZ adH adC;go_wp2_with fail;(refine eO aj 7 [([0,1,2,3,4,5],6)] [] ?_ ?_)
    · exact Kp.rr.drew
    refine iX ?_;intro K2 ag;go_wp2_with fail;refine(xx _ _ _ _ _ _ _ _ (Jl.o.ext Kp.rr.drew) ⟨ok,on⟩ Ny.o ⟨v0,v1⟩).mono ?_;rintro e gu ⟨rfl,kK⟩;have nO:Zs (Ext w9 gu):=Z3 (((Kp.refl _ w9).drew:Ext w9 _).trans kK);have jd:=Z3 (Jl.o.ext nO.o);have nU:Zs (Kp (MO l own) w gu):=Z3 (vM.o.trans nO.o.any);clear kK;obtain⟨ob,Em⟩:∃ob,M.object p ⟨ok,on⟩ ⟨v0,v1⟩ (g.dD r c st vs').st=ob:=⟨_,rfl⟩;by_cases KP:ob=1;rotate_left
    · replace HV:Zs (M.aO p lk i g.st=(ob,(g.dD r c st vs').st)):=Z3 (by rw[HV.o,Em,if_neg KP]);have aeu:(ob !=1)=true:=bne_iff_ne.2 KP;rw[Em];clear Em KP;go_wp2_with fail;(refine kk aj ag nO.o ?_);clear ag K2;clear aj rg0 rg1 NJ QB;(refine dW ?_);go_wp2_with fail;go_ret;rw[HV.o];exact cu.mk' nU.o (iw.refl _ _) jd.o rfl
    · subst KP;replace HV:Zs (M.aO p lk i g.st=(match M.pick p (M.oD g.st.heap on) i.member with
       |some x=>M.enter p lk x vs (g.dD r c st vs').st
       |none=>(10,(g.dD r c st vs').st))):=Z3 (by rw[HV.o,if_pos Em])
      have Zw:=Z3 Em;obtain⟨H7, -⟩:=M.oC Em;simp only at H7;obtain⟨ag5,mR⟩:=M.lv Ny.o H7;simp only at ag5 mR;obtain⟨n,rfl⟩:∃n:Nat,on=n:=⟨on.toNat,by omega⟩;obtain⟨go,Au⟩:∃o,g.os[n]?=some o:=⟨g.os[n]'Wg,List.getElem?_eq_getElem _⟩;have HGO:Zs (M.oD g.st.heap n=go.o.of):=Z3 (AY (by simp[Gh.st,Au]));obtain⟨rr,hpx⟩:∃rr,M.pick p rr i.member=some ⟨⟨v0,v1⟩,v2⟩:=by
       have h1:(M.call p c.f.of.of.keeper i.name i.member).2=1:=by rw[HF.o]
       obtain⟨rr,Xg⟩:=M.l7 h1;rw[HF.o]at Xg;exact⟨rr,Xg⟩
      have HPX:=Z3 hpx;obtain⟨pk,pn,pa,pb,hpa,hpb⟩:∃pk pn pa pb,((M.pick p go.o.of i.member).getD lD=⟨⟨pk,pn⟩,pa⟩∧(M.pick p go.o.of i.member).isSome=pb)∧((pb=false→M.pick p (M.oD g.st.heap n) i.member=none)∧(pb=true→M.pick p (M.oD g.st.heap n) i.member=some ⟨⟨pk,pn⟩,pa⟩)):=by
       rw[HGO.o];cases e:M.pick p go.o.of i.member with
       |none=>exact⟨_,_,_,_,⟨rfl,rfl⟩,(fun _=>rfl),(fun h=>by cases h)⟩
       |some x=>exact⟨x.of.keeper,x.of.name,x.at_,true,⟨rfl,rfl⟩,(fun h=>by cases h),(fun _=>rfl)⟩
      have HPB:=Z3 hpb;have Vh:=fun W (hW:aC W l p)=>FV W l p hW go.o.of i.member;rw[hpa.1,hpa.2]at Vh;have Zz:=Z3 Vh;have bN:=jd.o.heap.row;obtain⟨ha,dm,qV⟩:=jd.o.heap.form;rw[qV]at bN;obtain⟨hb,hbc,eb, -⟩:=cB bN (by show 0<g.os.length;omega);cases eb;have jy:=fC (enc:=kV) (k:=3) (fun _=>rfl) bN (l:=g.os) Au;have ahB:l.D<w.heap.size:=by omega
      have uF:w.heap.size≤gu.heap.size:=nU.o.size;have adO:l.L<gu.heap.size:=by omega
      have agM:w.heap.size≤gt:=by have:=lJ.o.size;have:=mh.o.size;omega
      have HGT:=Z3 agM;have HRW:Zs (∀W,Kp (·=l.D) gu W→W.ownsRow w8.heap.size 38 2 (.slice (some ⟨gt,0,none⟩) (m.args.length+1) gc) vs.length (vs.flatMap bV)):=Z3 (fun W hW=>by
       rw[show vs.length=m.args.length+1 from ZC.o];exact aA (aA (D:=fun _=>False) zk.o nO.o fun _ _ _ x=>x) hW (fun q hq _ e=>by
        have h1:gt=q:=by simpa [Value.ownBlock]using hq
        omega))
      have Va:∀b,B≤b→¬b=l.D:=fun b hb e=>by have:=jd.o.hB;have:=jd.o.dN.ord;omega
      obtain⟨T2,f2,aab,wI⟩:=iN.ex (fun W'=>LC l p gu W') gu (LC.refl jd.o.dN);have s0:=fun z=>(jd.o.kM (wI.aW z).kp (wI.aW z).at_).blk.c 0 (.pointer (some ⟨l.L,0,none⟩)) rfl;have s4:=fun z=>(jd.o.kM (wI.aW z).kp (wI.aW z).at_).blk.c 4 (.slice (some ⟨hb,0,none⟩) g.os.length dm) (by rw[show(Value.slice (some ⟨hb,0,none⟩) g.os.length dm)=g.vh from qV.symm];rfl);have hgD:¬gt=l.D:=by omega
      have sg:=fun z=>(wI.aW z).kp.jg (ae.ext HC0.o nO.o).two.2 hgD;simp only[Nat.zero_mul,Nat.zero_add]at sg;have hhb:=(bN.lt hb rfl).1;have sh0:=fun z=>(wI.aW z).kp.jg jy.three.1 (Va _ hhb);have sh1:=fun z=>(wI.aW z).kp.jg jy.three.2.1 (Va _ hhb);have s33:=fun z=>((afq.o.ext nO.o).kp (wI.aW z).kp Wg).c 3 (.string i.member) rfl;have zm:=Z3 wI;have YB:(n:Int)<g.os.length:=mR;have hnv:(0:Int)<m.args.length+1:=by omega
      clear wI bN jy qV Au Vh hpa hpb hpx H7 mR Va hhb;rw[Em];clear Em;go_wp2_with fail;(refine kk aj ag nO.o ?_);clear ag K2;clear aj rg0 rg1 NJ QB;(refine dW ?_);go_wp2_with fail;(refine Dq f2 23 (.two [0,1,2,3,4,5,6,7,8,9,10,11,12,13,14,15,16] 17 21 (.one [18,19,20] 21 (.one [] 22 (.fin []))) (.one [] 17 (.one [18,19,20] 22 (.fin [])))) (zm.o.o _ ?_) Wr Wr (fun _ _ d _ _ h=>by cases d<;>exact h) ?_)
      · exact(LC.refl jd.o.dN).drew
      (refine two [_,_,_,_,_,_,_,_,_,_,_,_,_,_,_,_,_] rfl rfl rfl fun K hK=>?_);(repeat (go_big_quiet_step (fail)));((refine Gj hK (fun K2 ag=>?_) fun K2 ag=>?_)<;>clear hK K)
      · go_wp2_with fail;refine(Zz.o _ (jd.o.dN.ext Kp.rr.drew)).mono ?_;rintro e wP ⟨rfl,hLP,hKP⟩;have Zl:Zs (LC l p gu wP):=Z3 ((LC.refl jd.o.dN).drew.step hLP hKP);clear hLP hKP;go_wp2_with fail;((refine ag _ _ (zm.o.o _ Zl.o) ?_);clear ag K2);refine Ey ?_;intro K2 ag;go_wp2_with fail;((refine ag _ _ (zm.o.o _ (Zl.o.ext (Kp.rr.alloc _))) ?_);clear ag K2);(refine aX rfl fun K2 ag=>?_);go_wp2_with fail;obtain⟨PE,JR⟩:∃PE,PE=wP.alloc (.cells #[.int .i64 pk,.string pn,.int .i64 pa] 94):=⟨_,rfl⟩;rw[←JR];have wC:Zs (LC l p gu PE):=Z3 (by rw[JR];exact Zl.o.ext (Kp.rr.alloc _));have aaG:Zs (ay PE wP.heap.size 94 #[.int .i64 pk,.string pn,.int .i64 pa]):=Z3 (by rw[JR];exact ay.new _ _ _);((refine ag _ _ (zm.o.o _ wC.o) ?_);clear ag K2);clear zm s0 s4 sg sh0 sh1 s33 JR;(refine bU ?_);cases pb
        · replace HV:Zs (M.aO p lk i g.st=(10,(g.dD r c st vs').st)):=Z3 (by rw[HV.o,HPB.o.1 rfl]);go_wp2_with fail;go_ret;rw[HV.o];skip;exact cu.mk' (nU.o.trans wC.o.mo) (iw.refl _ _) (jd.o.kM wC.o.kp wC.o.at_) rfl
        · replace HV:Zs (M.aO p lk i g.st=M.enter p lk ⟨⟨pk,pn⟩,pa⟩ vs (g.dD r c st vs').st):=Z3 (by rw[HV.o,HPB.o.2 rfl]);have BA:=Z3 (HPB.o.2 rfl);have K6:Zs (M.pick p go.o.of i.member=some ⟨⟨pk,pn⟩,pa⟩):=Z3 (by rw[←HGO.o];exact BA.o);obtain⟨ez,e0,e1,e2, -⟩:=aaG.o.ca;go_wp2_with fail;skip;refine(zG _ _ _ _ _ _ _ KL _ (jd.o.kM wC.o.kp wC.o.at_) dw ⟨⟨pk,pn⟩,pa⟩ (M.kW BA.o) w8.heap.size (.slice (some ⟨gt,0,none⟩) (m.args.length+1) gc) vs (HRW.o _ wC.o.kp) (fun q hq=>by
           have h1:gt=q:=by simpa [Value.ownBlock]using hq
           rw[←h1];exact Jj.o gt HGT.o) HVS.o (by
           have:=M.Cm HPX.o (M.oC Zw.o).2 BA.o;rw[this,HM.o];exact ZC.o)).mono ?_
          rintro e Br aV;have HZ:=Z3 (cu.after (nU.o.trans wC.o.mo) (iw.refl _ _) aV);obtain⟨rfl, -⟩:=aV;rw[←HV.o]at HZ ⊢;clear e0 e1 e2 ez;go_wp2_with fail;go_ret;exact HZ.o
      · go_wp2_with fail;((refine ag _ _ (zm.o.o _ ((LC.refl jd.o.dN).drew.ext (Kp.rr.alloc _))) ?_);clear ag K2);(refine aX rfl fun K2 ag=>?_);have acL:Zs (LC l p gu (gu.drew.alloc (.cells #[.int .i64 0,.string ⟨#[]⟩,.int .i64 0] 94))):=Z3 ((LC.refl jd.o.dN).drew.ext (Kp.rr.alloc _));have afn:Zs (ay (gu.drew.alloc (.cells #[.int .i64 0,.string ⟨#[]⟩,.int .i64 0] 94)) gu.heap.size 94 #[.int .i64 0,.string ⟨#[]⟩,.int .i64 0]):=Z3 (ay.new _ _ _);go_wp2_with fail;refine(Zz.o _ acL.o.at_).mono ?_;rintro e wP ⟨rfl,hLP,hKP⟩;have Zl:Zs (LC l p gu wP):=Z3 (acL.o.step hLP hKP);have HBP:=Z3 (afn.o.kp hKP Wg);clear hLP hKP;go_wp2_with fail;((refine ag _ _ (zm.o.o _ Zl.o) ?_);clear ag K2);refine Ey ?_;intro K2 ag;obtain⟨z6,y0,y1,y2, -⟩:=HBP.o.ca;obtain⟨g0,g1,g2, -⟩:=HBP.o.fz;have⟨wC,aaG⟩:=aJ (LC.own Zl.o (Kp.qW (D:=(·=gu.heap.size)) rfl (.int .i64 pk) (.string pn) (.int .i64 pa)) (Nat.le_refl _) adO) (HBP.o.qW (.int .i64 pk) (.string pn) (.int .i64 pa));go_wp2_with fail;((refine ag _ _ (zm.o.o _ wC.o) ?_);clear ag K2);clear zm s0 s4 sg sh0 sh1 s33 y0 y1 y2 g0 g1 g2 z6;(refine bU ?_);cases pb
        · replace HV:Zs (M.aO p lk i g.st=(10,(g.dD r c st vs').st)):=Z3 (by rw[HV.o,HPB.o.1 rfl]);go_wp2_with fail;go_ret;rw[HV.o];skip;exact cu.mk' (nU.o.trans wC.o.mo) (iw.refl _ _) (jd.o.kM wC.o.kp wC.o.at_) rfl
        · replace HV:Zs (M.aO p lk i g.st=M.enter p lk ⟨⟨pk,pn⟩,pa⟩ vs (g.dD r c st vs').st):=Z3 (by rw[HV.o,HPB.o.2 rfl]);have BA:=Z3 (HPB.o.2 rfl);have K6:Zs (M.pick p go.o.of i.member=some ⟨⟨pk,pn⟩,pa⟩):=Z3 (by rw[←HGO.o];exact BA.o);obtain⟨ez,e0,e1,e2, -⟩:=aaG.o.ca;go_wp2_with fail;skip;refine(zG _ _ _ _ _ _ _ KL _ (jd.o.kM wC.o.kp wC.o.at_) dw ⟨⟨pk,pn⟩,pa⟩ (M.kW BA.o) w8.heap.size (.slice (some ⟨gt,0,none⟩) (m.args.length+1) gc) vs (HRW.o _ wC.o.kp) (fun q hq=>by
           have h1:gt=q:=by simpa [Value.ownBlock]using hq
           rw[←h1];exact Jj.o gt HGT.o) HVS.o (by
           have:=M.Cm HPX.o (M.oC Zw.o).2 BA.o;rw[this,HM.o];exact ZC.o)).mono ?_
          rintro e Br aV;have HZ:=Z3 (cu.after (nU.o.trans wC.o.mo) (iw.refl _ _) aV);obtain⟨rfl, -⟩:=aV;rw[←HV.o]at HZ ⊢;clear e0 e1 e2 ez;go_wp2_with fail;go_ret;exact HZ.o
 have TAIL:=Z3 tail;clear tail hK;(refine lN aj 16 (.two [0,1,2,3,4,6,7,8,9] 5 14 (.two [] 10 14 (.one [11,12,13] 14 (.one [] 15 (.fin []))) (.one [] 10 (.one [11,12,13] 15 (.fin [])))) (.one [] 5 (.one [] 10 (.one [11,12,13] 15 (.fin []))))) ?_ ?_)
 · exact HC.o
 (refine two [_,_,_,_,_,_,_,_,_] rfl rfl rfl fun K hK=>?_);(repeat (go_big_quiet_step (fail)));((refine Gj hK (fun K2 ag=>?_) fun K2 ag=>?_)<;>clear hK K)
 · go_wp2_with fail;refine(iR _ _ c.f.of.of.keeper (((HA.o.kM HC.o.kp HC.o.at_).at_ fE.o).blk.c 0 _ rfl)).mono ?_;rintro e we ⟨rfl,rfl⟩;go_wp2_with fail;(refine kk aj ag HC.o ?_);clear ag K2;(refine vW rfl rfl (fun K2 ag=>?_) fun K2 ag=>?_)
   · go_wp2_with fail;refine(Aa.o _ HC.o).mono ?_;rintro e wc ⟨ev,rfl,nN,hk,hc⟩;replace HC:=Z3 hc;have Hf:=Z3 nN;clear hk hc nN;go_wp2_with fail;(refine kk aj ag HC.o ?_);clear ag K2;refine Ey ?_;intro K2 ag;go_wp2_with fail;(refine kk aj ag (HC.o.ext (Kp.rr.alloc _)) ?_);clear ag K2;(refine aX rfl fun K2 ag=>?_);go_wp2_with fail;(refine kk aj ag (HC.o.ext (Kp.rr.alloc _)) ?_);clear ag K2;have pQ:=HC.o.kp.size;have dL:=Z3 (ay.new (wc) 94 #[.int .i64 v0,.string v1,.int .i64 v2]);replace HC:=Z3 (HC.o.ext (Kp.rr.alloc (.cells #[.int .i64 v0,.string v1,.int .i64 v2] 94)));clear aj yX r32 QA;(refine bU ?_);go_wp2_with fail;exact TAIL.o _ _ _ HC.o dL.o pQ Hf.o
   · go_wp2_with fail;(refine kk aj ag (HC.o.ext (Kp.rr.alloc _)) ?_);clear ag K2;have pQ:w1.heap.size≤w1.heap.size:=HC.o.kp.size;have dL:Zs (ay (w1.drew.alloc (.cells #[.int .i64 0,.string ⟨#[]⟩,.int .i64 0] 94)) w1.heap.size 94 #[.int .i64 0,.string ⟨#[]⟩,.int .i64 0]):=Z3 (ay.new _ _ _);replace HC:=Z3 (HC.o.ext (Kp.rr.alloc (.cells #[.int .i64 0,.string ⟨#[]⟩,.int .i64 0] 94)));(refine aX rfl fun K2 ag=>?_);go_wp2_with fail;refine(Aa.o _ HC.o).mono ?_;rintro e wc ⟨ev,rfl,nN,hk,hc⟩;replace dL:=Z3 (dL.o.kp hk Wg);replace HC:=Z3 hc;have Hf:=Z3 nN;clear hk hc nN;go_wp2_with fail;(refine kk aj ag HC.o ?_);clear ag K2;refine Ey ?_;intro K2 ag;obtain⟨z6,y0,y1,y2, -⟩:=dL.o.ca;obtain⟨g0,g1,g2, -⟩:=dL.o.fz;go_wp2_with fail;replace HC:=Z3 (LC.own HC.o (Kp.qW (D:=(·=_)) rfl (.int .i64 v0) (.string v1) (.int .i64 v2)) pQ CV);replace dL:=Z3 (dL.o.qW (.int .i64 v0) (.string v1) (.int .i64 v2));(refine kk aj ag HC.o ?_);clear ag K2;clear y0 g0 y1 g1 y2 g2 z6;clear aj yX r32 QA;(refine bU ?_);go_wp2_with fail;exact TAIL.o _ _ _ HC.o dL.o pQ Hf.o
 · go_wp2_with fail;(refine kk aj ag (HC.o.ext (Kp.rr.alloc _)) ?_);clear ag K2;have pQ:w1.heap.size≤w1.heap.size:=HC.o.kp.size;have dL:Zs (ay (w1.drew.alloc (.cells #[.int .i64 0,.string ⟨#[]⟩,.int .i64 0] 94)) w1.heap.size 94 #[.int .i64 0,.string ⟨#[]⟩,.int .i64 0]):=Z3 (ay.new _ _ _);replace HC:=Z3 (HC.o.ext (Kp.rr.alloc (.cells #[.int .i64 0,.string ⟨#[]⟩,.int .i64 0] 94)));(refine aX rfl fun K2 ag=>?_);go_wp2_with fail;refine(iR _ _ c.f.of.of.keeper (((HA.o.kM HC.o.kp HC.o.at_).at_ fE.o).blk.c 0 _ rfl)).mono ?_;rintro e we ⟨rfl,rfl⟩;go_wp2_with fail;(refine kk aj ag HC.o ?_);clear ag K2;(refine aX rfl fun K2 ag=>?_);go_wp2_with fail;refine(Aa.o _ HC.o).mono ?_;rintro e wc ⟨ev,rfl,nN,hk,hc⟩;replace dL:=Z3 (dL.o.kp hk Wg);replace HC:=Z3 hc;have Hf:=Z3 nN;clear hk hc nN;go_wp2_with fail;(refine kk aj ag HC.o ?_);clear ag K2;refine Ey ?_;intro K2 ag;obtain⟨z6,y0,y1,y2, -⟩:=dL.o.ca;obtain⟨g0,g1,g2, -⟩:=dL.o.fz;go_wp2_with fail;replace HC:=Z3 (LC.own HC.o (Kp.qW (D:=(·=_)) rfl (.int .i64 v0) (.string v1) (.int .i64 v2)) pQ CV);replace dL:=Z3 (dL.o.qW (.int .i64 v0) (.string v1) (.int .i64 v2));(refine kk aj ag HC.o ?_);clear ag K2;clear y0 g0 y1 g1 y2 g2 z6;clear aj yX r32 QA;(refine bU ?_);go_wp2_with fail;exact TAIL.o _ _ _ HC.o dL.o pQ Hf.o
def YV(n:Nat):Nat:=
 if n=1 then 53 else if n=2 then 54 else if n=3 then 55 else if n=4 then 56 else if n=5 then 57 else if n=6 then 58 else
 if n=7 then 59 else if n=8 then 60 else if n=9 then 61 else if n=10 then 62 else if n=11 then 63 else if n=12 then 64 else
 if n=13 then 65 else if n=14 then 66 else 67
def MF(v:Value):Array Value:=#[.nilFunc,.func (.func 53) #[v] #[],.func (.func 54) #[v] #[],.func (.func 55) #[v] #[],.func (.func 56) #[v] #[],.func (.func 57) #[v] #[],.func (.func 58) #[v] #[],
 .func (.func 59) #[v] #[],.func (.func 60) #[v] #[],.func (.func 61) #[v] #[],.func (.func 62) #[v] #[],.func (.func 63) #[v] #[],.func (.func 64) #[v] #[],.func (.func 65) #[v] #[],
 .func (.func 66) #[v] #[],.func (.func 67) #[v] #[]]
theorem RY(v:Value){n:Nat}(h1:1≤n)(h2:n≤15):(MF v)[n]?=some (.func (.func (YV n)) #[v] #[]):=by
 have:n=1∨n=2∨n=3∨n=4∨n=5∨n=6∨n=7∨n=8∨n=9∨n=10∨n=11∨n=12∨n=13∨n=14∨n=15:=by omega
 rcases this with rfl|rfl|rfl|rfl|rfl|rfl|rfl|rfl|rfl|rfl|rfl|rfl|rfl|rfl|rfl<;>rfl
theorem VW{n:Nat}(h1:1≤n)(h2:n≤15)(args:Array Value)(w:World):(callFunc (YV n) args).run Tryz.prog w=.ok (.enter (YV n) args) w:=by
 have:n=1∨n=2∨n=3∨n=4∨n=5∨n=6∨n=7∨n=8∨n=9∨n=10∨n=11∨n=12∨n=13∨n=14∨n=15:=by omega
 rcases this with rfl|rfl|rfl|rfl|rfl|rfl|rfl|rfl|rfl|rfl|rfl|rfl|rfl|rfl|rfl
 · exact aR Tryz.func53 rfl Wr args w
 · exact aR Tryz.func54 rfl Wr args w
 · exact aR Tryz.func55 rfl Wr args w
 · exact aR Tryz.func56 rfl Wr args w
 · exact aR Tryz.func57 rfl Wr args w
 · exact aR Tryz.func58 rfl Wr args w
 · exact aR Tryz.func59 rfl Wr args w
 · exact aR Tryz.func60 rfl Wr args w
 · exact aR Tryz.func61 rfl Wr args w
 · exact aR Tryz.func62 rfl Wr args w
 · exact aR Tryz.func63 rfl Wr args w
 · exact aR Tryz.func64 rfl Wr args w
 · exact aR Tryz.func65 rfl Wr args w
 · exact aR Tryz.func66 rfl Wr args w
 · exact aR Tryz.func67 rfl Wr args w
theorem abl(w:World)(l:aH)(p:M.ax)(own:Own)(B mb:Nat)(lk:Bool)(KL:Zs (lk=true→wJ))(g:Gh)(h:aI w l p own B mb lk g)(r:List GC)(c:GC)(cK:g.cs=r++[c])(dw:g.status=1)(i:M.Ins)(n:Nat)(hn:i.op=n)(hi:M.iZ (M.method p c.f.of) i=true):
    Calls Tryz.prog (YV n) #[.pointer (some ⟨mb,0,none⟩),.agg #[.int .i64 i.op,.int .i64 i.a,.string i.name,.string i.member]] w (cu w l p own B mb lk (.int .i64 (M.aO p lk i g.st).1) (M.aO p lk i g.st).2):=by
 obtain⟨_,_,_,_,h5,_⟩:=M.lL hi;have:n=1∨n=2∨n=3∨n=4∨n=5∨n=6∨n=7∨n=8∨n=9∨n=10∨n=11∨n=12∨n=13∨n=14∨n=15:=by omega
 rcases this with rfl|rfl|rfl|rfl|rfl|rfl|rfl|rfl|rfl|rfl|rfl|rfl|rfl|rfl|rfl
 · exact abn _ _ _ _ _ _ _ _ h r c cK dw i hi hn
 · exact XY _ _ _ _ _ _ _ _ h r c cK dw i hi hn
 · exact abp _ _ _ _ _ _ _ _ h r c cK dw i hi hn
 · exact abj _ _ _ _ _ _ _ _ h r c cK dw i hi hn
 · exact XX _ _ _ _ _ _ _ _ h r c cK dw i hn
 · exact abm _ _ _ _ _ _ _ _ h r c cK dw i hi hn
 · exact abk _ _ _ _ _ _ _ _ h r c cK dw i hi hn
 · exact abr _ _ _ _ _ _ _ _ h r c cK dw i hi hn
 · exact XV _ _ _ _ _ _ _ KL _ h r c cK dw i hi hn
 · exact abq _ _ _ _ _ _ _ _ h r c cK dw i hi hn
 · exact XZ _ _ _ _ _ _ _ _ h r c cK dw i hi hn
 · exact Ue _ _ _ _ _ _ _ _ h r c cK dw i hi hn
 · exact adr _ _ _ _ _ _ _ _ h r c cK dw i hi hn
 · exact abo _ _ _ _ _ _ _ _ h r c cK dw i hi hn
 · exact XW _ _ _ _ _ _ _ _ h r c cK dw i hi hn
theorem RQ(w:World)(l:aH)(p:M.ax)(own:Own)(B mb:Nat)(lk:Bool)(KL:Zs (lk=true→wJ))(g:Gh)(h:aI w l p own B mb lk g)(r:List GC)(c:GC)(cK:g.cs=r++[c])(dw:g.status=1):
    Calls Tryz.prog 24 #[.pointer (some ⟨mb,0,none⟩)] w (cu w l p own B mb lk (.tuple #[]) (M.step p lk g.st)):=by
 have Bp:=h.mi cK;have lX:=h.DL cK;obtain⟨n,hn⟩:∃n:Nat,c.f.pc=n:=⟨c.f.pc.toNat,by simp[M.dX]at lX;omega⟩;have bY:n<(M.method p c.f.of).code.length:=by simp[M.dX]at lX;omega
 obtain⟨⟨op,ia,nm,mem⟩,hi⟩:=iT (M.method p c.f.of).code n bY;have JJ:=Bp.ins _ (List.mem_of_getElem? hi);obtain⟨k,rfl⟩:∃k:Nat,op=k:=⟨op.toNat,by have:=(M.lL JJ).2.2.2.2.1;simp only at this;omega⟩;have mR:1≤k∧k≤15:=by have:=(M.lL JJ).2.2.2.2.1;simp only at this;omega
 have HS:Zs (M.step p lk g.st=M.end_ (M.aO p lk ⟨k,ia,nm,mem⟩ g.st).1 (M.aO p lk ⟨k,ia,nm,mem⟩ g.st).2):=Z3 (by
  unfold M.step M.stepped;rw[if_pos (show g.st.status=1 from dw),Gh.top cK,hn];simp[hi])
 have e2:=h.blk.c 2 (.int .i64 g.status) rfl;rw[dw]at e2;obtain⟨w0,bI⟩:∃w0,w0=w.alloc (.cells (MF (.pointer (some ⟨mb,0,none⟩))) 127):=⟨_,rfl⟩;have b2:ay w0 w.heap.size 127 (MF (.pointer (some ⟨mb,0,none⟩))):=by rw[bI];exact ay.new _ _ _
 have aU:Ext w w0:=by rw[bI];exact kx
 have⟨HA,Eb,bM,mQ,dO,fE,pM,HI,aaZ⟩:=LX h (h.ext aU) aU b2 bI cK dw hi JJ;have HN:=Z3 hn;unfold MF at bI;have HX:=Z3 bI;clear h aU b2 bI cK dw hi JJ Bp lX hn;go_enter Tryz.func24,Tryz.ntmps24;go_wp2_with fail;rw[←HX.o];refine(eD _ _ _ _ _ _ _ _ Eb.o r c fE.o).mono ?_;rintro e w1 ⟨rfl,bH⟩;have rZ:=Eb.o.ext bH;have hB1:=mQ.o.ext bH;have Db:w.heap.size<w1.heap.size:=hB1.lt;have Hr:=rZ.at_ fE.o;have cz:=Hr.blk.lt;obtain⟨b,off,cs,ea,KN,rfl, -,jy⟩:=(aG.code Hr.ml).get HI.o;have hz:=jy;obtain⟨g0,g1,g2,g3⟩:=jy.four;have gz:=aF g0;obtain⟨T,f,dA,HT⟩:=iN.ex (fun W'=>Ext w1 W') _ Kp.rr;have d9:=fun z=>(Hr.blk.ext (HT.aW z)).c 9 (.slice c.t.a2 (M.method p c.f.of).code.length c.t.c2) rfl;have d11:=fun z=>(Hr.blk.ext (HT.aW z)).c 11 (.int .i64 n) (by rw[←HN.o];rfl);have y0:=fun z=>(HT.aW z).aD g0;have y1:=fun z=>(HT.aW z).aD g1;have y2:=fun z=>(HT.aW z).aD g2;have y3:=fun z=>(HT.aW z).aD g3;rw[ea]at d9;have⟨aj,kX,tL⟩:=bg HT rZ hB1;have eQ:Zs (Ext w w1):=Z3 (bM.o.trans bH);have hq8:(n:Int)<(M.method p c.f.of).code.length:=by omega
 clear rZ hB1 Hr bH jy hz ea KN HT g0 g1 g2 g3;go_wp2_with fail;(refine eO aj 12 [([0,1,2,3,4,5,6,7,8,9,10],11)] [] ?_ ?_)
 · exact Kp.rr.drew
 refine iX ?_;intro K2 ag;go_wp2_with fail;(refine kk aj ag ((Kp.refl _ w1).drew.alloc _:Ext w1 _) ?_);clear ag K2;obtain⟨w2,ny⟩:∃w2,w2=(w1.alloc (.cells #[.int .i64 k,.int .i64 ia,.string nm,.string mem] 130)).drew:=⟨_,rfl⟩;have bZ:Ext w1 w2:=by rw[ny];exact((Kp.refl _ w1).alloc _).drew
 have b4:ay w2 w1.heap.size 130 #[.int .i64 k,.int .i64 ia,.string nm,.string mem]:=by rw[ny];exact(ay.newAt _ _ rfl).ext Kp.rr.drew
 have⟨gL,kP,Bi⟩:=bg bZ b4 ny;clear bZ b4 ny aj d9 d11 y0 y1 y2 y3;(refine dW ?_);go_wp2_with fail;rw[←Bi.o];have zQ:Zs (aI w2 l p own B mb lk g):=Z3 (kX.o.ext gL.o);have afo:Zs (ay w2 w.heap.size 127 (MF (.pointer (some ⟨mb,0,none⟩)))):=Z3 (tL.o.ext gL.o);have tO:¬MO l own w.heap.size:=HA.o.fresh (Nat.le_refl _);have ahd:¬MO l own w1.heap.size:=HA.o.fresh Wg;obtain⟨T,f,dA,HT⟩:=iN.ex (fun W'=>Kp (MO l own) w2 W') _ Kp.rr;obtain⟨-,r0,r1,r2,r3, -⟩:=ay.kY fun z=>(kP.o.kp (HT.aW z) ahd);have rf:=fun z=>(afo.o.kp (HT.aW z) tO).c k _ (RY (.pointer (some ⟨mb,0,none⟩)) mR.1 mR.2);have ag6:(k:Int)<16:=by omega
 have IV:(0:Int)≤k:=by omega
 have aj:=Z3 HT;have hcf:=VW mR.1 mR.2;clear HT;(refine eO aj 8 [([0,1,2,3,4,5],6),([],7)] [] ?_ ?_)
 · exact Kp.rr.drew
 refine iX ?_;intro K2 ag;go_wp2_with fail;refine(abl _ _ _ _ _ _ _ KL _ (zQ.o.ext Kp.rr.drew) r c fE.o pM.o ⟨k,ia,nm,mem⟩ k rfl aaZ.o).mono ?_;rintro e w3 aV;obtain⟨rfl,nL,ab5,g3,adU,Td,hg3⟩:=aV.behind ((Kp.refl _ w2).drew);have⟨HA3,mg,acs,HG3⟩:=gD Td nL adU hg3;clear aV nL Td adU hg3;go_wp2_with fail;(refine kk aj ag mg.o ?_);clear ag K2;(refine gZ rfl fun K2 ag=>?_);go_wp2_with fail;refine(Mt _ _ _ _ _ _ _ _ HA3.o _).mono ?_;rintro e w4 aV;rw[HG3.o]at aV;have hE:=(aV.after mg.o acs.o).behind (eQ.o.trans gL.o);obtain⟨rfl,nQ,hX⟩:=hE;have⟨HX4,zS⟩:=aJ hX nQ;have HKe:Zs (Kp (MO l own) w2 w4):=Z3 (aV.after mg.o acs.o).2.1;clear aV hX nQ;go_wp2_with fail;(refine kk aj ag HKe.o ?_);clear ag K2;(refine Kc rfl ?_);((try simp only[Exit.inBlock,Exit.then]);(first|refine bodyPost_ret (results_none rfl _ _ _) rfl ?_|refine bodyPost_end (results_none rfl _ _ _) rfl ?_));rw[HS.o];exact⟨rfl,zS.o,HX4.o⟩
theorem Gs (w : World) (I : Nat → Prop) (cs : List Value) (m : M.Method) (h : aG w I m cs) (args : List Int) (aa : Option Addr) (ac : Nat) (hal : args.length ≤ 4294967296) :
    Calls Tryz.prog 41 #[.agg cs.toArray,.slice aa args.length ac] w fun e w'=>e=.returned (.bool (M.kg m args))∧Ext w w':=by
 obtain⟨va,vc,vm,rfl,h1,h2,h3⟩:=h;obtain⟨a,cap,rfl,hn,dm⟩:=h1.form;by_cases Bo:m.args.length=args.length
 · have HL : Zs (M.kg m args = m.args.all fun k => decide (k.kind = 1)) := Z3 (by unfold M.kg; rw [decide_eq_true Bo]; rfl); have vZ : ((m.args.length : Int) != args.length) = false := by simp [Bo]
   have Bw:=Z3 Bo;clear Bo;obtain⟨w0,bI⟩:∃w0,w0=w.alloc (.cells #[.string m.name,.slice a m.args.length cap,.int .i64 m.ret.kind,.string m.ret.name,.int .i64 m.locals,.int .i64 m.stack,vc,vm] 106):=⟨_,rfl⟩;have aU:Ext w w0:=by rw[bI];exact kx
   have⟨bM,dO⟩:=aJ aU bI;clear aU bI;go_enter Tryz.func41,Tryz.ntmps41;go_wp2_with fail;rw[←dO.o];go_loopw [16] (fun i wr=>∃k:Nat,k≤m.args.length∧i=.int .i64 k∧Ext w0 wr∧Zs ((m.args.take k).all (fun k=>decide (k.kind=1))=true)) (fun i _=>m.args.length - (intOf i).toNat)
   case atStart=>exact⟨0,Nat.zero_le _,rfl,Kp.rr,Z3 Wf⟩
   case round =>
    obtain⟨k,hk,rfl,hE,HA⟩:=hrel;by_cases bY:k<m.args.length
    · obtain⟨x,hx⟩:=get_some bY;obtain⟨b,off,cs,rfl,hI,rfl, -,hc⟩:=h1.get hx;obtain⟨g0,g1⟩:=((hc.ext bM.o).ext hE).two;have gz:=aF g0;have HX:=Z3 hx;clear hx hc;by_cases sM:x.kind=1
      · have e1:((x.kind:Int) !=1)=false:=by simp[sM]
        have HT:Zs (decide (x.kind=1)=true):=Z3 (by simp[sM]);clear sM;go_wp2_with fail;go_roundw
        case rel=>exact⟨k+1,by omega,by go_num,kx,Z3 (all_succ HA.o HX.o HT.o)⟩
        case measure=>simp[intOf];omega
      · have e1:((x.kind:Int) !=1)=true:=bne_iff_ne.2 sM;have HT:Zs (decide (x.kind=1)=false):=Z3 (by simp[sM]);clear sM;go_wp2_with fail;go_ret;exact⟨af (by rw[HL.o];exact(l6 HX.o HT.o).symm),bM.o.trans kx⟩
    · go_wp2_with fail;go_ret;exact⟨af (by rw[HL.o];exact(kD HA.o Wg).symm),bM.o.trans kx⟩
 · have vZ:((m.args.length:Int) !=args.length)=true:=bne_iff_ne.2 Wg;have HL:Zs (M.kg m args=false):=Z3 (by unfold M.kg;rw[decide_eq_false Bo];rfl);clear Bo;go_enter Tryz.func41,Tryz.ntmps41;go_wp2_with fail;go_ret;exact⟨af (by rw[HL.o]),kx⟩
theorem M9 (w : World) (v : M.Val) (n : Nat) :
    Calls Tryz.prog 49 #[.agg #[.int .i64 v.kind,.int .i64 v.n],.int .i64 n] w fun e w'=>e=.returned (.bool (M.bD v n))∧Ext w w':=by
 obtain⟨k,m⟩:=v;by_cases h0:k=0∨k=3
 · have HL:Zs (M.bD ⟨k,m⟩ n=decide (m=0)):=Z3 (by unfold M.bD;rw[if_pos h0]);rcases h0 with rfl|rfl
   all_goals
    go_enter Tryz.func49,Tryz.ntmps49;go_wp2_with fail;go_ret;exact⟨af (by rw[HL.o];by_cases hm:m=0<;>simp[hm]),kx⟩
 · have e0 : ((k : Int) == 0) = false := beq_eq_false_iff_ne.2 Wg; have e3 : ((k : Int) == 3) = false := beq_eq_false_iff_ne.2 Wg; by_cases h1 : k = 1
   · subst h1;have HL:Zs (M.bD ⟨1,m⟩ n=M.iH m):=Z3 (by unfold M.bD;simp);clear h0 e0 e3;go_enter Tryz.func49,Tryz.ntmps49;go_wp2_with fail;refine(Kh m _).mono ?_;rintro e w1 ⟨rfl,rfl⟩;go_wp2_with fail;go_ret;exact⟨af (by rw[HL.o];rfl),kx⟩
   · have e1:((k:Int)==1)=false:=beq_eq_false_iff_ne.2 h1;by_cases h2:k=2
     · subst h2;have HL:Zs (M.bD ⟨2,m⟩ n=(decide (0≤m)&&decide (m<n))):=Z3 (by unfold M.bD;simp);clear h0 e0 e3 h1 e1;go_enter Tryz.func49,Tryz.ntmps49;go_wp2_with fail
       all_goals
        go_ret;exact⟨af (by rw[HL.o];by_cases x0:0≤m<;>by_cases x1:m<n<;>simp_all<;>omega),kx⟩
     · have e2:((k:Int)==2)=false:=beq_eq_false_iff_ne.2 h2;have HL:Zs (M.bD ⟨k,m⟩ n=false):=Z3 (by unfold M.bD;rw[if_neg h0,if_neg h1,if_neg h2]);clear h0 h1 h2;go_enter Tryz.func49,Tryz.ntmps49;go_wp2_with fail;go_ret;exact⟨af (by rw[HL.o]),kx⟩
theorem Cw(w:World)(I:Nat→Prop)(v:Value)(l:List M.Val)(h:SliceOf 2 kr w I v l)(n:Nat):
    Calls Tryz.prog 93 #[v,.int .i64 n] w fun e w'=>e=.returned (.bool (l.all (M.bD · n)))∧Ext w w':=by
 obtain⟨a,cap,rfl,hn,dm⟩:=h.form;go_enter Tryz.func93,Tryz.ntmps93;go_wp2;go_loopw [9] (fun i wr=>∃k:Nat,k≤l.length∧i=.int .i64 k∧Ext w wr∧Zs ((l.take k).all (M.bD · n)=true)) (fun i _=>l.length - (intOf i).toNat)
 case atStart=>exact⟨0,Nat.zero_le _,rfl,Kp.rr,Z3 Wf⟩
 case round =>
  obtain⟨k,hk,rfl,hE,HA⟩:=hrel;by_cases bY:k<l.length
  · obtain⟨x,hx⟩:=get_some bY;obtain⟨b,off,cs,rfl,hI,rfl, -,hc⟩:=h.get hx;obtain⟨g0,g1⟩:=(hc.ext hE).two;have HX:=Z3 hx;clear hx hc;cases ht:M.bD x n
    all_goals
     have HT:=Z3 ht;clear ht;go_wp2_with (go_at_call 49;refine(M9 _ x n).mono ?_;rintro e w1 ⟨rfl,hB⟩;rw[HT.o])
    · go_ret;exact⟨af (l6 HX.o HT.o).symm,ZS⟩
    · go_roundw
      case rel=>exact⟨k+1,by omega,by go_num,ZS,Z3 (all_succ HA.o HX.o HT.o)⟩
      case measure=>simp[intOf];omega
  · go_wp2;go_ret;exact⟨af (kD HA.o Wg).symm,kx⟩
def yw:iJ M.nP:=fun w I x cs=>∃vf,cs=[.int .i64 x.of.keeper,.string x.of.name,vf]∧SliceOf 2 kr w I vf x.fields
def QK:iJ M.Fr:=fun w I x cs=>∃vl vs,cs=[.int .i64 x.of.of.keeper,.string x.of.of.name,.int .i64 x.of.at_,.int .i64 x.pc,vl,vs]∧SliceOf 2 kr w I vl x.locals∧SliceOf 2 kr w I vs x.stack
theorem yw.stays:bQ yw:=fun _ _ _ _ _ _ hs hI ⟨vf,e,h⟩=>⟨vf,e,h.keep kr.stays hs hI⟩
theorem QK.stays:bQ QK:=fun _ _ _ _ _ _ hs hI ⟨vl,vs,e,h1,h2⟩=>⟨vl,vs,e,h1.keep kr.stays hs hI,h2.keep kr.stays hs hI⟩
def dU:iJ M.St:=fun w I x cs=>∃vf vh vo,cs=[.int .i64 x.status,vf,vh,vo,.int .i64 x.back.kind,.int .i64 x.back.n]∧SliceOf 6 QK w I vf x.frames∧SliceOf 3 yw w I vh x.heap∧SliceOf 1 jQ w I vo x.outs
theorem dU.stays:bQ dU:=fun _ _ _ _ _ _ hs hI ⟨vf,vh,vo,e,h1,h2,h3⟩=>⟨vf,vh,vo,e,h1.keep QK.stays hs hI,h2.keep yw.stays hs hI,h3.keep jQ.stays hs hI⟩
theorem dU.form{w:World}{I:Nat→Prop}{x:M.St}{cs:List Value}(h:dU w I x cs):∃a1 c1 a2 c2 a3 c3,
    cs=[.int .i64 x.status,.slice a1 x.frames.length c1,.slice a2 x.heap.length c2,.slice a3 x.outs.length c3,.int .i64 x.back.kind,.int .i64 x.back.n]∧
    SliceOf 6 QK w I (.slice a1 x.frames.length c1) x.frames∧SliceOf 3 yw w I (.slice a2 x.heap.length c2) x.heap∧SliceOf 1 jQ w I (.slice a3 x.outs.length c3) x.outs:=by
 obtain⟨_,_,_,rfl,h1,h2,h3⟩:=h;obtain⟨a1,c1,rfl,_⟩:=h1.form;obtain⟨a2,c2,rfl,_⟩:=h2.form;obtain⟨a3,c3,rfl,_⟩:=h3.form;exact⟨a1,c1,a2,c2,a3,c3,rfl,h1,h2,h3⟩
theorem LC.same{l:aH}{p:M.ax}{w W:World}(h:LC l p w W)(ho:l.O<l.D):Same (· <l.O) w W:=h.kp.same fun b hb e=>by omega
theorem SliceOf.lc{α:Type}{k:Nat}{R:iJ α}(hR:bQ R){l:aH}{p:M.ax}{w W:World}{v:Value}{xs:List α}(hs:SliceOf k R w (· <l.O) v xs)(h:LC l p w W):SliceOf k R W (· <l.O) v xs:=
 hs.keep hR (h.same (by have:=h.at_.ord;omega)) fun _ x=>x
theorem N7.bad{p:M.ax}{hs:List M.nP}{q:Nat}{o:M.nP}(hq:hs[q]?=some o)(h:(M.bu p o.of&&decide (o.fields.length=(M.layout p o.of).length)&&o.fields.all (M.bD · hs.length))=false):M.jI p hs=false:=by
 unfold M.jI;rw[Bool.and_eq_false_iff];right;rw[List.all_eq_false];exact⟨o,List.mem_of_getElem? hq,by rw[h];simp⟩
theorem J7 (w : World) (l : aH) (p : M.ax) (h : aC w l p) (v : Value) (hs : List M.nP) (hh : SliceOf 3 yw w (· < l.O) v hs) :
    Calls Tryz.prog 48 #[.pointer (some ⟨l.L,0,none⟩),v] w fun e w'=>e=.returned (.bool (M.jI p hs))∧LC l p w w':=by
 obtain⟨a,cap,rfl,hn,dm⟩:=hh.form;have hOw:=h.Hl;have Aw:=h.ord;by_cases ZN:12<hs.length
 · have HV:Zs (M.jI p hs=false):=Z3 (by unfold M.jI;rw[decide_eq_false Wg];rfl);have Yc:(12:Int)<hs.length:=by omega
   have HL:=Z3 h;clear h hh ZN;go_enter Tryz.func48,Tryz.ntmps48;go_wp2_with fail;go_ret;exact⟨af HV.o.symm,LC.refl HL.o⟩
 · have HV : Zs (M.jI p hs = hs.all fun o => M.bu p o.of && decide (o.fields.length = (M.layout p o.of).length) && o.fields.all (M.bD · hs.length)) := Z3 (by unfold M.jI; rw [decide_eq_true Wg]; rfl); have Yc : ((12 : Int) < hs.length) = False := eq_false Wg; have ⟨HL, HH⟩ := aJ h hh; have agV : hs.length ≤ 12 := by omega
   clear h hh ZN;go_enter Tryz.func48,Tryz.ntmps48;go_wp2_with fail;go_loopw [12] (fun i wr=>∃q:Nat,q≤hs.length∧i=.int .i64 q∧LC l p w wr∧Zs (((hs.take q).all fun o=>M.bu p o.of&&decide (o.fields.length=(M.layout p o.of).length)&&o.fields.all (M.bD · hs.length))=true)) (fun i _=>hs.length - (intOf i).toNat)
   case atStart=>exact⟨0,Nat.zero_le _,rfl,LC.refl HL.o,Z3 Wf⟩
   case round =>
    obtain⟨q,hq,rfl,hC,HQ⟩:=hrel;have HC:=Z3 hC;by_cases bY:q<hs.length
    · obtain⟨⟨⟨ok,on⟩,Ha⟩,ho⟩:=iT hs q bY;obtain⟨b,off,cs,rfl,hI,⟨vf,rfl,hf⟩, -,hc⟩:=(SliceOf.lc yw.stays HH.o hC).get ho;obtain⟨fa,fc,rfl,Qn,CX⟩:=hf.form;obtain⟨g0,g1,g2⟩:=hc.three;have gz:=aF g0;obtain⟨w6,nS,dC,b6⟩:=nu wr #[.int .i64 ok,.string on,.slice fa Ha.length fc] 160;have hCz:=hC.at_.Hl;obtain⟨T,f,dA,HT⟩:=iN.ex (fun W'=>LC l p w6 W') w6 (LC.refl (hC.at_.ext dC));obtain⟨-,r0,r1,r2, -⟩:=ay.kY fun z=>(b6.kp (HT.aW z).kp Wg);have⟨aj,CK,dL,HL6,zg,HF,HO⟩:=pX HT nS b6 (hC.at_.ext dC) (hC.ext dC) ((hf.ext kr.stays dC)) ho;have LH:∀W,LC l p w6 W→LC l p w W:=fun _ hx=>zg.o.step hx.at_ hx.kp;have jL:=Z3 LH;clear hC dC b6 nS HT hf hc ho LH;go_wp2_with fail;rw[←CK.o];clear g0 g1 g2;(refine eO aj 16 [([0,1,2],3),([4,5,6,7,8,9,10,11],12)] [13,14,15] ?_ ?_)
      · exact(LC.refl HL6.o).drew
      refine iX ?_;intro K2 ag;go_wp2_with fail;refine(ik _ _ _ (HL6.o.ext Kp.rr.drew) ⟨ok,on⟩).mono ?_;rintro e w7 ⟨rfl,Yo,sK⟩;have wD:Zs (LC l p w6 w7):=Z3 ((LC.refl HL6.o).drew.step Yo sK);clear Yo sK;cases fU:M.bu p ⟨ok,on⟩
      · have HR:Zs (M.jI p hs=false):=Z3 (N7.bad HO.o (by rw[fU];rfl));clear fU;go_wp2_with fail;(refine kk aj ag wD.o ?_);clear ag K2;refine iX ?_;intro K2 ag;go_wp2_with fail;(refine kk aj ag wD.o ?_);clear ag K2;refine qa ?_;go_wp2_with fail;go_ret;exact⟨af HR.o.symm,jL.o _ wD.o⟩
      · have qh:=Z3 fU;clear fU;go_wp2_with fail;(refine kk aj ag wD.o ?_);clear ag K2;refine iX ?_;intro K2 ag;go_wp2_with fail;refine(uJ _ _ _ wD.o.at_ ⟨ok,on⟩).mono ?_;rintro e w8 ⟨⟨v8,rfl,Tm⟩,hL8,BP⟩;obtain⟨a8,c8,rfl, -,hn8⟩:=Tm.form;have QN:Zs (LC l p w6 w8):=Z3 (wD.o.step hL8 BP);clear Tm hL8 BP;by_cases hl8:Ha.length=(M.layout p ⟨ok,on⟩).length
        · have hb8:((Ha.length:Int) !=(M.layout p ⟨ok,on⟩).length)=false:=by simp[hl8]
          have HL8:=Z3 hl8;clear hl8;go_wp2_with fail;(refine kk aj ag QN.o ?_);clear ag K2;refine qa ?_;obtain⟨qz, -, -,q2, -⟩:=(dL.o.kp QN.o.kp Wg).ca;clear r0 r1 r2 aj;go_wp2_with fail;refine(Cw _ (· <l.O) _ Ha (SliceOf.lc kr.stays HF.o QN.o) hs.length).mono ?_;rintro e w9 ⟨rfl,nk⟩;have TI:=Z3 (QN.o.ext nk);clear nk;cases tQ:Ha.all (M.bD · hs.length)
          · have HR:Zs (M.jI p hs=false):=Z3 (N7.bad HO.o (by simp only[tQ,Bool.and_false]));clear tQ;go_wp2_with fail;go_ret;exact⟨af HR.o.symm,jL.o _ TI.o⟩
          · have HT:Zs ((M.bu p ⟨ok,on⟩&&decide (Ha.length=(M.layout p ⟨ok,on⟩).length)&&Ha.all (M.bD · hs.length))=true):=Z3 (by rw[qh.o,tQ,decide_eq_true HL8.o];rfl);clear tQ;go_wp2_with fail;exact⟨⟨q+1,by omega,by go_num,jL.o _ TI.o,Z3 (all_succ HQ.o HO.o HT.o)⟩,by simp[intOf];omega⟩
        · have hb8:((Ha.length:Int) !=(M.layout p ⟨ok,on⟩).length)=true:=bne_iff_ne.2 Wg;have HR:Zs (M.jI p hs=false):=Z3 (N7.bad HO.o (by simp only[decide_eq_false hl8,Bool.and_false,Bool.false_and]));clear hl8;go_wp2_with fail;(refine kk aj ag QN.o ?_);clear ag K2;refine qa ?_;go_wp2_with fail;go_ret;exact⟨af HR.o.symm,jL.o _ QN.o⟩
    · have HR:Zs (M.jI p hs=true):=Z3 (by rw[HV.o];exact kD HQ.o Wg);clear hC;go_wp2_with fail;go_ret;exact⟨af HR.o.symm,HC.o⟩
theorem DW(w:World)(l:aH)(p:M.ax)(h:aC w l p)(m:M.kI):
    Calls Tryz.prog 92 #[.pointer (some ⟨l.L,0,none⟩),.agg #[.int .i64 m.of.keeper,.string m.of.name,.int .i64 m.at_]] w fun e w'=>
     e=.returned (.bool (M.bP p m))∧aC w' l p∧Kp (·=l.D) w w':=by
 have KM:=h.Hl;have aU:Ext w (w.alloc (.cells #[.int .i64 m.of.keeper,.string m.of.name,.int .i64 m.at_] 94)):=kx;have b3:=(ay.new w 94 #[.int .i64 m.of.keeper,.string m.of.name,.int .i64 m.at_]);obtain⟨T,f,oV,HT⟩:=iN.ex (LC l p (w.alloc (.cells #[.int .i64 m.of.keeper,.string m.of.name,.int .i64 m.at_] 94))) _ (LC.refl (h.ext aU));obtain⟨-,q0,q1,q2, -⟩:=ay.kY fun s=>(b3.kp (HT.aW s).kp Wg);have⟨HL0,H0,aj,bM⟩:=gD (h.ext aU) h HT aU;have FIN:Zs (∀s,aC (f s) l p∧Kp (·=l.D) w (f s)):=Z3 (fun s=>⟨(HT.aW s).at_,bM.o.any.trans (HT.aW s).kp⟩);clear b3 KM h aU HT;cases hc:M.bu p m.of
 · have HV:Zs (M.bP p m=false):=Z3 (by unfold M.bP;rw[hc];rfl);have HC:=Z3 hc;clear hc;go_enter Tryz.func92,Tryz.ntmps92;go_wp2;(refine Hb aj ?_ ?_);rotate_left;(repeat (go_big_quiet_step ((go_at_call 39;refine(ik _ _ _ (aj.o.aW _).at_ m.of).mono ?_;rintro e w1 ⟨rfl,Aq,lI⟩;rw[HC.o];exact⟨rfl,aj.o.o w1 ((aj.o.aW _).step Aq lI)⟩))));(refine wpQuiet_nil ?_);(rintro _ ⟨sW,rfl⟩);rotate_left
   · exact(LC.refl HL0.o).drew
   go_wp2;go_ret;exact⟨af HV.o.symm,FIN.o sW⟩
 · have HC:=Z3 hc;clear hc;by_cases h0:m.at_ <0
   · have HV:Zs (M.bP p m=false):=Z3 (by unfold M.bP;rw[HC.o,decide_eq_false (p:=0≤m.at_) Wg];rfl);go_enter Tryz.func92,Tryz.ntmps92;go_wp2;have hd:decide (0≤m.at_)=false:=decide_eq_false Wg;(refine Hb aj ?_ ?_);rotate_left;(repeat (go_big_quiet_step ((go_at_call 39;refine(ik _ _ _ (aj.o.aW _).at_ m.of).mono ?_;rintro e w1 ⟨rfl,Aq,lI⟩;rw[HC.o];exact⟨rfl,aj.o.o w1 ((aj.o.aW _).step Aq lI)⟩))));(refine wpQuiet_nil ?_);(rintro _ ⟨sW,rfl⟩);rotate_left
     · exact(LC.refl HL0.o).drew
     go_wp2;go_ret;exact⟨af HV.o.symm,FIN.o sW⟩
   · obtain⟨c,fU⟩:=M.dM (M.pU HC.o).2;obtain⟨cs,cK,nR⟩:=q8 _ l p HL0.o m.of.keeper m.of.name c fU;obtain⟨a1,c1,a2,c2,rfl⟩:=cK.form;have zA:∀W,(Instr.field 75 (.agg #[.string c.name,.string c.aL,.slice a1 c.fields.length c1,.slice a2 c.methods.length c2]) 3).run Tryz.prog W=.ok (.slice a2 c.methods.length c2) W:=(fun W=>by kernel_rfl);have SK:=Z3 nR;have X9:0≤m.at_:=by omega
     have HV:Zs (M.bP p m=decide (m.at_ <c.methods.length)):=Z3 (by
      unfold M.bP;rw[HC.o,decide_eq_true (p:=0≤m.at_) Wg];have:M.cls p m.of=c:=by unfold M.cls;rw[fU];rfl
      rw[this];rfl)
     clear fU cK nR h0;go_enter Tryz.func92,Tryz.ntmps92;go_wp2;have hd:decide (0≤m.at_)=true:=decide_eq_true X9;(refine Hb aj ?_ ?_);rotate_left;(repeat (go_big_quiet_step (first|(go_at_call 39;refine(ik _ _ _ (aj.o.aW _).at_ m.of).mono ?_;rintro e w1 ⟨rfl,Aq,lI⟩;rw[HC.o];exact⟨rfl,aj.o.o w1 ((aj.o.aW _).step Aq lI)⟩)|(go_at_call 70;refine(SK.o _ (aj.o.aW _).kp).mono ?_;rintro e w1 ⟨rfl,bH⟩;exact⟨rfl,aj.o.o w1 ((aj.o.aW _).ext bH)⟩))));(refine wpQuiet_nil ?_);(rintro _ ⟨sW,rfl⟩);rotate_left
     · exact(LC.refl HL0.o).drew
     go_wp2;go_ret;exact⟨af HV.o.symm,FIN.o sW⟩
theorem Ib(w:World)(l:aH)(p:M.ax)(h:aC w l p)(x:M.Fr)(cs:List Value)(hx:QK w (· <l.O) x cs)(n:Nat):
    Calls Tryz.prog 47 #[.pointer (some ⟨l.L,0,none⟩),.agg cs.toArray,.int .i64 n] w fun e w'=>e=.returned (.bool (M.dX p x n))∧LC l p w w':=by
 obtain⟨⟨⟨xk,xn⟩,xa⟩,pc,lo,st⟩:=x;obtain⟨vl,vs,rfl,hl,hs⟩:=hx;obtain⟨la,lc,rfl,yB,Yz⟩:=hl.form;obtain⟨sa,sc,rfl,hsn,hsc⟩:=hs.form;obtain⟨w4,vT,dI,b4⟩:=nu w #[.int .i64 xk,.string xn,.int .i64 xa,.int .i64 pc,.slice la lo.length lc,.slice sa st.length sc] 114;have KM:=h.Hl;have Aw:=h.ord;obtain⟨yz,y0,y1,y2, -⟩:=b4.ca;have⟨HL,iG,kP,EN,HLO,pM,zZ⟩:=pX (h.ext dI) dI b4 vT (hl.ext kr.stays dI) (hs.ext kr.stays dI) ((LC.refl h).ext dI);have LH:∀W,LC l p w4 W→LC l p w W:=fun _ hx=>(LC.refl h).ext dI |>.step hx.at_ hx.kp;have jL:=Z3 LH;simp only at hl hs;clear h dI b4 vT LH hl hs;go_enter Tryz.func47,Tryz.ntmps47;go_wp2_with fail;rw[←EN.o];refine(DW _ _ _ HL.o ⟨⟨xk,xn⟩,xa⟩).mono ?_;rintro e w5 ⟨rfl,WV,gU⟩;have rX:Zs (LC l p w4 w5):=Z3 ((LC.refl HL.o).step WV gU);have b5:=kP.o.kp gU Wg;have lC:=Z3 b5;clear WV gU y0 y1 y2 yz;obtain⟨yz,y0,y1,y2, -⟩:=b5.ca;clear b5;cases hhm:M.bP p ⟨⟨xk,xn⟩,xa⟩
 · have HR:Zs (M.dX p ⟨⟨⟨xk,xn⟩,xa⟩,pc,lo,st⟩ n=false):=Z3 (by unfold M.dX;simp only[hhm,Bool.false_and]);clear hhm;go_wp2_with fail;go_ret;exact⟨af HR.o.symm,jL.o _ rX.o⟩
 have HHM:=Z3 hhm;obtain⟨m,hm⟩:∃m,M.method p ⟨⟨xk,xn⟩,xa⟩=m:=⟨_,rfl⟩;have wV:m.code.length≤16:=by rw[←hm];exact(M.pG (M.ji HL.o.ok hhm).1).code
 have HV:Zs (M.dX p ⟨⟨⟨xk,xn⟩,xa⟩,pc,lo,st⟩ n=(decide (0≤pc)&&decide (pc<m.code.length)&&decide ((lo.length:Int)=m.locals)&&decide ((st.length:Int)≤m.stack)&&lo.all (M.bD · n)&&st.all (M.bD · n))):=Z3 (by
  unfold M.dX;simp only[hhm,hm,Bool.true_and])
 have zC:=fQ w5 l p rX.o.at_ ⟨⟨xk,xn⟩,xa⟩ hhm;rw[hm]at zC;have Bh:=Z3 zC;clear hhm hm zC;go_wp2_with fail;refine Bh.o.mono ?_;rintro e w6 ⟨⟨cs,mF,rfl⟩,dC⟩;obtain⟨t2,rfl⟩:=jS mF;obtain⟨w7,Da⟩:∃w7,w7=w6.alloc (.cells (iC m t2).toArray 106):=⟨_,rfl⟩;have r9:Ext w6 w7:=by rw[Da];exact kx
 have b7:ay w7 w6.heap.size 106 (iC m t2).toArray:=by rw[Da];exact ay.new _ _ _
 have b47:=lC.o.ext (dC.trans r9);have wD:Zs (LC l p w4 w7):=Z3 (rX.o.ext (dC.trans r9));have b46:=lC.o.ext dC;obtain⟨yz7, -, -, -,y3,y4,y5, -⟩:=b46.ca;have⟨za,SX⟩:=aJ b47 Da;clear mF dC Da r9 b7 b47 b46 y0 y1 y2 yz Bh;simp only[iC];unfold iC at SX;have afi:∀{b:Bool},M.dX p ⟨⟨⟨xk,xn⟩,xa⟩,pc,lo,st⟩ n=b→b=false→M.dX p ⟨⟨⟨xk,xn⟩,xa⟩,pc,lo,st⟩ n=false:=fun h e=>h.trans e;by_cases hp0:pc<0
 · have ahf:decide (pc<0)=true:=decide_eq_true hp0;have HR:Zs (M.dX p ⟨⟨⟨xk,xn⟩,xa⟩,pc,lo,st⟩ n=false):=Z3 (by rw[HV.o,decide_eq_false (p:=0≤pc) Wg];simp only[Bool.false_and]);clear hp0;go_wp2_with fail;go_ret;rw[←SX.o];exact⟨af HR.o.symm,jL.o _ wD.o⟩
 have ahf:decide (pc<0)=false:=decide_eq_false hp0;by_cases hp1:(m.code.length:Int)≤pc
 · have ahg:decide ((m.code.length:Int)≤pc)=true:=decide_eq_true hp1;have HR:Zs (M.dX p ⟨⟨⟨xk,xn⟩,xa⟩,pc,lo,st⟩ n=false):=Z3 (by rw[HV.o,decide_eq_false (p:=pc<m.code.length) Wg];simp only[Bool.false_and,Bool.and_false]);clear hp0 hp1;go_wp2_with fail;go_ret;rw[←SX.o];exact⟨af HR.o.symm,jL.o _ wD.o⟩
 have ahg:decide ((m.code.length:Int)≤pc)=false:=decide_eq_false hp1;have HP:Zs (0≤pc∧pc<m.code.length):=Z3 Wg;clear hp0 hp1;by_cases yC:(lo.length:Int)=m.locals;rotate_left
 · have ag0:((lo.length:Int) !=m.locals)=true:=bne_iff_ne.2 yC;have HR:Zs (M.dX p ⟨⟨⟨xk,xn⟩,xa⟩,pc,lo,st⟩ n=false):=Z3 (by rw[HV.o,decide_eq_false (p:=(lo.length:Int)=m.locals) yC];simp only[Bool.false_and,Bool.and_false]);clear yC;go_wp2_with fail;go_ret;rw[←SX.o];exact⟨af HR.o.symm,jL.o _ wD.o⟩
 have ag0:((lo.length:Int) !=m.locals)=false:=by simp[yC]
 have Bz:=Z3 yC;clear yC;by_cases dw:m.stack<(st.length:Int)
 · have YG:decide (m.stack<(st.length:Int))=true:=decide_eq_true dw;have HR:Zs (M.dX p ⟨⟨⟨xk,xn⟩,xa⟩,pc,lo,st⟩ n=false):=Z3 (by rw[HV.o,decide_eq_false (p:=(st.length:Int)≤m.stack) Wg];simp only[Bool.false_and,Bool.and_false]);clear dw;go_wp2_with fail;go_ret;rw[←SX.o];exact⟨af HR.o.symm,jL.o _ wD.o⟩
 have YG:decide (m.stack<(st.length:Int))=false:=decide_eq_false dw;replace HV:Zs (M.dX p ⟨⟨⟨xk,xn⟩,xa⟩,pc,lo,st⟩ n=(lo.all (M.bD · n)&&st.all (M.bD · n))):=Z3 (by
  rw[HV.o,decide_eq_true HP.o.1,decide_eq_true HP.o.2,decide_eq_true Bz.o,decide_eq_true (p:=(st.length:Int)≤m.stack) Wg];simp only[Bool.true_and])
 clear dw;go_wp2_with fail;rw[←SX.o];refine(Cw _ (· <l.O) _ lo (SliceOf.lc kr.stays HLO.o wD.o) n).mono ?_;rintro e w8 ⟨rfl,lK⟩;have QN:=Z3 (wD.o.ext lK);have b48:=za.o.ext lK;obtain⟨xz, -, -, -, -, -,x5, -⟩:=b48.ca;clear b48 lK;cases qV:lo.all (M.bD · n)
 · have HR:Zs (M.dX p ⟨⟨⟨xk,xn⟩,xa⟩,pc,lo,st⟩ n=false):=Z3 (by rw[HV.o,qV];rfl);clear qV;go_wp2_with fail;go_ret;exact⟨af HR.o.symm,jL.o _ QN.o⟩
 · have HR:Zs (M.dX p ⟨⟨⟨xk,xn⟩,xa⟩,pc,lo,st⟩ n=st.all (M.bD · n)):=Z3 (by rw[HV.o,qV];rfl);clear qV;go_wp2_with fail;refine(Cw _ (· <l.O) _ st (SliceOf.lc kr.stays pM.o QN.o) n).mono ?_;rintro e w9 ⟨rfl,nk⟩;have TI:=Z3 (QN.o.ext nk);clear nk;go_wp2_with fail;go_ret;exact⟨af HR.o.symm,jL.o _ TI.o⟩
theorem ae.six{w:World}{b o:Nat}{x0 x1 x2 x3 x4 x5:Value}(h:ae w b o [x0,x1,x2,x3,x4,x5]):
    w.cell? ⟨b,o,none⟩=some x0∧w.cell? ⟨b,o+1,none⟩=some x1∧w.cell? ⟨b,o+2,none⟩=some x2∧w.cell? ⟨b,o+3,none⟩=some x3∧
    w.cell? ⟨b,o+4,none⟩=some x4∧w.cell? ⟨b,o+5,none⟩=some x5:=
 ⟨by simpa using h 0 x0 rfl,h 1 x1 rfl,h 2 x2 rfl,h 3 x3 rfl,h 4 x4 rfl,h 5 x5 rfl⟩
theorem M.Wv{p:M.ax}{s:M.St}:M.Cx p s=true↔(1≤s.status∧s.status≤10)∧s.heap.length≤12∧s.outs.length≤40∧s.frames.length≤8∧(decide (0<s.frames.length)=decide (s.status=1))∧s.outs.all M.iH=true∧
    s.frames.all (M.dX p · s.heap.length)=true∧M.jI p s.heap=true∧M.bD s.back s.heap.length=true:=by
 unfold M.Cx;simp only[Bool.and_eq_true,decide_eq_true_eq,beq_iff_eq];constructor
 · rintro⟨⟨⟨⟨⟨⟨⟨⟨⟨a,b⟩,c⟩,d⟩,e⟩,f⟩,g⟩,h⟩,i⟩,j⟩;exact⟨⟨a,b⟩,c,d,e,f,g,h,i,j⟩
 · rintro⟨⟨a,b⟩,c,d,e,f,g,h,i,j⟩;exact⟨⟨⟨⟨⟨⟨⟨⟨⟨a,b⟩,c⟩,d⟩,e⟩,f⟩,g⟩,h⟩,i⟩,j⟩
theorem O0 (w : World) (l : aH) (p : M.ax) (h : aC w l p) (s : M.St) (cs : List Value) (hs : dU w (· < l.O) s cs) :
    Calls Tryz.prog 22 #[.pointer (some ⟨l.L,0,none⟩),.agg cs.toArray] w fun e w'=>e=.returned (.bool (M.Cx p s))∧LC l p w w':=by
 obtain⟨a1,c1,a2,c2,a3,c3,rfl,h1,h2,h3⟩:=hs.form;clear hs;obtain⟨st,zU,hp,outs,⟨bk,bn⟩⟩:=s;simp only at h1 h2 h3 ⊢;obtain⟨w3,jD,dK,b3⟩:=nu w #[.int .i64 st,.slice a1 zU.length c1,.slice a2 hp.length c2,.slice a3 outs.length c3,.int .i64 bk,.int .i64 bn] 40;have KM:=h.Hl;have Aw:=h.ord;obtain⟨v,hv⟩:∃v,M.Cx p ⟨st,zU,hp,outs,⟨bk,bn⟩⟩=v:=⟨_,rfl⟩;have⟨HV0,HI⟩:=aJ hv (M.Wv (p:=p) (s:=⟨st,zU,hp,outs,⟨bk,bn⟩⟩));rw[hv]at HI ⊢;simp only at HI;obtain⟨yz,y0,y1,y2,y3, -⟩:=b3.ca;have⟨HL,gN,mV,H1,H2,H3⟩:=qU (h.ext dK) b3 jD (h1.ext QK.stays dK) (h2.ext yw.stays dK) (h3.ext jQ.stays dK);have mR:=h1.form;have yD:=h2.form;have U8:=h3.form;obtain⟨_,_,e1,Bo,hm1⟩:=mR;cases e1;obtain⟨_,_,e2,Hw,Rm⟩:=yD;cases e2;obtain⟨_,_,e3,hl3,hm3⟩:=U8;cases e3;have LH:∀W,LC l p w3 W→LC l p w W:=fun _ hx=>(LC.refl h).ext dK |>.step hx.at_ hx.kp;have jL:=Z3 LH;clear hv h dK b3 jD h1 h2 h3 LH;go_enter Tryz.func22,Tryz.ntmps22;by_cases s1:st<1
 · have s1':decide (st<1)=true:=decide_eq_true s1;have HR:Zs (false=v):=Z3 (by cases v;rfl;have:=HI.o.1 rfl;omega);clear s1;go_wp2_with fail;go_ret;rw[←mV.o];exact⟨af HR.o,jL.o _ (LC.refl HL.o)⟩
 have s1':decide (st<1)=false:=decide_eq_false s1;by_cases s2:10<st
 · have s2':decide (10<st)=true:=decide_eq_true s2;have HR:Zs (false=v):=Z3 (by cases v;rfl;have:=HI.o.1 rfl;omega);clear s1 s2;go_wp2_with fail;go_ret;rw[←mV.o];exact⟨af HR.o,jL.o _ (LC.refl HL.o)⟩
 have s2':decide (10<st)=false:=decide_eq_false s2;by_cases s3:12<hp.length
 · have s3':decide ((12:Int)<hp.length)=true:=decide_eq_true Wg;have HR:Zs (false=v):=Z3 (by cases v;rfl;have:=HI.o.1 rfl;omega);clear s1 s2 s3;go_wp2_with fail;go_ret;rw[←mV.o];exact⟨af HR.o,jL.o _ (LC.refl HL.o)⟩
 have s3':decide ((12:Int)<hp.length)=false:=decide_eq_false Wg;by_cases s4:40<outs.length
 · have s4':decide ((40:Int)<outs.length)=true:=decide_eq_true Wg;have HR:Zs (false=v):=Z3 (by cases v;rfl;have:=HI.o.1 rfl;omega);clear s1 s2 s3 s4;go_wp2_with fail;go_ret;rw[←mV.o];exact⟨af HR.o,jL.o _ (LC.refl HL.o)⟩
 have s4':decide ((40:Int)<outs.length)=false:=decide_eq_false Wg;by_cases s5:8<zU.length
 · have s5':decide ((8:Int)<zU.length)=true:=decide_eq_true Wg;have HR:Zs (false=v):=Z3 (by cases v;rfl;have:=HI.o.1 rfl;omega);clear s1 s2 s3 s4 s5;go_wp2_with fail;go_ret;rw[←mV.o];exact⟨af HR.o,jL.o _ (LC.refl HL.o)⟩
 have s5':decide ((8:Int)<zU.length)=false:=decide_eq_false Wg;have HS:Zs ((1≤st∧st≤10)∧hp.length≤12∧outs.length≤40∧zU.length≤8):=Z3 Wg;clear s1 s2 s3 s4 s5;obtain⟨b1,vZ⟩:∃b,decide (0<zU.length)=b:=⟨_,rfl⟩;obtain⟨b2,nM⟩:∃b,decide (st=1)=b:=⟨_,rfl⟩;have e36:decide ((0:Int)<zU.length)=b1:=by rw[←vZ];exact decide_eq_decide.2 Wg
 have e39:((st:Int)==1)=b2:=by rw[←nM];rfl
 by_cases Z5:b1=b2;rotate_left
 · have e41:(b1==b2)=false:=beq_eq_false_iff_ne.2 Z5;have e42:decide (0<zU.length)=b1:=vZ;have HR:Zs (false=v):=Z3 (by
    cases v
    · rfl
    · exact absurd (vZ.symm.trans ((HI.o.1 rfl).2.2.2.2.1.trans nM)) Z5)
   clear vZ nM Z5;go_wp2_with fail;go_ret;rw[←mV.o];exact⟨af HR.o,jL.o _ (LC.refl HL.o)⟩
 have e41:(b1==b2)=true:=beq_iff_eq.2 Z5;have e42:decide (0<zU.length)=b1:=vZ;have HBB:Zs (decide (0<zU.length)=decide (st=1)):=Z3 (by rw[vZ,nM,Z5]);clear vZ nM Z5;go_wp2_with fail;rw[←mV.o];clear e36 e39 e41 e42 s1' s2' s3' s4' s5';go_loopw [44] (fun i wr=>∃q:Nat,q≤outs.length∧i=.int .i64 q∧Ext w3 wr∧Zs ((outs.take q).all M.iH=true)) (fun i _=>outs.length - (intOf i).toNat)
 case atStart=>exact⟨0,Nat.zero_le _,rfl,Kp.rr,Z3 Wf⟩
 case round =>
  obtain⟨q,hq,rfl,hE,HQ⟩:=hrel;by_cases bY:q<outs.length
  · obtain⟨x,hx⟩:=iT outs q bY;obtain⟨b,off,cs,rfl,hI,rfl, -,hc⟩:=(H3.o.ext jQ.stays hE).get hx;rw[Nat.mul_one]at hc;have g0:=hc.one;have gz:=aF g0;have⟨HX,HE⟩:=aJ hx hE;clear hx hc hE y0 y1 y2 y3;go_wp2_with fail;refine(Kh x _).mono ?_;rintro e w4 ⟨rfl,rfl⟩;cases tO:(decide (-9999≤x)&&decide (x≤9999))
    · have HR:Zs (false=v):=Z3 (by
       cases v
       · rfl
       · have h1:=(HI.o.1 rfl).2.2.2.2.2.1;have h2:=List.all_eq_true.1 h1 x (List.mem_of_getElem? HX.o);unfold M.iH at h2;rw[tO]at h2;cases h2)
      clear tO;go_wp2_with fail;go_ret;exact⟨af HR.o,jL.o _ ((LC.refl HL.o).ext HE.o)⟩
    · have HN:Zs (M.iH x=true):=Z3 tO;clear tO;go_wp2_with fail;exact⟨⟨q+1,by omega,by go_num,HE.o,Z3 (all_succ HQ.o HX.o HN.o)⟩,by simp[intOf];omega⟩
  · have af7 : Zs (outs.all M.iH = true) := Z3 (kD HQ.o Wg); have HE := Z3 hE; obtain ⟨xz1, -, x1, -⟩ := (gN.o.ext hE).ca; clear hE HQ y0 y1 y2 y3; go_wp2_with fail; obtain ⟨wo, rfl⟩ : ∃ wo : World, wo = wr := ⟨_, rfl⟩; go_loopw [55] (fun i wr => ∃ q : Nat, q ≤ zU.length ∧ i = .int .i64 q ∧ LC l p w3 wr ∧ Zs ((zU.take q).all (M.dX p · hp.length) = true)) (fun i _ => zU.length - (intOf i).toNat)
    case atStart=>exact⟨0,Nat.zero_le _,rfl,(LC.refl HL.o).ext HE.o,Z3 Wf⟩
    case round =>
     obtain⟨q,hq,rfl,hC,HQ⟩:=hrel;have HC:=Z3 hC;by_cases bY:q<zU.length
     · obtain⟨x,hx⟩:=iT zU q bY;obtain⟨b,off,cs,rfl,hI,lX, -,hc⟩:=(SliceOf.lc QK.stays H1.o hC).get hx;have agL:=lX;obtain⟨vl,vs,rfl,hl,hs⟩:=agL;obtain⟨la,lc,rfl,yB,Yz⟩:=hl.form;obtain⟨sa,sc,rfl,hsn,hsc⟩:=hs.form;obtain⟨g0,g1,g2,g3,g4,g5⟩:=hc.six;have gz:=aF g0;obtain⟨w8,JS,lK,b8⟩:=nu wr #[.int .i64 x.of.of.keeper,.string x.of.of.name,.int .i64 x.of.at_,.int .i64 x.pc,.slice la x.locals.length lc,.slice sa x.stack.length sc] 114;obtain⟨kz,k0,k1,k2,k3,k4,k5, -⟩:=b8.ca;have b38:=gN.o.kp hC.kp Wg;obtain⟨xz, -, -,x2, -⟩:=b38.ca;have⟨HX,HFR,QN,WQ⟩:=gD hx (QK.stays _ _ _ _ _ _ (Ext.same lK) (fun _ h=>h) lX) (hC.ext lK) JS;clear hx hc hC lK b8 b38 JS lX hl hs x1 xz1;go_wp2_with fail;rw[←WQ.o];refine(Ib _ _ _ QN.o.at_ x _ HFR.o hp.length).mono ?_;rintro e w9 ⟨rfl,DN⟩;have TI:Zs (LC l p w3 w9):=Z3 (QN.o.trans DN);clear DN;cases G5:M.dX p x hp.length
       · have HR:Zs (false=v):=Z3 (by
          cases v
          · rfl
          · have h1:=(HI.o.1 rfl).2.2.2.2.2.2.1;have h2:=List.all_eq_true.1 h1 x (List.mem_of_getElem? HX.o);rw[G5]at h2;cases h2)
         clear G5;go_wp2_with fail;go_ret;exact⟨af HR.o,jL.o _ TI.o⟩
       · have HN:=Z3 G5;clear G5;go_wp2_with fail;exact⟨⟨q+1,by omega,by go_num,TI.o,Z3 (all_succ HQ.o HX.o HN.o)⟩,by simp[intOf];omega⟩
     · have afQ : Zs (zU.all (M.dX p · hp.length) = true) := Z3 (kD HQ.o Wg); have b38 := gN.o.kp hC.kp Wg; obtain ⟨xz, -, -, x2, -⟩ := b38.ca; clear hC HQ x1 xz1 b38; go_wp2_with fail; refine (J7 _ _ _ HC.o.at_ _ hp (SliceOf.lc yw.stays H2.o HC.o)).mono ?_; rintro e w9 ⟨rfl, DN⟩; have TI : Zs (LC l p w3 w9) := Z3 (HC.o.trans DN); have b39 := gN.o.kp TI.o.kp Wg; obtain ⟨zz, -, -, z2, -, z4, z5, -⟩ := b39.ca; clear DN x2 xz b39; cases hho : M.jI p hp
       · have HR:Zs (false=v):=Z3 (by
          cases v
          · rfl
          · have h1:=(HI.o.1 rfl).2.2.2.2.2.2.2.1;rw[hho]at h1;cases h1)
         clear hho;go_wp2_with fail;go_ret;exact⟨af HR.o,jL.o _ TI.o⟩
       · have HHO:=Z3 hho;clear hho;go_wp2_with fail;refine(M9 _ ⟨bk,bn⟩ hp.length).mono ?_;rintro e gu ⟨rfl,kK⟩;have afB:=Z3 (TI.o.ext kK);clear kK
         have HR:Zs (M.bD ⟨bk,bn⟩ hp.length=v):=Z3 (by
          have hi:=HI.o;rw[HHO.o,af7.o,afQ.o]at hi;have hs:=HS.o;have hb:=HBB.o;cases tQ:M.bD ⟨bk,bn⟩ hp.length
          · cases v
            · rfl
            · have:=(hi.1 rfl).2.2.2.2.2.2.2.2;rw[tQ]at this;cases this
          · exact(hi.2 ⟨hs.1,hs.2.1,hs.2.2.1,hs.2.2.2,hb,rfl,rfl,rfl,tQ⟩).symm)
         go_wp2_with fail;go_ret;exact⟨af HR.o,jL.o _ afB.o⟩
theorem SliceOf.vals{w:World}{I:Nat→Prop}{v:Value}{xs:List M.Val}(h:SliceOf 2 kr w I v xs):Flat w 2 v xs.length (xs.flatMap bV):=SliceOf.toFlat (enc:=bV) (fun _ _ _ _ h=>h) (fun _=>rfl) uN h
theorem SliceOf.ints{w:World}{I:Nat→Prop}{v:Value}{xs:List Int}(h:SliceOf 1 jQ w I v xs):Flat w 1 v xs.length (xs.flatMap sU):=SliceOf.toFlat (enc:=sU) (fun _ _ _ _ h=>h) (fun _=>rfl) Ev h
theorem Own.more{w w':World}{own:Own}{B e k n:Nat}{v:Value}{xs:List Value}(hd:∀b,own b≠none→B≤b∧b<w.heap.size)(bN:w'.ownsRow w.heap.size e k v n xs)(hs:w.heap.size≤w'.heap.size)(hB:B≤w.heap.size)(r:Nat×Nat):
    ∃gq:Own,(∀b q,own b=some q→gq b=some q)∧(∀b,gq b≠none→B≤b∧b<w'.heap.size)∧hZ w' gq B r e k v n xs∧iw w.heap.size own gq∧(∀b q,gq b=some q→own b=some q∨q=r):=by
 cases he:v.ownBlock with
 |none=>exact⟨own,fun _ _ h=>h,fun b hb=>⟨(hd b hb).1,Nat.lt_of_lt_of_le (hd b hb).2 hs⟩,⟨fI bN hB,fun b hb=>by rw[he]at hb;cases hb⟩,iw.refl _ _,fun _ _ h=>.inl h⟩
 | some g =>
  have hg:=bN.lt g he;have hn:own g=none:=by
   cases e2:own g with
   |none=>rfl
   |some q=>have:=(hd g (by rw[e2];simp)).2;omega
  refine⟨own.add g r,fun b q hb=>?_,fun b hb=>?_,⟨fI bN hB,fun b hb=>?_⟩,Own.xL (.inr hg.1),fun b q hb=>?_⟩
  · rw[Own.gQ _ (fun e3=>by subst e3;rw[hn]at hb;cases hb)];exact hb
  · by_cases e3:b=g
    · subst e3;exact⟨by omega,hg.2⟩
    · rw[Own.gQ _ e3]at hb;exact⟨(hd b hb).1,Nat.lt_of_lt_of_le (hd b hb).2 hs⟩
  · rw[he]at hb;cases hb;exact Own.add_eq _ _ _
  · by_cases e3:b=g
    · subst e3;rw[Own.add_eq]at hb;cases hb;exact .inr rfl
    · rw[Own.gQ _ e3]at hb;exact .inl hb
theorem hZ.app{w w':World}{own:Own}{B e k n m g' c':Nat}{r:Nat×Nat}{v:Value}{xs ys:List Value}(h:hZ w own B r e k v n xs)(hd:∀b,own b≠none→B≤b∧b<w.heap.size)(ho:w'.ownsRow B e k (.slice (some ⟨g',0,none⟩) m c') m ys)
    (hk:Kp (fun b=>v.ownBlock=some b) w w') (hg:v.ownBlock=some g'∨w.heap.size≤g'):
    hZ w' (own.add g' r) B r e k (.slice (some ⟨g',0,none⟩) m c') m ys∧iw w.heap.size own (own.add g' r)∧(∀b,own.add g' r b≠none→B≤b∧b<w'.heap.size)∧(∀b q,own.add g' r b=some q→own b=some q∨q=r):=
 ⟨⟨ho,fun b hb=>by cases hb;exact Own.add_eq _ _ _⟩,Own.xL (hg.imp (h.role _) id),fun b hb=>by
  by_cases e3:b=g'
  · subst e3;exact ho.lt b rfl
  · rw[Own.gQ _ e3]at hb;exact⟨(hd b hb).1,Nat.lt_of_lt_of_le (hd b hb).2 hk.size⟩,fun b q hb=>by
  by_cases e3:b=g'
  · subst e3;rw[Own.add_eq]at hb;cases hb;exact .inr rfl
  · rw[Own.gQ _ e3]at hb;exact .inl hb⟩
theorem hZ.beside{w w':World}{own own':Own}{B e k n e2 k2 n2:Nat}{r r2:Nat×Nat}{v v2:Value}{xs xs2:List Value}(h:hZ w own B r e k v n xs)(h2:hZ w own B r2 e2 k2 v2 n2 xs2)(hk:Kp (fun b=>v.ownBlock=some b) w w')(ha:iw w.heap.size own own')(hr:r≠r2):hZ w' own' B r2 e2 k2 v2 n2 xs2:=
 h2.keep hk ha fun b hb _ e=>hr (by have:=h.role b e;rw[hb]at this;cases this;rfl)
structure mq(w:World)(own:Own)(B:Nat)(v:Value)(os:List GO):Prop where
 dom:∀b,own b≠none→B≤b∧b<w.heap.size
 row:hZ w own B (2,0) 160 3 v os.length (os.flatMap kV)
 obj:∀j o,os[j]?=some o→hZ w own B (7,j) 38 2 o.v o.o.fields.length (o.o.fields.flatMap bV)
 QD:∀b q,own b=some q→q=(2,0)∨∃j,q=(7,j)
theorem mq.nil(w:World)(B:Nat):mq w (fun _=>none) B (.slice none 0 0) []:=
 ⟨fun b h=>absurd rfl h,hZ.nil _ _ _ _ _ _,fun j o h=>by simp at h,fun b q h=>by cases h⟩
theorem mq.slice{w:World}{own:Own}{B:Nat}{v:Value}{os:List GO}(h:mq w own B v os){I:Nat→Prop}(hI:∀b,B≤b→b<w.heap.size→I b)(hl:os.length≤4294967296)(hf:∀o∈os,o.o.fields.length≤4294967296):SliceOf 3 yw w I v (os.map GO.o):=by
 have hex:∀{l:List GO},(∀(j:Nat) (o:GO),l[j]?=some o→SliceOf 2 kr w I o.v o.o.fields)→∀o∈l,SliceOf 2 kr w I o.v o.o.fields:=fun hl o ho=>by
  obtain⟨j,hj,e⟩:=List.getElem_of_mem ho;exact hl j o (by rw[List.getElem?_eq_getElem hj,e])
 have nW:=hex (l:=os) fun j o ho=>SliceOf.gH bV (h.obj j o ho).row rfl rfl (fun _ _=>rfl) (fun _ _=>rfl) (fun b h1 h2=>hI b h1 h2) (hf o (List.mem_of_getElem? ho));have hs:SliceOf 3 (fun w I (x:GO) cs=>SliceOf 2 kr w I x.v x.o.fields∧cs=kV x) w I v os:=
  SliceOf.gH kV h.row.row rfl rfl (fun _ _=>rfl) (fun o ho=>⟨nW o ho,rfl⟩) (fun b h1 h2=>hI b h1 h2) hl
 obtain⟨a,c,e,h1,h2,h3⟩:=hs;refine⟨a,c,by rw[e,List.length_map],by rw[List.length_map];exact h1,by rw[List.length_map];exact h2,fun i x hx=>?_⟩;rw[List.getElem?_map]at hx;cases hi:os[i]? with
 |none=>rw[hi]at hx;cases hx
 |some o=>
  rw[hi]at hx;cases hx;obtain⟨b,off,cs,ea,KN,⟨vC,rfl⟩,hlen,hc⟩:=h3 i o hi;exact⟨b,off,_,ea,KN,⟨o.v,rfl,vC⟩,hlen,hc⟩
theorem BM(w:World)(I:Nat→Prop)(v:Value)(hs:List M.nP)(h:SliceOf 3 yw w I v hs)(hl:hs.length≤12):
    Calls Tryz.prog 50 #[v] w fun e w'=>(∃v' own os,e=.returned v'∧os.map GO.o=hs∧mq w' own w.heap.size v' os)∧Ext w w':=by
 obtain⟨a,cap,rfl,hn,dm⟩:=h.form;have H:=Z3 h;clear h;go_enter Tryz.func50,Tryz.ntmps50;go_wp2_with fail;go_loopw [8,3] (fun i v3 wr=>∃(q:Nat) (own:Own) (os:List GO),q≤hs.length∧i=.int .i64 q∧Ext w wr∧Zs (os.map GO.o=hs.take q)∧mq wr own w.heap.size v3 os) (fun i _ _=>hs.length - (intOf i).toNat)
 case atStart=>exact⟨0,_,[],Nat.zero_le _,rfl,Kp.rr,Z3 Wf,mq.nil _ _⟩
 case round=>
  obtain⟨q,own,os,hq,rfl,hE,xK,hO⟩:=hrel;obtain⟨va,vc,rfl⟩:=hO.row.form;have hol:os.length=q:=by
   have:=congrArg List.length xK.o;simpa [Nat.min_eq_left hq]using this
  by_cases bY:q<hs.length
  · obtain⟨⟨⟨ok,on⟩,Ha⟩,ho⟩:=iT hs q bY;obtain⟨b,off,cs,rfl,hI,⟨vf,rfl,hf⟩, -,hc⟩:=(H.o.ext yw.stays hE).get ho;obtain⟨fa,fc,rfl,Qn,CX⟩:=hf.form;obtain⟨g0,g1,g2⟩:=hc.three;have gz:=aF g0;obtain⟨w5,iA,cZ,b5⟩:=nu wr #[.int .i64 ok,.string on,.slice fa Ha.length fc] 160;have Vt:w5.heap.size=wr.heap.size+1:=by rw[iA];simp
    have Tn:¬(Value.slice va os.length vc).ownBlock=some wr.heap.size:=fun e=>by have:=(hO.row.blk e).2;omega
    obtain⟨T,f,dA,HT⟩:=iN.ex (fun W'=>Kp (fun b=>(Value.slice va os.length vc).ownBlock=some b) w5 W') _ Kp.rr;obtain⟨-,r0,r1,r2, -⟩:=ay.kY fun z=>(b5.kp (HT.aW z) Tn);have⟨aj,tN⟩:=aJ HT iA;have PT:Zs (mq w5 own w.heap.size (.slice va os.length vc) os):=Z3 ⟨fun b hb=>⟨(hO.dom b hb).1,by have:=(hO.dom b hb).2;omega⟩,hO.row.ext cZ,fun j o ho=>(hO.obj j o ho).ext cZ,hO.QD⟩;have⟨HF,gy,HX,KJ⟩:=gD (hf.ext kr.stays cZ) (hE.trans cZ) ho hol;have hwr:=hE.size;have ais:(os.length:Int)=q:=by omega
    clear hE hO cZ b5 iA Tn HT hf hc ho hol;go_wp2_with fail;rw[←tN.o];clear g0 g1 g2;(refine eO aj 9 [([0,1,2,3,4],5),([6],7),([],8)] [] ?_ ?_)
    · exact Kp.rr.drew
    refine iX ?_;intro K2 ag;go_wp2_with fail;refine(qo _ _ _ _ ((HF.o.ext kr.stays Kp.rr.drew).vals) CX).mono ?_;rintro e w6 ⟨⟨v6,rfl,FH⟩,dC⟩;obtain⟨x6,y6,rfl⟩:=bO FH;have kH:Zs (Ext w5 w6):=Z3 (((Kp.refl _ w5).drew:Ext w5 _).trans dC);have Ee:Zs (w6.ownsRow w5.heap.size 38 2 (Value.slice x6 Ha.length y6) Ha.length (Ha.flatMap bV)):=Z3 FH;clear dC FH;go_wp2_with fail;(refine kk aj ag kH.o.any ?_);clear ag K2;refine iX ?_;intro K2 ag;go_wp2_with fail;(refine kk aj ag (kH.o.alloc _).any ?_);clear ag K2;(refine gZ rfl fun K2 ag=>?_);obtain⟨gq,Ep,Ql,Vi,UY,Bq⟩:=Own.more PT.o.dom Ee.o kH.o.size Wg (7,os.length);have sO:hZ w6 gq w.heap.size (2,0) 160 3 (.slice va os.length vc) os.length (os.flatMap kV):=(PT.o.row.ext kH.o).relabel Ep;have aad:∀j o,os[j]?=some o→hZ w6 gq w.heap.size (7,j) 38 2 o.v o.o.fields.length (o.o.fields.flatMap bV):=fun j o ho=>((PT.o.obj j o ho).ext kH.o).relabel Ep;have r9:Ext w6 (w6.alloc (.cells #[.int .i64 ok,.string on,(Value.slice x6 Ha.length y6)] 160)):=kx;have ahe:∀u∈kV (⟨⟨⟨ok,on⟩,Ha⟩,(Value.slice x6 Ha.length y6)⟩:GO),u.oneCell'=true:=by
     simp[kV,Value.oneCell']
    refine az Lv rfl (.tmp 12) (.tmp 19) rfl w.heap.size (.slice va os.length vc) os.length (os.flatMap kV) rfl ((sO.ext r9).row) w6.heap.size 1 (kV (⟨⟨⟨ok,on⟩,Ha⟩,(Value.slice x6 Ha.length y6)⟩:GO)) rfl rfl (ae.fB _ _ rfl) ahe Wg (by have:=kH.o.size;simp;omega) ?_;intro g9 c9 w9 pO qK wW;change K2 _ _;have nV:Kp (fun b=>(Value.slice va os.length vc).ownBlock=some b) w6 w9:=r9.any.trans qK;(refine kk aj ag (kH.o.any.trans nV) ?_);clear ag K2;obtain⟨YF,LP,hd2,pY⟩:=hZ.app sO Ql pO nV (wW.imp id fun e=>by simp at e;omega)
    have LZ : mq w9 (gq.add g9 (2, 0)) w.heap.size (.slice (some ⟨g9, 0, none⟩) (os.length + 1) c9) (os ++ [(⟨⟨⟨ok, on⟩, Ha⟩, (Value.slice x6 Ha.length y6)⟩ : GO)]) := by
     refine⟨hd2,by simpa using YF,fun j o ho=>?_,fun b r hb=>?_⟩
     · rcases Nat.lt_trichotomy j os.length with hj|hj|hj
       · rw[List.getElem?_append_left hj]at ho;exact sO.beside (aad j o ho) nV LP Wf
       · subst hj;simp at ho;subst ho;exact sO.beside Vi nV LP Wf
       · rw[List.getElem?_eq_none X2]at ho;cases ho
     · rcases pY b r hb with h|rfl
       · rcases Bq b r h with h|rfl
         · exact PT.o.QD b r h
         · exact .inr ⟨_,rfl⟩
       · exact .inl rfl
    have nk:Ext w w9:=(gy.o.trans kH.o).own nV (fun b e=>(sO.blk e).1);have⟨Jo,su⟩:=aJ LZ nk;clear Ep Ql Vi UY Bq sO aad r9 pO qK wW nV YF LP hd2 pY LZ nk aj r0 r1 r2;(refine dW ?_);go_wp2_with fail;refine⟨⟨q+1,gq.add g9 (2,0),os++[(⟨⟨⟨ok,on⟩,Ha⟩,(Value.slice x6 Ha.length y6)⟩:GO)],by omega,by go_num,su.o,Z3 ?_,Jo.o⟩,by simp[intOf];omega⟩;rw[List.map_append,xK.o,List.take_add_one,HX.o];rfl
  · have G7:q=hs.length:=by omega
    have HR:Zs (os.map GO.o=hs):=Z3 (by rw[xK.o,G7,List.take_length]);have⟨HO,HE⟩:=aJ hO hE;clear hO hE;go_wp2_with fail;go_ret;exact⟨⟨_,own,os,rfl,HR.o,HO.o⟩,HE.o⟩
end Go.Proofs.YtkmclfpjpajjeaaGreat
