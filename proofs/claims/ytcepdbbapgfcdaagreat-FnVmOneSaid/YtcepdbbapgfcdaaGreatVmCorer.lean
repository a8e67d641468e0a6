/- Walks. -/
import Derived.Test.YtcepdbbapgfcdaaGreatVmCoreq
set_option maxRecDepth 100000
set_option maxHeartbeats 4000000
set_option linter.unusedSimpArgs false
set_option linter.unusedVariables false
namespace Go.Proofs.YtcepdbbapgfcdaaGreat
open Go Go.RowKit
theorem JC(w:World)(l:aI)(p:M.au)(own:Own)(B mb:Nat)(lk:Bool)(g:Gh)(h:aK w l p own B mb lk g)(r:List GC)(c:GC)(bO:g.cs=r++[c])(st vs:List M.Val)(n:Nat)(bH:c.f.stack=st++vs)(hn:vs.length=n)(H9:0<n):
    Calls Tryz.prog 98 #[.pointer (some ⟨c.cb,13,none⟩),.int .i64 n] w fun e w'=>∃v',e=.returned (.tuple #[v',.bool true])∧w'.ownsRow w.heap.size 32 2 v' n (vs.flatMap bW)∧Kp (PO own (Eh r.length)) w w'∧∃vs',aK w' l p own B mb lk (g.dG r c st vs'):=by
 have hc:=h.at_ bO;have kQ:=M.aP.1 (h.GL bO);have Rp:=(h.mi bO).stack;have uQ:=kQ.2.2.2.2.1;have hlen:c.f.stack.length=st.length+n:=by rw[bH];simp[hn]
 refine(dN w c.cb 13 B _ _ c.vs c.f.stack.length c.f.stack hc.blk rfl hc.dG.row rfl n (by omega) H9 (by omega) (fun e=>by have:=hc.dG.role _ e;rw[hc.role]at this;cases this)).mono ?_;rintro e w' ⟨v',rfl,cu,⟨a,k,hv,hb⟩,hK⟩;rw[hlen]at hv;rw[hlen,Nat.add_sub_cancel]at hb;have e1:c.f.stack.drop (c.f.stack.length - n)=vs:=by rw[hlen,Nat.add_sub_cancel,bH,List.drop_left]
 rw[e1]at cu;obtain⟨h1,h2⟩:=h.popped bO hv ⟨vs,bH,hn⟩ H9 hb hK;exact⟨v',rfl,cu,h.JS bO (hK.weak fun b _ e=>.inl e),_,h2⟩
theorem VW (w : World) (l : aI) (p : M.au) (own : Own) (B mb : Nat) (lk : Bool) (Cg : Zs (lk = true → nD)) (g : Gh) (h : aK w l p own B mb lk g) (r : List GC) (c : GC) (bO : g.cs = r ++ [c]) (bH : g.status = 1) (i : M.Ins) (hi : M.jC (M.method p c.f.of) i = true) (fC : i.op = 9) :
    Calls Tryz.prog 65 #[.pointer (some ⟨mb,0,none⟩),.agg #[.int .i64 i.op,.int .i64 i.a,.string i.name,.string i.member]] w (cB w l p own B mb lk (.int .i64 (M.aM p lk i g.st).1) (M.aM p lk i g.st).2):=by
 have HI:=Ys (M.ku hi);obtain⟨w0,bD,aU,b3⟩:=nu w #[.int .i64 i.op,.int .i64 i.a,.string i.name,.string i.member] 47;have Cf:=Ys (h.fresh (Nat.le_refl _));have IB:Zs (∀b,w.heap.size≤b→¬MO l own b):=Ys (fun b hb=>h.fresh hb);have abL:=h.dP.lt;have hDL:=h.dP.ord.2.2;have Du:=Ys (h.ext aU);have bJ:=Ys aU;have fM:=Ys b3;have dQ:=Ys bD;have fw:=Ys bO;have EW:=b3.lt;clear h aU b3 bD bO hi;obtain⟨⟨⟨⟨v0,v1⟩,v2⟩,cd⟩,hF⟩:∃F,M.call p c.f.of.of.keeper i.name i.member=F:=⟨_,rfl⟩
 have HV : Zs (M.aM p lk i g.st = if cd = 1 then (match M.dE ((M.method p ⟨⟨v0, v1⟩, v2⟩).args.length + 1) g.st with
     |some (vs,s1)=>if M.object p (vs.headD M.ek) ⟨v0,v1⟩ s1=1 then(match M.pick p (M.rM s1.heap (vs.headD M.ek).n) i.member with
         |some x=>M.enter p lk x vs s1
         |none=>(10,s1))else(M.object p (vs.headD M.ek) ⟨v0,v1⟩ s1,s1)
     |none=>(10,g.st))else(4,g.st)):=Ys (by
  unfold M.aM;rw[fC];simp only[Gh.top fw.o,hF];rfl)
 have HF:=Ys hF;have Ot:=Ys fC;clear fC;go_enter Tryz.func65,Tryz.ntmps65;go_wp2_with fail;rw[←dQ.o];refine(eG _ _ _ _ _ _ _ _ Du.o r c fw.o).mono ?_;rintro e w1 ⟨rfl,bA⟩;have HA:=Ys (Du.o.ext bA);have fe:Zs (Ext w w1):=Ys (bJ.o.trans bA);have xM:=Ys (fM.o.ext bA);have Cu:l.L<w1.heap.size:=HA.o.dP.lt;have Mi:l.D<w1.heap.size:=by omega
 have acF:w.heap.size<w1.heap.size:=xM.o.lt;have EJ:∀W,LC l p w1 W→Calls Tryz.prog 46 #[.pointer (some ⟨l.L,0,none⟩),.int .i64 c.f.of.of.keeper,.string i.name,.string i.member] W fun e w'=>∃ev,e=.returned (.tuple #[.agg #[.int .i64 v0,.string v1,.int .i64 v2],ev])∧BZ ev cd∧Kp (·=l.D) W w'∧LC l p w1 w':=fun W hW=>by
  have hl:=uo W l p hW.at_ c.f.of.of.keeper i.name i.member;rw[HF.o]at hl;refine hl.mono ?_;rintro e w' ⟨⟨ev,rfl,mV⟩,hL,hK⟩;exact⟨ev,rfl,mV.weak,hK,hW.step hL hK⟩
 have zw := Ys EJ; have HC : Zs (LC l p w1 w1.drew) := Ys (LC.refl HA.o.dP).drew; obtain ⟨T, f, dB, HT⟩ := iq.ex (fun W' => LC l p w1 W') w1 (LC.refl HA.o.dP); have yC := fun z => (HA.o.kg (HT.aJ z).kp (HT.aJ z).at_).blk.c 0 (.pointer (some ⟨l.L, 0, none⟩)) rfl; have r32 := fun z => (xM.o.kp (HT.aJ z).kp (by omega)).c 2 (.string i.name) rfl; have O8 := fun z => (xM.o.kp (HT.aJ z).kp (by omega)).c 3 (.string i.member) rfl; have aj := Ys HT; clear HT EJ bA; go_wp2_with fail; rename_i K hK; have tail : ∀ (b6 : Nat) (w7 : World) (ev : Value), LC l p w1 w7 → aC w7 b6 42 #[.int .i64 v0, .string v1, .int .i64 v2] → w1.heap.size ≤ b6 → BZ ev cd → K { tmps := #[.pointer (some ⟨mb, 0, none⟩), .agg #[.int .i64 i.op, .int .i64 i.a, .string i.name, .string i.member], undef, .pointer (some ⟨w.heap.size, 0, none⟩), .int .i64 0, .pointer (some ⟨c.cb, 0, none⟩), .pointer (some ⟨b6, 0, none⟩), ev, undef, undef, undef, undef, undef, .pointer (some ⟨mb, 0, none⟩), .pointer (some ⟨c.cb, 0, none⟩), .tuple #[.agg #[.int .i64 v0, .string v1, .int .i64 v2], ev], .pointer (some ⟨mb, 0, none⟩), .pointer (some ⟨mb, 0, none⟩), .pointer (some ⟨mb, 0, none⟩), .pointer (some ⟨l.L, 0, none⟩), .pointer (some ⟨c.cb, 0, none⟩), .int .i64 c.f.of.of.keeper, .pointer (some ⟨w.heap.size, 2, none⟩), .string i.name, .pointer (some ⟨w.heap.size, 3, none⟩), .string i.member, .tuple #[.agg #[.int .i64 v0, .string v1, .int .i64 v2], ev], .agg #[.int .i64 v0, .string v1, .int .i64 v2], ev, undef, undef, undef, undef, undef, undef, undef, undef, undef, undef, undef, undef, undef, undef, undef, undef, undef, undef, undef, undef, undef, undef, undef, undef, undef, undef, undef, undef, undef, undef, undef, undef, undef, undef, undef, undef, undef, undef, undef, undef, undef, undef, undef, undef, undef, undef, undef, undef, undef, undef, undef, undef, undef, undef, undef, undef, undef], defers := [] } w7 := by
  intro b6 w7 ev hC OG rQ mV;refine hK _ _ ?_;clear hK aj yC r32 O8 HC zw;have GG:=Ys (HA.o.kg hC.kp hC.at_);have lQ:Zs (Kp (MO l own) w w7):=Ys (fe.o.any.trans hC.mo);have bg:=Ys OG;have YW:=Ys (xM.o.kp hC.kp (by omega));have VC:=Ys (IB.o b6 (by omega));clear hC OG;rcases mV with⟨rfl,rfl⟩|⟨hc,eb,rfl⟩;rotate_left
  · replace HV:Zs (M.aM p lk i g.st=(4,g.st)):=Ys (by rw[HV.o,if_neg hc]);clear hc;go_wp2_with fail;go_ret;rw[HV.o];exact cB.mk' lQ.o (gY.refl _ _) GG.o rfl
  have Bq:M.cK p ⟨⟨v0,v1⟩,v2⟩=true:=by
   have h1:(M.call p c.f.of.of.keeper i.name i.member).2=1:=by rw[HF.o]
   obtain⟨rr,Mr⟩:=M.jI h1;rw[HF.o]at Mr;exact M.jW Mr
  have Zc := Ys Bq; have yo : M.Eg (M.method p ⟨⟨v0, v1⟩, v2⟩) := M.lL (M.gI GG.o.dP.ok Bq).1; obtain ⟨m, hm⟩ : ∃ m, M.method p ⟨⟨v0, v1⟩, v2⟩ = m := ⟨_, rfl⟩; have yR := fun W (hW : aF W l p) => fJ W l p hW ⟨⟨v0, v1⟩, v2⟩ Bq; rw [hm] at yo yR; replace HV : Zs (M.aM p lk i g.st = (match M.dE (m.args.length + 1) g.st with
   |some (vs,s1)=>if M.object p (vs.headD M.ek) ⟨v0,v1⟩ s1=1 then(match M.pick p (M.rM s1.heap (vs.headD M.ek).n) i.member with
       |some x=>M.enter p lk x vs s1
       |none=>(10,s1))else(M.object p (vs.headD M.ek) ⟨v0,v1⟩ s1,s1)
   |none=>(10,g.st))):=Ys (by rw[HV.o,if_pos rfl,hm])
  have Ng:=yo.Ky;have AQ:=Ys yR;have HM:=Ys hm;obtain⟨T,f,dB,HT⟩:=iq.ex (fun W'=>Kp (PO own (Eh r.length)) w7 W') _ (Kp.refl _ _);have no:∀b q,own b=some q→¬Eh r.length q→¬PO own (Eh r.length) b:=fun b q hb hq ⟨q',h1,h2⟩=>by rw[hb]at h1;cases h1;exact hq h2
  have noN:∀b,¬MO l own b→¬PO own (Eh r.length) b:=fun b hb hp=>hb hp.mo;have yC:=fun z=>(GG.o.blk.kp (HT.aJ z) (no _ _ GG.o.role (by simp[Eh]))).c 0 (.pointer (some ⟨l.L,0,none⟩)) rfl;have Mv:=fun z=>(bg.o.kp (HT.aJ z) (noN _ VC.o)).c 0 (.int .i64 v0) rfl;have O9:=fun z=>(bg.o.kp (HT.aJ z) (noN _ VC.o)).c 1 (.string v1) rfl;have r62:=fun z=>(bg.o.kp (HT.aJ z) (noN _ VC.o)).c 2 (.int .i64 v2) rfl;have aj:=Ys HT;have fI:IntKind.i64.wrap ((m.args.length:Int)+1)=m.args.length+1:=IntWalk.i64_in _ (by omega);clear HT Bq yo hm yR no noN;go_wp2_with fail;(refine dZ aj 17 [([0,1,2,3,4,5,6,7],8),([9,10,11],12)] [13,14,15,16] ?_ ?_)
  · exact(Kp.refl _ _).drew
  (refine di [_,_,_,_,_,_,_,_] rfl rfl fun K hK=>?_);(repeat (go_big_quiet_step (fail)));(refine qn hK fun K2 af=>?_);clear hK K;go_wp2_with fail;refine(AQ.o _ (GG.o.dP.ext (Kp.refl _ _).drew)).mono ?_;rintro e w8 ⟨⟨cs,lu,rfl⟩,mY⟩;obtain⟨t,rfl⟩:=jN lu;obtain⟨a1,c1,a2,c2,a3,c3⟩:=t;have mW:Zs (Ext w7 w8):=Ys (((Kp.refl _ w7).drew:Ext w7 _).trans mY);have ym:∀W,(Instr.field 54 (.agg (ig m ⟨a1,c1,a2,c2,a3,c3⟩).toArray) 1).run Tryz.prog W=.ok (.slice a1 m.args.length c1) W:=(fun W=>by kernel_rfl);simp only[ig]at ym ⊢;clear lu mY;go_wp2_with fail;(refine kk aj af mW.o.any ?_);clear af K2;(refine di [_,_,_] rfl rfl fun K hK=>?_);(repeat (go_big_quiet_step (fail)));(refine qn hK fun K2 af=>?_);clear hK K;by_cases hlen:c.f.stack.length<m.args.length+1
  · replace HV:Zs (M.aM p lk i g.st=(10,g.st)):=Ys (by rw[HV.o,Gh.xI fw.o hlen]);have Yu:=qD _ _ _ _ _ _ _ _ (GG.o.ext mW.o) r c fw.o (m.args.length+1) hlen (by omega);have HPN:=Ys Yu;clear Yu hlen;go_wp2_with fail;refine HPN.o.mono ?_;rintro e w9 ⟨rfl,rfl⟩;go_wp2_with fail;(refine kk aj af mW.o.any ?_);clear af K2;(refine uY [_,_,_,_] rfl fun K hK=>?_);(repeat (go_big_quiet_step (fail)));(refine qn hK ?_);clear hK K;go_wp2_with fail;go_ret;rw[HV.o];exact cB.mk' (lQ.o.trans mW.o.any) (gY.refl _ _) (GG.o.ext mW.o) rfl
  · obtain ⟨st, vs, hs, Ad⟩ : ∃ st vs, c.f.stack = st ++ vs ∧ vs.length = m.args.length + 1 :=
     ⟨c.f.stack.take (c.f.stack.length - (m.args.length+1)),c.f.stack.drop (c.f.stack.length - (m.args.length+1)),(List.take_append_drop _ _).symm,by rw[List.length_drop];omega⟩
    have wF:=(M.aP.1 (GG.o.GL fw.o)).2.2.2.2.2.2;have Zv:Zs (∀v∈vs,M.bE v g.os.length=true):=Ys (fun v hv=>by simpa [Gh.st]using wF v (by rw[hs];exact List.mem_append_right _ hv));have Gg:Zs (∀vs',M.aM p lk i g.st=if M.object p (vs.headD M.ek) ⟨v0,v1⟩ (g.dG r c st vs').st=1 then(match M.pick p (M.rM g.st.heap (vs.headD M.ek).n) i.member with
        |some x=>M.enter p lk x vs (g.dG r c st vs').st
        |none=>(10,(g.dG r c st vs').st))else(M.object p (vs.headD M.ek) ⟨v0,v1⟩ (g.dG r c st vs').st,(g.dG r c st vs').st)):=Ys (fun vs'=>by rw[HV.o,Gh.dE fw.o hs Ad vs'];rfl)
    have hpp:=JC _ _ _ _ _ _ _ _ (GG.o.ext mW.o) r c fw.o st vs (m.args.length+1) hs Ad (by omega);have HPP:=Ys hpp;have XQ:=Ys Ad;clear hpp hlen hs wF HV Ad;obtain⟨⟨ok,on⟩,hhd⟩:∃o,vs[0]?=some o:=⟨vs[0]'(by have:=XQ.o;omega),List.getElem?_eq_getElem _⟩;have Yi:vs.headD M.ek=⟨ok,on⟩:=by
     cases vs with
     |nil=>cases hhd
     |cons y r=>simpa using hhd
    rw[Yi]at Gg;simp only at Gg;have Q7:Zs (M.bE ⟨ok,on⟩ g.os.length=true):=Ys (Zv.o _ (List.mem_of_getElem? hhd));have HHD:=Ys hhd;clear Yi hhd;go_wp2_with fail;refine HPP.o.mono ?_;rintro e w9 ⟨v',rfl,cu,Rl,vs',Vi⟩;have HV:=Ys (Gg.o vs');obtain⟨gt,gc,rfl,hgb, -⟩:=cO cu (by omega);have vD:Zs (Kp (MO l own) w w9):=Ys ((lQ.o.trans mW.o.any).trans (Rl.weak fun b _ e=>e.mo));have VH:Zs (Kp (PO own (Eh r.length)) w7 w9):=Ys (mW.o.any.trans Rl);have IE:=Ys Vi;have yI:=Ys cu;clear cu Rl Vi HPP Gg;go_wp2_with fail;(refine kk aj af VH.o ?_);clear af K2;clear aj yC Mv O9 r62;(refine uY [_,_,_,_] rfl fun K hK=>?_);(repeat (go_big_quiet_step (fail)));(refine qn hK ?_);clear hK K;have Jf:=eZ (enc:=bW) (k:=2) (fun _=>rfl) yI.o HHD.o;have Z7:=bg.o.kp VH.o (fun hp=>VC.o hp.mo);have abB:=YW.o.kp VH.o (fun hp=>Cf.o hp.mo);obtain⟨T,f,dB,HT⟩:=iq.ex (fun W'=>Ext w9 W') _ (Kp.refl _ _);have rg0:=fun z=>(ae.ext Jf (HT.aJ z)).two.1;have rg1:=fun z=>(ae.ext Jf (HT.aJ z)).two.2;simp only[Nat.zero_mul,Nat.zero_add]at rg0 rg1;have Mv:=fun z=>(Z7.ext (HT.aJ z)).c 0 (.int .i64 v0) rfl;have O9:=fun z=>(Z7.ext (HT.aJ z)).c 1 (.string v1) rfl;have aj:=Ys HT;have HC0:=Ys Jf;have ac6:=Ys abB;have H9:(0:Int)<m.args.length+1:=by omega
    clear HT Jf Z7 abB;go_wp2_with fail;(refine dZ aj 7 [([0,1,2,3,4,5],6)] [] ?_ ?_)
    · exact(Kp.refl _ _).drew
    (refine di [_,_,_,_,_,_] rfl rfl fun K hK=>?_);(repeat (go_big_quiet_step (fail)));(refine qn hK fun K2 af=>?_);clear hK K;go_wp2_with fail;refine(wR _ _ _ _ _ _ _ _ (IE.o.ext (Kp.refl _ _).drew) ⟨ok,on⟩ Q7.o ⟨v0,v1⟩).mono ?_;rintro e gN ⟨rfl,kV⟩;have qK:Zs (Ext w9 gN):=Ys (((Kp.refl _ w9).drew:Ext w9 _).trans kV);have iT:=Ys (IE.o.ext qK.o);have nC:Zs (Kp (MO l own) w gN):=Ys (vD.o.trans qK.o.any);clear kV;obtain⟨ob,DF⟩:∃ob,M.object p ⟨ok,on⟩ ⟨v0,v1⟩ (g.dG r c st vs').st=ob:=⟨_,rfl⟩;by_cases OY:ob=1;rotate_left
    · replace HV:Zs (M.aM p lk i g.st=(ob,(g.dG r c st vs').st)):=Ys (by rw[HV.o,DF,if_neg OY]);have acv:(ob !=1)=true:=bne_iff_ne.2 OY;rw[DF];clear DF OY;go_wp2_with fail;(refine kk aj af qK.o ?_);clear af K2;clear aj rg0 rg1 Mv O9;(refine dW ?_);go_wp2_with fail;go_ret;rw[HV.o];exact cB.mk' nC.o (gY.refl _ _) iT.o rfl
    · subst OY;replace HV:Zs (M.aM p lk i g.st=(match M.pick p (M.rM g.st.heap on) i.member with
       |some x=>M.enter p lk x vs (g.dG r c st vs').st
       |none=>(10,(g.dG r c st vs').st))):=Ys (by rw[HV.o,if_pos DF])
      have XI:=Ys DF;obtain⟨GZ, -⟩:=M.qE DF;simp only at GZ;obtain⟨aeG,mG⟩:=M.nS Q7.o GZ;simp only at aeG mG;obtain⟨n,rfl⟩:∃n:Nat,on=n:=⟨on.toNat,by omega⟩;obtain⟨go,z8⟩:∃o,g.os[n]?=some o:=⟨g.os[n]'(by omega),List.getElem?_eq_getElem _⟩;have HGO:Zs (M.rM g.st.heap n=go.o.of):=Ys (Ar (by simp[Gh.st,z8]));obtain⟨rr,hpx⟩:∃rr,M.pick p rr i.member=some ⟨⟨v0,v1⟩,v2⟩:=by
       have h1:(M.call p c.f.of.of.keeper i.name i.member).2=1:=by rw[HF.o]
       obtain⟨rr,Mr⟩:=M.jI h1;rw[HF.o]at Mr;exact⟨rr,Mr⟩
      have HPX:=Ys hpx;obtain⟨pk,pn,pa,pb,hpa,hpb⟩:∃pk pn pa pb,((M.pick p go.o.of i.member).getD kL=⟨⟨pk,pn⟩,pa⟩∧(M.pick p go.o.of i.member).isSome=pb)∧((pb=false→M.pick p (M.rM g.st.heap n) i.member=none)∧(pb=true→M.pick p (M.rM g.st.heap n) i.member=some ⟨⟨pk,pn⟩,pa⟩)):=by
       rw[HGO.o];cases e:M.pick p go.o.of i.member with
       |none=>exact⟨_,_,_,_,⟨rfl,rfl⟩,(fun _=>rfl),(fun h=>by cases h)⟩
       |some x=>exact⟨x.of.keeper,x.of.name,x.at_,true,⟨rfl,rfl⟩,(fun h=>by cases h),(fun _=>rfl)⟩
      have HPB:=Ys hpb;have TB:=fun W (hW:aF W l p)=>Fg W l p hW go.o.of i.member;rw[hpa.1,hpa.2]at TB;have XL:=Ys TB;have cu:=iT.o.heap.row;obtain⟨ha,dn,qN⟩:=iT.o.heap.form;rw[qN]at cu;obtain⟨hb,hbc,eb, -⟩:=cO cu (by show 0<g.os.length;omega);cases eb;have jh:=eZ (enc:=kE) (k:=3) (fun _=>rfl) cu (l:=g.os) z8;have afc:l.D<w.heap.size:=by omega
      have xW:w.heap.size≤gN.heap.size:=nC.o.size;have abM:l.L<gN.heap.size:=by omega
      have aen:w.heap.size≤gt:=by have:=mW.o.size;have:=lQ.o.size;omega
      have HGT:=Ys aen;have HRW:Zs (∀W,Kp (·=l.D) gN W→W.ownsRow w8.heap.size 32 2 (.slice (some ⟨gt,0,none⟩) (m.args.length+1) gc) vs.length (vs.flatMap bW)):=Ys (fun W hW=>by
       rw[show vs.length=m.args.length+1 from XQ.o];exact aD (aD (D:=fun _=>False) yI.o qK.o fun _ _ _ x=>x) hW (fun q hq _ e=>by
        have h1:gt=q:=by simpa [Value.ownBlock]using hq
        omega))
      have Rq:∀b,B≤b→¬b=l.D:=fun b hb e=>by have:=iT.o.hB;have:=iT.o.dP.ord;omega
      obtain⟨T2,f2,Yn,vV⟩:=iq.ex (fun W'=>LC l p gN W') gN (LC.refl iT.o.dP);have s0:=fun z=>(iT.o.kg (vV.aJ z).kp (vV.aJ z).at_).blk.c 0 (.pointer (some ⟨l.L,0,none⟩)) rfl;have s4:=fun z=>(iT.o.kg (vV.aJ z).kp (vV.aJ z).at_).blk.c 4 (.slice (some ⟨hb,0,none⟩) g.os.length dn) (by rw[show(Value.slice (some ⟨hb,0,none⟩) g.os.length dn)=g.vh from qN.symm];rfl);have hgD:¬gt=l.D:=by omega
      have sg:=fun z=>(vV.aJ z).kp.iX (ae.ext HC0.o qK.o).two.2 hgD;simp only[Nat.zero_mul,Nat.zero_add]at sg;have hhb:=(cu.lt hb rfl).1;have sh0:=fun z=>(vV.aJ z).kp.iX jh.three.1 (Rq _ hhb);have sh1:=fun z=>(vV.aJ z).kp.iX jh.three.2.1 (Rq _ hhb);have s33:=fun z=>((ac6.o.ext qK.o).kp (vV.aJ z).kp (by omega)).c 3 (.string i.member) rfl;have yK:=Ys vV;have WC:(n:Int)<g.os.length:=mG;have hnv:(0:Int)<m.args.length+1:=by omega
      clear vV cu jh qN z8 TB hpa hpb hpx GZ mG Rq hhb;rw[DF];clear DF;go_wp2_with fail;(refine kk aj af qK.o ?_);clear af K2;clear aj rg0 rg1 Mv O9;(refine dW ?_);go_wp2_with fail;(refine CS f2 23 (.two [0,1,2,3,4,5,6,7,8,9,10,11,12,13,14,15,16] 17 21 (.one [18,19,20] 21 (.one [] 22 (.fin []))) (.one [] 17 (.one [18,19,20] 22 (.fin [])))) (yK.o.o _ ?_) (by kernel_rfl) (by kernel_rfl) (fun _ _ d _ _ h=>by cases d<;>exact h) ?_)
      · exact(LC.refl iT.o.dP).drew
      (refine two [_,_,_,_,_,_,_,_,_,_,_,_,_,_,_,_,_] rfl rfl rfl fun K hK=>?_);(repeat (go_big_quiet_step (fail)));((refine Gu hK (fun K2 af=>?_) fun K2 af=>?_)<;>clear hK K)
      · go_wp2_with fail;refine(XL.o _ (iT.o.dP.ext (Kp.refl _ _).drew)).mono ?_;rintro e wP ⟨rfl,hLP,hKP⟩;have XC:Zs (LC l p gN wP):=Ys ((LC.refl iT.o.dP).drew.step hLP hKP);clear hLP hKP;go_wp2_with fail;((refine af _ _ (yK.o.o _ XC.o) ?_);clear af K2);(refine pJ [_,_,_] rfl rfl fun K hK=>?_);(repeat (go_big_quiet_step (fail)));(refine qn hK fun K2 af=>?_);clear hK K;go_wp2_with fail;((refine af _ _ (yK.o.o _ (XC.o.ext ((Kp.refl _ _).alloc _))) ?_);clear af K2);(refine aZ rfl fun K2 af=>?_);go_wp2_with fail;obtain⟨Oa,Jn⟩:∃Oa,Oa=wP.alloc (.cells #[.int .i64 pk,.string pn,.int .i64 pa] 42):=⟨_,rfl⟩;rw[←Jn];have vP:Zs (LC l p gN Oa):=Ys (by rw[Jn];exact XC.o.ext ((Kp.refl _ _).alloc _));have Iy:Zs (aC Oa wP.heap.size 42 #[.int .i64 pk,.string pn,.int .i64 pa]):=Ys (by rw[Jn];exact aC.new _ _ _);((refine af _ _ (yK.o.o _ vP.o) ?_);clear af K2);clear yK s0 s4 sg sh0 sh1 s33 Jn;(refine bY ?_);cases pb
        · replace HV:Zs (M.aM p lk i g.st=(10,(g.dG r c st vs').st)):=Ys (by rw[HV.o,HPB.o.1 rfl]);go_wp2_with fail;go_ret;rw[HV.o];skip;exact cB.mk' (nC.o.trans vP.o.mo) (gY.refl _ _) (iT.o.kg vP.o.kp vP.o.at_) rfl
        · replace HV:Zs (M.aM p lk i g.st=M.enter p lk ⟨⟨pk,pn⟩,pa⟩ vs (g.dG r c st vs').st):=Ys (by rw[HV.o,HPB.o.2 rfl]);have AY:=Ys (HPB.o.2 rfl);have C9:Zs (M.pick p go.o.of i.member=some ⟨⟨pk,pn⟩,pa⟩):=Ys (by rw[←HGO.o];exact AY.o);have e0:=Iy.o.c 0 (.int .i64 pk) rfl;have e1:=Iy.o.c 1 (.string pn) rfl;have e2:=Iy.o.c 2 (.int .i64 pa) rfl;have ez:=Iy.o.lt;go_wp2_with fail;skip;refine(yV _ _ _ _ _ _ _ Cg _ (iT.o.kg vP.o.kp vP.o.at_) bH ⟨⟨pk,pn⟩,pa⟩ (M.jW AY.o) w8.heap.size (.slice (some ⟨gt,0,none⟩) (m.args.length+1) gc) vs (HRW.o _ vP.o.kp) (fun q hq=>by
           have h1:gt=q:=by simpa [Value.ownBlock]using hq
           rw[←h1];exact IB.o gt HGT.o) Zv.o (by
           have:=M.BK HPX.o (M.qE XI.o).2 AY.o;rw[this,HM.o];exact XQ.o)).mono ?_
          rintro e AR aV;have HZ:=Ys (cB.after (nC.o.trans vP.o.mo) (gY.refl _ _) aV);obtain⟨rfl, -⟩:=aV;rw[←HV.o]at HZ ⊢;clear e0 e1 e2 ez;go_wp2_with fail;go_ret;exact HZ.o
      · go_wp2_with fail;((refine af _ _ (yK.o.o _ ((LC.refl iT.o.dP).drew.ext ((Kp.refl _ _).alloc _))) ?_);clear af K2);(refine aZ rfl fun K2 af=>?_);have aa6:Zs (LC l p gN (gN.drew.alloc (.cells #[.int .i64 0,.string ⟨#[]⟩,.int .i64 0] 42))):=Ys ((LC.refl iT.o.dP).drew.ext ((Kp.refl _ _).alloc _));have ac3:Zs (aC (gN.drew.alloc (.cells #[.int .i64 0,.string ⟨#[]⟩,.int .i64 0] 42)) gN.heap.size 42 #[.int .i64 0,.string ⟨#[]⟩,.int .i64 0]):=Ys (aC.new _ _ _);go_wp2_with fail;refine(XL.o _ aa6.o.at_).mono ?_;rintro e wP ⟨rfl,hLP,hKP⟩;have XC:Zs (LC l p gN wP):=Ys (aa6.o.step hLP hKP);have XA:=Ys (ac3.o.kp hKP (by omega));clear hLP hKP;go_wp2_with fail;((refine af _ _ (yK.o.o _ XC.o) ?_);clear af K2);(refine pJ [_,_,_] rfl rfl fun K hK=>?_);(repeat (go_big_quiet_step (fail)));(refine qn hK fun K2 af=>?_);clear hK K;have y0:=XA.o.c 0 (.int .i64 0) rfl;have y1:=XA.o.c 1 (.string ⟨#[]⟩) rfl;have y2:=XA.o.c 2 (.int .i64 0) rfl;have g0:=XA.o.frozen 0;have g1:=XA.o.frozen 1;have g2:=XA.o.frozen 2;have z6:=XA.o.lt;have vP:=Ys (LC.own XC.o (Kp.qO (D:=(·=gN.heap.size)) rfl (.int .i64 pk) (.string pn) (.int .i64 pa)) (Nat.le_refl _) abM);have Iy:=Ys (XA.o.qO (.int .i64 pk) (.string pn) (.int .i64 pa));go_wp2_with fail;((refine af _ _ (yK.o.o _ vP.o) ?_);clear af K2);clear yK s0 s4 sg sh0 sh1 s33 y0 y1 y2 g0 g1 g2 z6;(refine bY ?_);cases pb
        · replace HV:Zs (M.aM p lk i g.st=(10,(g.dG r c st vs').st)):=Ys (by rw[HV.o,HPB.o.1 rfl]);go_wp2_with fail;go_ret;rw[HV.o];skip;exact cB.mk' (nC.o.trans vP.o.mo) (gY.refl _ _) (iT.o.kg vP.o.kp vP.o.at_) rfl
        · replace HV:Zs (M.aM p lk i g.st=M.enter p lk ⟨⟨pk,pn⟩,pa⟩ vs (g.dG r c st vs').st):=Ys (by rw[HV.o,HPB.o.2 rfl]);have AY:=Ys (HPB.o.2 rfl);have C9:Zs (M.pick p go.o.of i.member=some ⟨⟨pk,pn⟩,pa⟩):=Ys (by rw[←HGO.o];exact AY.o);have e0:=Iy.o.c 0 (.int .i64 pk) rfl;have e1:=Iy.o.c 1 (.string pn) rfl;have e2:=Iy.o.c 2 (.int .i64 pa) rfl;have ez:=Iy.o.lt;go_wp2_with fail;skip;refine(yV _ _ _ _ _ _ _ Cg _ (iT.o.kg vP.o.kp vP.o.at_) bH ⟨⟨pk,pn⟩,pa⟩ (M.jW AY.o) w8.heap.size (.slice (some ⟨gt,0,none⟩) (m.args.length+1) gc) vs (HRW.o _ vP.o.kp) (fun q hq=>by
           have h1:gt=q:=by simpa [Value.ownBlock]using hq
           rw[←h1];exact IB.o gt HGT.o) Zv.o (by
           have:=M.BK HPX.o (M.qE XI.o).2 AY.o;rw[this,HM.o];exact XQ.o)).mono ?_
          rintro e AR aV;have HZ:=Ys (cB.after (nC.o.trans vP.o.mo) (gY.refl _ _) aV);obtain⟨rfl, -⟩:=aV;rw[←HV.o]at HZ ⊢;clear e0 e1 e2 ez;go_wp2_with fail;go_ret;exact HZ.o
 have TAIL:=Ys tail;clear tail hK;(refine l5 aj 16 (.two [0,1,2,3,4,6,7,8,9] 5 14 (.two [] 10 14 (.one [11,12,13] 14 (.one [] 15 (.fin []))) (.one [] 10 (.one [11,12,13] 15 (.fin [])))) (.one [] 5 (.one [] 10 (.one [11,12,13] 15 (.fin []))))) ?_ ?_)
 · exact HC.o
 (refine two [_,_,_,_,_,_,_,_,_] rfl rfl rfl fun K hK=>?_);(repeat (go_big_quiet_step (fail)));((refine Gu hK (fun K2 af=>?_) fun K2 af=>?_)<;>clear hK K)
 · go_wp2_with fail;refine(iI _ _ c.f.of.of.keeper (((HA.o.kg HC.o.kp HC.o.at_).at_ fw.o).blk.c 0 _ rfl)).mono ?_;rintro e we ⟨rfl,rfl⟩;go_wp2_with fail;(refine kk aj af HC.o ?_);clear af K2;(refine ze rfl rfl (fun K2 af=>?_) fun K2 af=>?_)
   · go_wp2_with fail;refine(zw.o _ HC.o).mono ?_;rintro e wc ⟨ev,rfl,mV,hk,hc⟩;replace HC:=Ys hc;have GD:=Ys mV;clear hk hc mV;go_wp2_with fail;(refine kk aj af HC.o ?_);clear af K2;(refine pJ [_,_,_] rfl rfl fun K hK=>?_);(repeat (go_big_quiet_step (fail)));(refine qn hK fun K2 af=>?_);clear hK K;go_wp2_with fail;(refine kk aj af (HC.o.ext ((Kp.refl _ _).alloc _)) ?_);clear af K2;(refine aZ rfl fun K2 af=>?_);go_wp2_with fail;(refine kk aj af (HC.o.ext ((Kp.refl _ _).alloc _)) ?_);clear af K2;have rQ:=HC.o.kp.size;have bg:=Ys (aC.new (wc) 42 #[.int .i64 v0,.string v1,.int .i64 v2]);replace HC:=Ys (HC.o.ext ((Kp.refl _ _).alloc (.cells #[.int .i64 v0,.string v1,.int .i64 v2] 42)));clear aj yC r32 O8;(refine bY ?_);go_wp2_with fail;exact TAIL.o _ _ _ HC.o bg.o rQ GD.o
   · go_wp2_with fail;(refine kk aj af (HC.o.ext ((Kp.refl _ _).alloc _)) ?_);clear af K2;have rQ:w1.heap.size≤w1.heap.size:=HC.o.kp.size;have bg:Zs (aC (w1.drew.alloc (.cells #[.int .i64 0,.string ⟨#[]⟩,.int .i64 0] 42)) w1.heap.size 42 #[.int .i64 0,.string ⟨#[]⟩,.int .i64 0]):=Ys (aC.new _ _ _);replace HC:=Ys (HC.o.ext ((Kp.refl _ _).alloc (.cells #[.int .i64 0,.string ⟨#[]⟩,.int .i64 0] 42)));(refine aZ rfl fun K2 af=>?_);go_wp2_with fail;refine(zw.o _ HC.o).mono ?_;rintro e wc ⟨ev,rfl,mV,hk,hc⟩;replace bg:=Ys (bg.o.kp hk (by omega));replace HC:=Ys hc;have GD:=Ys mV;clear hk hc mV;go_wp2_with fail;(refine kk aj af HC.o ?_);clear af K2;(refine pJ [_,_,_] rfl rfl fun K hK=>?_);(repeat (go_big_quiet_step (fail)));(refine qn hK fun K2 af=>?_);clear hK K;have y0:=bg.o.c 0 (.int .i64 0) rfl;have y1:=bg.o.c 1 (.string ⟨#[]⟩) rfl;have y2:=bg.o.c 2 (.int .i64 0) rfl;have g0:=bg.o.frozen 0;have g1:=bg.o.frozen 1;have g2:=bg.o.frozen 2;have z6:=bg.o.lt;go_wp2_with fail;replace HC:=Ys (LC.own HC.o (Kp.qO (D:=(·=_)) rfl (.int .i64 v0) (.string v1) (.int .i64 v2)) rQ Cu);replace bg:=Ys (bg.o.qO (.int .i64 v0) (.string v1) (.int .i64 v2));(refine kk aj af HC.o ?_);clear af K2;clear y0 g0 y1 g1 y2 g2 z6;clear aj yC r32 O8;(refine bY ?_);go_wp2_with fail;exact TAIL.o _ _ _ HC.o bg.o rQ GD.o
 · go_wp2_with fail;(refine kk aj af (HC.o.ext ((Kp.refl _ _).alloc _)) ?_);clear af K2;have rQ:w1.heap.size≤w1.heap.size:=HC.o.kp.size;have bg:Zs (aC (w1.drew.alloc (.cells #[.int .i64 0,.string ⟨#[]⟩,.int .i64 0] 42)) w1.heap.size 42 #[.int .i64 0,.string ⟨#[]⟩,.int .i64 0]):=Ys (aC.new _ _ _);replace HC:=Ys (HC.o.ext ((Kp.refl _ _).alloc (.cells #[.int .i64 0,.string ⟨#[]⟩,.int .i64 0] 42)));(refine aZ rfl fun K2 af=>?_);go_wp2_with fail;refine(iI _ _ c.f.of.of.keeper (((HA.o.kg HC.o.kp HC.o.at_).at_ fw.o).blk.c 0 _ rfl)).mono ?_;rintro e we ⟨rfl,rfl⟩;go_wp2_with fail;(refine kk aj af HC.o ?_);clear af K2;(refine aZ rfl fun K2 af=>?_);go_wp2_with fail;refine(zw.o _ HC.o).mono ?_;rintro e wc ⟨ev,rfl,mV,hk,hc⟩;replace bg:=Ys (bg.o.kp hk (by omega));replace HC:=Ys hc;have GD:=Ys mV;clear hk hc mV;go_wp2_with fail;(refine kk aj af HC.o ?_);clear af K2;(refine pJ [_,_,_] rfl rfl fun K hK=>?_);(repeat (go_big_quiet_step (fail)));(refine qn hK fun K2 af=>?_);clear hK K;have y0:=bg.o.c 0 (.int .i64 0) rfl;have y1:=bg.o.c 1 (.string ⟨#[]⟩) rfl;have y2:=bg.o.c 2 (.int .i64 0) rfl;have g0:=bg.o.frozen 0;have g1:=bg.o.frozen 1;have g2:=bg.o.frozen 2;have z6:=bg.o.lt;go_wp2_with fail;replace HC:=Ys (LC.own HC.o (Kp.qO (D:=(·=_)) rfl (.int .i64 v0) (.string v1) (.int .i64 v2)) rQ Cu);replace bg:=Ys (bg.o.qO (.int .i64 v0) (.string v1) (.int .i64 v2));(refine kk aj af HC.o ?_);clear af K2;clear y0 g0 y1 g1 y2 g2 z6;clear aj yC r32 O8;(refine bY ?_);go_wp2_with fail;exact TAIL.o _ _ _ HC.o bg.o rQ GD.o
def Xf(n:Nat):Nat:=
 if n=1 then 57 else if n=2 then 58 else if n=3 then 59 else if n=4 then 60 else if n=5 then 61 else if n=6 then 62 else
 if n=7 then 63 else if n=8 then 64 else if n=9 then 65 else if n=10 then 66 else if n=11 then 67 else if n=12 then 68 else
 if n=13 then 69 else if n=14 then 70 else 71
def Ls(v:Value):Array Value:=#[.nilFunc,.func (.func 57) #[v] #[],.func (.func 58) #[v] #[],.func (.func 59) #[v] #[],.func (.func 60) #[v] #[],.func (.func 61) #[v] #[],.func (.func 62) #[v] #[],
 .func (.func 63) #[v] #[],.func (.func 64) #[v] #[],.func (.func 65) #[v] #[],.func (.func 66) #[v] #[],.func (.func 67) #[v] #[],.func (.func 68) #[v] #[],.func (.func 69) #[v] #[],
 .func (.func 70) #[v] #[],.func (.func 71) #[v] #[]]
theorem Qx(v:Value){n:Nat}(h1:1≤n)(h2:n≤15):(Ls v)[n]?=some (.func (.func (Xf n)) #[v] #[]):=by
 have:n=1∨n=2∨n=3∨n=4∨n=5∨n=6∨n=7∨n=8∨n=9∨n=10∨n=11∨n=12∨n=13∨n=14∨n=15:=by omega
 rcases this with rfl|rfl|rfl|rfl|rfl|rfl|rfl|rfl|rfl|rfl|rfl|rfl|rfl|rfl|rfl<;>rfl
theorem Us{n:Nat}(h1:1≤n)(h2:n≤15)(args:Array Value)(w:World):(callFunc (Xf n) args).run Tryz.prog w=.ok (.enter (Xf n) args) w:=by
 have:n=1∨n=2∨n=3∨n=4∨n=5∨n=6∨n=7∨n=8∨n=9∨n=10∨n=11∨n=12∨n=13∨n=14∨n=15:=by omega
 rcases this with rfl|rfl|rfl|rfl|rfl|rfl|rfl|rfl|rfl|rfl|rfl|rfl|rfl|rfl|rfl
 · exact aS Tryz.func57 rfl (by kernel_rfl) args w
 · exact aS Tryz.func58 rfl (by kernel_rfl) args w
 · exact aS Tryz.func59 rfl (by kernel_rfl) args w
 · exact aS Tryz.func60 rfl (by kernel_rfl) args w
 · exact aS Tryz.func61 rfl (by kernel_rfl) args w
 · exact aS Tryz.func62 rfl (by kernel_rfl) args w
 · exact aS Tryz.func63 rfl (by kernel_rfl) args w
 · exact aS Tryz.func64 rfl (by kernel_rfl) args w
 · exact aS Tryz.func65 rfl (by kernel_rfl) args w
 · exact aS Tryz.func66 rfl (by kernel_rfl) args w
 · exact aS Tryz.func67 rfl (by kernel_rfl) args w
 · exact aS Tryz.func68 rfl (by kernel_rfl) args w
 · exact aS Tryz.func69 rfl (by kernel_rfl) args w
 · exact aS Tryz.func70 rfl (by kernel_rfl) args w
 · exact aS Tryz.func71 rfl (by kernel_rfl) args w
theorem ZR(w:World)(l:aI)(p:M.au)(own:Own)(B mb:Nat)(lk:Bool)(Cg:Zs (lk=true→nD))(g:Gh)(h:aK w l p own B mb lk g)(r:List GC)(c:GC)(bO:g.cs=r++[c])(bH:g.status=1)(i:M.Ins)(n:Nat)(hn:i.op=n)(hi:M.jC (M.method p c.f.of) i=true):
    Calls Tryz.prog (Xf n) #[.pointer (some ⟨mb,0,none⟩),.agg #[.int .i64 i.op,.int .i64 i.a,.string i.name,.string i.member]] w (cB w l p own B mb lk (.int .i64 (M.aM p lk i g.st).1) (M.aM p lk i g.st).2):=by
 obtain⟨_,_,_,_,h5,_⟩:=M.ku hi;have:n=1∨n=2∨n=3∨n=4∨n=5∨n=6∨n=7∨n=8∨n=9∨n=10∨n=11∨n=12∨n=13∨n=14∨n=15:=by omega
 rcases this with rfl|rfl|rfl|rfl|rfl|rfl|rfl|rfl|rfl|rfl|rfl|rfl|rfl|rfl|rfl
 · exact ZU _ _ _ _ _ _ _ _ h r c bO bH i hi hn
 · exact VZ _ _ _ _ _ _ _ _ h r c bO bH i hi hn
 · exact ZW _ _ _ _ _ _ _ _ h r c bO bH i hi hn
 · exact ZP _ _ _ _ _ _ _ _ h r c bO bH i hi hn
 · exact VY _ _ _ _ _ _ _ _ h r c bO bH i hn
 · exact ZT _ _ _ _ _ _ _ _ h r c bO bH i hi hn
 · exact ZQ _ _ _ _ _ _ _ _ h r c bO bH i hi hn
 · exact ZY _ _ _ _ _ _ _ _ h r c bO bH i hi hn
 · exact VW _ _ _ _ _ _ _ Cg _ h r c bO bH i hi hn
 · exact ZX _ _ _ _ _ _ _ _ h r c bO bH i hi hn
 · exact V3 _ _ _ _ _ _ _ _ h r c bO bH i hi hn
 · exact Sq _ _ _ _ _ _ _ _ h r c bO bH i hi hn
 · exact abx _ _ _ _ _ _ _ _ h r c bO bH i hi hn
 · exact ZV _ _ _ _ _ _ _ _ h r c bO bH i hi hn
 · exact VX _ _ _ _ _ _ _ _ h r c bO bH i hi hn
theorem Qt(w:World)(l:aI)(p:M.au)(own:Own)(B mb:Nat)(lk:Bool)(Cg:Zs (lk=true→nD))(g:Gh)(h:aK w l p own B mb lk g)(r:List GC)(c:GC)(bO:g.cs=r++[c])(bH:g.status=1):
    Calls Tryz.prog 30 #[.pointer (some ⟨mb,0,none⟩)] w (cB w l p own B mb lk (.tuple #[]) (M.step p lk g.st)):=by
 have yo:=h.mi bO;have kQ:=h.GL bO;obtain⟨n,hn⟩:∃n:Nat,c.f.pc=n:=⟨c.f.pc.toNat,by simp[M.dL]at kQ;omega⟩;have bZ:n<(M.method p c.f.of).code.length:=by simp[M.dL]at kQ;omega
 obtain⟨⟨op,ia,nm,mem⟩,hi⟩:=jo (M.method p c.f.of).code n bZ;have Jg:=yo.ins _ (List.mem_of_getElem? hi);obtain⟨k,rfl⟩:∃k:Nat,op=k:=⟨op.toNat,by have:=(M.ku Jg).2.2.2.2.1;simp only at this;omega⟩;have mG:1≤k∧k≤15:=by have:=(M.ku Jg).2.2.2.2.1;simp only at this;omega
 have HS:Zs (M.step p lk g.st=M.end_ (M.aM p lk ⟨k,ia,nm,mem⟩ g.st).1 (M.aM p lk ⟨k,ia,nm,mem⟩ g.st).2):=Ys (by
  unfold M.step M.stepped;rw[if_pos (show g.st.status=1 from bH),Gh.top bO,hn];simp[hi])
 have e2:=h.blk.c 2 (.int .i64 g.status) rfl;rw[bH]at e2;obtain⟨w0,bD⟩:∃w0,w0=w.alloc (.cells (Ls (.pointer (some ⟨mb,0,none⟩))) 130):=⟨_,rfl⟩;have b2:aC w0 w.heap.size 130 (Ls (.pointer (some ⟨mb,0,none⟩))):=by rw[bD];exact aC.new _ _ _
 have aU:Ext w w0:=by rw[bD];exact kx
 have HA:=Ys h;have Du:=Ys (h.ext aU);have bJ:=Ys aU;have lD:=Ys b2;have dQ:=Ys bD;have fw:=Ys bO;have qM:=Ys bH;have HI:=Ys hi;have Zd:=Ys Jg;have HN:=Ys hn;unfold Ls at bD;have HX:=Ys bD;clear h aU b2 bD bO bH hi Jg yo kQ hn;go_enter Tryz.func30,Tryz.ntmps30;go_wp2_with fail;rw[←HX.o];refine(eG _ _ _ _ _ _ _ _ Du.o r c fw.o).mono ?_;rintro e w1 ⟨rfl,bA⟩;have rP:=Du.o.ext bA;have hB1:=lD.o.ext bA;have Gt:w.heap.size<w1.heap.size:=hB1.lt;have GN:=rP.at_ fw.o;have cz:=GN.blk.lt;obtain⟨b,off,cs,ea,J6,rfl, -,jh⟩:=(aH.code GN.ml).get HI.o;have hz:=jh;obtain⟨g0,g1,g2,g3⟩:=jh.four;have gz:=aG g0;obtain⟨T,f,dB,HT⟩:=iq.ex (fun W'=>Ext w1 W') _ (Kp.refl _ _);have d9:=fun z=>(GN.blk.ext (HT.aJ z)).c 9 (.slice c.t.a2 (M.method p c.f.of).code.length c.t.c2) rfl;have d11:=fun z=>(GN.blk.ext (HT.aJ z)).c 11 (.int .i64 n) (by rw[←HN.o];rfl);have y0:=fun z=>(HT.aJ z).aA g0;have y1:=fun z=>(HT.aJ z).aA g1;have y2:=fun z=>(HT.aJ z).aA g2;have y3:=fun z=>(HT.aJ z).aA g3;rw[ea]at d9;have aj:=Ys HT;have kG:=Ys rP;have vJ:=Ys hB1;have fe:Zs (Ext w w1):=Ys (bJ.o.trans bA);have hq8:(n:Int)<(M.method p c.f.of).code.length:=by omega
 clear rP hB1 GN bA jh hz ea J6 HT g0 g1 g2 g3;go_wp2_with fail;(refine dZ aj 12 [([0,1,2,3,4,5,6,7,8,9,10],11)] [] ?_ ?_)
 · exact(Kp.refl _ _).drew
 (refine di [_,_,_,_,_,_,_,_,_,_,_] rfl rfl fun K hK=>?_);(repeat (go_big_quiet_step (fail)));(refine qn hK fun K2 af=>?_);clear hK K;go_wp2_with fail;(refine kk aj af ((Kp.refl _ w1).drew.alloc _:Ext w1 _) ?_);clear af K2;obtain⟨w2,iV⟩:∃w2,w2=(w1.alloc (.cells #[.int .i64 k,.int .i64 ia,.string nm,.string mem] 47)).drew:=⟨_,rfl⟩;have bP:Ext w1 w2:=by rw[iV];exact((Kp.refl _ w1).alloc _).drew
 have b4:aC w2 w1.heap.size 47 #[.int .i64 k,.int .i64 ia,.string nm,.string mem]:=by rw[iV];exact(aC.newAt _ _ rfl).ext (Kp.refl _ _).drew
 have fD:=Ys bP;have iB:=Ys b4;have sV:=Ys iV;clear bP b4 iV aj d9 d11 y0 y1 y2 y3;(refine dW ?_);go_wp2_with fail;rw[←sV.o];have AP:Zs (aK w2 l p own B mb lk g):=Ys (kG.o.ext fD.o);have ac4:Zs (aC w2 w.heap.size 130 (Ls (.pointer (some ⟨mb,0,none⟩)))):=Ys (vJ.o.ext fD.o);have sZ:¬MO l own w.heap.size:=HA.o.fresh (Nat.le_refl _);have WH:¬MO l own w1.heap.size:=HA.o.fresh (by omega);obtain⟨T,f,dB,HT⟩:=iq.ex (fun W'=>Kp (MO l own) w2 W') _ (Kp.refl _ _);have r0:=fun z=>(iB.o.kp (HT.aJ z) WH).c 0 (.int .i64 k) rfl;have r1:=fun z=>(iB.o.kp (HT.aJ z) WH).c 1 (.int .i64 ia) rfl;have r2:=fun z=>(iB.o.kp (HT.aJ z) WH).c 2 (.string nm) rfl;have r3:=fun z=>(iB.o.kp (HT.aJ z) WH).c 3 (.string mem) rfl;have rf:=fun z=>(ac4.o.kp (HT.aJ z) sZ).c k _ (Qx (.pointer (some ⟨mb,0,none⟩)) mG.1 mG.2);have aeH:(k:Int)<16:=by omega
 have H9:(0:Int)≤k:=by omega
 have aj:=Ys HT;have PV:=Us mG.1 mG.2;clear HT;(refine dZ aj 8 [([0,1,2,3,4,5],6),([],7)] [] ?_ ?_)
 · exact(Kp.refl _ _).drew
 (refine di [_,_,_,_,_,_] rfl rfl fun K hK=>?_);(repeat (go_big_quiet_step (fail)));(refine qn hK fun K2 af=>?_);clear hK K;go_wp2_with fail;refine(ZR _ _ _ _ _ _ _ Cg _ (AP.o.ext (Kp.refl _ _).drew) r c fw.o qM.o ⟨k,ia,nm,mem⟩ k rfl Zd.o).mono ?_;rintro e w3 aV;obtain⟨rfl,nX,aaz,g3,abS,Rh,hg3⟩:=aV.behind ((Kp.refl _ w2).drew);have YR:=Ys Rh;have lN:=Ys nX;have aaQ:=Ys abS;have HG3:=Ys hg3;clear aV nX Rh abS hg3;go_wp2_with fail;(refine kk aj af lN.o ?_);clear af K2;(refine ic rfl fun K2 af=>?_);go_wp2_with fail;refine(Lm _ _ _ _ _ _ _ _ YR.o _).mono ?_;rintro e w4 aV;rw[HG3.o]at aV;have hE:=(aV.after lN.o aaQ.o).behind (fe.o.trans fD.o);obtain⟨rfl,mZ,hX⟩:=hE;have HX4:=Ys hX;have zk:=Ys mZ;have HKe:Zs (Kp (MO l own) w2 w4):=Ys (aV.after lN.o aaQ.o).2.1;clear aV hX mZ;go_wp2_with fail;(refine kk aj af HKe.o ?_);clear af K2;(refine JD rfl ?_);((try simp only[Exit.inBlock,Exit.then]);(first|refine bodyPost_ret (results_none rfl _ _ _) rfl ?_|refine bodyPost_end (results_none rfl _ _ _) rfl ?_));rw[HS.o];exact⟨rfl,zk.o,HX4.o⟩
theorem FN (w : World) (I : Nat → Prop) (cs : List Value) (m : M.Method) (h : aH w I m cs) (args : List Int) (aa : Option Addr) (ac : Nat) (hal : args.length ≤ 4294967296) :
    Calls Tryz.prog 47 #[.agg cs.toArray,.slice aa args.length ac] w fun e w'=>e=.returned (.bool (M.iK m args))∧Ext w w':=by
 obtain⟨va,vc,vm,rfl,h1,h2,h3⟩:=h;obtain⟨a,cap,rfl,hn,dn⟩:=h1.form;by_cases Bt:m.args.length=args.length
 · have HL : Zs (M.iK m args = m.args.all fun k => decide (k.kind = 1)) := Ys (by unfold M.iK; rw [decide_eq_true Bt]; rfl); have uN : ((m.args.length : Int) != args.length) = false := by simp [Bt]
   have J2:=Ys Bt;clear Bt;obtain⟨w0,bD⟩:∃w0,w0=w.alloc (.cells #[.string m.name,.slice a m.args.length cap,.int .i64 m.ret.kind,.string m.ret.name,.int .i64 m.locals,.int .i64 m.stack,vc,vm] 54):=⟨_,rfl⟩;have aU:Ext w w0:=by rw[bD];exact kx
   have bJ:=Ys aU;have dQ:=Ys bD;clear aU bD;go_enter Tryz.func47,Tryz.ntmps47;go_wp2_with fail;rw[←dQ.o];go_loopw [16] (fun i wr=>∃k:Nat,k≤m.args.length∧i=.int .i64 k∧Ext w0 wr∧Zs ((m.args.take k).all (fun k=>decide (k.kind=1))=true)) (fun i _=>m.args.length - (intOf i).toNat)
   case atStart=>exact⟨0,Nat.zero_le _,rfl,Kp.refl _ _,Ys (by simp)⟩
   case round =>
    obtain⟨k,hk,rfl,hE,HA⟩:=hrel;by_cases bZ:k<m.args.length
    · obtain⟨x,hx⟩:=get_some bZ;obtain⟨b,off,cs,rfl,hI,rfl, -,hc⟩:=h1.get hx;obtain⟨g0,g1⟩:=((hc.ext bJ.o).ext hE).two;have gz:=aG g0;have HX:=Ys hx;clear hx hc;by_cases tY:x.kind=1
      · have e1:((x.kind:Int) !=1)=false:=by simp[tY]
        have HT:Zs (decide (x.kind=1)=true):=Ys (by simp[tY]);clear tY;go_wp2_with fail;go_roundw
        case rel=>exact⟨k+1,by omega,by go_num,kx,Ys (all_succ HA.o HX.o HT.o)⟩
        case measure=>simp[intOf];omega
      · have e1:((x.kind:Int) !=1)=true:=bne_iff_ne.2 tY;have HT:Zs (decide (x.kind=1)=false):=Ys (by simp[tY]);clear tY;go_wp2_with fail;go_ret;exact⟨ag (by rw[HL.o];exact(mD HX.o HT.o).symm),bJ.o.trans kx⟩
    · go_wp2_with fail;go_ret;exact⟨ag (by rw[HL.o];exact(kH HA.o (by omega)).symm),bJ.o.trans kx⟩
 · have uN:((m.args.length:Int) !=args.length)=true:=bne_iff_ne.2 (by omega);have HL:Zs (M.iK m args=false):=Ys (by unfold M.iK;rw[decide_eq_false Bt];rfl);clear Bt;go_enter Tryz.func47,Tryz.ntmps47;go_wp2_with fail;go_ret;exact⟨ag (by rw[HL.o]),kx⟩
theorem L6 (w : World) (v : M.Val) (n : Nat) :
    Calls Tryz.prog 34 #[.agg #[.int .i64 v.kind,.int .i64 v.n],.int .i64 n] w fun e w'=>e=.returned (.bool (M.bE v n))∧Ext w w':=by
 obtain⟨k,m⟩:=v;by_cases h0:k=0∨k=3
 · have HL:Zs (M.bE ⟨k,m⟩ n=decide (m=0)):=Ys (by unfold M.bE;rw[if_pos h0]);rcases h0 with rfl|rfl
   all_goals
    go_enter Tryz.func34,Tryz.ntmps34;go_wp2_with fail;go_ret;exact⟨ag (by rw[HL.o];by_cases hm:m=0<;>simp[hm]),kx⟩
 · have e0 : ((k : Int) == 0) = false := beq_eq_false_iff_ne.2 (by omega); have e3 : ((k : Int) == 3) = false := beq_eq_false_iff_ne.2 (by omega); by_cases h1 : k = 1
   · subst h1;have HL:Zs (M.bE ⟨1,m⟩ n=M.fT m):=Ys (by unfold M.bE;simp);clear h0 e0 e3;go_enter Tryz.func34,Tryz.ntmps34;go_wp2_with fail;refine(JH m _).mono ?_;rintro e w1 ⟨rfl,rfl⟩;go_wp2_with fail;go_ret;exact⟨ag (by rw[HL.o];rfl),kx⟩
   · have e1:((k:Int)==1)=false:=beq_eq_false_iff_ne.2 h1;by_cases h2:k=2
     · subst h2;have HL:Zs (M.bE ⟨2,m⟩ n=(decide (0≤m)&&decide (m<n))):=Ys (by unfold M.bE;simp);clear h0 e0 e3 h1 e1;go_enter Tryz.func34,Tryz.ntmps34;go_wp2_with fail
       all_goals
        go_ret;exact⟨ag (by rw[HL.o];by_cases x0:0≤m<;>by_cases x1:m<n<;>simp_all<;>omega),kx⟩
     · have e2:((k:Int)==2)=false:=beq_eq_false_iff_ne.2 h2;have HL:Zs (M.bE ⟨k,m⟩ n=false):=Ys (by unfold M.bE;rw[if_neg h0,if_neg h1,if_neg h2]);clear h0 h1 h2;go_enter Tryz.func34,Tryz.ntmps34;go_wp2_with fail;go_ret;exact⟨ag (by rw[HL.o]),kx⟩
theorem BU(w:World)(I:Nat→Prop)(v:Value)(l:List M.Val)(h:SliceOf 2 jy w I v l)(n:Nat):
    Calls Tryz.prog 74 #[v,.int .i64 n] w fun e w'=>e=.returned (.bool (l.all (M.bE · n)))∧Ext w w':=by
 obtain⟨a,cap,rfl,hn,dn⟩:=h.form;go_enter Tryz.func74,Tryz.ntmps74;go_wp2;go_loopw [9] (fun i wr=>∃k:Nat,k≤l.length∧i=.int .i64 k∧Ext w wr∧Zs ((l.take k).all (M.bE · n)=true)) (fun i _=>l.length - (intOf i).toNat)
 case atStart=>exact⟨0,Nat.zero_le _,rfl,Kp.refl _ _,Ys (by simp)⟩
 case round =>
  obtain⟨k,hk,rfl,hE,HA⟩:=hrel;by_cases bZ:k<l.length
  · obtain⟨x,hx⟩:=get_some bZ;obtain⟨b,off,cs,rfl,hI,rfl, -,hc⟩:=h.get hx;obtain⟨g0,g1⟩:=(hc.ext hE).two;have HX:=Ys hx;clear hx hc;cases ht:M.bE x n
    all_goals
     have HT:=Ys ht;clear ht;go_wp2_with (go_at_call 34;refine(L6 _ x n).mono ?_;rintro e w1 ⟨rfl,hB⟩;rw[HT.o])
    · go_ret;exact⟨ag (mD HX.o HT.o).symm,(by repeat (first|assumption|exact Kp.refl _ _|apply Kp.alloc|apply Kp.drew|apply Kp.drewN|refine Kp.trans ?_ (by assumption)))⟩
    · go_roundw
      case rel=>exact⟨k+1,by omega,by go_num,(by repeat (first|assumption|exact Kp.refl _ _|apply Kp.alloc|apply Kp.drew|apply Kp.drewN|refine Kp.trans ?_ (by assumption))),Ys (all_succ HA.o HX.o HT.o)⟩
      case measure=>simp[intOf];omega
  · go_wp2;go_ret;exact⟨ag (kH HA.o (by omega)).symm,kx⟩
def rA:fP M.iC:=fun w I x cs=>∃vf,cs=[.int .i64 x.of.keeper,.string x.of.name,vf]∧SliceOf 2 jy w I vf x.fields
def JZ:fP M.Fr:=fun w I x cs=>∃vl vs,cs=[.int .i64 x.of.of.keeper,.string x.of.of.name,.int .i64 x.of.at_,.int .i64 x.pc,vl,vs]∧SliceOf 2 jy w I vl x.locals∧SliceOf 2 jy w I vs x.stack
theorem rA.stays:bQ rA:=fun _ _ _ _ _ _ hs hI ⟨vf,e,h⟩=>⟨vf,e,h.keep jy.stays hs hI⟩
theorem JZ.stays:bQ JZ:=fun _ _ _ _ _ _ hs hI ⟨vl,vs,e,h1,h2⟩=>⟨vl,vs,e,h1.keep jy.stays hs hI,h2.keep jy.stays hs hI⟩
def aN:fP M.St:=fun w I x cs=>∃vf vh vo,cs=[.int .i64 x.status,vf,vh,vo,.int .i64 x.back.kind,.int .i64 x.back.n]∧SliceOf 6 JZ w I vf x.frames∧SliceOf 3 rA w I vh x.heap∧SliceOf 1 iZ w I vo x.outs
theorem aN.stays:bQ aN:=fun _ _ _ _ _ _ hs hI ⟨vf,vh,vo,e,h1,h2,h3⟩=>⟨vf,vh,vo,e,h1.keep JZ.stays hs hI,h2.keep rA.stays hs hI,h3.keep iZ.stays hs hI⟩
theorem aN.form{w:World}{I:Nat→Prop}{x:M.St}{cs:List Value}(h:aN w I x cs):∃a1 c1 a2 c2 a3 c3,
    cs=[.int .i64 x.status,.slice a1 x.frames.length c1,.slice a2 x.heap.length c2,.slice a3 x.outs.length c3,.int .i64 x.back.kind,.int .i64 x.back.n]∧
    SliceOf 6 JZ w I (.slice a1 x.frames.length c1) x.frames∧SliceOf 3 rA w I (.slice a2 x.heap.length c2) x.heap∧SliceOf 1 iZ w I (.slice a3 x.outs.length c3) x.outs:=by
 obtain⟨_,_,_,rfl,h1,h2,h3⟩:=h;obtain⟨a1,c1,rfl,_⟩:=h1.form;obtain⟨a2,c2,rfl,_⟩:=h2.form;obtain⟨a3,c3,rfl,_⟩:=h3.form;exact⟨a1,c1,a2,c2,a3,c3,rfl,h1,h2,h3⟩
theorem LC.same{l:aI}{p:M.au}{w W:World}(h:LC l p w W)(ho:l.O<l.D):Same (· <l.O) w W:=h.kp.same fun b hb e=>by omega
theorem SliceOf.lc{α:Type}{k:Nat}{R:fP α}(hR:bQ R){l:aI}{p:M.au}{w W:World}{v:Value}{xs:List α}(hs:SliceOf k R w (· <l.O) v xs)(h:LC l p w W):SliceOf k R W (· <l.O) v xs:=
 hs.keep hR (h.same (by have:=h.at_.ord;omega)) fun _ x=>x
theorem MQ.bad{p:M.au}{hs:List M.iC}{q:Nat}{o:M.iC}(hq:hs[q]?=some o)(h:(M.cZ p o.of&&decide (o.fields.length=(M.layout p o.of).length)&&o.fields.all (M.bE · hs.length))=false):M.ib p hs=false:=by
 unfold M.ib;rw[Bool.and_eq_false_iff];right;rw[List.all_eq_false];exact⟨o,List.mem_of_getElem? hq,by rw[h];simp⟩
theorem Jy (w : World) (l : aI) (p : M.au) (h : aF w l p) (v : Value) (hs : List M.iC) (hh : SliceOf 3 rA w (· < l.O) v hs) :
    Calls Tryz.prog 33 #[.pointer (some ⟨l.L,0,none⟩),v] w fun e w'=>e=.returned (.bool (M.ib p hs))∧LC l p w w':=by
 obtain⟨a,cap,rfl,hn,dn⟩:=hh.form;have hOw:=h.IW;have Bv:=h.ord;by_cases Z4:12<hs.length
 · have HV:Zs (M.ib p hs=false):=Ys (by unfold M.ib;rw[decide_eq_false (by omega)];rfl);have V9:(12:Int)<hs.length:=by omega
   have HL:=Ys h;clear h hh Z4;go_enter Tryz.func33,Tryz.ntmps33;go_wp2_with fail;go_ret;exact⟨ag HV.o.symm,LC.refl HL.o⟩
 · have HV : Zs (M.ib p hs = hs.all fun o => M.cZ p o.of && decide (o.fields.length = (M.layout p o.of).length) && o.fields.all (M.bE · hs.length)) := Ys (by unfold M.ib; rw [decide_eq_true (by omega)]; rfl); have V9 : ((12 : Int) < hs.length) = False := eq_false (by omega); have HL := Ys h; have HH := Ys hh; have aew : hs.length ≤ 12 := by omega
   clear h hh Z4;go_enter Tryz.func33,Tryz.ntmps33;go_wp2_with fail;go_loopw [12] (fun i wr=>∃q:Nat,q≤hs.length∧i=.int .i64 q∧LC l p w wr∧Zs (((hs.take q).all fun o=>M.cZ p o.of&&decide (o.fields.length=(M.layout p o.of).length)&&o.fields.all (M.bE · hs.length))=true)) (fun i _=>hs.length - (intOf i).toNat)
   case atStart=>exact⟨0,Nat.zero_le _,rfl,LC.refl HL.o,Ys (by simp)⟩
   case round =>
    obtain⟨q,hq,rfl,hC,HQ⟩:=hrel;have HC:=Ys hC;by_cases bZ:q<hs.length
    · obtain⟨⟨⟨ok,on⟩,Dk⟩,ho⟩:=jo hs q bZ;obtain⟨b,off,cs,rfl,hI,⟨vf,rfl,hf⟩, -,hc⟩:=(SliceOf.lc rA.stays HH.o hC).get ho;obtain⟨fa,fc,rfl,OU,zY⟩:=hf.form;obtain⟨g0,g1,g2⟩:=hc.three;have gz:=aG g0;obtain⟨w6,nk,dK,b6⟩:=nu wr #[.int .i64 ok,.string on,.slice fa Dk.length fc] 62;have hCz:=hC.at_.IW;obtain⟨T,f,dB,HT⟩:=iq.ex (fun W'=>LC l p w6 W') w6 (LC.refl (hC.at_.ext dK));have r0:=fun z=>(b6.kp (HT.aJ z).kp (by omega)).c 0 (.int .i64 ok) rfl;have r1:=fun z=>(b6.kp (HT.aJ z).kp (by omega)).c 1 (.string on) rfl;have r2:=fun z=>(b6.kp (HT.aJ z).kp (by omega)).c 2 (.slice fa Dk.length fc) rfl;have aj:=Ys HT;have Ch:=Ys nk;have bg:=Ys b6;have HL6:=Ys (hC.at_.ext dK);have vC:=Ys (hC.ext dK);have HF:=Ys ((hf.ext jy.stays dK));have HO:=Ys ho;have KP:∀W,LC l p w6 W→LC l p w W:=fun _ hx=>vC.o.step hx.at_ hx.kp;have jE:=Ys KP;clear hC dK b6 nk HT hf hc ho KP;go_wp2_with fail;rw[←Ch.o];clear g0 g1 g2;(refine dZ aj 16 [([0,1,2],3),([4,5,6,7,8,9,10,11],12)] [13,14,15] ?_ ?_)
      · exact(LC.refl HL6.o).drew
      (refine di [_,_,_] rfl rfl fun K hK=>?_);(repeat (go_big_quiet_step (fail)));(refine qn hK fun K2 af=>?_);clear hK K;go_wp2_with fail;refine(iG _ _ _ (HL6.o.ext (Kp.refl _ _).drew) ⟨ok,on⟩).mono ?_;rintro e w7 ⟨rfl,Wm,si⟩;have l9:Zs (LC l p w6 w7):=Ys ((LC.refl HL6.o).drew.step Wm si);clear Wm si;cases fV:M.cZ p ⟨ok,on⟩
      · have HR:Zs (M.ib p hs=false):=Ys (MQ.bad HO.o (by rw[fV];rfl));clear fV;go_wp2_with fail;(refine kk aj af l9.o ?_);clear af K2;(refine di [_,_,_,_,_,_,_,_] rfl rfl fun K hK=>?_);(repeat (go_big_quiet_step (fail)));(refine qn hK fun K2 af=>?_);clear hK K;go_wp2_with fail;(refine kk aj af l9.o ?_);clear af K2;(refine dI [_,_,_] rfl rfl fun K hK=>?_);(repeat (go_big_quiet_step (fail)));(refine qn hK ?_);clear hK K;go_wp2_with fail;go_ret;exact⟨ag HR.o.symm,jE.o _ l9.o⟩
      · have pQ:=Ys fV;clear fV;go_wp2_with fail;(refine kk aj af l9.o ?_);clear af K2;(refine di [_,_,_,_,_,_,_,_] rfl rfl fun K hK=>?_);(repeat (go_big_quiet_step (fail)));(refine qn hK fun K2 af=>?_);clear hK K;go_wp2_with fail;refine(uq _ _ _ l9.o.at_ ⟨ok,on⟩).mono ?_;rintro e w8 ⟨⟨v8,rfl,Rt⟩,hL8,Bl⟩;obtain⟨a8,c8,rfl, -,hn8⟩:=Rt.form;have Om:Zs (LC l p w6 w8):=Ys (l9.o.step hL8 Bl);clear Rt hL8 Bl;by_cases hl8:Dk.length=(M.layout p ⟨ok,on⟩).length
        · have hb8:((Dk.length:Int) !=(M.layout p ⟨ok,on⟩).length)=false:=by simp[hl8]
          have HL8:=Ys hl8;clear hl8;go_wp2_with fail;(refine kk aj af Om.o ?_);clear af K2;(refine dI [_,_,_] rfl rfl fun K hK=>?_);(repeat (go_big_quiet_step (fail)));(refine qn hK ?_);clear hK K;have q2:=(bg.o.kp Om.o.kp (by omega)).c 2 (.slice fa Dk.length fc) rfl;have qz:=(bg.o.kp Om.o.kp (by omega)).lt;clear r0 r1 r2 aj;go_wp2_with fail;refine(BU _ (· <l.O) _ Dk (SliceOf.lc jy.stays HF.o Om.o) hs.length).mono ?_;rintro e w9 ⟨rfl,oZ⟩;have RV:=Ys (Om.o.ext oZ);clear oZ;cases pY:Dk.all (M.bE · hs.length)
          · have HR:Zs (M.ib p hs=false):=Ys (MQ.bad HO.o (by simp only[pY,Bool.and_false]));clear pY;go_wp2_with fail;go_ret;exact⟨ag HR.o.symm,jE.o _ RV.o⟩
          · have HT:Zs ((M.cZ p ⟨ok,on⟩&&decide (Dk.length=(M.layout p ⟨ok,on⟩).length)&&Dk.all (M.bE · hs.length))=true):=Ys (by rw[pQ.o,pY,decide_eq_true HL8.o];rfl);clear pY;go_wp2_with fail;exact⟨⟨q+1,by omega,by go_num,jE.o _ RV.o,Ys (all_succ HQ.o HO.o HT.o)⟩,by simp[intOf];omega⟩
        · have hb8:((Dk.length:Int) !=(M.layout p ⟨ok,on⟩).length)=true:=bne_iff_ne.2 (by omega);have HR:Zs (M.ib p hs=false):=Ys (MQ.bad HO.o (by simp only[decide_eq_false hl8,Bool.and_false,Bool.false_and]));clear hl8;go_wp2_with fail;(refine kk aj af Om.o ?_);clear af K2;(refine dI [_,_,_] rfl rfl fun K hK=>?_);(repeat (go_big_quiet_step (fail)));(refine qn hK ?_);clear hK K;go_wp2_with fail;go_ret;exact⟨ag HR.o.symm,jE.o _ Om.o⟩
    · have HR:Zs (M.ib p hs=true):=Ys (by rw[HV.o];exact kH HQ.o (by omega));clear hC;go_wp2_with fail;go_ret;exact⟨ag HR.o.symm,HC.o⟩
theorem Dj(w:World)(l:aI)(p:M.au)(h:aF w l p)(m:M.kT):
    Calls Tryz.prog 94 #[.pointer (some ⟨l.L,0,none⟩),.agg #[.int .i64 m.of.keeper,.string m.of.name,.int .i64 m.at_]] w fun e w'=>
     e=.returned (.bool (M.cK p m))∧aF w' l p∧Kp (·=l.D) w w':=by
 have Mi:=h.IW;have aU:Ext w (w.alloc (.cells #[.int .i64 m.of.keeper,.string m.of.name,.int .i64 m.at_] 42)):=kx;have b3:=(aC.new w 42 #[.int .i64 m.of.keeper,.string m.of.name,.int .i64 m.at_]);obtain⟨T,f,oC,HT⟩:=iq.ex (LC l p (w.alloc (.cells #[.int .i64 m.of.keeper,.string m.of.name,.int .i64 m.at_] 42))) _ (LC.refl (h.ext aU));have q0:=fun s=>(b3.kp (HT.aJ s).kp (by omega)).c 0 (.int .i64 m.of.keeper) rfl;have q1:=fun s=>(b3.kp (HT.aJ s).kp (by omega)).c 1 (.string m.of.name) rfl;have q2:=fun s=>(b3.kp (HT.aJ s).kp (by omega)).c 2 (.int .i64 m.at_) rfl;have HL0:=Ys (h.ext aU);have H0:=Ys h;have aj:=Ys HT;have bJ:=Ys aU;have FIN:Zs (∀s,aF (f s) l p∧Kp (·=l.D) w (f s)):=Ys (fun s=>⟨(HT.aJ s).at_,bJ.o.any.trans (HT.aJ s).kp⟩);clear b3 Mi h aU HT;cases hc:M.cZ p m.of
 · have HV:Zs (M.cK p m=false):=Ys (by unfold M.cK;rw[hc];rfl);have HC:=Ys hc;clear hc;go_enter Tryz.func94,Tryz.ntmps94;go_wp2;(refine Gv aj ?_ ?_);rotate_left;(repeat (go_big_quiet_step ((go_at_call 45;refine(iG _ _ _ (aj.o.aJ _).at_ m.of).mono ?_;rintro e w1 ⟨rfl,Ct,lU⟩;rw[HC.o];exact⟨rfl,aj.o.o w1 ((aj.o.aJ _).step Ct lU)⟩))));(refine wpQuiet_nil ?_);(rintro _ ⟨sW,rfl⟩);rotate_left
   · exact(LC.refl HL0.o).drew
   go_wp2;go_ret;exact⟨ag HV.o.symm,FIN.o sW⟩
 · have HC:=Ys hc;clear hc;by_cases h0:m.at_ <0
   · have HV:Zs (M.cK p m=false):=Ys (by unfold M.cK;rw[HC.o,decide_eq_false (p:=0≤m.at_) (by omega)];rfl);go_enter Tryz.func94,Tryz.ntmps94;go_wp2;have hd:decide (0≤m.at_)=false:=decide_eq_false (by omega);(refine Gv aj ?_ ?_);rotate_left;(repeat (go_big_quiet_step ((go_at_call 45;refine(iG _ _ _ (aj.o.aJ _).at_ m.of).mono ?_;rintro e w1 ⟨rfl,Ct,lU⟩;rw[HC.o];exact⟨rfl,aj.o.o w1 ((aj.o.aJ _).step Ct lU)⟩))));(refine wpQuiet_nil ?_);(rintro _ ⟨sW,rfl⟩);rotate_left
     · exact(LC.refl HL0.o).drew
     go_wp2;go_ret;exact⟨ag HV.o.symm,FIN.o sW⟩
   · obtain⟨c,fV⟩:=M.jc (M.zL HC.o).2;obtain⟨cs,bO,ng⟩:=qR _ l p HL0.o m.of.keeper m.of.name c fV;obtain⟨a1,c1,a2,c2,rfl⟩:=bO.form;have ym:∀W,(Instr.field 58 (.agg #[.string c.name,.string c.aQ,.slice a1 c.fields.length c1,.slice a2 c.methods.length c2]) 3).run Tryz.prog W=.ok (.slice a2 c.methods.length c2) W:=(fun W=>by kernel_rfl);have Q4:=Ys ng;have V8:0≤m.at_:=by omega
     have HV:Zs (M.cK p m=decide (m.at_ <c.methods.length)):=Ys (by
      unfold M.cK;rw[HC.o,decide_eq_true (p:=0≤m.at_) (by omega)];have:M.cls p m.of=c:=by unfold M.cls;rw[fV];rfl
      rw[this];rfl)
     clear fV bO ng h0;go_enter Tryz.func94,Tryz.ntmps94;go_wp2;have hd:decide (0≤m.at_)=true:=decide_eq_true V8;(refine Gv aj ?_ ?_);rotate_left;(repeat (go_big_quiet_step (first|(go_at_call 45;refine(iG _ _ _ (aj.o.aJ _).at_ m.of).mono ?_;rintro e w1 ⟨rfl,Ct,lU⟩;rw[HC.o];exact⟨rfl,aj.o.o w1 ((aj.o.aJ _).step Ct lU)⟩)|(go_at_call 91;refine(Q4.o _ (aj.o.aJ _).kp).mono ?_;rintro e w1 ⟨rfl,bA⟩;exact⟨rfl,aj.o.o w1 ((aj.o.aJ _).ext bA)⟩))));(refine wpQuiet_nil ?_);(rintro _ ⟨sW,rfl⟩);rotate_left
     · exact(LC.refl HL0.o).drew
     go_wp2;go_ret;exact⟨ag HV.o.symm,FIN.o sW⟩
theorem G9(w:World)(l:aI)(p:M.au)(h:aF w l p)(x:M.Fr)(cs:List Value)(hx:JZ w (· <l.O) x cs)(n:Nat):
    Calls Tryz.prog 53 #[.pointer (some ⟨l.L,0,none⟩),.agg cs.toArray,.int .i64 n] w fun e w'=>e=.returned (.bool (M.dL p x n))∧LC l p w w':=by
 obtain⟨⟨⟨xk,xn⟩,xa⟩,pc,lo,st⟩:=x;obtain⟨vl,vs,rfl,hl,hs⟩:=hx;obtain⟨la,lc,rfl,xQ,hlc⟩:=hl.form;obtain⟨sa,sc,rfl,Ms,hsc⟩:=hs.form;obtain⟨w4,o6,dA,b4⟩:=nu w #[.int .i64 xk,.string xn,.int .i64 xa,.int .i64 pc,.slice la lo.length lc,.slice sa st.length sc] 45;have Mi:=h.IW;have Bv:=h.ord;have y0:=b4.c 0 (.int .i64 xk) rfl;have y1:=b4.c 1 (.string xn) rfl;have y2:=b4.c 2 (.int .i64 xa) rfl;have yz:=b4.lt;have HL:=Ys (h.ext dA);have gZ:=Ys dA;have iB:=Ys b4;have zD:=Ys o6;have HLO:=Ys (hl.ext jy.stays dA);have qM:=Ys (hs.ext jy.stays dA);have vR:=Ys ((LC.refl h).ext dA);have KP:∀W,LC l p w4 W→LC l p w W:=fun _ hx=>(LC.refl h).ext dA |>.step hx.at_ hx.kp;have jE:=Ys KP;simp only at hl hs;clear h dA b4 o6 KP hl hs;go_enter Tryz.func53,Tryz.ntmps53;go_wp2_with fail;rw[←zD.o];refine(Dj _ _ _ HL.o ⟨⟨xk,xn⟩,xa⟩).mono ?_;rintro e w5 ⟨rfl,Ve,gD⟩;have lh:Zs (LC l p w4 w5):=Ys ((LC.refl HL.o).step Ve gD);have b5:=iB.o.kp gD (by omega);have iL:=Ys b5;clear Ve gD y0 y1 y2 yz;have y0:=b5.c 0 (.int .i64 xk) rfl;have y1:=b5.c 1 (.string xn) rfl;have y2:=b5.c 2 (.int .i64 xa) rfl;have yz:=b5.lt;clear b5;cases hhm:M.cK p ⟨⟨xk,xn⟩,xa⟩
 · have HR:Zs (M.dL p ⟨⟨⟨xk,xn⟩,xa⟩,pc,lo,st⟩ n=false):=Ys (by unfold M.dL;simp only[hhm,Bool.false_and]);clear hhm;go_wp2_with fail;go_ret;exact⟨ag HR.o.symm,jE.o _ lh.o⟩
 have HHM:=Ys hhm;obtain⟨m,hm⟩:∃m,M.method p ⟨⟨xk,xn⟩,xa⟩=m:=⟨_,rfl⟩;have qy:m.code.length≤16:=by rw[←hm];exact(M.lL (M.gI HL.o.ok hhm).1).code
 have HV:Zs (M.dL p ⟨⟨⟨xk,xn⟩,xa⟩,pc,lo,st⟩ n=(decide (0≤pc)&&decide (pc<m.code.length)&&decide ((lo.length:Int)=m.locals)&&decide ((st.length:Int)≤m.stack)&&lo.all (M.bE · n)&&st.all (M.bE · n))):=Ys (by
  unfold M.dL;simp only[hhm,hm,Bool.true_and])
 have yR:=fJ w5 l p lh.o.at_ ⟨⟨xk,xn⟩,xa⟩ hhm;rw[hm]at yR;have AQ:=Ys yR;clear hhm hm yR;go_wp2_with fail;refine AQ.o.mono ?_;rintro e w6 ⟨⟨cs,lu,rfl⟩,dK⟩;obtain⟨t2,rfl⟩:=jN lu;obtain⟨w7,Cz⟩:∃w7,w7=w6.alloc (.cells (ig m t2).toArray 54):=⟨_,rfl⟩;have rE:Ext w6 w7:=by rw[Cz];exact kx
 have b7:aC w7 w6.heap.size 54 (ig m t2).toArray:=by rw[Cz];exact aC.new _ _ _
 have b47:=iL.o.ext (dK.trans rE);have l9:Zs (LC l p w4 w7):=Ys (lh.o.ext (dK.trans rE));have b46:=iL.o.ext dK;have y3:=b46.c 3 (.int .i64 pc) rfl;have y4:=b46.c 4 (.slice la lo.length lc) rfl;have y5:=b46.c 5 (.slice sa st.length sc) rfl;have yz7:=b46.lt;have pg:=Ys b47;have Rc:=Ys Cz;clear lu dK Cz rE b7 b47 b46 y0 y1 y2 yz AQ;simp only[ig];unfold ig at Rc;have acY:∀{b:Bool},M.dL p ⟨⟨⟨xk,xn⟩,xa⟩,pc,lo,st⟩ n=b→b=false→M.dL p ⟨⟨⟨xk,xn⟩,xa⟩,pc,lo,st⟩ n=false:=fun h e=>h.trans e;by_cases hp0:pc<0
 · have aeP:decide (pc<0)=true:=decide_eq_true hp0;have HR:Zs (M.dL p ⟨⟨⟨xk,xn⟩,xa⟩,pc,lo,st⟩ n=false):=Ys (by rw[HV.o,decide_eq_false (p:=0≤pc) (by omega)];simp only[Bool.false_and]);clear hp0;go_wp2_with fail;go_ret;rw[←Rc.o];exact⟨ag HR.o.symm,jE.o _ l9.o⟩
 have aeP:decide (pc<0)=false:=decide_eq_false hp0;by_cases hp1:(m.code.length:Int)≤pc
 · have aeQ:decide ((m.code.length:Int)≤pc)=true:=decide_eq_true hp1;have HR:Zs (M.dL p ⟨⟨⟨xk,xn⟩,xa⟩,pc,lo,st⟩ n=false):=Ys (by rw[HV.o,decide_eq_false (p:=pc<m.code.length) (by omega)];simp only[Bool.false_and,Bool.and_false]);clear hp0 hp1;go_wp2_with fail;go_ret;rw[←Rc.o];exact⟨ag HR.o.symm,jE.o _ l9.o⟩
 have aeQ:decide ((m.code.length:Int)≤pc)=false:=decide_eq_false hp1;have HP:Zs (0≤pc∧pc<m.code.length):=Ys (by omega);clear hp0 hp1;by_cases zq:(lo.length:Int)=m.locals;rotate_left
 · have aeB:((lo.length:Int) !=m.locals)=true:=bne_iff_ne.2 zq;have HR:Zs (M.dL p ⟨⟨⟨xk,xn⟩,xa⟩,pc,lo,st⟩ n=false):=Ys (by rw[HV.o,decide_eq_false (p:=(lo.length:Int)=m.locals) zq];simp only[Bool.false_and,Bool.and_false]);clear zq;go_wp2_with fail;go_ret;rw[←Rc.o];exact⟨ag HR.o.symm,jE.o _ l9.o⟩
 have aeB:((lo.length:Int) !=m.locals)=false:=by simp[zq]
 have AX:=Ys zq;clear zq;by_cases bH:m.stack<(st.length:Int)
 · have WQ:decide (m.stack<(st.length:Int))=true:=decide_eq_true bH;have HR:Zs (M.dL p ⟨⟨⟨xk,xn⟩,xa⟩,pc,lo,st⟩ n=false):=Ys (by rw[HV.o,decide_eq_false (p:=(st.length:Int)≤m.stack) (by omega)];simp only[Bool.false_and,Bool.and_false]);clear bH;go_wp2_with fail;go_ret;rw[←Rc.o];exact⟨ag HR.o.symm,jE.o _ l9.o⟩
 have WQ:decide (m.stack<(st.length:Int))=false:=decide_eq_false bH;replace HV:Zs (M.dL p ⟨⟨⟨xk,xn⟩,xa⟩,pc,lo,st⟩ n=(lo.all (M.bE · n)&&st.all (M.bE · n))):=Ys (by
  rw[HV.o,decide_eq_true HP.o.1,decide_eq_true HP.o.2,decide_eq_true AX.o,decide_eq_true (p:=(st.length:Int)≤m.stack) (by omega)];simp only[Bool.true_and])
 clear bH;go_wp2_with fail;rw[←Rc.o];refine(BU _ (· <l.O) _ lo (SliceOf.lc jy.stays HLO.o l9.o) n).mono ?_;rintro e w8 ⟨rfl,mY⟩;have Om:=Ys (l9.o.ext mY);have b48:=pg.o.ext mY;have x5:=b48.c 5 (.slice sa st.length sc) rfl;have xz:=b48.lt;clear b48 mY;cases qN:lo.all (M.bE · n)
 · have HR:Zs (M.dL p ⟨⟨⟨xk,xn⟩,xa⟩,pc,lo,st⟩ n=false):=Ys (by rw[HV.o,qN];rfl);clear qN;go_wp2_with fail;go_ret;exact⟨ag HR.o.symm,jE.o _ Om.o⟩
 · have HR:Zs (M.dL p ⟨⟨⟨xk,xn⟩,xa⟩,pc,lo,st⟩ n=st.all (M.bE · n)):=Ys (by rw[HV.o,qN];rfl);clear qN;go_wp2_with fail;refine(BU _ (· <l.O) _ st (SliceOf.lc jy.stays qM.o Om.o) n).mono ?_;rintro e w9 ⟨rfl,oZ⟩;have RV:=Ys (Om.o.ext oZ);clear oZ;go_wp2_with fail;go_ret;exact⟨ag HR.o.symm,jE.o _ RV.o⟩
theorem ae.six{w:World}{b o:Nat}{x0 x1 x2 x3 x4 x5:Value}(h:ae w b o [x0,x1,x2,x3,x4,x5]):
    w.cell? ⟨b,o,none⟩=some x0∧w.cell? ⟨b,o+1,none⟩=some x1∧w.cell? ⟨b,o+2,none⟩=some x2∧w.cell? ⟨b,o+3,none⟩=some x3∧
    w.cell? ⟨b,o+4,none⟩=some x4∧w.cell? ⟨b,o+5,none⟩=some x5:=
 ⟨by simpa using h 0 x0 rfl,h 1 x1 rfl,h 2 x2 rfl,h 3 x3 rfl,h 4 x4 rfl,h 5 x5 rfl⟩
theorem M.UR{p:M.au}{s:M.St}:M.FZ p s=true↔(1≤s.status∧s.status≤10)∧s.heap.length≤12∧s.outs.length≤40∧s.frames.length≤8∧(decide (0<s.frames.length)=decide (s.status=1))∧s.outs.all M.fT=true∧
    s.frames.all (M.dL p · s.heap.length)=true∧M.ib p s.heap=true∧M.bE s.back s.heap.length=true:=by
 unfold M.FZ;simp only[Bool.and_eq_true,decide_eq_true_eq,beq_iff_eq];constructor
 · rintro⟨⟨⟨⟨⟨⟨⟨⟨⟨a,b⟩,c⟩,d⟩,e⟩,f⟩,g⟩,h⟩,i⟩,j⟩;exact⟨⟨a,b⟩,c,d,e,f,g,h,i,j⟩
 · rintro⟨⟨a,b⟩,c,d,e,f,g,h,i,j⟩;exact⟨⟨⟨⟨⟨⟨⟨⟨⟨a,b⟩,c⟩,d⟩,e⟩,f⟩,g⟩,h⟩,i⟩,j⟩
theorem NH (w : World) (l : aI) (p : M.au) (h : aF w l p) (s : M.St) (cs : List Value) (hs : aN w (· < l.O) s cs) :
    Calls Tryz.prog 28 #[.pointer (some ⟨l.L,0,none⟩),.agg cs.toArray] w fun e w'=>e=.returned (.bool (M.FZ p s))∧LC l p w w':=by
 obtain⟨a1,c1,a2,c2,a3,c3,rfl,h1,h2,h3⟩:=hs.form;clear hs;obtain⟨st,xO,hp,outs,⟨bk,bn⟩⟩:=s;simp only at h1 h2 h3 ⊢;obtain⟨w3,jw,dm,b3⟩:=nu w #[.int .i64 st,.slice a1 xO.length c1,.slice a2 hp.length c2,.slice a3 outs.length c3,.int .i64 bk,.int .i64 bn] 34;have Mi:=h.IW;have Bv:=h.ord;obtain⟨v,hv⟩:∃v,M.FZ p ⟨st,xO,hp,outs,⟨bk,bn⟩⟩=v:=⟨_,rfl⟩;have HV0:=Ys hv;have HI:=Ys (M.UR (p:=p) (s:=⟨st,xO,hp,outs,⟨bk,bn⟩⟩));rw[hv]at HI ⊢;simp only at HI;have y0:=b3.c 0 (.int .i64 st) rfl;have y1:=b3.c 1 (.slice a1 xO.length c1) rfl;have y2:=b3.c 2 (.slice a2 hp.length c2) rfl;have y3:=b3.c 3 (.slice a3 outs.length c3) rfl;have yz:=b3.lt;have HL:=Ys (h.ext dm);have fM:=Ys b3;have mq:=Ys jw;have H1:=Ys (h1.ext JZ.stays dm);have H2:=Ys (h2.ext rA.stays dm);have H3:=Ys (h3.ext iZ.stays dm);have mG:=h1.form;have xR:=h2.form;have WE:=h3.form;obtain⟨_,_,e1,Bt,hm1⟩:=mG;cases e1;obtain⟨_,_,e2,Bu,PZ⟩:=xR;cases e2;obtain⟨_,_,e3,Yl,Ym⟩:=WE;cases e3;have KP:∀W,LC l p w3 W→LC l p w W:=fun _ hx=>(LC.refl h).ext dm |>.step hx.at_ hx.kp;have jE:=Ys KP;clear hv h dm b3 jw h1 h2 h3 KP;go_enter Tryz.func28,Tryz.ntmps28;by_cases s1:st<1
 · have s1':decide (st<1)=true:=decide_eq_true s1;have HR:Zs (false=v):=Ys (by cases v;rfl;have:=HI.o.1 rfl;omega);clear s1;go_wp2_with fail;go_ret;rw[←mq.o];exact⟨ag HR.o,jE.o _ (LC.refl HL.o)⟩
 have s1':decide (st<1)=false:=decide_eq_false s1;by_cases s2:10<st
 · have s2':decide (10<st)=true:=decide_eq_true s2;have HR:Zs (false=v):=Ys (by cases v;rfl;have:=HI.o.1 rfl;omega);clear s1 s2;go_wp2_with fail;go_ret;rw[←mq.o];exact⟨ag HR.o,jE.o _ (LC.refl HL.o)⟩
 have s2':decide (10<st)=false:=decide_eq_false s2;by_cases s3:12<hp.length
 · have s3':decide ((12:Int)<hp.length)=true:=decide_eq_true (by omega);have HR:Zs (false=v):=Ys (by cases v;rfl;have:=HI.o.1 rfl;omega);clear s1 s2 s3;go_wp2_with fail;go_ret;rw[←mq.o];exact⟨ag HR.o,jE.o _ (LC.refl HL.o)⟩
 have s3':decide ((12:Int)<hp.length)=false:=decide_eq_false (by omega);by_cases s4:40<outs.length
 · have s4':decide ((40:Int)<outs.length)=true:=decide_eq_true (by omega);have HR:Zs (false=v):=Ys (by cases v;rfl;have:=HI.o.1 rfl;omega);clear s1 s2 s3 s4;go_wp2_with fail;go_ret;rw[←mq.o];exact⟨ag HR.o,jE.o _ (LC.refl HL.o)⟩
 have s4':decide ((40:Int)<outs.length)=false:=decide_eq_false (by omega);by_cases s5:8<xO.length
 · have s5':decide ((8:Int)<xO.length)=true:=decide_eq_true (by omega);have HR:Zs (false=v):=Ys (by cases v;rfl;have:=HI.o.1 rfl;omega);clear s1 s2 s3 s4 s5;go_wp2_with fail;go_ret;rw[←mq.o];exact⟨ag HR.o,jE.o _ (LC.refl HL.o)⟩
 have s5':decide ((8:Int)<xO.length)=false:=decide_eq_false (by omega);have HS:Zs ((1≤st∧st≤10)∧hp.length≤12∧outs.length≤40∧xO.length≤8):=Ys (by omega);clear s1 s2 s3 s4 s5;obtain⟨b1,uN⟩:∃b,decide (0<xO.length)=b:=⟨_,rfl⟩;obtain⟨b2,iU⟩:∃b,decide (st=1)=b:=⟨_,rfl⟩;have e36:decide ((0:Int)<xO.length)=b1:=by rw[←uN];exact decide_eq_decide.2 (by omega)
 have e39:((st:Int)==1)=b2:=by rw[←iU];rfl
 by_cases Yd:b1=b2;rotate_left
 · have e41:(b1==b2)=false:=beq_eq_false_iff_ne.2 Yd;have e42:decide (0<xO.length)=b1:=uN;have HR:Zs (false=v):=Ys (by
    cases v
    · rfl
    · exact absurd (uN.symm.trans ((HI.o.1 rfl).2.2.2.2.1.trans iU)) Yd)
   clear uN iU Yd;go_wp2_with fail;go_ret;rw[←mq.o];exact⟨ag HR.o,jE.o _ (LC.refl HL.o)⟩
 have e41:(b1==b2)=true:=beq_iff_eq.2 Yd;have e42:decide (0<xO.length)=b1:=uN;have HBB:Zs (decide (0<xO.length)=decide (st=1)):=Ys (by rw[uN,iU,Yd]);clear uN iU Yd;go_wp2_with fail;rw[←mq.o];clear e36 e39 e41 e42 s1' s2' s3' s4' s5';go_loopw [44] (fun i wr=>∃q:Nat,q≤outs.length∧i=.int .i64 q∧Ext w3 wr∧Zs ((outs.take q).all M.fT=true)) (fun i _=>outs.length - (intOf i).toNat)
 case atStart=>exact⟨0,Nat.zero_le _,rfl,Kp.refl _ _,Ys (by simp)⟩
 case round =>
  obtain⟨q,hq,rfl,hE,HQ⟩:=hrel;by_cases bZ:q<outs.length
  · obtain⟨x,hx⟩:=jo outs q bZ;obtain⟨b,off,cs,rfl,hI,rfl, -,hc⟩:=(H3.o.ext iZ.stays hE).get hx;rw[Nat.mul_one]at hc;have g0:=hc.one;have gz:=aG g0;have HX:=Ys hx;have HE:=Ys hE;clear hx hc hE y0 y1 y2 y3;go_wp2_with fail;refine(JH x _).mono ?_;rintro e w4 ⟨rfl,rfl⟩;cases sZ:(decide (-9999≤x)&&decide (x≤9999))
    · have HR:Zs (false=v):=Ys (by
       cases v
       · rfl
       · have h1:=(HI.o.1 rfl).2.2.2.2.2.1;have h2:=List.all_eq_true.1 h1 x (List.mem_of_getElem? HX.o);unfold M.fT at h2;rw[sZ]at h2;cases h2)
      clear sZ;go_wp2_with fail;go_ret;exact⟨ag HR.o,jE.o _ ((LC.refl HL.o).ext HE.o)⟩
    · have HN:Zs (M.fT x=true):=Ys sZ;clear sZ;go_wp2_with fail;exact⟨⟨q+1,by omega,by go_num,HE.o,Ys (all_succ HQ.o HX.o HN.o)⟩,by simp[intOf];omega⟩
  · have adP : Zs (outs.all M.fT = true) := Ys (kH HQ.o (by omega)); have HE := Ys hE; have x1 := (fM.o.ext hE).c 1 (.slice a1 xO.length c1) rfl; have xz1 := (fM.o.ext hE).lt; clear hE HQ y0 y1 y2 y3; go_wp2_with fail; obtain ⟨wo, rfl⟩ : ∃ wo : World, wo = wr := ⟨_, rfl⟩; go_loopw [55] (fun i wr => ∃ q : Nat, q ≤ xO.length ∧ i = .int .i64 q ∧ LC l p w3 wr ∧ Zs ((xO.take q).all (M.dL p · hp.length) = true)) (fun i _ => xO.length - (intOf i).toNat)
    case atStart=>exact⟨0,Nat.zero_le _,rfl,(LC.refl HL.o).ext HE.o,Ys (by simp)⟩
    case round =>
     obtain⟨q,hq,rfl,hC,HQ⟩:=hrel;have HC:=Ys hC;by_cases bZ:q<xO.length
     · obtain⟨x,hx⟩:=jo xO q bZ;obtain⟨b,off,cs,rfl,hI,kQ, -,hc⟩:=(SliceOf.lc JZ.stays H1.o hC).get hx;have aem:=kQ;obtain⟨vl,vs,rfl,hl,hs⟩:=aem;obtain⟨la,lc,rfl,xQ,hlc⟩:=hl.form;obtain⟨sa,sc,rfl,Ms,hsc⟩:=hs.form;obtain⟨g0,g1,g2,g3,g4,g5⟩:=hc.six;have gz:=aG g0;obtain⟨w8,TM,mY,b8⟩:=nu wr #[.int .i64 x.of.of.keeper,.string x.of.of.name,.int .i64 x.of.at_,.int .i64 x.pc,.slice la x.locals.length lc,.slice sa x.stack.length sc] 45;have k0:=b8.c 0 (.int .i64 x.of.of.keeper) rfl;have k1:=b8.c 1 (.string x.of.of.name) rfl;have k2:=b8.c 2 (.int .i64 x.of.at_) rfl;have k3:=b8.c 3 (.int .i64 x.pc) rfl;have k4:=b8.c 4 (.slice la x.locals.length lc) rfl;have k5:=b8.c 5 (.slice sa x.stack.length sc) rfl;have kz:=b8.lt;have ZJ:=fM.o.kp hC.kp (by omega);have x2:=ZJ.c 2 (.slice a2 hp.length c2) rfl;have xz:=ZJ.lt;have HX:=Ys hx;have HFR:=Ys (JZ.stays _ _ _ _ _ _ (Ext.same mY) (fun _ h=>h) kQ);have Om:=Ys (hC.ext mY);have HW8:=Ys TM;clear hx hc hC mY b8 ZJ TM kQ hl hs x1 xz1;go_wp2_with fail;rw[←HW8.o];refine(G9 _ _ _ Om.o.at_ x _ HFR.o hp.length).mono ?_;rintro e w9 ⟨rfl,De⟩;have RV:Zs (LC l p w3 w9):=Ys (Om.o.trans De);clear De;cases Gn:M.dL p x hp.length
       · have HR:Zs (false=v):=Ys (by
          cases v
          · rfl
          · have h1:=(HI.o.1 rfl).2.2.2.2.2.2.1;have h2:=List.all_eq_true.1 h1 x (List.mem_of_getElem? HX.o);rw[Gn]at h2;cases h2)
         clear Gn;go_wp2_with fail;go_ret;exact⟨ag HR.o,jE.o _ RV.o⟩
       · have HN:=Ys Gn;clear Gn;go_wp2_with fail;exact⟨⟨q+1,by omega,by go_num,RV.o,Ys (all_succ HQ.o HX.o HN.o)⟩,by simp[intOf];omega⟩
     · have adz : Zs (xO.all (M.dL p · hp.length) = true) := Ys (kH HQ.o (by omega)); have ZJ := fM.o.kp hC.kp (by omega); have x2 := ZJ.c 2 (.slice a2 hp.length c2) rfl; have xz := ZJ.lt; clear hC HQ x1 xz1 ZJ; go_wp2_with fail; refine (Jy _ _ _ HC.o.at_ _ hp (SliceOf.lc rA.stays H2.o HC.o)).mono ?_; rintro e w9 ⟨rfl, De⟩; have RV : Zs (LC l p w3 w9) := Ys (HC.o.trans De); have b39 := fM.o.kp RV.o.kp (by omega); have z2 := b39.c 2 (.slice a2 hp.length c2) rfl; have z4 := b39.c 4 (.int .i64 bk) rfl; have z5 := b39.c 5 (.int .i64 bn) rfl; have zz := b39.lt; clear De x2 xz b39; cases hho : M.ib p hp
       · have HR:Zs (false=v):=Ys (by
          cases v
          · rfl
          · have h1:=(HI.o.1 rfl).2.2.2.2.2.2.2.1;rw[hho]at h1;cases h1)
         clear hho;go_wp2_with fail;go_ret;exact⟨ag HR.o,jE.o _ RV.o⟩
       · have HHO:=Ys hho;clear hho;go_wp2_with fail;refine(L6 _ ⟨bk,bn⟩ hp.length).mono ?_;rintro e gN ⟨rfl,kV⟩;have adl:=Ys (RV.o.ext kV);clear kV
         have HR:Zs (M.bE ⟨bk,bn⟩ hp.length=v):=Ys (by
          have hi:=HI.o;rw[HHO.o,adP.o,adz.o]at hi;have hs:=HS.o;have hb:=HBB.o;cases pY:M.bE ⟨bk,bn⟩ hp.length
          · cases v
            · rfl
            · have:=(hi.1 rfl).2.2.2.2.2.2.2.2;rw[pY]at this;cases this
          · exact(hi.2 ⟨hs.1,hs.2.1,hs.2.2.1,hs.2.2.2,hb,rfl,rfl,rfl,pY⟩).symm)
         go_wp2_with fail;go_ret;exact⟨ag HR.o,jE.o _ adl.o⟩
theorem SliceOf.vals{w:World}{I:Nat→Prop}{v:Value}{xs:List M.Val}(h:SliceOf 2 jy w I v xs):Flat w 2 v xs.length (xs.flatMap bW):=SliceOf.toFlat (enc:=bW) (fun _ _ _ _ h=>h) (fun _=>rfl) uy h
theorem SliceOf.ints{w:World}{I:Nat→Prop}{v:Value}{xs:List Int}(h:SliceOf 1 iZ w I v xs):Flat w 1 v xs.length (xs.flatMap sJ):=SliceOf.toFlat (enc:=sJ) (fun _ _ _ _ h=>h) (fun _=>rfl) DN h
theorem Own.more{w w':World}{own:Own}{B e k n:Nat}{v:Value}{xs:List Value}(hd:∀b,own b≠none→B≤b∧b<w.heap.size)(cu:w'.ownsRow w.heap.size e k v n xs)(hs:w.heap.size≤w'.heap.size)(hB:B≤w.heap.size)(r:Nat×Nat):
    ∃fQ:Own,(∀b q,own b=some q→fQ b=some q)∧(∀b,fQ b≠none→B≤b∧b<w'.heap.size)∧gP w' fQ B r e k v n xs∧gY w.heap.size own fQ∧(∀b q,fQ b=some q→own b=some q∨q=r):=by
 cases he:v.ownBlock with
 |none=>exact⟨own,fun _ _ h=>h,fun b hb=>⟨(hd b hb).1,Nat.lt_of_lt_of_le (hd b hb).2 hs⟩,⟨fF cu hB,fun b hb=>by rw[he]at hb;cases hb⟩,gY.refl _ _,fun _ _ h=>.inl h⟩
 | some g =>
  have hg:=cu.lt g he;have hn:own g=none:=by
   cases e2:own g with
   |none=>rfl
   |some q=>have:=(hd g (by rw[e2];simp)).2;omega
  refine⟨own.add g r,fun b q hb=>?_,fun b hb=>?_,⟨fF cu hB,fun b hb=>?_⟩,Own.xm (.inr hg.1),fun b q hb=>?_⟩
  · rw[Own.gB _ (fun e3=>by subst e3;rw[hn]at hb;cases hb)];exact hb
  · by_cases e3:b=g
    · subst e3;exact⟨by omega,hg.2⟩
    · rw[Own.gB _ e3]at hb;exact⟨(hd b hb).1,Nat.lt_of_lt_of_le (hd b hb).2 hs⟩
  · rw[he]at hb;cases hb;exact Own.add_eq _ _ _
  · by_cases e3:b=g
    · subst e3;rw[Own.add_eq]at hb;cases hb;exact .inr rfl
    · rw[Own.gB _ e3]at hb;exact .inl hb
theorem gP.app{w w':World}{own:Own}{B e k n m g' c':Nat}{r:Nat×Nat}{v:Value}{xs ys:List Value}(h:gP w own B r e k v n xs)(hd:∀b,own b≠none→B≤b∧b<w.heap.size)(ho:w'.ownsRow B e k (.slice (some ⟨g',0,none⟩) m c') m ys)
    (hk:Kp (fun b=>v.ownBlock=some b) w w') (hg:v.ownBlock=some g'∨w.heap.size≤g'):
    gP w' (own.add g' r) B r e k (.slice (some ⟨g',0,none⟩) m c') m ys∧gY w.heap.size own (own.add g' r)∧(∀b,own.add g' r b≠none→B≤b∧b<w'.heap.size)∧(∀b q,own.add g' r b=some q→own b=some q∨q=r):=
 ⟨⟨ho,fun b hb=>by cases hb;exact Own.add_eq _ _ _⟩,Own.xm (hg.imp (h.role _) id),fun b hb=>by
  by_cases e3:b=g'
  · subst e3;exact ho.lt b rfl
  · rw[Own.gB _ e3]at hb;exact⟨(hd b hb).1,Nat.lt_of_lt_of_le (hd b hb).2 hk.size⟩,fun b q hb=>by
  by_cases e3:b=g'
  · subst e3;rw[Own.add_eq]at hb;cases hb;exact .inr rfl
  · rw[Own.gB _ e3]at hb;exact .inl hb⟩
theorem gP.beside{w w':World}{own own':Own}{B e k n e2 k2 n2:Nat}{r r2:Nat×Nat}{v v2:Value}{xs xs2:List Value}(h:gP w own B r e k v n xs)(h2:gP w own B r2 e2 k2 v2 n2 xs2)(hk:Kp (fun b=>v.ownBlock=some b) w w')(ha:gY w.heap.size own own')(hr:r≠r2):gP w' own' B r2 e2 k2 v2 n2 xs2:=
 h2.keep hk ha fun b hb _ e=>hr (by have:=h.role b e;rw[hb]at this;cases this;rfl)
structure lS(w:World)(own:Own)(B:Nat)(v:Value)(os:List GO):Prop where
 dom:∀b,own b≠none→B≤b∧b<w.heap.size
 row:gP w own B (2,0) 62 3 v os.length (os.flatMap kE)
 obj:∀j o,os[j]?=some o→gP w own B (7,j) 32 2 o.v o.o.fields.length (o.o.fields.flatMap bW)
 Pb:∀b q,own b=some q→q=(2,0)∨∃j,q=(7,j)
theorem lS.nil(w:World)(B:Nat):lS w (fun _=>none) B (.slice none 0 0) []:=
 ⟨fun b h=>absurd rfl h,gP.nil _ _ _ _ _ _,fun j o h=>by simp at h,fun b q h=>by cases h⟩
theorem lS.slice{w:World}{own:Own}{B:Nat}{v:Value}{os:List GO}(h:lS w own B v os){I:Nat→Prop}(hI:∀b,B≤b→b<w.heap.size→I b)(hl:os.length≤4294967296)(hf:∀o∈os,o.o.fields.length≤4294967296):SliceOf 3 rA w I v (os.map GO.o):=by
 have hex:∀{l:List GO},(∀(j:Nat) (o:GO),l[j]?=some o→SliceOf 2 jy w I o.v o.o.fields)→∀o∈l,SliceOf 2 jy w I o.v o.o.fields:=fun hl o ho=>by
  obtain⟨j,hj,e⟩:=List.getElem_of_mem ho;exact hl j o (by rw[List.getElem?_eq_getElem hj,e])
 have sj:=hex (l:=os) fun j o ho=>SliceOf.iy bW (h.obj j o ho).row rfl rfl (fun _ _=>rfl) (fun _ _=>rfl) (fun b h1 h2=>hI b h1 h2) (hf o (List.mem_of_getElem? ho));have hs:SliceOf 3 (fun w I (x:GO) cs=>SliceOf 2 jy w I x.v x.o.fields∧cs=kE x) w I v os:=
  SliceOf.iy kE h.row.row rfl rfl (fun _ _=>rfl) (fun o ho=>⟨sj o ho,rfl⟩) (fun b h1 h2=>hI b h1 h2) hl
 obtain⟨a,c,e,h1,h2,h3⟩:=hs;refine⟨a,c,by rw[e,List.length_map],by rw[List.length_map];exact h1,by rw[List.length_map];exact h2,fun i x hx=>?_⟩;rw[List.getElem?_map]at hx;cases hi:os[i]? with
 |none=>rw[hi]at hx;cases hx
 |some o=>
  rw[hi]at hx;cases hx;obtain⟨b,off,cs,ea,J6,⟨uQ,rfl⟩,hlen,hc⟩:=h3 i o hi;exact⟨b,off,_,ea,J6,⟨o.v,rfl,uQ⟩,hlen,hc⟩
end Go.Proofs.YtcepdbbapgfcdaaGreat
