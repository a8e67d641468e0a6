/- Walks. -/
import Derived.Test.YtkmclfpjpajjeaaGreatTnCoreLq
import Derived.Tactics2
import Derived.Defers
import Derived.Recover
set_option maxRecDepth 100000
set_option maxHeartbeats 4000000
set_option linter.unusedSimpArgs false
set_option linter.unusedVariables false
namespace Go.Proofs.YtkmclfpjpajjeaaGreat
open Go Go.RowKit
theorem LC.own{l:aH}{p:M.ax}{w W W':World}{b:Nat}(h:LC l p w W)(hk:Kp (·=b) W W')(hb:w.heap.size≤b)(hL:l.L<w.heap.size):LC l p w W':=
 ⟨h.kp.own hk (fun k e=>by omega),h.at_.kp hk (fun k hk e=>by omega)⟩
theorem abk(w:World)(l:aH)(p:M.ax)(own:Own)(B mb:Nat)(lk:Bool)(g:Gh)(h:aI w l p own B mb lk g)(r:List GC)(c:GC)(cK:g.cs=r++[c])(dw:g.status=1)(i:M.Ins)(hi:M.iZ (M.method p c.f.of) i=true)(fF:i.op=7):
    Calls Tryz.prog 59 #[.pointer (some ⟨mb,0,none⟩),.agg #[.int .i64 i.op,.int .i64 i.a,.string i.name,.string i.member]] w (cu w l p own B mb lk (.int .i64 (M.aO p lk i g.st).1) (M.aO p lk i g.st).2):=by
 have HI:=Z3 (M.lL hi);obtain⟨w0,bI,aU,b3⟩:=nu w #[.int .i64 i.op,.int .i64 i.a,.string i.name,.string i.member] 130;have vN:=Z3 (h.fresh (Nat.le_refl _));have Jj:Zs (∀b,w.heap.size≤b→¬MO l own b):=Z3 (fun b hb=>h.fresh hb);have adN:=h.dN.lt;have hDL:=h.dN.ord.2.2;have⟨Eb,bM,gN,dO,fE⟩:=kL (h.ext aU) aU b3 bI cK;have Md:=b3.lt;clear h aU b3 bI cK hi;obtain⟨⟨⟨⟨v0,v1⟩,v2,⟨v3,v4⟩⟩,cd⟩,hF⟩:∃F,M.get p c.f.of.of.keeper i.name i.member=F:=⟨_,rfl⟩;have HV:Zs (M.aO p lk i g.st=if cd=1 then(match M.pop g.st with
     |none=>(10,g.st)
     |some (v,s1)=>if M.object p v ⟨v0,v1⟩ s1=1 then M.push p (((M.jG s1.heap v.n)[v2.toNat]?).getD M.eU) s1 else(M.object p v ⟨v0,v1⟩ s1,s1))else(4,g.st)):=Z3 (by
  unfold M.aO;rw[fF];simp only[Gh.top fE.o,hF];rfl)
 have⟨HF,PU⟩:=aJ hF fF;clear fF;go_enter Tryz.func59,Tryz.ntmps59;go_wp2_with fail;rw[←dO.o];refine(eD _ _ _ _ _ _ _ _ Eb.o r c fE.o).mono ?_;rintro e w1 ⟨rfl,bH⟩;have HA:=Z3 (Eb.o.ext bH);have eQ:Zs (Ext w w1):=Z3 (bM.o.trans bH);have Bu:=Z3 (gN.o.ext bH);have CV:l.L<w1.heap.size:=HA.o.dN.lt;have KM:l.D<w1.heap.size:=by omega
 have aeM:w.heap.size<w1.heap.size:=Bu.o.lt;have Fz:∀W,LC l p w1 W→Calls Tryz.prog 99 #[.pointer (some ⟨l.L,0,none⟩),.int .i64 c.f.of.of.keeper,.string i.name,.string i.member] W fun e w'=>∃ev,e=.returned (.tuple #[.agg #[.int .i64 v0,.string v1,.int .i64 v2,.int .i64 v3,.string v4],ev])∧CB ev cd∧Kp (·=l.D) W w'∧LC l p w1 w':=fun W hW=>by
  have hl:=xZ W l p hW.at_ c.f.of.of.keeper i.name i.member;rw[HF.o]at hl;refine hl.mono ?_;rintro e w' ⟨⟨ev,rfl,nN⟩,hL,hK⟩;exact⟨ev,rfl,nN.weak,hK,hW.step hL hK⟩
 have Aa := Z3 Fz; have HC : Zs (LC l p w1 w1.drew) := Z3 (LC.refl HA.o.dN).drew; obtain ⟨T, f, dA, HT⟩ := iN.ex (fun W' => LC l p w1 W') w1 (LC.refl HA.o.dN); have yX := fun z => (HA.o.kM (HT.aW z).kp (HT.aW z).at_).blk.c 0 (.pointer (some ⟨l.L, 0, none⟩)) rfl; obtain ⟨-, -, -, r32, QA, -⟩ := ay.kY fun z => (Bu.o.kp (HT.aW z).kp Wg); have aj := Z3 HT; clear HT Fz bH; go_wp2_with fail; rename_i K hK; have tail : ∀ (b6 : Nat) (w7 : World) (ev : Value), LC l p w1 w7 → ay w7 b6 164 #[.int .i64 v0, .string v1, .int .i64 v2, .int .i64 v3, .string v4] → w1.heap.size ≤ b6 → CB ev cd → K { tmps := #[.pointer (some ⟨mb, 0, none⟩), .agg #[.int .i64 i.op, .int .i64 i.a, .string i.name, .string i.member], undef, .pointer (some ⟨w.heap.size, 0, none⟩), .int .i64 0, .pointer (some ⟨c.cb, 0, none⟩), .pointer (some ⟨b6, 0, none⟩), ev, undef, undef, undef, .pointer (some ⟨mb, 0, none⟩), .pointer (some ⟨c.cb, 0, none⟩), .tuple #[.agg #[.int .i64 v0, .string v1, .int .i64 v2, .int .i64 v3, .string v4], ev], .pointer (some ⟨mb, 0, none⟩), .pointer (some ⟨mb, 0, none⟩), .pointer (some ⟨mb, 0, none⟩), .pointer (some ⟨l.L, 0, none⟩), .pointer (some ⟨c.cb, 0, none⟩), .int .i64 c.f.of.of.keeper, .pointer (some ⟨w.heap.size, 2, none⟩), .string i.name, .pointer (some ⟨w.heap.size, 3, none⟩), .string i.member, .tuple #[.agg #[.int .i64 v0, .string v1, .int .i64 v2, .int .i64 v3, .string v4], ev], .agg #[.int .i64 v0, .string v1, .int .i64 v2, .int .i64 v3, .string v4], ev, undef, undef, undef, undef, undef, undef, undef, undef, undef, undef, undef, undef, undef, undef, undef, undef, undef, undef, undef, undef, undef, undef, undef, undef, undef, undef, undef, undef, undef, undef, undef, undef, undef, undef], defers := [] } w7 := by
  intro b6 w7 ev hC P9 pQ nN;refine hK _ _ ?_;clear hK aj yX r32 QA HC Aa;have Hg:=Z3 (HA.o.kM hC.kp hC.at_);have mh:Zs (Kp (MO l own) w w7):=Z3 (eQ.o.any.trans hC.mo);have⟨dL,aaK,HN6⟩:=bg P9 (Bu.o.kp hC.kp Wg) (Jj.o b6 Wg);clear hC P9;rcases nN with⟨rfl,rfl⟩|⟨hc,eb,rfl⟩;rotate_left
  · replace HV:Zs (M.aO p lk i g.st=(4,g.st)):=Z3 (by rw[HV.o,if_neg hc]);clear hc;go_wp2_with fail;go_ret;rw[HV.o];exact cu.mk' mh.o (iw.refl _ _) Hg.o rfl
  replace HV:Zs (M.aO p lk i g.st=(match M.pop g.st with
   |none=>(10,g.st)
   |some (v,s1)=>if M.object p v ⟨v0,v1⟩ s1=1 then M.push p (((M.jG s1.heap v.n)[v2.toNat]?).getD M.eU) s1 else(M.object p v ⟨v0,v1⟩ s1,s1))):=Z3 HV.o
  obtain⟨xz,x0,x1, -⟩:=dL.o.ca;rcases List.eq_nil_or_concat c.f.stack with hs|⟨st,v,hs⟩
  · replace HV:Zs (M.aO p lk i g.st=(10,g.st)):=Z3 (by rw[HV.o,Gh.zJ fE.o hs]);have HS:=Z3 hs;clear hs;go_wp2_with fail;refine(mK _ _ _ _ _ _ _ _ Hg.o r c fE.o HS.o).mono ?_;rintro e w8 ⟨rfl,lK⟩;have lJ:=Z3 lK;clear lK;go_wp2_with fail;go_ret;rw[HV.o];exact cu.mk' (mh.o.trans (lJ.o.alloc _).any) (iw.refl _ _) (Hg.o.ext (lJ.o.alloc _)) rfl
  · rw [List.concat_eq_append] at hs; have xU := (M.aM.1 (Hg.o.DL fE.o)).2.2.2.2.2.2 v (by rw [hs]; simp); have Jq : Zs (M.bD v g.os.length = true) := Z3 (by simpa [Gh.st] using xU); have GU : Zs (∀ vs', M.aO p lk i g.st = if M.object p v ⟨v0, v1⟩ (g.dD r c st vs').st = 1 then M.push p (((M.jG g.st.heap v.n)[v2.toNat]?).getD M.eU) (g.dD r c st vs').st else (M.object p v ⟨v0, v1⟩ (g.dD r c st vs').st, (g.dD r c st vs').st)) := Z3 (fun vs' => by rw [HV.o, Gh.pop fE.o hs vs']; rfl); have HS := Z3 hs; clear hs xU HV; obtain ⟨vk, vn⟩ := v; go_wp2_with fail; refine (tq _ _ _ _ _ _ _ _ Hg.o r c fE.o st ⟨vk, vn⟩ HS.o).mono ?_; rintro e w8 ⟨rfl, BP, vs', WZ⟩; have HV := Z3 (GU.o vs'); have Ou := dL.o.kp BP HN6.o; obtain ⟨zz, z0, z1, -⟩ := Ou.ca; obtain ⟨w9, jK, nk, b8⟩ := nu w8 #[.int .i64 vk, .int .i64 vn] 38; have Jl := Z3 (WZ.ext nk); have vM : Zs (Kp (MO l own) w w9) := Z3 ((mh.o.trans BP).trans nk.any); have ⟨afv, yt, QV⟩ := bg (Ou.ext nk) b8 jK; have HWZ : Zs (w.heap.size ≤ w8.heap.size) := Z3 (by have := BP.size; have := mh.o.size; omega); clear BP WZ Ou nk b8 jK GU x0 x1 xz; go_wp2_with fail; rw [← QV.o]; refine (xx _ _ _ _ _ _ _ _ Jl.o ⟨vk, vn⟩ Jq.o ⟨v0, v1⟩).mono ?_; rintro e gu ⟨rfl, kK⟩; have jd := Z3 (Jl.o.ext kK); have nU : Zs (Kp (MO l own) w gu) := Z3 (vM.o.trans kK.any); have ⟨acF, acH⟩ := aJ (afv.o.ext kK) (yt.o.ext kK); clear kK z0 z1 zz; obtain ⟨ob, Em⟩ : ∃ ob, M.object p ⟨vk, vn⟩ ⟨v0, v1⟩ (g.dD r c st vs').st = ob := ⟨_, rfl⟩; by_cases KP : ob = 1
    · subst KP;replace HV:Zs (M.aO p lk i g.st=M.push p (((M.jG g.st.heap vn)[v2.toNat]?).getD M.eU) (g.dD r c st vs').st):=Z3 (by rw[HV.o,if_pos Em]);have hfp:=M.q9 (p:=p) jd.o.good (k:=c.f.of.of.keeper) (n:=i.name) (m:=i.member) (by rw[HF.o]) (v:=⟨vk,vn⟩) (by simpa [Gh.st,Gh.dD]using Jq.o) (by rw[HF.o];exact Em);rw[HF.o]at hfp;simp only at hfp;obtain⟨IV,mR,Xb,o,ho, -,G5,hao⟩:=hfp;obtain⟨n,rfl⟩:∃n:Nat,vn=n:=⟨vn.toNat,by omega⟩;obtain⟨a,rfl⟩:∃a:Nat,v2=a:=⟨v2.toNat,by omega⟩;simp only[Int.toNat_natCast]at ho hao;simp only[Gh.st,Gh.dD,List.getElem?_map,Option.map_eq_some_iff]at ho;obtain⟨go,Au,rfl⟩:=ho;obtain⟨u,hu⟩:=iT go.o.fields a hao;have huv:(((M.jG g.st.heap n)[(a:Int).toNat]?).getD M.eU)=u:=by
       have:M.jG g.st.heap n=go.o.fields:=G5;rw[this,Int.toNat_natCast,hu];rfl
      rw[huv]at HV;have HUK:Zs (M.bD u g.os.length=true):=Z3 (by
       have h1:=((M.fV.1 jd.o.good.heap).2 go.o (by simp only[Gh.st,Gh.dD,List.mem_map];exact⟨go,List.mem_of_getElem? Au,rfl⟩)).2.2 u (List.mem_of_getElem? hu);simpa [Gh.st,Gh.dD]using h1)
      obtain⟨ha,dm,qV⟩:=jd.o.heap.form;have bN:=jd.o.heap.row;rw[qV]at bN;have JM:n<g.os.length:=(List.getElem?_eq_some_iff.1 Au).1;obtain⟨hb,hbc,eb, -⟩:=cB bN (by show 0<g.os.length;omega);cases eb;have jy:=fC (enc:=kV) (k:=3) (fun _=>rfl) bN (l:=g.os) Au;have lX:=(jd.o.obj n go Au).row;obtain⟨fb,fc,Rk, -⟩:=cB lX Wg;rw[Rk]at lX;have CX:=fC (enc:=bV) (k:=2) (fun _=>rfl) lX hu;obtain⟨T,f,dA,HT⟩:=iN.ex (fun W'=>Kp (PO own (EP r.length)) gu W') _ Kp.rr;obtain⟨uk,un⟩:=u;have e1:=jy.three.2.2;rw[Rk]at e1;have no:∀b q,own b=some q→¬EP r.length q→¬PO own (EP r.length) b:=fun b q hb hq ⟨q',h1,h2⟩=>by rw[hb]at h1;cases h1;exact hq h2
      have noN:∀b,own b=none→¬PO own (EP r.length) b:=fun b hb ⟨q',h1,_⟩=>by rw[hb]at h1;cases h1
      have ro:∀b,¬MO l own b→own b=none:=fun b hb=>by
       cases e:own b with
       |none=>rfl
       |some q=>exact absurd (.inr (by rw[e];simp)) hb
      have hn8:own w8.heap.size=none:=ro _ (Jj.o _ (by have:=vM.o.size;have:=mh.o.size;have:=Jl.o.blk.lt;have:=yt.o.lt;have:=HWZ.o;omega));have hhb:own hb=some (2,0):=jd.o.heap.role hb (by rw[qV];rfl);have hfb:own fb=some (7,n):=(jd.o.obj n go Au).role fb (by rw[Rk];rfl);have Y3:=fun z=>(jd.o.blk.kp (HT.aW z) (no _ _ jd.o.role (by simp[EP]))).c 4 (.slice (some ⟨hb,0,none⟩) g.os.length dm) (by rw[show(Value.slice (some ⟨hb,0,none⟩) g.os.length dm)=g.vh from qV.symm];rfl);have r81:=fun z=>(acH.o.kp (HT.aW z) (noN _ hn8)).c 1 (.int .i64 n) rfl;have rh2:=fun z=>(HT.aW z).jg e1 (no _ _ hhb (by simp[EP]));have r62:=fun z=>(acF.o.kp (HT.aW z) (noN _ (ro _ HN6.o))).c 2 (.int .i64 a) rfl;have rf0:=fun z=>(HT.aW z).jg CX.two.1 (no _ _ hfb (by simp[EP]));have rf1:=fun z=>(HT.aW z).jg CX.two.2 (no _ _ hfb (by simp[EP]));have aj:=Z3 HT;have ag9:(n:Int)<g.os.length:=by omega
      have hal:(a:Int)<go.o.fields.length:=by omega
      clear HT bN jy lX CX e1 qV Au hu huv G5 hhb hfb JM hao Xb;rw[Em];clear Em;go_wp2_with fail;(refine eO aj 15 [([0,1,2,3,4,5,6,7,8,9,10,11,12,13],14)] [] ?_ ?_)
      · exact Kp.rr.drew
      refine iX ?_;intro K2 ag;go_wp2_with fail;refine(I5 _ _ _ _ _ _ _ _ (jd.o.ext Kp.rr.drew) r _ rfl dw ⟨uk,un⟩ HUK.o).mono ?_;rintro e PE ⟨aV,Tf⟩;have XG:Zs (Kp (PO own (EP r.length)) gu PE):=Z3 ((((Kp.refl _ gu).drew:Ext gu _).any).trans Tf);have HZ:=Z3 (cu.after (nU.o.trans ((Kp.refl _ gu).drew:Ext gu _).any) (iw.refl _ _) aV);obtain⟨rfl, -⟩:=aV;rw[←HV.o]at HZ ⊢;clear Tf;go_wp2_with fail;(refine kk aj ag XG.o ?_);clear ag K2;(refine dW ?_);go_wp2_with fail;go_ret;exact HZ.o
    · replace HV:Zs (M.aO p lk i g.st=(ob,(g.dD r c st vs').st)):=Z3 (by rw[HV.o,Em,if_neg KP]);have aeu:(ob !=1)=true:=bne_iff_ne.2 KP;rw[Em];clear Em KP;go_wp2_with fail;go_ret;rw[HV.o];exact cu.mk' nU.o (iw.refl _ _) jd.o rfl
 have TAIL:=Z3 tail;clear tail hK;(refine lN aj 16 (.two [0,1,2,3,4,6,7,8,9] 5 14 (.two [] 10 14 (.one [11,12,13] 14 (.one [] 15 (.fin []))) (.one [] 10 (.one [11,12,13] 15 (.fin [])))) (.one [] 5 (.one [] 10 (.one [11,12,13] 15 (.fin []))))) ?_ ?_)
 · exact HC.o
 (refine two [_,_,_,_,_,_,_,_,_] rfl rfl rfl fun K hK=>?_);(repeat (go_big_quiet_step (fail)));((refine Gj hK (fun K2 ag=>?_) fun K2 ag=>?_)<;>clear hK K)
 · go_wp2_with fail;refine(iR _ _ c.f.of.of.keeper (((HA.o.kM HC.o.kp HC.o.at_).at_ fE.o).blk.c 0 _ rfl)).mono ?_;rintro e we ⟨rfl,rfl⟩;go_wp2_with fail;(refine kk aj ag HC.o ?_);clear ag K2;(refine vW rfl rfl (fun K2 ag=>?_) fun K2 ag=>?_)
   · go_wp2_with fail;refine(Aa.o _ HC.o).mono ?_;rintro e wc ⟨ev,rfl,nN,hk,hc⟩;replace HC:=Z3 hc;have Hf:=Z3 nN;clear hk hc nN;go_wp2_with fail;(refine kk aj ag HC.o ?_);clear ag K2;refine Ey ?_;intro K2 ag;go_wp2_with fail;(refine kk aj ag (HC.o.ext (Kp.rr.alloc _)) ?_);clear ag K2;(refine aX rfl fun K2 ag=>?_);go_wp2_with fail;(refine kk aj ag (HC.o.ext (Kp.rr.alloc _)) ?_);clear ag K2;have pQ:=HC.o.kp.size;have dL:=Z3 (ay.new (wc) 164 #[.int .i64 v0,.string v1,.int .i64 v2,.int .i64 v3,.string v4]);replace HC:=Z3 (HC.o.ext (Kp.rr.alloc (.cells #[.int .i64 v0,.string v1,.int .i64 v2,.int .i64 v3,.string v4] 164)));clear aj yX r32 QA;(refine bU ?_);go_wp2_with fail;exact TAIL.o _ _ _ HC.o dL.o pQ Hf.o
   · go_wp2_with fail;(refine kk aj ag (HC.o.ext (Kp.rr.alloc _)) ?_);clear ag K2;have pQ:w1.heap.size≤w1.heap.size:=HC.o.kp.size;have dL:Zs (ay (w1.drew.alloc (.cells #[.int .i64 0,.string ⟨#[]⟩,.int .i64 0,.int .i64 0,.string ⟨#[]⟩] 164)) w1.heap.size 164 #[.int .i64 0,.string ⟨#[]⟩,.int .i64 0,.int .i64 0,.string ⟨#[]⟩]):=Z3 (ay.new _ _ _);replace HC:=Z3 (HC.o.ext (Kp.rr.alloc (.cells #[.int .i64 0,.string ⟨#[]⟩,.int .i64 0,.int .i64 0,.string ⟨#[]⟩] 164)));(refine aX rfl fun K2 ag=>?_);go_wp2_with fail;refine(Aa.o _ HC.o).mono ?_;rintro e wc ⟨ev,rfl,nN,hk,hc⟩;replace dL:=Z3 (dL.o.kp hk Wg);replace HC:=Z3 hc;have Hf:=Z3 nN;clear hk hc nN;go_wp2_with fail;(refine kk aj ag HC.o ?_);clear ag K2;refine Ey ?_;intro K2 ag;obtain⟨z6,y0,y1,y2,y3,y4, -⟩:=dL.o.ca;obtain⟨g0,g1,g2,g3,g4, -⟩:=dL.o.fz;go_wp2_with fail;replace HC:=Z3 (LC.own HC.o (Kp.qX (D:=(·=_)) rfl (.int .i64 v0) (.string v1) (.int .i64 v2) (.int .i64 v3) (.string v4)) pQ CV);replace dL:=Z3 (dL.o.qX (.int .i64 v0) (.string v1) (.int .i64 v2) (.int .i64 v3) (.string v4));(refine kk aj ag HC.o ?_);clear ag K2;clear y0 g0 y1 g1 y2 g2 y3 g3 y4 g4 z6;clear aj yX r32 QA;(refine bU ?_);go_wp2_with fail;exact TAIL.o _ _ _ HC.o dL.o pQ Hf.o
 · go_wp2_with fail;(refine kk aj ag (HC.o.ext (Kp.rr.alloc _)) ?_);clear ag K2;have pQ:w1.heap.size≤w1.heap.size:=HC.o.kp.size;have dL:Zs (ay (w1.drew.alloc (.cells #[.int .i64 0,.string ⟨#[]⟩,.int .i64 0,.int .i64 0,.string ⟨#[]⟩] 164)) w1.heap.size 164 #[.int .i64 0,.string ⟨#[]⟩,.int .i64 0,.int .i64 0,.string ⟨#[]⟩]):=Z3 (ay.new _ _ _);replace HC:=Z3 (HC.o.ext (Kp.rr.alloc (.cells #[.int .i64 0,.string ⟨#[]⟩,.int .i64 0,.int .i64 0,.string ⟨#[]⟩] 164)));(refine aX rfl fun K2 ag=>?_);go_wp2_with fail;refine(iR _ _ c.f.of.of.keeper (((HA.o.kM HC.o.kp HC.o.at_).at_ fE.o).blk.c 0 _ rfl)).mono ?_;rintro e we ⟨rfl,rfl⟩;go_wp2_with fail;(refine kk aj ag HC.o ?_);clear ag K2;(refine aX rfl fun K2 ag=>?_);go_wp2_with fail;refine(Aa.o _ HC.o).mono ?_;rintro e wc ⟨ev,rfl,nN,hk,hc⟩;replace dL:=Z3 (dL.o.kp hk Wg);replace HC:=Z3 hc;have Hf:=Z3 nN;clear hk hc nN;go_wp2_with fail;(refine kk aj ag HC.o ?_);clear ag K2;refine Ey ?_;intro K2 ag;obtain⟨z6,y0,y1,y2,y3,y4, -⟩:=dL.o.ca;obtain⟨g0,g1,g2,g3,g4, -⟩:=dL.o.fz;go_wp2_with fail;replace HC:=Z3 (LC.own HC.o (Kp.qX (D:=(·=_)) rfl (.int .i64 v0) (.string v1) (.int .i64 v2) (.int .i64 v3) (.string v4)) pQ CV);replace dL:=Z3 (dL.o.qX (.int .i64 v0) (.string v1) (.int .i64 v2) (.int .i64 v3) (.string v4));(refine kk aj ag HC.o ?_);clear ag K2;clear y0 g0 y1 g1 y2 g2 y3 g3 y4 g4 z6;clear aj yX r32 QA;(refine bU ?_);go_wp2_with fail;exact TAIL.o _ _ _ HC.o dL.o pQ Hf.o
theorem O3{α:Type}{l:List α}{n:Nat}{x:α}(h:l[n]?=some x)(f:α→α):l.modify n f=l.set n (f x):=by
 apply List.ext_getElem?;intro j;rw[List.getElem?_modify,List.getElem?_set];by_cases e:n=j
 · subst e;rw[h];have:=(List.getElem?_eq_some_iff.1 h).1;simp[this]
 · simp[e]
theorem Wh{α:Type}{enc:α→List Value}:∀(l:List α) (n:Nat) (x y:α),l[n]?=some x→enc y=enc x→(l.set n y).flatMap enc=l.flatMap enc:=by
 intro l;induction l with
 |nil=>intro n x y h;simp at h
 |cons z r ih=>
  intro n x y h e;cases n with
  |zero=>simp at h;subst h;simp[e]
  |succ n=>simp at h;simp[ih n x y h e]
def Gh.fld(g:Gh)(n:Nat)(go:GO)(a:Nat)(x:M.Val):Gh:={g with os:=g.os.set n ⟨{go.o with fields:=go.o.fields.set a x},go.v⟩}
theorem Gh.Ul{g:Gh}{n:Nat}{go:GO}(Au:g.os[n]?=some go)(a:Nat)(x:M.Val):(g.fld n go a x).st={g.st with heap:=M.iO g.st.heap n a x}:=by
 unfold Gh.fld Gh.st M.iO;simp only[Int.toNat_natCast];rw[O3 (x:=go.o) (by simp[Au])];simp[List.map_set]
theorem aI.ab8{w:World}{l:aH}{p:M.ax}{own:Own}{B mb:Nat}{lk:Bool}{g:Gh}(h:aI w l p own B mb lk g){n:Nat}{go:GO}(Au:g.os[n]?=some go){fb fc:Nat}(Rk:go.v=.slice (some ⟨fb,0,none⟩) go.o.fields.length fc)(a:Nat)(x:M.Val)(hx:M.bD x g.os.length=true):
    Kp (MO l own) w ((w.setCell ⟨fb,a*2,none⟩ (.int .i64 x.kind)).setCell ⟨fb,a*2+1,none⟩ (.int .i64 x.n))∧aI ((w.setCell ⟨fb,a*2,none⟩ (.int .i64 x.kind)).setCell ⟨fb,a*2+1,none⟩ (.int .i64 x.n)) l p own B mb lk (g.fld n go a x):=by
 have bN:=(h.obj n go Au).row;have NG:own fb=some (7,n):=(h.obj n go Au).role fb (by rw[Rk];rfl);have hk:Kp (·=fb) w ((w.setCell ⟨fb,a*2,none⟩ (.int .i64 x.kind)).setCell ⟨fb,a*2+1,none⟩ (.int .i64 x.n)):=
  ((Kp.refl (·=fb) w).setCell (p:=⟨fb,a*2,none⟩) (fun _=>rfl) _).setCell (p:=⟨fb,a*2+1,none⟩) (fun _=>rfl) _
 have jr:Kp (PO own (·=(7,n))) w ((w.setCell ⟨fb,a*2,none⟩ (.int .i64 x.kind)).setCell ⟨fb,a*2+1,none⟩ (.int .i64 x.n)):=hk.weak fun b _ e=>⟨_,by rw[e];exact NG,rfl⟩;rw[Rk]at bN;have h2:=(bN.stored (a*2) (.int .i64 x.kind)).1.stored (a*2+1) (.int .i64 x.n);rw[II]at h2;have ha:=iw.refl w.heap.size own;have hG:M.Good p (g.fld n go a x).st:=by
  rw[Gh.Ul Au];exact h.good.set (by simpa [Gh.st]using hx)
 refine⟨jr.weak fun b _ e=>e.mo,h.IZ jr,h.hB,h.blk.kp hk (fun e=>?_),h.role,h.low,h.calls.wm jr ha Wf,fun i c hc=>(h.call i c hc).wm jr ha Wf h.xw,?_,?_,h.outs.wm jr ha Wf,h.Ah hk.size,hG⟩
 · have:=h.role;rw[e,NG]at this;cases this
 · have:=h.heap.wm jr ha Wf;unfold Gh.fld;simp only[List.length_set];rw[Wh (enc:=kV) g.os n go ⟨{go.o with fields:=go.o.fields.set a x},go.v⟩ Au rfl];exact this
 · intro j q hq;unfold Gh.fld at hq;simp only[List.getElem?_set]at hq;split at hq
   · rename_i e;subst e;split at hq
     · cases hq;refine⟨?_,fun b hb=>(h.obj n go Au).role b hb⟩;show World.ownsRow _ B _ 2 go.v (go.o.fields.set a x).length _
       rw[List.length_set,Rk];exact h2.1
     · cases hq
   · rename_i e;exact(h.obj j q hq).wm jr ha X2
theorem abr (w : World) (l : aH) (p : M.ax) (own : Own) (B mb : Nat) (lk : Bool) (g : Gh) (h : aI w l p own B mb lk g) (r : List GC) (c : GC) (cK : g.cs = r ++ [c]) (dw : g.status = 1) (i : M.Ins) (hi : M.iZ (M.method p c.f.of) i = true) (fF : i.op = 8) :
    Calls Tryz.prog 60 #[.pointer (some ⟨mb,0,none⟩),.agg #[.int .i64 i.op,.int .i64 i.a,.string i.name,.string i.member]] w (cu w l p own B mb lk (.int .i64 (M.aO p lk i g.st).1) (M.aO p lk i g.st).2):=by
 have HI:=Z3 (M.lL hi);obtain⟨w0,bI,aU,b3⟩:=nu w #[.int .i64 i.op,.int .i64 i.a,.string i.name,.string i.member] 130;have vN:=Z3 (h.fresh (Nat.le_refl _));have Jj:Zs (∀b,w.heap.size≤b→¬MO l own b):=Z3 (fun b hb=>h.fresh hb);have adN:=h.dN.lt;have hDL:=h.dN.ord.2.2;have⟨Eb,bM,gN,dO,fE⟩:=kL (h.ext aU) aU b3 bI cK;have Md:=b3.lt;clear h aU b3 bI cK hi;obtain⟨⟨⟨⟨v0,v1⟩,v2,⟨v3,v4⟩⟩,cd⟩,hF⟩:∃F,M.get p c.f.of.of.keeper i.name i.member=F:=⟨_,rfl⟩;have HV:Zs (M.aO p lk i g.st=if cd=1 then(match M.gG 2 g.st with
     |some ([o,v],s1)=>if M.hasType p v0 s1.heap v ⟨v3,v4⟩then(if M.object p o ⟨v0,v1⟩ s1=1 then M.next p {s1 with heap:=M.iO s1.heap o.n v2 v}else(M.object p o ⟨v0,v1⟩ s1,s1))else(10,s1)
     |_=>(10,g.st))else(4,g.st)):=Z3 (by
  unfold M.aO;rw[fF];simp only[Gh.top fE.o,hF];rfl)
 have⟨HF,PU⟩:=aJ hF fF;clear fF;go_enter Tryz.func60,Tryz.ntmps60;go_wp2_with fail;rw[←dO.o];refine(eD _ _ _ _ _ _ _ _ Eb.o r c fE.o).mono ?_;rintro e w1 ⟨rfl,bH⟩;have HA:=Z3 (Eb.o.ext bH);have eQ:Zs (Ext w w1):=Z3 (bM.o.trans bH);have Bu:=Z3 (gN.o.ext bH);have CV:l.L<w1.heap.size:=HA.o.dN.lt;have KM:l.D<w1.heap.size:=by omega
 have aeM:w.heap.size<w1.heap.size:=Bu.o.lt;have Fz:∀W,LC l p w1 W→Calls Tryz.prog 99 #[.pointer (some ⟨l.L,0,none⟩),.int .i64 c.f.of.of.keeper,.string i.name,.string i.member] W fun e w'=>∃ev,e=.returned (.tuple #[.agg #[.int .i64 v0,.string v1,.int .i64 v2,.int .i64 v3,.string v4],ev])∧CB ev cd∧Kp (·=l.D) W w'∧LC l p w1 w':=fun W hW=>by
  have hl:=xZ W l p hW.at_ c.f.of.of.keeper i.name i.member;rw[HF.o]at hl;refine hl.mono ?_;rintro e w' ⟨⟨ev,rfl,nN⟩,hL,hK⟩;exact⟨ev,rfl,nN.weak,hK,hW.step hL hK⟩
 have Aa := Z3 Fz; have HC : Zs (LC l p w1 w1.drew) := Z3 (LC.refl HA.o.dN).drew; obtain ⟨T, f, dA, HT⟩ := iN.ex (fun W' => LC l p w1 W') w1 (LC.refl HA.o.dN); have yX := fun z => (HA.o.kM (HT.aW z).kp (HT.aW z).at_).blk.c 0 (.pointer (some ⟨l.L, 0, none⟩)) rfl; obtain ⟨-, -, -, r32, QA, -⟩ := ay.kY fun z => (Bu.o.kp (HT.aW z).kp Wg); have aj := Z3 HT; clear HT Fz bH; go_wp2_with fail; rename_i K hK; have tail : ∀ (b6 : Nat) (w7 : World) (ev : Value), LC l p w1 w7 → ay w7 b6 164 #[.int .i64 v0, .string v1, .int .i64 v2, .int .i64 v3, .string v4] → w1.heap.size ≤ b6 → CB ev cd → K { tmps := #[.pointer (some ⟨mb, 0, none⟩), .agg #[.int .i64 i.op, .int .i64 i.a, .string i.name, .string i.member], undef, .pointer (some ⟨w.heap.size, 0, none⟩), .int .i64 0, .pointer (some ⟨c.cb, 0, none⟩), .pointer (some ⟨b6, 0, none⟩), ev, undef, undef, undef, .pointer (some ⟨mb, 0, none⟩), .pointer (some ⟨c.cb, 0, none⟩), .tuple #[.agg #[.int .i64 v0, .string v1, .int .i64 v2, .int .i64 v3, .string v4], ev], .pointer (some ⟨mb, 0, none⟩), .pointer (some ⟨mb, 0, none⟩), .pointer (some ⟨mb, 0, none⟩), .pointer (some ⟨l.L, 0, none⟩), .pointer (some ⟨c.cb, 0, none⟩), .int .i64 c.f.of.of.keeper, .pointer (some ⟨w.heap.size, 2, none⟩), .string i.name, .pointer (some ⟨w.heap.size, 3, none⟩), .string i.member, .tuple #[.agg #[.int .i64 v0, .string v1, .int .i64 v2, .int .i64 v3, .string v4], ev], .agg #[.int .i64 v0, .string v1, .int .i64 v2, .int .i64 v3, .string v4], ev, undef, undef, undef, undef, undef, undef, undef, undef, undef, undef, undef, undef, undef, undef, undef, undef, undef, undef, undef, undef, undef, undef, undef, undef, undef, undef, undef, undef, undef, undef, undef, undef, undef, undef, undef, undef, undef, undef, undef, undef, undef, undef, undef, undef, undef, undef, undef, undef, undef, undef, undef, undef, undef, undef, undef, undef, undef, undef, undef, undef], defers := [] } w7 := by
  intro b6 w7 ev hC P9 pQ nN;refine hK _ _ ?_;clear hK aj yX r32 QA HC Aa;have Hg:=Z3 (HA.o.kM hC.kp hC.at_);have mh:Zs (Kp (MO l own) w w7):=Z3 (eQ.o.any.trans hC.mo);have⟨dL,aaK,HN6⟩:=bg P9 (Bu.o.kp hC.kp Wg) (Jj.o b6 Wg);clear hC P9;rcases nN with⟨rfl,rfl⟩|⟨hc,eb,rfl⟩;rotate_left
  · replace HV:Zs (M.aO p lk i g.st=(4,g.st)):=Z3 (by rw[HV.o,if_neg hc]);clear hc;go_wp2_with fail;go_ret;rw[HV.o];exact cu.mk' mh.o (iw.refl _ _) Hg.o rfl
  replace HV:Zs (M.aO p lk i g.st=(match M.gG 2 g.st with
   |some ([o,v],s1)=>if M.hasType p v0 s1.heap v ⟨v3,v4⟩then(if M.object p o ⟨v0,v1⟩ s1=1 then M.next p {s1 with heap:=M.iO s1.heap o.n v2 v}else(M.object p o ⟨v0,v1⟩ s1,s1))else(10,s1)
   |_=>(10,g.st))):=Z3 HV.o
  by_cases hlen:c.f.stack.length<2
  · replace HV:Zs (M.aO p lk i g.st=(10,g.st)):=Z3 (by rw[HV.o,Gh.yl fE.o hlen]);obtain⟨T,f,dA,HT⟩:=iN.ex (fun W'=>Ext w7 W') _ Kp.rr;have aj:=Z3 HT;clear HT;go_wp2_with fail;refine(qO _ _ _ _ _ _ _ _ Hg.o r c fE.o 2 hlen Wg).mono ?_;rintro e w8 ⟨rfl,rfl⟩;go_wp2_with fail;(refine eO aj 22 [([0,1,2,3,4,5,6,7,8,9,10,11,12,13,14,15,16,17,18],19)] [20,21] ?_ ?_)
    · exact Kp.rr.drew
    refine iX ?_;intro K2 ag;go_wp2_with fail;(refine kk aj ag ((Kp.refl _ w7).drew:Ext w7 _) ?_);clear ag K2;refine qa ?_;go_wp2_with fail;go_ret;rw[HV.o];exact cu.mk' (mh.o.trans ((Kp.refl _ w7).drew:Ext w7 _).any) (iw.refl _ _) (Hg.o.ext (Kp.rr.drew)) rfl
  · obtain⟨st,oo,vv,hs⟩:∃st a b,c.f.stack=st++[a,b]:=by
     rcases List.eq_nil_or_concat c.f.stack with e|⟨s1,b,e⟩
     · rw[e]at hlen;simp at hlen
     · rw[List.concat_eq_append]at e;rcases List.eq_nil_or_concat s1 with e2|⟨s2,a,e2⟩
       · rw[e,e2]at hlen;simp at hlen
       · rw[List.concat_eq_append]at e2;exact⟨s2,a,b,by rw[e,e2];simp⟩
    have xU:=(M.aM.1 (Hg.o.DL fE.o)).2.2.2.2.2.2;have Ny:Zs (M.bD oo g.os.length=true):=Z3 (by simpa [Gh.st]using xU oo (by rw[hs];simp));have Jq:Zs (M.bD vv g.os.length=true):=Z3 (by simpa [Gh.st]using xU vv (by rw[hs];simp));have GU:Zs (∀vs',M.aO p lk i g.st=if M.hasType p v0 g.st.heap vv ⟨v3,v4⟩then(if M.object p oo ⟨v0,v1⟩ (g.dD r c st vs').st=1 then M.next p {(g.dD r c st vs').st with heap:=M.iO g.st.heap oo.n v2 vv}else(M.object p oo ⟨v0,v1⟩ (g.dD r c st vs').st,(g.dD r c st vs').st))else(10,(g.dD r c st vs').st)):=Z3 (fun vs'=>by rw[HV.o,Gh.gG fE.o (n:=2) hs rfl vs'];rfl);have HS:=Z3 hs;clear hs xU hlen HV;obtain⟨ok,on⟩:=oo;obtain⟨vk,vn⟩:=vv;go_wp2_with fail;refine(Dh _ _ _ _ _ _ _ _ Hg.o r c fE.o st [⟨ok,on⟩,⟨vk,vn⟩] 2 HS.o rfl Wg).mono ?_;rintro e w8 ⟨v',rfl,bN,BP,vs',WZ⟩;have HV:=Z3 (GU.o vs');obtain⟨gt,gc,rfl,hgb, -⟩:=cB bN Wg;have GZ:=fC (enc:=bV) (k:=2) (fun _=>rfl) (l:=[⟨ok,on⟩,⟨vk,vn⟩]) bN (i:=0) (x:=⟨ok,on⟩) rfl;have mE:=fC (enc:=bV) (k:=2) (fun _=>rfl) (l:=[⟨ok,on⟩,⟨vk,vn⟩]) bN (i:=1) (x:=⟨vk,vn⟩) rfl;have Ou:=dL.o.kp BP HN6.o;have hhr:=WZ.U4;obtain⟨ha,dm,qV⟩:=WZ.heap.form;obtain⟨T,f,dA,HT⟩:=iN.ex (fun W'=>Ext w8 W') _ Kp.rr;have yX:=fun z=>(WZ.ext (HT.aW z)).blk.c 0 (.pointer (some ⟨l.L,0,none⟩)) rfl;have Y3:=fun z=>(WZ.ext (HT.aW z)).blk.c 4 (.slice ha g.os.length dm) (by rw[show(Value.slice ha g.os.length dm)=g.vh from qV.symm];rfl);obtain⟨-,NJ, -, -,r63,r64, -⟩:=ay.kY fun z=>(Ou.ext (HT.aW z));have rg2:=fun z=>(ae.ext mE (HT.aW z)).two.1;have rg3:=fun z=>(ae.ext mE (HT.aW z)).two.2;simp only[Nat.one_mul]at rg2 rg3;have hht:=fun W (hW:Ext w8 W)=>rP W l p (WZ.dN.ext hW) v0 (.slice ha g.os.length dm) g.st.heap (by
     have:=hhr.ext hW;rw[show(Value.slice ha g.os.length dm)=g.vh from qV.symm];exact this) ⟨vk,vn⟩ (fun e=>by have:=M.lv Jq.o e;simpa [Gh.st]using this) ⟨v3,v4⟩
    have⟨HHT,aj,HM8⟩:=bg hht HT WZ;have XA:Zs (Kp (MO l own) w w8):=Z3 (mh.o.trans BP);have⟨Xt,HC0,He,TP⟩:=gD Ou GZ mE qV;clear HT hht hhr qV bN BP WZ GZ mE Ou GU;go_wp2_with fail;(refine eO aj 22 [([0,1,2,3,4,5,6,7,8,9,10,11,12,13,14,15,16,17,18],19)] [20,21] ?_ ?_)
    · exact Kp.rr.drew
    refine iX ?_;intro K2 ag;go_wp2_with fail;refine(HHT.o _ Kp.rr.drew).mono ?_;rintro e w9 ⟨rfl,nk⟩;have su:Zs (Ext w8 w9):=Z3 (((Kp.refl _ w8).drew:Ext w8 _).trans nk);clear nk;cases Qu:M.hasType p v0 g.st.heap ⟨vk,vn⟩ ⟨v3,v4⟩
    · rw[Qu]at HV;replace HV:Zs (M.aO p lk i g.st=(10,(g.dD r c st vs').st)):=Z3 HV.o;clear Qu;go_wp2_with fail;(refine kk aj ag su.o ?_);clear ag K2;refine qa ?_;go_wp2_with fail;go_ret;rw[HV.o];exact cu.mk' (XA.o.trans su.o.any) (iw.refl _ _) (HM8.o.ext su.o) rfl
    · rw[Qu]at HV;replace HV:Zs (M.aO p lk i g.st=if M.object p ⟨ok,on⟩ ⟨v0,v1⟩ (g.dD r c st vs').st=1 then M.next p {(g.dD r c st vs').st with heap:=M.iO g.st.heap on v2 ⟨vk,vn⟩}else(M.object p ⟨ok,on⟩ ⟨v0,v1⟩ (g.dD r c st vs').st,(g.dD r c st vs').st)):=Z3 HV.o;clear Qu;go_wp2_with fail;(refine kk aj ag su.o ?_);clear ag K2;clear aj yX Y3 NJ r63 r64 rg2 rg3;refine qa ?_;have W9:=HM8.o.ext su.o;obtain⟨T,f,dA,HT⟩:=iN.ex (fun W'=>Ext w9 W') _ Kp.rr;obtain⟨-,NJ,QB, -⟩:=ay.kY fun z=>((Xt.o.ext su.o).ext (HT.aW z));have rg0:=fun z=>(ae.ext (ae.ext HC0.o su.o) (HT.aW z)).two.1;have rg1:=fun z=>(ae.ext (ae.ext HC0.o su.o) (HT.aW z)).two.2;simp only[Nat.zero_mul,Nat.zero_add]at rg0 rg1;have⟨aj,Jl⟩:=aJ HT W9;clear HT W9;go_wp2_with fail;(refine eO aj 7 [([0,1,2,3,4,5],6)] [] ?_ ?_)
      · exact Kp.rr.drew
      refine iX ?_;intro K2 ag;go_wp2_with fail;refine(xx _ _ _ _ _ _ _ _ (Jl.o.ext Kp.rr.drew) ⟨ok,on⟩ Ny.o ⟨v0,v1⟩).mono ?_;rintro e gu ⟨rfl,kK⟩;have nO:Zs (Ext w9 gu):=Z3 (((Kp.refl _ w9).drew:Ext w9 _).trans kK);have jd:=Z3 (Jl.o.ext nO.o);have nU:Zs (Kp (MO l own) w gu):=Z3 ((XA.o.trans su.o.any).trans nO.o.any);clear kK;obtain⟨ob,Em⟩:∃ob,M.object p ⟨ok,on⟩ ⟨v0,v1⟩ (g.dD r c st vs').st=ob:=⟨_,rfl⟩;by_cases KP:ob=1
      · subst KP;replace HV:Zs (M.aO p lk i g.st=M.next p {(g.dD r c st vs').st with heap:=M.iO g.st.heap on v2 ⟨vk,vn⟩}):=Z3 (by rw[HV.o,if_pos Em]);have hfp:=M.q9 (p:=p) jd.o.good (k:=c.f.of.of.keeper) (n:=i.name) (m:=i.member) (by rw[HF.o]) (v:=⟨ok,on⟩) (by simpa [Gh.st,Gh.dD]using Ny.o) (by rw[HF.o];exact Em);rw[HF.o]at hfp;simp only at hfp;obtain⟨IV,mR,Xb,o,ho, -,G5,hao⟩:=hfp;obtain⟨n,rfl⟩:∃n:Nat,on=n:=⟨on.toNat,by omega⟩;obtain⟨a,rfl⟩:∃a:Nat,v2=a:=⟨v2.toNat,by omega⟩;simp only[Int.toNat_natCast]at ho hao;simp only[Gh.st,Gh.dD,List.getElem?_map,Option.map_eq_some_iff]at ho;obtain⟨go,Au,rfl⟩:=ho;obtain⟨u,hu⟩:=iT go.o.fields a hao;have JM:n<g.os.length:=(List.getElem?_eq_some_iff.1 Au).1;have bN:=jd.o.heap.row;rw[show(g.dD r c st vs').vh=.slice ha g.os.length dm from TP.o]at bN;obtain⟨hb,hbc,eb, -⟩:=cB bN (by show 0<g.os.length;omega);cases eb;have jy:=fC (enc:=kV) (k:=3) (fun _=>rfl) bN (l:=g.os) Au;have lX:=(jd.o.obj n go Au).row;obtain⟨fb,fc,Rk, -⟩:=cB lX Wg;obtain⟨cur,qM⟩:=jm lX (g:=fb) (by rw[Rk];rfl);rw[Rk]at lX;have CX:=fC (enc:=bV) (k:=2) (fun _=>rfl) lX hu;have e1:=jy.three.2.2;rw[Rk]at e1;have XH:=Z3 ((jd.o.ext ((Kp.refl _ gu).drew:Ext gu gu.drew)).ab8 (n:=n) (go:=go) Au Rk a ⟨vk,vn⟩ Jq.o);have pM:Zs (((g.dD r c st vs').fld n go a ⟨vk,vn⟩).st={(g.dD r c st vs').st with heap:=M.iO g.st.heap n a ⟨vk,vn⟩}):=Z3 (Gh.Ul (g:=g.dD r c st vs') Au a ⟨vk,vn⟩);obtain⟨T2,f2,aab,wI⟩:=iN.ex (fun W'=>Ext gu W') _ Kp.rr;have s4:=fun z=>(jd.o.ext (wI.aW z)).blk.c 4 (.slice (some ⟨hb,0,none⟩) g.os.length dm) (by rw[show(Value.slice (some ⟨hb,0,none⟩) g.os.length dm)=g.vh from TP.o.symm];rfl);have s0:=fun z=>(ae.ext (ae.ext (ae.ext HC0.o su.o) nO.o) (wI.aW z)).two.2;have s2:=fun z=>(ae.ext (ae.ext (ae.ext He.o su.o) nO.o) (wI.aW z)).two.1;have s3:=fun z=>(ae.ext (ae.ext (ae.ext He.o su.o) nO.o) (wI.aW z)).two.2;simp only[Nat.zero_mul,Nat.zero_add,Nat.one_mul]at s0 s2 s3;have sh:=fun z=>(wI.aW z).aD e1;have s62:=fun z=>(((Xt.o.ext su.o).ext nO.o).ext (wI.aW z)).c 2 (.int .i64 a) rfl;have x0:=CX.two.1;have x1:=CX.two.2;have g0:=qM.frozen (a*2);have g1:=qM.frozen (a*2+1);have gz:=qM.lt;have zm:=Z3 wI;have ag9:(n:Int)<g.os.length:=by omega
        have hal:(a:Int)<go.o.fields.length:=by omega
        clear wI bN jy lX CX e1 Au hu G5 Rk qM JM hao Xb;rw[Em];clear Em;go_wp2_with fail;(refine kk aj ag nO.o ?_);clear ag K2;clear aj NJ QB rg0 rg1;(refine dW ?_);go_wp2_with fail;(refine uR f2 16 [] [0,1,2,3,4,5,6,7,8,9,10,11,12,13,14,15] (zm.o.o _ ?_) Wr Wr (fun _ _ d _ _ h=>by cases d<;>exact h) ?_)
        · exact Kp.rr.drew
        (refine vI [_,_,_,_,_,_,_,_,_,_,_,_,_,_,_,_] rfl fun K hK=>?_);(repeat (go_big_quiet_step (fail)));(refine qn hK ?_);clear hK K;clear zm s4 s0 s2 s3 sh s62;go_wp2_with fail;obtain⟨ZV,hMS⟩:=XH.o;refine(qB _ _ _ _ _ _ _ _ hMS r _ rfl dw).mono ?_;rintro e PE aV;have HZ:=Z3 (cu.after ((nU.o.trans ((Kp.refl _ gu).drew:Ext gu _).any).trans ZV) (iw.refl _ _) aV);obtain⟨rfl, -⟩:=aV;rw[pM.o,←HV.o]at HZ;rw[pM.o,←HV.o];clear ZV hMS x0 x1 g0 g1 gz;go_wp2_with fail;go_ret;exact HZ.o
      · replace HV:Zs (M.aO p lk i g.st=(ob,(g.dD r c st vs').st)):=Z3 (by rw[HV.o,Em,if_neg KP]);have aeu:(ob !=1)=true:=bne_iff_ne.2 KP;rw[Em];clear Em KP;go_wp2_with fail;(refine kk aj ag nO.o ?_);clear ag K2;clear aj NJ QB rg0 rg1;(refine dW ?_);go_wp2_with fail;go_ret;rw[HV.o];exact cu.mk' nU.o (iw.refl _ _) jd.o rfl
 have TAIL:=Z3 tail;clear tail hK;(refine lN aj 16 (.two [0,1,2,3,4,6,7,8,9] 5 14 (.two [] 10 14 (.one [11,12,13] 14 (.one [] 15 (.fin []))) (.one [] 10 (.one [11,12,13] 15 (.fin [])))) (.one [] 5 (.one [] 10 (.one [11,12,13] 15 (.fin []))))) ?_ ?_)
 · exact HC.o
 (refine two [_,_,_,_,_,_,_,_,_] rfl rfl rfl fun K hK=>?_);(repeat (go_big_quiet_step (fail)));((refine Gj hK (fun K2 ag=>?_) fun K2 ag=>?_)<;>clear hK K)
 · go_wp2_with fail;refine(iR _ _ c.f.of.of.keeper (((HA.o.kM HC.o.kp HC.o.at_).at_ fE.o).blk.c 0 _ rfl)).mono ?_;rintro e we ⟨rfl,rfl⟩;go_wp2_with fail;(refine kk aj ag HC.o ?_);clear ag K2;(refine vW rfl rfl (fun K2 ag=>?_) fun K2 ag=>?_)
   · go_wp2_with fail;refine(Aa.o _ HC.o).mono ?_;rintro e wc ⟨ev,rfl,nN,hk,hc⟩;replace HC:=Z3 hc;have Hf:=Z3 nN;clear hk hc nN;go_wp2_with fail;(refine kk aj ag HC.o ?_);clear ag K2;refine Ey ?_;intro K2 ag;go_wp2_with fail;(refine kk aj ag (HC.o.ext (Kp.rr.alloc _)) ?_);clear ag K2;(refine aX rfl fun K2 ag=>?_);go_wp2_with fail;(refine kk aj ag (HC.o.ext (Kp.rr.alloc _)) ?_);clear ag K2;have pQ:=HC.o.kp.size;have dL:=Z3 (ay.new (wc) 164 #[.int .i64 v0,.string v1,.int .i64 v2,.int .i64 v3,.string v4]);replace HC:=Z3 (HC.o.ext (Kp.rr.alloc (.cells #[.int .i64 v0,.string v1,.int .i64 v2,.int .i64 v3,.string v4] 164)));clear aj yX r32 QA;(refine bU ?_);go_wp2_with fail;exact TAIL.o _ _ _ HC.o dL.o pQ Hf.o
   · go_wp2_with fail;(refine kk aj ag (HC.o.ext (Kp.rr.alloc _)) ?_);clear ag K2;have pQ:w1.heap.size≤w1.heap.size:=HC.o.kp.size;have dL:Zs (ay (w1.drew.alloc (.cells #[.int .i64 0,.string ⟨#[]⟩,.int .i64 0,.int .i64 0,.string ⟨#[]⟩] 164)) w1.heap.size 164 #[.int .i64 0,.string ⟨#[]⟩,.int .i64 0,.int .i64 0,.string ⟨#[]⟩]):=Z3 (ay.new _ _ _);replace HC:=Z3 (HC.o.ext (Kp.rr.alloc (.cells #[.int .i64 0,.string ⟨#[]⟩,.int .i64 0,.int .i64 0,.string ⟨#[]⟩] 164)));(refine aX rfl fun K2 ag=>?_);go_wp2_with fail;refine(Aa.o _ HC.o).mono ?_;rintro e wc ⟨ev,rfl,nN,hk,hc⟩;replace dL:=Z3 (dL.o.kp hk Wg);replace HC:=Z3 hc;have Hf:=Z3 nN;clear hk hc nN;go_wp2_with fail;(refine kk aj ag HC.o ?_);clear ag K2;refine Ey ?_;intro K2 ag;obtain⟨z6,y0,y1,y2,y3,y4, -⟩:=dL.o.ca;obtain⟨g0,g1,g2,g3,g4, -⟩:=dL.o.fz;go_wp2_with fail;replace HC:=Z3 (LC.own HC.o (Kp.qX (D:=(·=_)) rfl (.int .i64 v0) (.string v1) (.int .i64 v2) (.int .i64 v3) (.string v4)) pQ CV);replace dL:=Z3 (dL.o.qX (.int .i64 v0) (.string v1) (.int .i64 v2) (.int .i64 v3) (.string v4));(refine kk aj ag HC.o ?_);clear ag K2;clear y0 g0 y1 g1 y2 g2 y3 g3 y4 g4 z6;clear aj yX r32 QA;(refine bU ?_);go_wp2_with fail;exact TAIL.o _ _ _ HC.o dL.o pQ Hf.o
 · go_wp2_with fail;(refine kk aj ag (HC.o.ext (Kp.rr.alloc _)) ?_);clear ag K2;have pQ:w1.heap.size≤w1.heap.size:=HC.o.kp.size;have dL:Zs (ay (w1.drew.alloc (.cells #[.int .i64 0,.string ⟨#[]⟩,.int .i64 0,.int .i64 0,.string ⟨#[]⟩] 164)) w1.heap.size 164 #[.int .i64 0,.string ⟨#[]⟩,.int .i64 0,.int .i64 0,.string ⟨#[]⟩]):=Z3 (ay.new _ _ _);replace HC:=Z3 (HC.o.ext (Kp.rr.alloc (.cells #[.int .i64 0,.string ⟨#[]⟩,.int .i64 0,.int .i64 0,.string ⟨#[]⟩] 164)));(refine aX rfl fun K2 ag=>?_);go_wp2_with fail;refine(iR _ _ c.f.of.of.keeper (((HA.o.kM HC.o.kp HC.o.at_).at_ fE.o).blk.c 0 _ rfl)).mono ?_;rintro e we ⟨rfl,rfl⟩;go_wp2_with fail;(refine kk aj ag HC.o ?_);clear ag K2;(refine aX rfl fun K2 ag=>?_);go_wp2_with fail;refine(Aa.o _ HC.o).mono ?_;rintro e wc ⟨ev,rfl,nN,hk,hc⟩;replace dL:=Z3 (dL.o.kp hk Wg);replace HC:=Z3 hc;have Hf:=Z3 nN;clear hk hc nN;go_wp2_with fail;(refine kk aj ag HC.o ?_);clear ag K2;refine Ey ?_;intro K2 ag;obtain⟨z6,y0,y1,y2,y3,y4, -⟩:=dL.o.ca;obtain⟨g0,g1,g2,g3,g4, -⟩:=dL.o.fz;go_wp2_with fail;replace HC:=Z3 (LC.own HC.o (Kp.qX (D:=(·=_)) rfl (.int .i64 v0) (.string v1) (.int .i64 v2) (.int .i64 v3) (.string v4)) pQ CV);replace dL:=Z3 (dL.o.qX (.int .i64 v0) (.string v1) (.int .i64 v2) (.int .i64 v3) (.string v4));(refine kk aj ag HC.o ?_);clear ag K2;clear y0 g0 y1 g1 y2 g2 y3 g3 y4 g4 z6;clear aj yX r32 QA;(refine bU ?_);go_wp2_with fail;exact TAIL.o _ _ _ HC.o dL.o pQ Hf.o
@[go_sem] theorem run_store_func {P:Program} {w:World} {a:Addr} {m:Mode} (f:Fn) (x y:Array Value):(store a (.func f x y) m).run P w=stored P w a (.func f x y) m:=run_store P w a _ m rfl
@[go_sem] theorem run_store_nilFunc {P:Program} {w:World} {a:Addr} {m:Mode}:(store a .nilFunc m).run P w=stored P w a .nilFunc m:=run_store P w a _ m rfl
def YQ(n:Nat):Nat:=
 if n=1 then 150 else if n=2 then 151 else if n=3 then 152 else if n=4 then 153 else if n=5 then 154 else if n=6 then 155 else
 if n=7 then 156 else if n=8 then 157 else if n=9 then 158 else if n=10 then 159 else if n=11 then 160 else if n=12 then 161 else
 if n=13 then 162 else if n=14 then 163 else 164
def FR:Array Value:=#[.nilFunc,.func (.func 150) #[] #[],.func (.func 151) #[] #[],.func (.func 152) #[] #[],.func (.func 153) #[] #[],.func (.func 154) #[] #[],.func (.func 155) #[] #[],
 .func (.func 156) #[] #[],.func (.func 157) #[] #[],.func (.func 158) #[] #[],.func (.func 159) #[] #[],.func (.func 160) #[] #[],.func (.func 161) #[] #[],.func (.func 162) #[] #[],
 .func (.func 163) #[] #[],.func (.func 164) #[] #[]]
theorem RH{n:Nat}(h1:1≤n)(h2:n≤15):FR[n]?=some (.func (.func (YQ n)) #[] #[]):=by
 have:n=1∨n=2∨n=3∨n=4∨n=5∨n=6∨n=7∨n=8∨n=9∨n=10∨n=11∨n=12∨n=13∨n=14∨n=15:=by omega
 rcases this with rfl|rfl|rfl|rfl|rfl|rfl|rfl|rfl|rfl|rfl|rfl|rfl|rfl|rfl|rfl<;>rfl
theorem aR{f:Nat}{fn:Func}{c:Code}(hf:Tryz.prog.funcs[f]?=some fn)(hb:fn.body=some c)(hn:(fn.name== "runtime.NumGoroutine")=false)(args:Array Value)(w:World):(callFunc f args).run Tryz.prog w=.ok (.enter f args) w:=by
 have hn':¬fn.name= "runtime.NumGoroutine" :=by simpa using hn
 simp[callFunc,go_sem,hf,hb,hn']
theorem VG{n:Nat}(h1:1≤n)(h2:n≤15)(args:Array Value)(w:World):(callFunc (YQ n) args).run Tryz.prog w=.ok (.enter (YQ n) args) w:=by
 have:n=1∨n=2∨n=3∨n=4∨n=5∨n=6∨n=7∨n=8∨n=9∨n=10∨n=11∨n=12∨n=13∨n=14∨n=15:=by omega
 rcases this with rfl|rfl|rfl|rfl|rfl|rfl|rfl|rfl|rfl|rfl|rfl|rfl|rfl|rfl|rfl
 · exact aR Tryz.func150 rfl Wr args w
 · exact aR Tryz.func151 rfl Wr args w
 · exact aR Tryz.func152 rfl Wr args w
 · exact aR Tryz.func153 rfl Wr args w
 · exact aR Tryz.func154 rfl Wr args w
 · exact aR Tryz.func155 rfl Wr args w
 · exact aR Tryz.func156 rfl Wr args w
 · exact aR Tryz.func157 rfl Wr args w
 · exact aR Tryz.func158 rfl Wr args w
 · exact aR Tryz.func159 rfl Wr args w
 · exact aR Tryz.func160 rfl Wr args w
 · exact aR Tryz.func161 rfl Wr args w
 · exact aR Tryz.func162 rfl Wr args w
 · exact aR Tryz.func163 rfl Wr args w
 · exact aR Tryz.func164 rfl Wr args w
theorem VK(w:World)(l:aH)(p:M.ax)(B kb:Nat)(k:Int)(m:M.Method)(t:qj)(at_:Int)(s:M.iY)(vl vs:Value)(h:aQ w l p B kb k m t at_ s vl vs)(i:M.Ins)(n:Nat)(hn:i.op=n)(hi:M.iZ m i=true):
    Calls Tryz.prog (YQ n) #[.pointer (some ⟨kb,0,none⟩),.agg #[.int .i64 i.op,.int .i64 i.a,.string i.name,.string i.member]] w (bG w l p B kb k m t at_ vl vs (M.bJ p k m i s)):=by
 obtain⟨_,h2,_,_,h5,_⟩:=M.lL hi;have:n=1∨n=2∨n=3∨n=4∨n=5∨n=6∨n=7∨n=8∨n=9∨n=10∨n=11∨n=12∨n=13∨n=14∨n=15:=by omega
 rcases this with rfl|rfl|rfl|rfl|rfl|rfl|rfl|rfl|rfl|rfl|rfl|rfl|rfl|rfl|rfl
 · exact VM _ _ _ _ _ _ _ _ _ _ _ _ h i hn
 · exact VR _ _ _ _ _ _ _ _ _ _ _ _ h i hn (h2 (.inl hn))
 · exact YT _ _ _ _ _ _ _ _ _ _ _ _ h i hn (h2 (.inr hn))
 · exact VI _ _ _ _ _ _ _ _ _ _ _ _ h i hn
 · exact RO _ _ _ _ _ _ _ _ _ _ _ _ h i hn
 · exact VL _ _ _ _ _ _ _ _ _ _ _ _ h i hn
 · exact VJ _ _ _ _ _ _ _ _ _ _ _ _ h i hn
 · exact VQ _ _ _ _ _ _ _ _ _ _ _ _ h i hn
 · exact RI _ _ _ _ _ _ _ _ _ _ _ _ h i hn
 · exact VP _ _ _ _ _ _ _ _ _ _ _ _ h i hn
 · exact RP _ _ _ _ _ _ _ _ _ _ _ _ h i hn
 · exact O1 _ _ _ _ _ _ _ _ _ _ _ _ h i hn
 · exact YS _ _ _ _ _ _ _ _ _ _ _ _ h i hn
 · exact VN _ _ _ _ _ _ _ _ _ _ _ _ h i hn
 · exact RJ _ _ _ _ _ _ _ _ _ _ _ _ h i hn
theorem aQ.setAt{w:World}{l:aH}{p:M.ax}{B kb:Nat}{k:Int}{m:M.Method}{t:qj}{at_:Int}{s:M.iY}{vl vs:Value}(h:aQ w l p B kb k m t at_ s vl vs)(n:Int)(hn:0≤n∧n≤100):
    aQ (w.setCell ⟨kb,10,none⟩ (.int .i64 n)) l p B kb k m t n s vl vs∧Kp (jf l kb vl vs) w (w.setCell ⟨kb,10,none⟩ (.int .i64 n)):=by
 have hK:Kp (·=kb) w (w.setCell ⟨kb,10,none⟩ (.int .i64 n)):=(Kp.refl (·=kb) w).setCell (p:=⟨kb,10,none⟩) (fun _=>rfl) _;have h1:=h.hB;have h2:=h.hk;have h3:=h.dN.ord;exact⟨⟨h.dN.kp hK (fun b hb e=>by omega),h.hB,h.hk,bQ.kp aG.stays hK (fun b hb e=>by omega) h.ml,h.mi,h.blk.bE 10 _,
  aA h.loc hK (fun g hg _ e=>by subst e;exact h.neb.1 hg),aA h.dD hK (fun g hg _ e=>by subst e;exact h.neb.2 hg),h.ne,hn,h.ssz,h.VS⟩,hK.weak fun b _ e=>.inr (.inl e)⟩
theorem jf.sub{l:aH}{kb n b:Nat}{vl vs tJ vs':Value}(h:¬jf l kb vl vs b)(hO:bW n vl vs tJ vs')(hb:b<n):¬jf l kb tJ vs' b:=by
 rintro(e|e|e|e)
 · exact h (.inl e)
 · exact h (.inr (.inl e))
 · rcases hO b (.inl e)with x|x|x
   · exact h (.inr (.inr (.inl x)))
   · exact h (.inr (.inr (.inr x)))
   · omega
 · rcases hO b (.inr e)with x|x|x
   · exact h (.inr (.inr (.inl x)))
   · exact h (.inr (.inr (.inr x)))
   · omega
theorem aG.code{w:World}{I:Nat→Prop}{m:M.Method}{t:qj}(h:aG w I m (iC m t)):SliceOf 4 tZ w I (.slice t.a2 m.code.length t.c2) m.code:=by
 obtain⟨va',vc',vm',he, -,h2, -⟩:=h;simp only[iC,List.cons.injEq,and_true,true_and]at he;obtain⟨-,rfl, -⟩:=he;exact h2
def acp(w:World)(l:aH)(p:M.ax)(kb:Nat)(vl vs:Value)(o:Sum Int (List M.iY))(e:Ending)(w':World):Prop:=
 Kp (jf l kb vl vs) w w'∧aC w' l p∧((∃n,o=.inl n∧e=.panicked (zP n))∨∃fs v tJ vs',o=.inr fs∧e=.returned v∧Kn w' w.heap.size v tJ vs' fs)
theorem Mr (w : World) (l : aH) (p : M.ax) (B kb : Nat) (k : Int) (m : M.Method) (t : qj) (at_ : Int) (s : M.iY) (vl vs : Value) (h : aQ w l p B kb k m t at_ s vl vs) :
    Calls Tryz.prog 132 #[.pointer (some ⟨kb,0,none⟩)] w (acp w l p kb vl vs (M.eZ p k m m.code 0 true s [])):=by
 obtain⟨a1,c1,a2,c2,a3,c3⟩:=t;have hkz:=h.blk.lt;have H:=Z3 h;obtain⟨w0,bI⟩:∃w0,w0=w.alloc (.cells FR 240):=⟨_,rfl⟩;have b3:ay w0 w.heap.size 240 FR:=by rw[bI];exact ay.new _ _ _
 have aU:Ext w w0:=by rw[bI];exact kx
 have hA:=h.ext aU;have c8:=h.blk.c 8 (.slice a2 m.code.length c2) rfl;have hmc:=h.mi.code;have⟨HA,bM,gN,dO⟩:=gD hA aU b3 bI;unfold FR at bI;have HX:=Z3 bI;clear h hA aU b3 bI;go_enter Tryz.func132,Tryz.ntmps132;go_wp2_with fail;rw[←HX.o];clear c8;go_loopw [4,5,15] (fun v goes i wr=>∃(q:Nat) (gs:Bool) (s1:M.iY) (at1:Int) (Na vs1:Value) (kn:List M.iY),q≤m.code.length∧goes=.bool gs∧i=.int .i64 q∧aQ wr l p B kb k m ⟨a1,c1,a2,c2,a3,c3⟩ at1 s1 Na vs1∧bW (w.heap.size+1) vl vs Na vs1∧
     Kp (jf l kb vl vs) w wr∧Kn wr w.heap.size v Na vs1 kn∧kn.length=q∧ay wr w.heap.size 240 FR∧Zs (M.eZ p k m m.code 0 true s []=M.eZ p k m (m.code.drop q) q gs s1 kn)) (fun _ _ i _=>m.code.length - (intOf i).toNat)
 case atStart=>exact⟨0,true,s,at_,vl,vs,[],Nat.zero_le _,rfl,rfl,HA.o,bW.refl _ _ _,bM.o.any,Kn.nil _ _ _ _,rfl,gN.o,Z3 rfl⟩
 case round =>
  obtain⟨q,gs,s1,at1,Na,vs1,kn,hq,rfl,rfl,hA,hO,hK,hKn,Bn,hB,TC⟩:=hrel;have⟨Ot,HKL⟩:=aJ hA Bn;clear Bn;have Tp:w.heap.size<wr.heap.size:=hB.lt;have hkr:=hA.blk.lt;have U6:w.heap.size<w.heap.size+1:=Nat.lt_succ_self _;by_cases bY:q<m.code.length
  · obtain⟨⟨op,ia,nm,mem⟩,hi⟩:=iT m.code q bY;have JJ:=hA.mi.ins _ (List.mem_of_getElem? hi);obtain⟨n,rfl⟩:∃n:Nat,op=n:=⟨op.toNat,by have:=(M.lL JJ).2.2.2.2.1;simp only at this;omega⟩;have mR:1≤n∧n≤15:=by have:=(M.lL JJ).2.2.2.2.1;simp only at this;omega
    obtain⟨b,off,cs,ea,KN,rfl, -,jy⟩:=(aG.code hA.ml).get hi;cases ea;obtain⟨g0,g1,g2,g3⟩:=jy.four;have gz:=aF g0;have HS:Zs (M.eZ p k m m.code 0 true s []=match M.kC p k m gs q s1 with
     |none=>.inl ((q:Int)+1)
     |some s2=>match M.bJ p k m ⟨n,ia,nm,mem⟩ s2 with
      |none=>.inl ((q:Int)+1)
      |some s3=>M.eZ p k m (m.code.drop (q+1)) (q+1) (decide ((n:Int)≠10)&&decide ((n:Int)≠13)) s3 (kn++[s2])):=Z3 (by rw[TC.o,jY hi];rfl)
    have hq8:(q:Int)<m.code.length:=by omega
    obtain⟨hA4,nQ⟩:=hA.setAt q Wg;have e10:=hA.blk.c 10 (.int .i64 at1) rfl;have f10:=hA.blk.frozen 10;have Qp:¬wr.heap.size=kb:=by omega
    have air:¬kb=wr.heap.size:=by omega
    obtain⟨w5,iA⟩:∃w5,w5=(wr.setCell ⟨kb,10,none⟩ (.int .i64 q)).alloc (.cells #[.int .i64 n,.int .i64 ia,.string nm,.string mem] 130):=⟨_,rfl⟩;have cZ:Ext (wr.setCell ⟨kb,10,none⟩ (.int .i64 q)) w5:=by rw[iA];exact kx
    have b7:ay w5 wr.heap.size 130 #[.int .i64 n,.int .i64 ia,.string nm,.string mem]:=by rw[iA];exact ay.newAt _ _ Wf
    have hnk:¬jf l kb Na vs1 wr.heap.size:=hA.jT;have hnw:¬jf l kb vl vs w.heap.size:=H.o.jT;have⟨HX5,B7⟩:=aJ iA b7;have oW:Zs (Kp (jf l kb Na vs1) wr w5):=Z3 (nQ.trans cZ.any);have⟨Hd,WK,aaZ,HB,HK,HO,HNK,HNW⟩:=JI (hA4.ext cZ) hKn JJ hB hK hO hnk hnw;clear hA hi JJ jy iA cZ b7 hA4 nQ hKn hB hK hO TC hnk hnw;go_wp2_with fail;rw[←HX5.o];refine(RN _ _ _ _ _ _ _ _ _ _ _ _ Hd.o gs).mono ?_;rintro e w6 ⟨zV,hL6,⟨ho,rfl⟩|⟨s2,ho,rfl,QF,vs2,Ho,LK⟩⟩
    · refine⟨rfl,(HK.o.look oW.o (HO.o.le (Nat.le_succ _))).look zV (HO.o.le (Nat.le_succ _)),hL6,.inl ⟨_,?_,rfl⟩⟩;rw[HS.o,ho]
    have afX:=(Kn.kp (Kn.kp WK.o Ot.o oW.o (bW.refl _ _ _) hkz) Hd.o zV LK hkz);obtain⟨cs,hKC⟩:=afX;obtain⟨la,lc,rfl⟩:=bO Ho.loc;obtain⟨sa,sc,rfl⟩:=bO Ho.dD;obtain⟨va,vc,rfl⟩:=bO hKC.2.1;replace HS:Zs (M.eZ p k m m.code 0 true s []=match M.bJ p k m ⟨n,ia,nm,mem⟩ s2 with
        |none=>.inl ((q:Int)+1)
        |some s3=>M.eZ p k m (m.code.drop (q+1)) (q+1) (decide ((n:Int)≠10)&&decide ((n:Int)≠13)) s3 (kn++[s2])):=Z3 (by rw[HS.o,ho])
    have xU:¬(Value.slice va kn.length vc).ownBlock=some kb:=fun e=>by
     obtain⟨cur,hb⟩:=jm hKC.2.1 e;exact absurd (ay.inj hb Ho.blk) Wk
    have hv7:¬(Value.slice va kn.length vc).ownBlock=some wr.heap.size:=fun e=>by
     obtain⟨cur,hb⟩:=jm hKC.2.1 e;exact absurd (ay.inj hb (B7.o.kp zV HNK.o)) Wk
    have hvw:¬(Value.slice va kn.length vc).ownBlock=some w.heap.size:=fun e=>by
     obtain⟨cur,hb⟩:=jm hKC.2.1 e;exact absurd (ay.inj hb ((HB.o.kp oW.o (jf.sub HNW.o HO.o U6)).kp zV (jf.sub HNW.o HO.o U6))) Wk
    obtain⟨T,f,dA,HT⟩:=iN.ex (fun W'=>Kp (fun b=>(Value.slice va kn.length vc).ownBlock=some b) w6 W') _ Kp.rr;have r11:=fun z=>(Ho.blk.kp (HT.aW z) xU).c 11 (.slice la s2.locals.length lc) rfl;have Tu:=fun z=>(Ho.blk.kp (HT.aW z) xU).c 12 (.slice sa s2.stack.length sc) rfl;have aim:=Ho.blk.lt;have⟨aj,PQ,HKC,Bg,CJ⟩:=kL HT Ho hKC zV LK;have hl6:s2.locals.length≤6:=by have:=Ho.VS;have:=Ho.mi.locals;omega
    have hs5:s2.stack.length≤5:=by have:=Ho.ssz;have:=Ho.mi.stack;omega
    have hS6:w.heap.size+1≤w6.heap.size:=by have:=zV.size;have:=oW.o.size;omega
    clear Ho hKC zV LK HT ho;go_wp2_with fail;(refine eO aj 14 [([0,1,2,3,4,6,7,8,9],5),([],10),([11],12),([],13)] [] ?_ ?_)
    · exact Kp.rr.drew
    refine iX ?_;intro K2 ag;go_wp2_with fail;refine(ql _ _ _ _ (oF (PQ.o.ext Kp.rr.drew).loc (kR uM _)) Wg).mono ?_;rintro e w7 ⟨⟨c1,rfl,jN⟩,r9⟩;obtain⟨c1a,c1c,rfl⟩:=bO jN;have UG:Ext w6 w7:=((Kp.refl _ w6).drew:Ext w6 _).trans r9;have⟨DD,Nw⟩:=aJ UG jN;clear jN r9 UG;go_wp2_with fail;(refine kk aj ag DD.o.any ?_);clear ag K2;(refine gZ rfl fun K2 ag=>?_);go_wp2_with fail;refine(ql _ _ _ _ (oF (PQ.o.ext DD.o).dD (kR uM _)) Wg).mono ?_;rintro e w8 ⟨⟨c2v,rfl,sN⟩,lK⟩;obtain⟨c2a,c2c,rfl⟩:=bO sN;have lJ:Zs (Ext w6 w8):=Z3 (DD.o.trans lK);have⟨afK,tY⟩:=aJ lK sN;clear sN lK;go_wp2_with fail;(refine kk aj ag lJ.o.any ?_);clear ag K2;refine iX ?_;intro K2 ag;go_wp2_with fail;(refine kk aj ag (lJ.o.alloc _).any ?_);clear ag K2;(refine gZ rfl fun K2 ag=>?_);refine az Uf rfl (.tmp 27) (.tmp 39) rfl w.heap.size (.slice va kn.length vc) kn.length _ rfl (aA (D:=fun _=>False) HKC.o.2.1 (lJ.o.alloc _) fun _ _ _ x=>x) w8.heap.size 1 [.slice c1a s2.locals.length c1c,.slice c2a s2.stack.length c2c] rfl rfl (ae.RZ _ _ rfl) Ys (by have:=HKL.o;omega) (by simp;have:=lJ.o.size;omega) ?_;intro g9 c9 w9 pO qK wW;change K2 _ _;have LJ:Kp (fun b=>(Value.slice va kn.length vc).ownBlock=some b) w6 w9:=(lJ.o.alloc _).any.trans qK;(refine kk aj ag LJ ?_);clear ag K2;have hA9:aQ w9 l p B kb k m ⟨a1,c1,some ⟨b,off,none⟩,c2,a3,c3⟩ q s2 (.slice la s2.locals.length lc) (.slice sa s2.stack.length sc):=by
     have Aw:=PQ.o.dN.ord;have hBB:=PQ.o.hB;have vR:∀x,(Value.slice va kn.length vc).ownBlock=some x→w.heap.size≤x:=fun x e=>(HKC.o.2.1.lt x e).1;have CV:=H.o.dN.lt;refine PQ.o.kp' LJ (PQ.o.dN.kp LJ (fun x hx e=>by have:=vR x e;omega)) xU (fun x hx e=>?_) (fun x hx e=>?_) (fun x hx e=>by have:=vR x e;omega)
     · obtain⟨cur,h1⟩:=jm HKC.o.2.1 e;obtain⟨cur',h2⟩:=jm PQ.o.loc hx;exact absurd (ay.inj h1 h2) Wk
     · obtain⟨cur,h1⟩:=jm HKC.o.2.1 e;obtain⟨cur',h2⟩:=jm PQ.o.dD hx;exact absurd (ay.inj h1 h2) Wk
    have adI:=(B7.o.kp Bg.o HNK.o).kp LJ hv7;have vQ:=((HB.o.kp oW.o (jf.sub HNW.o HO.o U6)).kp Bg.o (jf.sub HNW.o HO.o U6)).kp LJ hvw
    have aei : Kn w9 w.heap.size (.slice (some ⟨g9, 0, none⟩) (kn.length + 1) c9) (.slice la s2.locals.length lc) (.slice sa s2.stack.length sc) (kn ++ [s2]) := by
     have hI:∀x,w6.heap.size≤x→x<(w8.alloc (.cells #[.slice c1a s2.locals.length c1c,.slice c2a s2.stack.length c2c] 244)).heap.size→
         Nz (w8.alloc (.cells #[.slice c1a s2.locals.length c1c,.slice c2a s2.stack.length c2c] 244)) w.heap.size (.slice va kn.length vc) (.slice la s2.locals.length lc) (.slice sa s2.stack.length sc) x:=fun x h1 h2=>
      ⟨by omega,h2,fun e=>by have:=(HKC.o.2.1.lt x e).2;omega,fun e=>by have:=(PQ.o.loc.lt x e).2;omega,fun e=>by have:=(PQ.o.dD.lt x e).2;omega⟩
     have hz7:=DD.o.size;refine(TU.ext HKC.o (lJ.o.alloc _)).snoc ?_ ?_ pO qK (fun x e=>?_)
     · exact SliceOf.gH (R:=eB) iD (aA (D:=fun _=>False) Nw.o (afK.o.alloc _) fun _ _ _ x=>x) rfl rfl (fun _ _=>rfl) (fun _ _=>rfl) (fun x h1 h2=>hI x (by simpa using h1) h2) Wg
     · exact SliceOf.gH (R:=eB) iD (aA (D:=fun _=>False) tY.o (kx:Ext w8 _) fun _ _ _ x=>x) rfl rfl (fun _ _=>rfl) (fun _ _=>rfl) (fun x h1 h2=>hI x Wg h2) Wg
     · have e':g9=x:=by simpa [Value.ownBlock]using e
       subst e';rcases wW with h|h
       · exact .inl h
       · right;omega
    have⟨HA9,QL,zR,afY⟩:=gD hA9 adI vQ aei;have vM:Zs (Kp (jf l kb vl vs) w w9):=Z3 (by
     have h1:=(HK.o.look oW.o (HO.o.le (Nat.le_succ _))).look Bg.o (HO.o.le (Nat.le_succ _));exact h1.own LJ (fun x e=>(HKC.o.2.1.lt x e).1))
    have XF:Zs (bW (w.heap.size+1) vl vs (.slice la s2.locals.length lc) (.slice sa s2.stack.length sc)):=Z3 (HO.o.trans CJ.o (by have:=oW.o.size;omega));have hz9:=LJ.size;have aeq:¬jf l kb (.slice la s2.locals.length lc) (.slice sa s2.stack.length sc) wr.heap.size:=jf.sub HNK.o CJ.o (by have:=B7.o.lt;exact this);have aet:¬jf l kb (.slice la s2.locals.length lc) (.slice sa s2.stack.length sc) w.heap.size:=jf.sub HNW.o XF.o U6;clear hA9 adI vQ aei pO qK wW LJ aj r11 Tu;(refine dW ?_);go_wp2_with fail;obtain⟨T,f,dA,HT⟩:=iN.ex (fun W'=>Kp (jf l kb (.slice la s2.locals.length lc) (.slice sa s2.stack.length sc)) w9 W') _ Kp.rr;obtain⟨-,r0,r1,r2,r3, -⟩:=ay.kY fun z=>(QL.o.kp (HT.aW z) aeq);have rf:=fun z=>(zR.o.kp (HT.aW z) aet).c n _ (RH mR.1 mR.2);have ag6:(n:Int)<16:=by omega
    have IV:(0:Int)≤n:=by omega
    have aj:=Z3 HT;have hcf:=VG mR.1 mR.2;clear HT;(refine eO aj 7 [([0,1,2,3,4,5],6)] [] ?_ ?_)
    · exact Kp.rr.drew
    refine iX ?_;intro K2 ag;go_wp2_with fail;refine(VK _ _ _ _ _ _ _ _ _ _ _ _ (HA9.o.ext Kp.rr.drew) ⟨n,ia,nm,mem⟩ n rfl aaZ.o).mono ?_;rintro e gu aV;replace aV:=bG.behind ((Kp.refl _ w9).drew) aV;rcases aV with⟨lh,adM,⟨ho,rfl⟩|⟨s3,ho,rfl,vl3,vs3,adA,Fv⟩⟩
    · refine⟨rfl,vM.o.look lh (XF.o.le (Nat.le_succ _)),adM,.inl ⟨_,?_,rfl⟩⟩;rw[HS.o,ho]
    have Ht:=QL.o.kp lh aeq;have y0:=Ht.c 0 (.int .i64 n) rfl;have afN:Zs (aQ gu l p B kb k m ⟨a1,c1,some ⟨b,off,none⟩,c2,a3,c3⟩ q s3 vl3 vs3∧bW (w.heap.size+1) vl vs vl3 vs3∧Kp (jf l kb vl vs) w gu∧
        Kn gu w.heap.size (.slice (some ⟨g9,0,none⟩) (kn.length+1) c9) vl3 vs3 (kn++[s2])∧ay gu w.heap.size 240 FR∧
        M.eZ p k m m.code 0 true s []=M.eZ p k m (m.code.drop (q+1)) (q+1) (decide ((n:Int)≠10)&&decide ((n:Int)≠13)) s3 (kn++[s2])):=
     Z3 ⟨adA,XF.o.trans Fv Wg,vM.o.look lh (XF.o.le (Nat.le_succ _)),Kn.kp afY.o HA9.o lh Fv hkz,zR.o.kp lh aet,by rw[HS.o,ho]⟩
    have nU:=Z3 lh;clear Ht lh adM adA Fv ho r0 r1 r2 r3 rf hcf;go_wp2_with fail;(refine kk aj ag nU.o ?_);clear ag K2;clear aj;(refine Kc rfl ?_);have fin:∀gs':Bool,gs'=(decide ((n:Int)≠10)&&decide ((n:Int)≠13))→∃(q':Nat) (gs2:Bool) (s1:M.iY) (at1:Int) (Na vs1:Value) (kn1:List M.iY),q'≤m.code.length∧Value.bool gs'=.bool gs2∧Value.int .i64 ((q:Int)+1)=.int .i64 q'∧
        aQ gu l p B kb k m ⟨a1,c1,some ⟨b,off,none⟩,c2,a3,c3⟩ at1 s1 Na vs1∧bW (w.heap.size+1) vl vs Na vs1∧
        Kp (jf l kb vl vs) w gu∧Kn gu w.heap.size (.slice (some ⟨g9,0,none⟩) (kn.length+1) c9) Na vs1 kn1∧kn1.length=q'∧ay gu w.heap.size 240 FR∧Zs (M.eZ p k m m.code 0 true s []=M.eZ p k m (m.code.drop q') q' gs2 s1 kn1):=by
     rintro gs' rfl;obtain⟨h1,h2,h3,h4,h5,h6⟩:=afN.o;exact⟨q+1,_,s3,q,vl3,vs3,kn++[s2],by omega,rfl,by simp,h1,h2,h3,h4,by have:=HKL.o;simp[this],h5,Z3 h6⟩
    have jL:=Z3 fin;have YH:IntKind.i64.wrap ((q:Int)+1)=q+1:=IntWalk.i64_in _ Wg;clear fin;by_cases n10:n=10
    · subst n10;go_wp2_with fail;exact⟨jL.o _ rfl,by simp[intOf];omega⟩
    · have Yb:((n:Int) !=10)=true:=bne_iff_ne.2 Wg;obtain⟨d13,h13⟩:∃d,((n:Int) !=13)=d:=⟨_,rfl⟩;have hd:Zs (d13=(decide ((n:Int)≠10)&&decide ((n:Int)≠13))):=Z3 (by
       rw[←h13,decide_eq_true (by omega:(n:Int)≠10),Bool.true_and];by_cases h:(n:Int)=13
       · rw[h];rfl
       · rw[bne_iff_ne.2 h,decide_eq_true h])
      clear n10;go_wp2_with fail;exact⟨jL.o _ hd.o,by simp[intOf];omega⟩
  · have G7:q=m.code.length:=by omega
    have HQ:Zs (M.eZ p k m m.code 0 true s []=if gs then .inl ((m.code.length:Int)+1)else .inr kn):=Z3 (by rw[TC.o,List.drop_eq_nil_of_le Wg,G7];rfl);have HKn:=Z3 hKn;have Ec:Zs (Kp (jf l kb vl vs) w wr):=Z3 hK;obtain⟨-, -, -, -, -, -, -, -, -,e8, -,e10, -⟩:=hA.blk.ca;have f10:=hA.blk.frozen 10;obtain⟨NA,gU⟩:=hA.setAt m.code.length Wg;have⟨Hd,oW,xK⟩:=bg NA gU hO;clear hA hB hK hKn hO NA gU TC;cases gs
    · go_wp2_with fail;refine bodyPost_ret (v:=u4) (by simp[results,Tryz.results132,go_sem]) rfl ?_;exact⟨Ec.o,Ot.o.dN,.inr ⟨_,_,_,_,HQ.o,rfl,HKn.o⟩⟩
    · go_wp2_with fail;refine(gW _ kb m.code.length (Hd.o.blk.c 10 _ rfl) Wg Wg).mono ?_;rintro e w3 ⟨rfl,rfl⟩;exact⟨rfl,Ec.o.look oW.o (xK.o.le (Nat.le_succ _)),Hd.o.dN,.inl ⟨_,HQ.o,rfl⟩⟩
theorem Wp(x:Value)(w:World):(Instr.typeAssert (.iface 218 x) 20 218 true).run Tryz.prog w=.ok (.tuple #[x,.bool true]) w:=by kernel_rfl
theorem Mq(w:World)(b4 b5:Nat)(v4 v5:Value)(h4:ay w b4 180 #[v4])(h5:ay w b5 3 #[v5])(n:Int)(older:List PanicEntry):
    CallsD Tryz.prog 131 #[.pointer (some ⟨b4,0,none⟩),.pointer (some ⟨b5,0,none⟩)] (.panicking ({v:=.iface 218 (.agg #[.int .i64 n]),recovered:=false}::older)) w fun e u' w'=>
     e=.returned (.tuple #[])∧u'=.panicking ({v:=.iface 218 (.agg #[.int .i64 n]),recovered:=true}::older)∧Kp (fun b=>b=b4∨b=b5) w w'∧ay w' b4 180 #[.slice none 0 0]∧ay w' b5 3 #[.int .i64 n]:=by
 have oV:b4≠b5:=fun e=>by subst e;exact absurd (ay.inj h4 h5) Wk
 have⟨H4,H5⟩:=aJ h4 h5;refine callsD_of_wpS Tryz.func131 rfl fun c₀ cs hu=>?_;apply wpS_seq;apply wpS_region;simp[wpOpsS,go_sem,recoverD,hu,Tryz.ntmps131,Exit.thenS];refine wpS_of_wp ?_;simp only[Array.replicate_succ,Array.replicate_zero,List.push_toArray,List.append_toArray,List.nil_append,List.cons_append,List.setIfInBounds_toArray,List.set_cons_succ,List.set_cons_zero];have r4:=h4.c 0 v4 rfl;have r5:=h5.c 0 v5 rfl;have z4:=h4.lt;have z5:=h5.lt;have f4:=h4.frozen 0;have f5:=h5.frozen 0;have ta:=Wp;clear h4 h5;go_wp2_with fail;go_region_with (fail)
 all_goals
  have k1:Kp (fun b=>b=b4∨b=b5) w (w.setCell ⟨b4,0,none⟩ (.slice none 0 0)):=(Kp.refl _ w).setCell (p:=⟨b4,0,none⟩) (fun _=>.inl rfl) _;have k2:Kp (·=b5) (w.setCell ⟨b4,0,none⟩ (.slice none 0 0)) ((w.setCell ⟨b4,0,none⟩ (.slice none 0 0)).setCell ⟨b5,0,none⟩ (.int .i64 n)):=(Kp.refl (·=b5) _).setCell (p:=⟨b5,0,none⟩) (fun _=>rfl) _;have k3:Ext ((w.setCell ⟨b4,0,none⟩ (.slice none 0 0)).setCell ⟨b5,0,none⟩ (.int .i64 n)) ((((w.setCell ⟨b4,0,none⟩ (.slice none 0 0)).setCell ⟨b5,0,none⟩ (.int .i64 n)).alloc (.cells #[.int .i64 n] 218)).drew):=(Kp.rr.alloc _).drew;have a4:ay (w.setCell ⟨b4,0,none⟩ (.slice none 0 0)) b4 180 #[.slice none 0 0]:=H4.o.bE 0 _;have a5:ay ((w.setCell ⟨b4,0,none⟩ (.slice none 0 0)).setCell ⟨b5,0,none⟩ (.int .i64 n)) b5 3 #[.int .i64 n]:=
   (H5.o.kp ((Kp.refl (·=b4) w).setCell (p:=⟨b4,0,none⟩) (fun _=>rfl) (.slice none 0 0)) (Ne.symm oV)).bE 0 _
  exact⟨rfl,_,rfl,.tuple #[],by simp[results,Tryz.results131,go_sem],rfl,rfl,(k1.trans (k2.weak fun b _ e=>.inr e)).trans k3.any,(a4.kp k2 oV).ext k3,a5.ext k3⟩
theorem RL(w:World)(b4 b5:Nat):
    CallsD Tryz.prog 131 #[.pointer (some ⟨b4,0,none⟩),.pointer (some ⟨b5,0,none⟩)] .returning w fun e u' w'=>e=.returned (.tuple #[])∧u'=.returning∧w'=w:=by
 refine callsD_of_wpS Tryz.func131 rfl fun c₀ cs hu=>?_;apply wpS_seq;apply wpS_region;simp[wpOpsS,go_sem,recoverD,hu,Tryz.ntmps131,Exit.thenS];refine wpS_of_wp ?_;simp only[Array.replicate_succ,Array.replicate_zero,List.push_toArray,List.append_toArray,List.nil_append,List.cons_append,List.setIfInBounds_toArray,List.set_cons_succ,List.set_cons_zero];go_wp2_with fail;exact⟨rfl,_,by cases c₀;simp_all,.tuple #[],by simp[results,Tryz.results131,go_sem],rfl,rfl,rfl⟩
end Go.Proofs.YtkmclfpjpajjeaaGreat
