/- Walks. -/
import Derived.Test.YtkmclfpjpajjeaaGreatTnCoreLt
set_option maxRecDepth 100000
set_option maxHeartbeats 4000000
set_option linter.unusedSimpArgs false
set_option linter.unusedVariables false
namespace Go.Proofs.YtkmclfpjpajjeaaGreat
open Go Go.RowKit
theorem mq.mono{w:World}{own:Own}{B B':Nat}{v:Value}{os:List GO}(h:mq w own B v os)(hB:B'≤B):mq w own B' v os:=
 ⟨fun b hb=>⟨Nat.le_trans hB (h.dom b hb).1,(h.dom b hb).2⟩,⟨fI h.row.row hB,h.row.role⟩,fun j o ho=>⟨fI (h.obj j o ho).row hB,(h.obj j o ho).role⟩,h.QD⟩
theorem mq.kp{D:Nat→Prop}{w w':World}{own:Own}{B:Nat}{v:Value}{os:List GO}(h:mq w own B v os)(hk:Kp D w w')(hD:∀b,own b≠none→¬D b):mq w' own B v os:=
 ⟨fun b hb=>⟨(h.dom b hb).1,Nat.lt_of_lt_of_le (h.dom b hb).2 hk.size⟩,h.row.keep hk (iw.refl _ _) fun b hb _=>hD b (by rw[hb];simp),fun j o ho=>(h.obj j o ho).keep hk (iw.refl _ _) fun b hb _=>hD b (by rw[hb];simp),h.QD⟩
theorem M.Good.part{p:M.ax}{s:M.St}(h:M.Good p s)(n:Nat):M.Good p {s with frames:=s.frames.take n}:=
 ⟨h.heap,fun f hf=>h.frames f (List.mem_of_mem_take hf),by have:=h.nf;simp;omega,h.outs,h.l9,h.back⟩
theorem aI.start{w:World}{l:aH}{p:M.ax}{own:Own}{B mb:Nat}{lk:Bool}{st:Int}{os:List GO}{outs:List Int}{back:M.Val}{vh vo:Value}(hL:aC w l p)(hB:l.L<B)(hO:mq w own B vh os)(Hx:own mb=none)
    (vR:B≤mb) (abO:ay w mb 65 (zF l lk ⟨st,[],os,outs,back,.slice none 0 0,vh,vo⟩)) (tQ:w.ownsRow B 3 1 vo outs.length (outs.flatMap sU)) (oV:∀b,vo.ownBlock=some b→own b=none∧b≠mb)
    (hG:M.Good p ⟨st,[],os.map GO.o,outs,back⟩):∃own',aI w l p own' B mb lk ⟨st,[],os,outs,back,.slice none 0 0,vh,vo⟩:=by
 have h1:∀b q,own b=some q→(own.add mb (0,0)) b=some q:=fun b q hb=>by
  rw[Own.gQ _ (fun e=>by subst e;rw[Hx]at hb;cases hb)];exact hb
 have Ql:∀b,own.add mb (0,0) b≠none→B≤b∧b<w.heap.size:=fun b hb=>by
  by_cases e:b=mb
  · subst e;exact⟨vR,abO.lt⟩
  · rw[Own.gQ _ e]at hb;exact hO.dom b hb
 have ahJ:∀i:Nat,∀c:GC,([]:List GC)[i]?=some c→lF w l p own B i c:=fun i c hc=>by simp at hc
 cases he:vo.ownBlock with
 |none=>
  exact⟨own.add mb (0,0),hL,hB,abO,Own.add_eq _ _ _,vR,hZ.nil _ _ _ _ _ _,fun i c hc=>by simp at hc,hO.row.relabel h1,fun j o ho=>(hO.obj j o ho).relabel h1,⟨tQ,fun b hb=>by rw[he]at hb;cases hb⟩,Ql,hG⟩
 | some g =>
  obtain⟨n1,n2⟩:=oV g he;have hg:=tQ.lt g he;have h2:∀b q,(own.add mb (0,0)) b=some q→((own.add mb (0,0)).add g (3,0)) b=some q:=fun b q hb=>by
   rw[Own.gQ _ (fun e=>by subst e;rw[Own.gQ _ n2,n1]at hb;cases hb)];exact hb
  refine⟨(own.add mb (0,0)).add g (3,0),hL,hB,abO,h2 _ _ (Own.add_eq _ _ _),vR,hZ.nil _ _ _ _ _ _,fun i c hc=>by simp at hc,(hO.row.relabel h1).relabel h2,fun j o ho=>((hO.obj j o ho).relabel h1).relabel h2,⟨tQ,fun b hb=>?_⟩,fun b hb=>?_,hG⟩
  · rw[he]at hb;cases hb;exact Own.add_eq _ _ _
  · by_cases e:b=g
    · subst e;exact hg
    · rw[Own.gQ _ e]at hb;exact Ql b hb
theorem MG(w:World)(l:aH)(p:M.ax)(h:aC w l p)(lk:Bool)(s:M.St)(cs:List Value)(hs:dU w (· <l.O) s cs)(hv:M.Cx p s=true):
    Calls Tryz.prog 23 #[.pointer (some ⟨l.L,0,none⟩),.bool lk,.agg cs.toArray] w fun e w'=>(∃mb own g,e=.returned (.pointer (some ⟨mb,0,none⟩))∧aI w' l p own w.heap.size mb lk g∧g.st=s)∧Ext w w':=by
 obtain⟨a1,c1,a2,c2,a3,c3,rfl,h1,h2,h3⟩:=hs.form;have hR:=M.Gp.1 hv;clear hs hv;obtain⟨st,zU,hp,outs,⟨bk,bn⟩⟩:=s;simp only at h1 h2 h3 ⊢;have mR:=h1.form;have yD:=h2.form;have U8:=h3.form;obtain⟨_,_,e1,Bo,hm1⟩:=mR;cases e1;obtain⟨_,_,e2,Hw,Rm⟩:=yD;cases e2;obtain⟨_,_,e3,hl3,hm3⟩:=U8;cases e3;have hhp:hp.length≤12:=(M.fV.1 hR.good.heap).1;obtain⟨w1,jX⟩:∃w1,w1=(w.alloc (.cells #[.int .i64 st,.slice a1 zU.length c1,.slice a2 hp.length c2,.slice a3 outs.length c3,.int .i64 bk,.int .i64 bn] 40)).alloc (.cells #[.pointer (some ⟨l.L,0,none⟩),.bool lk,.int .i64 st,.slice none 0 0,.slice none 0 0,.slice none 0 0,.int .i64 bk,.int .i64 bn] 65):=⟨_,rfl⟩;have bH:Ext w w1:=by rw[jX];exact kx
 have b5:ay w1 w.heap.size 40 #[.int .i64 st,.slice a1 zU.length c1,.slice a2 hp.length c2,.slice a3 outs.length c3,.int .i64 bk,.int .i64 bn]:=by rw[jX];exact(ay.new _ _ _).ext kx
 have b7:ay w1 (w.heap.size+1) 65 #[.pointer (some ⟨l.L,0,none⟩),.bool lk,.int .i64 st,.slice none 0 0,.slice none 0 0,.slice none 0 0,.int .i64 bk,.int .i64 bn]:=by rw[jX];exact ay.newAt _ _ Wf
 have Db:w1.heap.size=w.heap.size+2:=by rw[jX];simp
 have CV:=h.lt;have⟨HL,HR,eQ,lC,zW,BB,H1,H2,H3⟩:=LX h hR bH b5 b7 jX h1 h2 h3;clear h hR bH b5 b7 jX h1 h2 h3;go_enter Tryz.func23,Tryz.ntmps23;go_wp2_with fail;rw[←BB.o];refine(BM _ (· <l.O) _ hp (H2.o.ext yw.stays eQ.o) hhp).mono ?_;rintro e w2 ⟨⟨vh,gq,os,rfl,OJ,hO⟩,bZ⟩;obtain⟨ah,ch,rfl⟩:=hO.row.form;have b52:=lC.o.ext bZ;have b72:=zW.o.ext bZ;obtain⟨w3,jD⟩:∃w3,w3=w2.setCell ⟨w.heap.size+1,4,none⟩ (Value.slice ah os.length ch):=⟨_,rfl⟩;have nL:Kp (·=w.heap.size+1) w2 w3:=by rw[jD];exact(Kp.refl (·=w.heap.size+1) w2).setCell (p:=⟨w.heap.size+1,4,none⟩) (fun _=>rfl) _
 have b73:ay w3 (w.heap.size+1) 65 #[.pointer (some ⟨l.L,0,none⟩),.bool lk,.int .i64 st,.slice none 0 0,(Value.slice ah os.length ch),.slice none 0 0,.int .i64 bk,.int .i64 bn]:=by rw[jD];exact b72.bE 4 _
 have GV:=b52.kp nL Wg;obtain⟨yz, -, -, -, -,y4, -⟩:=b72.ca;have yf:=b72.frozen 4;obtain⟨xz, -, -, -,x3, -⟩:=b52.ca;have jc:Zs (Ext w w3):=Z3 ((eQ.o.trans bZ).own nL (fun b e=>by omega));have HO3:Zs (mq w3 gq w1.heap.size (Value.slice ah os.length ch) os):=Z3 (hO.kp nL (fun b hb e=>by have:=(hO.dom b hb).1;omega));have⟨xK,mV,afw,Xr⟩:=gD OJ jD b73 GV;have KQ:w2.heap.size≤w3.heap.size:=nL.size;have NI:=bZ.size;clear OJ hO bZ b52 b72 jD nL b73 GV;go_wp2_with fail;rw[←mV.o];clear y4 yf yz x3 xz;refine(xO _ _ _ _ ((H3.o.ext jQ.stays jc.o).ints) hm3).mono ?_;rintro e w4 ⟨⟨vo,rfl,tQ⟩,dI⟩;obtain⟨ao,co,rfl⟩:=bO tQ;have b74:=afw.o.ext dI;have b54:=Xr.o.ext dI;obtain⟨w5,iA⟩:∃w5,w5=w4.setCell ⟨w.heap.size+1,5,none⟩ (Value.slice ao outs.length co):=⟨_,rfl⟩;have gU:Kp (·=w.heap.size+1) w4 w5:=by rw[iA];exact(Kp.refl (·=w.heap.size+1) w4).setCell (p:=⟨w.heap.size+1,5,none⟩) (fun _=>rfl) _
 have b75:ay w5 (w.heap.size+1) 65 #[.pointer (some ⟨l.L,0,none⟩),.bool lk,.int .i64 st,.slice none 0 0,(Value.slice ah os.length ch),(Value.slice ao outs.length co),.int .i64 bk,.int .i64 bn]:=by rw[iA];exact b74.bE 5 _
 have cZ:Ext w w5:=(jc.o.trans dI).own gU (fun b e=>by omega);have UT:mq w5 gq w.heap.size (Value.slice ah os.length ch) os:=((HO3.o.kp (D:=fun _=>False) dI fun _ _ x=>x).kp gU (fun b hb e=>by have:=(HO3.o.dom b hb).1;omega)).mono Wg;have aeG:w5.ownsRow w.heap.size 3 1 (Value.slice ao outs.length co) outs.length (outs.flatMap sU):=fI (aA tQ gU (fun q hq hb e=>by have:=tQ.lt q hq;omega)) Wg;have hM:∃own',aI w5 l p own' w.heap.size (w.heap.size+1) lk ⟨st,[],os,outs,⟨bk,bn⟩,.slice none 0 0,(Value.slice ah os.length ch),(Value.slice ao outs.length co)⟩:=by
  refine aI.start (HL.o.ext cZ) CV UT ?_ Wg b75 aeG (fun b hb=>?_) ?_
  · cases e:gq (w.heap.size+1)with
    |none=>rfl
    |some r=>have:=(HO3.o.dom _ (by rw[e];simp)).1;omega
  · have h1:=(tQ.lt b hb).1;refine⟨?_,by omega⟩;cases e:gq b with
    |none=>rfl
    |some r=>have:=(HO3.o.dom _ (by rw[e];simp)).2;omega
  · rw[xK.o];have:=HR.o.good.part 0;simpa using this
 obtain⟨yz, -, -, -, -, -,y5, -⟩:=b74.ca;have yf:=b74.frozen 5;obtain⟨xz, -,x1, -⟩:=b54.ca;have⟨HM,gy,tN⟩:=bg hM cZ iA;clear b74 b54 iA gU b75 cZ UT aeG hM tQ dI;go_wp2_with fail;rw[←tN.o];clear y5 yf yz x1 xz;go_loopw [34] (fun i wr=>∃(q:Nat) (own:Own) (g:Gh),q≤zU.length∧i=.int .i64 q∧Ext w wr∧aI wr l p own w.heap.size (w.heap.size+1) lk g∧g.st=⟨st,zU.take q,hp,outs,⟨bk,bn⟩⟩) (fun i _=>zU.length - (intOf i).toNat)
 case atStart=>
  obtain⟨own',hM⟩:=HM.o;exact⟨0,own',_,Nat.zero_le _,rfl,gy.o,hM,by simp[Gh.st,xK.o]⟩
 case round=>
  obtain⟨q,own,g,hq,rfl,hE,hM,dw⟩:=hrel;by_cases bY:q<zU.length
  · obtain⟨⟨⟨⟨xk,xn⟩,xa⟩,pc,lo,sk⟩,hx⟩:=iT zU q bY;have G5:=M.aM.1 (HR.o.good.frames _ (List.mem_of_getElem? hx));have HFO:=Z3 G5;obtain⟨b,off,cs,rfl,hI,⟨vl,vs,rfl,yC,hsk⟩, -,hc⟩:=(H1.o.ext QK.stays hE).get hx;obtain⟨la,lc,rfl,yB,Yz⟩:=yC.form;obtain⟨sa,sc,rfl,hsn,hsc⟩:=hsk.form;simp only at yC hsk yB Yz hsn hsc hc;obtain⟨g0,g1,g2,g3,g4,g5⟩:=hc.six;have gz:=aF g0;obtain⟨w9,jK,nk,b9⟩:=nu wr #[.int .i64 xk,.string xn,.int .i64 xa,.int .i64 pc,.slice la lo.length lc,.slice sa sk.length sc] 114;have hz9:w9.heap.size=wr.heap.size+1:=by rw[jK];simp
    obtain⟨yz,y0,y1,y2, -⟩:=b9.ca;obtain⟨m,hm⟩:∃m,M.method p ⟨⟨xk,xn⟩,xa⟩=m:=⟨_,rfl⟩;have zC:=fQ w9 l p (hM.dN.ext nk) ⟨⟨xk,xn⟩,xa⟩ G5.1;rw[hm]at zC;have hgl:g.cs.length=q:=by
     have:=congrArg (fun s=>s.frames.length) dw;simpa [Gh.st,Nat.min_eq_left hq]using this
    have hcv:∀b,g.vc.ownBlock=some b→b<wr.heap.size:=fun b e=>(hM.calls.blk e).2;have⟨Bh,HM,Jl,su,zR,QV,HLO,HSK,pM⟩:=LX zC hm (hM.ext nk) (hE.trans nk) b9 jK (yC.ext kr.stays nk) (hsk.ext kr.stays nk) dw;have⟨HX,HGL⟩:=aJ hx hgl;have hwr:=hE.size;clear G5 yC hsk hc nk b9 jK zC hm dw hx hgl hE hM;go_wp2_with fail;rw[←QV.o];clear g0 g1 g2 g3 g4 g5;refine Bh.o.mono ?_;rintro e w6 ⟨⟨cs,mF,rfl⟩,dC⟩;obtain⟨t2,rfl⟩:=jS mF;obtain⟨gu,uF⟩:∃gu,gu=w6.alloc (.cells (iC m t2).toArray 106):=⟨_,rfl⟩;have kK:Ext w6 gu:=by rw[uF];exact kx
    have b10:ay gu w6.heap.size 106 (iC m t2).toArray:=by rw[uF];exact ay.new _ _ _
    have aeO:gu.heap.size=w6.heap.size+1:=by rw[uF];simp
    have ado:=zR.o.ext (dC.trans kK);have zw:=Jl.o.ext (dC.trans kK);have Xj:=dC.size;obtain⟨va,vc,JQ⟩:=zw.calls.form;have G9:¬g.vc.ownBlock=some (w.heap.size+1):=fun e=>by have:=zw.calls.role _ e;rw[zw.role]at this;cases this
    have hvw:∀b,wr.heap.size≤b→¬g.vc.ownBlock=some b:=fun b hb e=>by have:=hcv b e;omega
    obtain⟨T,f,dA,HT⟩:=iN.ex (fun W'=>Kp (fun b=>g.vc.ownBlock=some b) gu W') _ Kp.rr;have rm3:=fun z=>(zw.blk.kp (HT.aW z) G9).c 3 (.slice va g.cs.length vc) (by rw[←JQ];rfl);obtain⟨-,r90,r91,r92,r93,r94,r95, -⟩:=ay.kY fun z=>(ado.kp (HT.aW z) (hvw _ (Nat.le_refl _)));have h6r:wr.heap.size≤w6.heap.size:=by omega
    obtain⟨-,r70,r71,r72,r73,r74,r75,r76,r77, -⟩:=ay.kY fun z=>(b10.kp (HT.aW z) (hvw _ h6r));have⟨aj,NW,XJ,jd,nO⟩:=kL HT JQ G9 zw (su.o.trans (dC.trans kK));have GQ:Zs (aG gu (· <l.O) m (iC m t2)):=Z3 (bQ.ext aG.stays kK mF);have⟨af0,agc,Le⟩:=bg (HLO.o.ext kr.stays (dC.trans kK)) (HSK.o.ext kr.stays (dC.trans kK)) uF;clear HT JQ G9 hvw zw mF uF b10 ado kK dC Bh y0 y1 y2 yz HLO HSK;simp only[iC];unfold iC at Le;go_wp2_with fail;rw[←Le.o];(refine eO aj 23 [([0,1,2,3,4,5,6,7,8,9,10,11,13,14,16,17],12),([],15),([18,19],20),([],21),([],22)] [] ?_ ?_)
    · exact Kp.rr.drew
    refine iX ?_;intro K2 ag;go_wp2_with fail;refine(qo _ _ _ _ ((af0.o.ext kr.stays Kp.rr.drew).vals) Yz).mono ?_;rintro e PE ⟨⟨v11,rfl,OM⟩,UE⟩;obtain⟨WA,y11,rfl⟩:=bO OM;have Dz:Zs (Ext gu PE):=Z3 (((Kp.refl _ gu).drew:Ext gu _).trans UE);have aga:Zs (PE.ownsRow gu.heap.size 38 2 (Value.slice WA lo.length y11) lo.length (lo.flatMap bV)):=Z3 OM;clear UE OM;go_wp2_with fail;(refine kk aj ag Dz.o.any ?_);clear ag K2;(refine gZ rfl fun K2 ag=>?_);go_wp2_with fail;refine(qo _ _ _ _ ((agc.o.ext kr.stays Dz.o).vals) hsc).mono ?_;rintro e Br ⟨⟨v12,rfl,OO⟩,yA⟩;obtain⟨Xm,y12,rfl⟩:=bO OO;have⟨DC,agb⟩:=aJ yA OO;clear yA OO;go_wp2_with fail;(refine kk aj ag (Dz.o.trans DC.o).any ?_);clear ag K2;refine iX ?_;intro K2 ag;go_wp2_with fail;(refine kk aj ag ((Dz.o.trans DC.o).alloc _).any ?_);clear ag K2;(refine gZ rfl fun K2 ag=>?_);go_wp2_with fail;(refine kk aj ag (((Dz.o.trans DC.o).alloc _).alloc _).any ?_);clear ag K2;(refine gZ rfl fun K2 ag=>?_);obtain⟨wB,Rs⟩:∃wB,wB=(Br.alloc (.cells #[.int .i64 xk,.string xn,.int .i64 xa,.string m.name,.slice t2.a1 m.args.length t2.c1,.int .i64 m.ret.kind,.string m.ret.name,.int .i64 m.locals,.int .i64 m.stack,.slice t2.a2 m.code.length t2.c2,.slice t2.a3 m.maps.length t2.c3,.int .i64 pc,(Value.slice WA lo.length y11),(Value.slice Xm sk.length y12),.int .i64 m.stack] 125)).alloc (.cells #[.pointer (some ⟨Br.heap.size,0,none⟩)] 120):=⟨_,rfl⟩;rw[←Rs];have Te:Ext Br wB:=by rw[Rs];exact kx
    have bB:ay wB Br.heap.size 125 #[.int .i64 xk,.string xn,.int .i64 xa,.string m.name,.slice t2.a1 m.args.length t2.c1,.int .i64 m.ret.kind,.string m.ret.name,.int .i64 m.locals,.int .i64 m.stack,.slice t2.a2 m.code.length t2.c2,.slice t2.a3 m.maps.length t2.c3,.int .i64 pc,(Value.slice WA lo.length y11),(Value.slice Xm sk.length y12),.int .i64 m.stack]:=by rw[Rs];exact(ay.newAt (W:=Br) (g:=Br.heap.size) _ _ rfl).ext kx
    have bS:ae wB (Br.heap.size+1) 0 [.pointer (some ⟨Br.heap.size,0,none⟩)]:=by rw[Rs];exact ae.fB _ _ Wf
    have hzB:wB.heap.size=Br.heap.size+2:=by rw[Rs];simp
    have aiz:w.heap.size≤wr.heap.size:=hwr;have aiF:=Dz.o.size;have aeP:=DC.o.size;obtain⟨gq,Ep,Ql,Vi,UY, -⟩:=Own.more jd.o.dom aga.o Dz.o.size Wg (5,g.cs.length);obtain⟨Ig,L8,hd2,YF,LP, -⟩:=Own.more Ql agb.o DC.o.size Wg (6,g.cs.length);have yD:∀b,Br.heap.size≤b→Ig b=none:=fun b hb=>by
     cases e:Ig b with
     |none=>rfl
     |some q=>have:=(hd2 b (by rw[e];simp)).2;omega
    have JO:∀b q,Ig b=some q→(Ig.add Br.heap.size (4,g.cs.length)) b=some q:=fun b q hb=>by
     rw[Own.gQ _ (fun e=>by rw[e,yD _ (Nat.le_refl _)]at hb;cases hb)];exact hb
    have hd3:∀b,Ig.add Br.heap.size (4,g.cs.length) b≠none→w.heap.size≤b∧b<wB.heap.size:=fun b hb=>by
     by_cases e:b=Br.heap.size
     · subst e;omega
     · rw[Own.gQ _ e]at hb;have:=hd2 b hb;omega
    have hMB:=(jd.o.ext ((Dz.o.trans DC.o).trans Te)).relabel (fun b q hb=>JO _ _ (L8 _ _ (Ep _ _ hb))) hd3;have hCA:lF wB l p (Ig.add Br.heap.size (4,g.cs.length)) w.heap.size g.cs.length (⟨⟨⟨⟨xk,xn⟩,xa⟩,pc,lo,sk⟩,Br.heap.size,t2,(Value.slice WA lo.length y11),(Value.slice Xm sk.length y12)⟩:GC):=by
     refine⟨?_,Own.add_eq _ _ _,by show w.heap.size≤Br.heap.size;omega,?_,((Vi.ext (DC.o.trans Te)).relabel L8).relabel JO,(YF.ext Te).relabel JO⟩
     · unfold E5;simp only[HM.o];exact bB
     · simp only[HM.o];exact bQ.ext aG.stays ((Dz.o.trans DC.o).trans Te) GQ.o
    have⟨HMB,SK⟩:=aJ hMB hCA;have WH:Zs (Ext gu wB):=Z3 ((Dz.o.trans DC.o).trans Te);have agI:g.cs.length<8:=by have h1:zU.length≤8:=HR.o.good.nf;have h2:=HGL.o;omega
    clear Rs bB hMB hCA Ep Ql Vi UY L8 hd2 YF LP yD JO hd3 Te;refine az IB rfl (.tmp 46) (.tmp 63) rfl w.heap.size (.slice va g.cs.length vc) g.cs.length (g.cs.flatMap tC) rfl (by rw[←NW.o];exact HMB.o.calls.row) (Br.heap.size+1) 1 [.pointer (some ⟨Br.heap.size,0,none⟩)] rfl rfl bS Ys Wg Wg ?_;intro gg c9 Jf adS pV abT;change K2 _ _;rw[←NW.o]at pV abT;(refine kk aj ag (WH.o.any.trans pV) ?_);clear ag K2;have JL:=HMB.o.blk.kp pV XJ.o;have q3:=JL.c 3 (.slice va g.cs.length vc) (by rw[←NW.o];rfl);have f3:=JL.frozen 3;have qz:=JL.lt;have ab0:({g with cs:=g.cs++[(⟨⟨⟨⟨xk,xn⟩,xa⟩,pc,lo,sk⟩,Br.heap.size,t2,(Value.slice WA lo.length y11),(Value.slice Xm sk.length y12)⟩:GC)],vc:=.slice (some ⟨gg,0,none⟩) (g.cs.length+1) c9}:Gh).st=⟨st,zU.take (q+1),hp,outs,⟨bk,bn⟩⟩:=by
     have h1:=pM.o;simp only[Gh.st,M.St.mk.injEq]at h1 ⊢;obtain⟨e1,e2,e3,e4,e5⟩:=h1;refine⟨e1,?_,e3,e4,e5⟩;rw[List.map_append,e2,List.take_add_one,HX.o];rfl
    obtain⟨Ox,own',Fw,Ri⟩:=HMB.o.PX (⟨⟨⟨⟨xk,xn⟩,xa⟩,pc,lo,sk⟩,Br.heap.size,t2,(Value.slice WA lo.length y11),(Value.slice Xm sk.length y12)⟩:GC) SK.o gg c9 adS pV (by
     rcases abT with e|e
     · exact .inl e
     · right;omega) (by rw[ab0];exact HR.o.good.part (q+1))
    have hEF:Ext w (Jf.setCell ⟨w.heap.size+1,3,none⟩ (.slice (some ⟨gg,0,none⟩) (g.cs.length+1) c9)):=
     ((nO.o.trans WH.o).own pV (fun b e=>(HMB.o.calls.blk e).1)).own ((Kp.refl (·=w.heap.size+1) Jf).setCell (p:=⟨w.heap.size+1,3,none⟩) (fun _=>rfl) _) (fun b e=>by omega)
    have⟨HEF,af3,agf⟩:=bg hEF Ri ab0;clear Ox Fw Ri ab0 JL adS pV abT bS aj rm3 r90 r91 r92 r93 r94 r95 r70 r71 r72 r73 r74 r75 r76 r77;(refine dW ?_);go_wp2_with fail;exact⟨⟨q+1,own',_,by omega,by go_num,HEF.o,af3.o,agf.o⟩,by simp[intOf];omega⟩
  · have G7:q=zU.length:=by omega
    have HF:Zs (g.st=⟨st,zU,hp,outs,⟨bk,bn⟩⟩):=Z3 (by rw[dw,G7,List.take_length]);have⟨HE,Bh⟩:=aJ hE hM;clear hE hM dw;go_wp2_with fail;go_ret;exact⟨⟨_,own,g,rfl,Bh.o,HF.o⟩,HE.o⟩
theorem Oi:Elem 35 114 6:=iP (z:=.agg #[.int .i64 0,.string ⟨#[]⟩,.int .i64 0,.int .i64 0,.slice none 0 0,.slice none 0 0]) (bytes:=88) Tryz.underlying35 Wr rfl Wk Wk
structure GF where
 f:M.Fr
 vl:Value
 vs:Value
def Q7(x:GF):List Value:=[.int .i64 x.f.of.of.keeper,.string x.f.of.of.name,.int .i64 x.f.of.at_,.int .i64 x.f.pc,x.vl,x.vs]
structure si(w:World)(own:Own)(B:Nat)(v:Value)(fs:List GF):Prop where
 dom:∀b,own b≠none→B≤b∧b<w.heap.size
 row:hZ w own B (8,0) 114 6 v fs.length (fs.flatMap Q7)
 loc:∀j x,fs[j]?=some x→hZ w own B (9,j) 38 2 x.vl x.f.locals.length (x.f.locals.flatMap bV)
 dD:∀j x,fs[j]?=some x→hZ w own B (10,j) 38 2 x.vs x.f.stack.length (x.f.stack.flatMap bV)
theorem si.nil(w:World)(B:Nat):si w (fun _=>none) B (.slice none 0 0) []:=
 ⟨fun b h=>absurd rfl h,hZ.nil _ _ _ _ _ _,fun j o h=>by simp at h,fun j o h=>by simp at h⟩
theorem si.slice{w:World}{own:Own}{B:Nat}{v:Value}{fs:List GF}(h:si w own B v fs){I:Nat→Prop}(hI:∀b,B≤b→b<w.heap.size→I b)(hl:fs.length≤4294967296)(hf:∀x∈fs,x.f.locals.length≤4294967296∧x.f.stack.length≤4294967296):SliceOf 6 QK w I v (fs.map GF.f):=by
 have nW:∀x∈fs,SliceOf 2 kr w I x.vl x.f.locals∧SliceOf 2 kr w I x.vs x.f.stack:=fun x hx=>by
  obtain⟨j,hj,e⟩:=List.getElem_of_mem hx;have hj':fs[j]?=some x:=by rw[List.getElem?_eq_getElem hj,e]
  exact⟨SliceOf.gH bV (h.loc j x hj').row rfl rfl (fun _ _=>rfl) (fun _ _=>rfl) (fun b h1 h2=>hI b h1 h2) (hf x hx).1,
   SliceOf.gH bV (h.dD j x hj').row rfl rfl (fun _ _=>rfl) (fun _ _=>rfl) (fun b h1 h2=>hI b h1 h2) (hf x hx).2⟩
 have hs:SliceOf 6 (fun w I (x:GF) cs=>(SliceOf 2 kr w I x.vl x.f.locals∧SliceOf 2 kr w I x.vs x.f.stack)∧cs=Q7 x) w I v fs:=
  SliceOf.gH Q7 h.row.row rfl rfl (fun _ _=>rfl) (fun o ho=>⟨nW o ho,rfl⟩) (fun b h1 h2=>hI b h1 h2) hl
 obtain⟨a,c,e,h1,h2,h3⟩:=hs;refine⟨a,c,by rw[e,List.length_map],by rw[List.length_map];exact h1,by rw[List.length_map];exact h2,fun i x hx=>?_⟩;rw[List.getElem?_map]at hx;cases hi:fs[i]? with
 |none=>rw[hi]at hx;cases hx
 |some o=>
  rw[hi]at hx;cases hx;obtain⟨b,off,cs,ea,KN,⟨vC,rfl⟩,hlen,hc⟩:=h3 i o hi;exact⟨b,off,_,ea,KN,⟨o.vl,o.vs,rfl,vC.1,vC.2⟩,hlen,hc⟩
theorem si.ext{w w':World}{own:Own}{B:Nat}{v:Value}{fs:List GF}(h:si w own B v fs)(hE:Ext w w'):si w' own B v fs:=
 ⟨fun b hb=>⟨(h.dom b hb).1,Nat.lt_of_lt_of_le (h.dom b hb).2 hE.size⟩,h.row.ext hE,fun j x hx=>(h.loc j x hx).ext hE,fun j x hx=>(h.dD j x hx).ext hE⟩
theorem si.kp{D:Nat→Prop}{w w':World}{own:Own}{B:Nat}{v:Value}{fs:List GF}(h:si w own B v fs)(hk:Kp D w w')(hD:∀b,own b≠none→¬D b):si w' own B v fs:=
 ⟨fun b hb=>⟨(h.dom b hb).1,Nat.lt_of_lt_of_le (h.dom b hb).2 hk.size⟩,h.row.keep hk (iw.refl _ _) fun b hb _=>hD b (by rw[hb];simp),
  fun j o ho=>(h.loc j o ho).keep hk (iw.refl _ _) fun b hb _=>hD b (by rw[hb];simp),fun j o ho=>(h.dD j o ho).keep hk (iw.refl _ _) fun b hb _=>hD b (by rw[hb];simp)⟩
theorem aI.things{w:World}{l:aH}{p:M.ax}{own:Own}{B mb:Nat}{lk:Bool}{g:Gh}(h:aI w l p own B mb lk g):SliceOf 3 yw w (fun _=>True) g.vh g.st.heap:=by
 have hh:=M.fV.1 h.good.heap;have abV:∀o∈g.st.heap,o.fields.length≤4294967296:=fun o ho=>by
  rw[(hh.2 o ho).2.1];have h1:=nC h.dN.ok (M.chain p o.of).reverse;have h2:=M.sF p o.of;unfold M.layout;rw[if_pos (hh.2 o ho).1];rw[List.length_reverse]at h1;omega
 have nW:∀o∈g.os,SliceOf 2 kr w (fun _=>True) o.v o.o.fields:=fun o ho=>by
  obtain⟨j,hj,e⟩:=List.getElem_of_mem ho;exact SliceOf.gH bV (h.obj j o (by rw[List.getElem?_eq_getElem hj,e])).row rfl rfl (fun _ _=>rfl) (fun _ _=>rfl) (fun b h1 h2=>trivial) (abV o.o (by simp only[Gh.st];exact List.mem_map_of_mem ho))
 have hl:g.os.length≤4294967296:=by
  have:=hh.1;simp only[Gh.st,List.length_map]at this;omega
 have hs:SliceOf 3 (fun w I (x:GO) cs=>SliceOf 2 kr w I x.v x.o.fields∧cs=kV x) w (fun _=>True) g.vh g.os:=
  SliceOf.gH kV h.heap.row rfl rfl (fun _ _=>rfl) (fun o ho=>⟨nW o ho,rfl⟩) (fun b h1 h2=>trivial) hl
 obtain⟨a,c,e,h1,h2,h3⟩:=hs;refine⟨a,c,by rw[e];simp[Gh.st],by simpa [Gh.st]using h1,by simpa [Gh.st]using h2,fun i x hx=>?_⟩;simp only[Gh.st]at hx;rw[List.getElem?_map]at hx;cases hi:g.os[i]? with
 |none=>rw[hi]at hx;cases hx
 |some o=>
  rw[hi]at hx;cases hx;obtain⟨b,off,cs,ea,KN,⟨vC,rfl⟩,hlen,hc⟩:=h3 i o hi;exact⟨b,off,_,ea,trivial,⟨o.v,rfl,vC⟩,hlen,hc⟩
theorem Kp.jV{D:Nat→Prop}{w:World}{b:Nat}(hD:D b)(v0 v1 v2 v3 v4 v5:Value):Kp D w ((((((w.setCell ⟨b,0,none⟩ v0).setCell ⟨b,1,none⟩ v1).setCell ⟨b,2,none⟩ v2).setCell ⟨b,3,none⟩ v3).setCell ⟨b,4,none⟩ v4).setCell ⟨b,5,none⟩ v5):=
 (Kp.qW hD v0 v1 v2).trans ((((Kp.refl D _).setCell (p:=⟨b,3,none⟩) (fun _=>hD) v3).setCell (p:=⟨b,4,none⟩) (fun _=>hD) v4).setCell (p:=⟨b,5,none⟩) (fun _=>hD) v5)
theorem ay.jV{w:World}{b:Nat}{t:TypeId}{u0 u1 u2 u3 u4 u5:Value}(h:ay w b t #[u0,u1,u2,u3,u4,u5])(v0 v1 v2 v3 v4 v5:Value):ay ((((((w.setCell ⟨b,0,none⟩ v0).setCell ⟨b,1,none⟩ v1).setCell ⟨b,2,none⟩ v2).setCell ⟨b,3,none⟩ v3).setCell ⟨b,4,none⟩ v4).setCell ⟨b,5,none⟩ v5) b t #[v0,v1,v2,v3,v4,v5]:=
 (((((h.bE 0 v0).bE 1 v1).bE 2 v2).bE 3 v3).bE 4 v4).bE 5 v5
theorem F6(w:World)(l:aH)(p:M.ax)(own:Own)(B mb:Nat)(lk:Bool)(g:Gh)(h:aI w l p own B mb lk g):
    Calls Tryz.prog 25 #[.pointer (some ⟨mb,0,none⟩)] w fun e w'=>(∃cs,e=.returned (.agg cs.toArray)∧dU w' (fun b=>w.heap.size≤b) g.st cs)∧Ext w w':=by
 obtain⟨w1,jX,bH,b2⟩:=nu w #[.int .i64 0,.slice none 0 0,.slice none 0 0,.slice none 0 0,.int .i64 0,.int .i64 0] 40;have Db:w1.heap.size=w.heap.size+1:=by rw[jX];simp
 obtain⟨ca,cc,JQ⟩:=h.calls.form;obtain⟨ha,hc,hvh⟩:=h.heap.form;obtain⟨oa,oc,tQ⟩:=h.outs.form;have Hx:=h.blk.lt;have JG:=h.ext bH;obtain⟨T,f,dA,HT⟩:=iN.ex (fun W'=>Ext w1 W') _ Kp.rr;have r2:=fun z=>(JG.blk.ext (HT.aW z)).c 2 (.int .i64 g.status) rfl;have r4:=fun z=>(JG.blk.ext (HT.aW z)).c 4 (.slice ha g.os.length hc) (by rw[←hvh];rfl);have r5:=fun z=>(JG.blk.ext (HT.aW z)).c 5 (.slice oa g.outs.length oc) (by rw[←tQ];rfl);obtain⟨-, -, -, -, -, -, -,r6,r7, -⟩:=ay.kY fun z=>(JG.blk.ext (HT.aW z));have⟨aj,H,KH,mQ,eQ,NW,HVH,TQ,BB⟩:=LX HT h JG b2 bH JQ hvh tQ jX;clear HT h JG b2 bH JQ hvh tQ jX;go_enter Tryz.func25,Tryz.ntmps25;go_wp2_with fail;rw[←BB.o];rename_i K hK;have En:g.st.heap.length≤12:=(M.fV.1 H.o.good.heap).1;have hol:g.outs.length≤40:=H.o.good.outs;have zA:g.cs.length≤8:=by have:=H.o.good.nf;simpa [Gh.st]using this
 have hcv : ∀ b, g.vc.ownBlock = some b → b < w.heap.size := fun b e => (H.o.calls.blk e).2; have tail : ∀ (b3 ch co : Nat) (ah ao : Option Addr) (gq : Own) (os : List GO) (w3 : World), Ext w1 w3 → os.map GO.o = g.st.heap → mq w3 gq w1.heap.size (.slice ah os.length ch) os →
     w3.ownsRow w1.heap.size 3 1 (.slice ao g.outs.length co) g.outs.length (g.outs.flatMap sU)→ay w3 b3 40 #[.int .i64 g.status,.slice none 0 0,.slice ah os.length ch,.slice ao g.outs.length co,.int .i64 g.back.kind,.int .i64 g.back.n]→w1.heap.size≤b3→gq b3=none→(Value.slice ao g.outs.length co).ownBlock≠some b3→
     K {tmps:=#[.pointer (some ⟨mb,0,none⟩),undef,.pointer (some ⟨w.heap.size,0,none⟩),.pointer (some ⟨b3,0,none⟩),undef,undef,.pointer (some ⟨mb,0,none⟩),.pointer (some ⟨mb,0,none⟩),.pointer (some ⟨mb,2,none⟩),.int .i64 g.status,.pointer (some ⟨mb,0,none⟩),.pointer (some ⟨mb,0,none⟩),.pointer (some ⟨mb,4,none⟩),.slice ha g.os.length hc,.slice ah os.length ch,.pointer (some ⟨mb,0,none⟩),.pointer (some ⟨mb,0,none⟩),.pointer (some ⟨mb,5,none⟩),.slice oa g.outs.length oc,.slice ao g.outs.length co,.pointer (some ⟨mb,0,none⟩),.pointer (some ⟨mb,0,none⟩),.pointer (some ⟨mb,6,none⟩),.agg #[.int .i64 g.back.kind,.int .i64 g.back.n],.agg #[.int .i64 g.status,.slice none 0 0,.slice ah os.length ch,.slice ao g.outs.length co,.int .i64 g.back.kind,.int .i64 g.back.n],undef,undef,undef,undef,undef,undef,undef,undef,undef,undef,undef,undef,undef,undef,undef,undef,undef,undef,undef,undef,undef,undef,undef,undef,undef,undef,undef,undef,undef,undef,undef,undef,undef,undef,undef,undef],defers:=[]} w3:=by
  intro b3 ch co ah ao gq os w3 dK OJ hO tQ Hp IM mR yD;refine hK _ _ ?_;clear hK aj r2 r4 r5 r6 r7;have m3:=(KH.o.ext dK).blk.c 3 (.slice ca g.cs.length cc) (by rw[←NW.o];rfl);have mz:=(KH.o.ext dK).blk.lt;have⟨jc,xK,HO,SV,gN,KI,QP⟩:=pX dK OJ hO tQ Hp mR yD;have KQ:=dK.size;have adW:=Hp.lt;clear dK OJ hO tQ Hp mR yD;go_wp2_with fail;clear m3 mz;go_loopw [30] (fun i wr=>∃(q:Nat) (Ig:Own) (fs:List GF) (vf:Value),q≤g.cs.length∧i=.int .i64 q∧Kp (·=b3) w3 wr∧ay wr b3 40 #[.int .i64 g.status,vf,.slice ah os.length ch,.slice ao g.outs.length co,.int .i64 g.back.kind,.int .i64 g.back.n]∧si wr Ig w3.heap.size vf fs∧Zs (fs.map GF.f=(g.cs.map GC.f).take q)) (fun i _=>g.cs.length - (intOf i).toNat)
  case atStart=>exact⟨0,_,[],.slice none 0 0,Nat.zero_le _,rfl,Kp.rr,gN.o,si.nil _ _,Z3 Wf⟩
  case round =>
   obtain⟨q,Ig,fs,vf,hq,rfl,GX,hB,hF,HFS⟩:=hrel;obtain⟨va,vc,rfl⟩:=hF.row.form;have hfq:fs.length=q:=by
    have:=congrArg List.length HFS.o;simpa [Nat.min_eq_left hq]using this
   have UI:Ext w wr:=(eQ.o.trans jc.o).own GX (fun b e=>by omega);have Tp:=GX.size;by_cases bY:q<g.cs.length
   · obtain⟨c,ND⟩:=iT g.cs q bY;have hM:=H.o.ext UI;have hC:=hM.call q c ND;have Qs:=hM.calls.row;rw[NW.o]at Qs;obtain⟨gb,cc',e, -,hgl, -⟩:=cB Qs Wg;cases e;have g0:=(fC (enc:=tC) (k:=1) (fun _=>rfl) Qs ND).one;rw[Nat.mul_one]at g0;obtain⟨la,lc,C9⟩:=hC.loc.form;obtain⟨sa,sc,Vr⟩:=hC.dD.form;have hcb:c.cb<w.heap.size:=(H.o.call q c ND).blk.lt;have hlw:w3.heap.size≤wr.heap.size:=Tp;have G9:∀b,b<w3.heap.size→¬(Value.slice va fs.length vc).ownBlock=some b:=fun b hb e=>by have:=(hF.row.blk e).1;omega
     obtain⟨T,f,dA,HT⟩:=iN.ex (fun W'=>Kp (fun b=>(Value.slice va fs.length vc).ownBlock=some b) wr W') _ Kp.rr;have rb1:=fun z=>(hB.kp (HT.aW z) (G9 _ adW)).c 1 (.slice va fs.length vc) rfl;have abQ:c.cb<w3.heap.size:=by omega
     obtain⟨-,k0,k1,k2, -, -, -, -, -, -, -, -,k11, -⟩:=ay.kY fun z=>(hC.blk.kp (HT.aW z) (G9 _ abQ));have k12:=fun z=>(hC.blk.kp (HT.aW z) (G9 _ abQ)).c 12 (.slice la c.f.locals.length lc) (by rw[←C9];rfl);have k13:=fun z=>(hC.blk.kp (HT.aW z) (G9 _ abQ)).c 13 (.slice sa c.f.stack.length sc) (by rw[←Vr];rfl);have G5:=M.aM.1 (H.o.good.frames c.f (by simp only[Gh.st];exact List.mem_map_of_mem (List.mem_of_getElem? ND)));have Bp:=M.pG (M.ji H.o.dN.ok G5.1).1;have hll:c.f.locals.length≤1000:=by have:=Bp.locals;have:=G5.2.2.2.1;omega
     have vC:c.f.stack.length≤1000:=by have:=Bp.stack;have:=G5.2.2.2.2.1;omega
     have rY:Zs (Flat wr 2 (.slice la c.f.locals.length lc) c.f.locals.length (c.f.locals.flatMap bV)):=Z3 (by rw[←C9];exact oF hC.loc.row (kR uN _));have afR:Zs (SliceOf 2 kr wr (fun _=>True) (.slice sa c.f.stack.length sc) c.f.stack):=Z3 (by rw[←Vr];exact SliceOf.gH bV hC.dD.row rfl rfl (fun _ _=>rfl) (fun _ _=>rfl) (fun b h1 h2=>trivial) Wg);have afO:Zs (SliceOf 2 kr wr (fun _=>True) (.slice la c.f.locals.length lc) c.f.locals):=Z3 (by rw[←C9];exact SliceOf.gH bV hC.loc.row rfl rfl (fun _ _=>rfl) (fun _ _=>rfl) (fun b h1 h2=>trivial) Wg);have⟨aj,HCQ,XJ,HB,HF,HKR,HFQ⟩:=pX HT ND G9 hB hF GX hfq;have aie:(fs.length:Int)=q:=by omega
     clear HT ND G9 hB hF GX hfq C9 Vr hC hM UI G5 Bp Qs;go_wp2_with fail;clear g0;(refine eO aj 24 [([0,1,2,3,4,5,6,7,8,9,10,11,12,13,15,16,17,18,19],14),([],20),([21],22),([],23)] [] ?_ ?_)
     · exact Kp.rr.drew
     refine iX ?_;intro K2 ag;go_wp2_with fail;refine(qo _ _ _ _ ((afO.o.ext kr.stays Kp.rr.drew).vals) Wg).mono ?_;rintro e w6 ⟨⟨v6,rfl,FH⟩,dC⟩;obtain⟨x6,y6,rfl⟩:=bO FH;have kH:Zs (Ext wr w6):=Z3 (((Kp.refl _ wr).drew:Ext wr _).trans dC);have Ee:Zs (w6.ownsRow wr.heap.size 38 2 (.slice x6 c.f.locals.length y6) c.f.locals.length (c.f.locals.flatMap bV)):=Z3 FH;clear dC FH;go_wp2_with fail;(refine kk aj ag kH.o.any ?_);clear ag K2;(refine gZ rfl fun K2 ag=>?_);go_wp2_with fail;refine(qo _ _ _ _ ((afR.o.ext kr.stays kH.o).vals) Wg).mono ?_;rintro e w7 ⟨⟨v7,rfl,FI⟩,r9⟩;obtain⟨x7,y7,rfl⟩:=bO FI;have⟨DD,HR7⟩:=aJ r9 FI;clear r9 FI;go_wp2_with fail;(refine kk aj ag (kH.o.trans DD.o).any ?_);clear ag K2;refine iX ?_;intro K2 ag;go_wp2_with fail;(refine kk aj ag ((kH.o.trans DD.o).alloc _).any ?_);clear ag K2;(refine gZ rfl fun K2 ag=>?_);have Xj:=kH.o.size;have hz7:=DD.o.size;obtain⟨ab5,JO,hd3,hr3,Xc, -⟩:=Own.more HF.o.dom Ee.o kH.o.size hlw (9,fs.length);obtain⟨ab6,hs4,hd4,hr4,ha4, -⟩:=Own.more hd3 HR7.o DD.o.size Wg (10,fs.length);have WT:=HF.o.ext (kH.o.trans DD.o);have hrl:∀b r,Ig b=some r→ab6 b=some r:=fun b r h=>hs4 _ _ (JO _ _ h);have C8:=WT.row.relabel hrl;have lK:Ext w7 (w7.alloc (.cells #[.int .i64 c.f.of.of.keeper,.string c.f.of.of.name,.int .i64 c.f.of.at_,.int .i64 c.f.pc,.slice x6 c.f.locals.length y6,.slice x7 c.f.stack.length y7] 114)):=kx;refine az Oi rfl (.tmp 35) (.tmp 56) rfl w3.heap.size (.slice va fs.length vc) fs.length (fs.flatMap Q7) rfl ((C8.ext lK).row) w7.heap.size 1 (Q7 (⟨c.f,.slice x6 c.f.locals.length y6,.slice x7 c.f.stack.length y7⟩:GF)) rfl rfl (ae.fB _ _ rfl) (by simp[Q7,Value.oneCell']) Wg X2 ?_;intro g9 c9 w9 pO qK wW;change K2 _ _;have JF:Kp (fun b=>(Value.slice va fs.length vc).ownBlock=some b) w7 w9:=lK.any.trans qK;(refine kk aj ag ((kH.o.trans DD.o).any.trans JF) ?_);clear ag K2;obtain⟨hr9,ha9,hd9,hq9⟩:=hZ.app C8 hd4 pO JF (wW.imp id fun e=>by simp at e;omega);have LZ:si w9 (ab6.add g9 (8,0)) w3.heap.size (.slice (some ⟨g9,0,none⟩) (fs.length+1) c9) (fs++[(⟨c.f,.slice x6 c.f.locals.length y6,.slice x7 c.f.stack.length y7⟩:GF)]):=by
      refine⟨hd9,by simpa using hr9,fun j o ho=>?_,fun j o ho=>?_⟩
      all_goals
       rcases Nat.lt_trichotomy j fs.length with hj|hj|hj
      · rw[List.getElem?_append_left hj]at ho;exact C8.beside ((WT.loc j o ho).relabel hrl) JF ha9 Wf
      · subst hj;simp at ho;subst ho;exact C8.beside ((hr3.ext DD.o).relabel hs4) JF ha9 Wf
      · rw[List.getElem?_eq_none X2]at ho;cases ho
      · rw[List.getElem?_append_left hj]at ho;exact C8.beside ((WT.dD j o ho).relabel hrl) JF ha9 Wf
      · subst hj;simp at ho;subst ho;exact C8.beside hr4 JF ha9 Wf
      · rw[List.getElem?_eq_none X2]at ho;cases ho
     have adL:Kp (·=b3) w3 w9:=(HKR.o.trans (kH.o.trans DD.o).any).own JF (fun b e=>(C8.blk e).1);have vQ:=(HB.o.ext (kH.o.trans DD.o)).kp JF (XJ.o _ adW);obtain⟨qz, -,q1, -⟩:=vQ.ca;have f1:=vQ.frozen 1;obtain⟨gu,uF⟩:∃gu,gu=w9.setCell ⟨b3,1,none⟩ (.slice (some ⟨g9,0,none⟩) (fs.length+1) c9):=⟨_,rfl⟩;have lh:Kp (·=b3) w9 gu:=by rw[uF];exact(Kp.refl (·=b3) w9).setCell (p:=⟨b3,1,none⟩) (fun _=>rfl) _
     have Uw:ay gu b3 40 #[.int .i64 g.status,.slice (some ⟨g9,0,none⟩) (fs.length+1) c9,.slice ah os.length ch,.slice ao g.outs.length co,.int .i64 g.back.kind,.int .i64 g.back.n]:=by rw[uF];exact vQ.bE 1 _
     have adJ:=LZ.kp lh (fun b hb e=>by have:=(LZ.dom b hb).1;omega);have⟨Jo,Le⟩:=aJ (And.intro (adL.trans lh) (And.intro Uw adJ)) uF;clear JO hd3 hr3 Xc hs4 hd4 hr4 ha4 WT hrl C8 lK pO qK wW JF hr9 ha9 hd9 hq9 LZ adL vQ uF lh Uw adJ aj rb1 k0 k1 k2 k11 k12 k13;(refine dW ?_);go_wp2_with fail;rw[←Le.o];refine⟨⟨q+1,ab6.add g9 (8,0),fs++[(⟨c.f,.slice x6 c.f.locals.length y6,.slice x7 c.f.stack.length y7⟩:GF)],.slice (some ⟨g9,0,none⟩) (fs.length+1) c9,by omega,by go_num,Jo.o.1,Jo.o.2.1,Jo.o.2.2,Z3 ?_⟩,by simp[intOf];omega⟩;rw[List.map_append,HFS.o,List.take_add_one,List.getElem?_map,HCQ.o];rfl
   · have G7:q=g.cs.length:=by omega
     have Yu:fs.map GF.f=g.st.frames:=by
      rw[HFS.o,G7];exact List.take_of_length_le Wf
     obtain⟨yz,y0,y1,y2,y3,y4,y5, -⟩:=hB.ca;have nM:=(mQ.o.ext jc.o).kp GX Wg;obtain⟨zz,z0,z1,z2,z3,z4,z5, -⟩:=nM.ca;obtain⟨QH,QI,SG,SH,zf4,zf5, -⟩:=nM.fz;obtain⟨gu,uF⟩:∃gu,gu=(((((wr.setCell ⟨w.heap.size,0,none⟩ (.int .i64 g.status)).setCell ⟨w.heap.size,1,none⟩ (.slice va fs.length vc)).setCell ⟨w.heap.size,2,none⟩ (.slice ah os.length ch)).setCell ⟨w.heap.size,3,none⟩ (.slice ao g.outs.length co)).setCell ⟨w.heap.size,4,none⟩ (.int .i64 g.back.kind)).setCell ⟨w.heap.size,5,none⟩ (.int .i64 g.back.n):=⟨_,rfl⟩;have lh:Kp (·=w.heap.size) wr gu:=by rw[uF];exact Kp.jV (D:=(·=w.heap.size)) rfl _ _ _ _ _ _
     have Uw:ay gu w.heap.size 40 #[.int .i64 g.status,.slice va fs.length vc,.slice ah os.length ch,.slice ao g.outs.length co,.int .i64 g.back.kind,.int .i64 g.back.n]:=by rw[uF];exact nM.jV _ _ _ _ _ _
     have kK:Ext w gu:=UI.own lh (fun b e=>by omega);have DU:∀b,w1.heap.size≤b→b<gu.heap.size→w.heap.size≤b:=fun b hb _=>by omega
     have aec:∀b,w3.heap.size≤b→b<gu.heap.size→w.heap.size≤b:=fun b hb _=>by omega
     have hS:dU gu (fun b=>w.heap.size≤b) g.st [.int .i64 g.status,.slice va fs.length vc,.slice ah os.length ch,.slice ao g.outs.length co,.int .i64 g.back.kind,.int .i64 g.back.n]:=by
      have lX:=(hF.kp lh (fun b hb e=>by have:=(hF.dom b hb).1;omega)).slice aec Wg (fun x hx=>by
       have Me:x.f∈g.st.frames:=by rw[←Yu];exact List.mem_map_of_mem hx
       have G5:=M.aM.1 (H.o.good.frames x.f Me);have Bp:=M.pG (M.ji H.o.dN.ok G5.1).1;have:=Bp.locals;have:=G5.2.2.2.1;have:=Bp.stack;have:=G5.2.2.2.2.1;omega)
      have ait:os.length=g.st.heap.length:=by rw[←xK.o,List.length_map]
      have hhp:=((HO.o.kp GX (fun b hb e=>by subst e;exact hb KI.o)).kp lh (fun b hb e=>by have:=(HO.o.dom b hb).1;omega)).slice DU Wg (fun x hx=>by
       have Me:x.o∈g.st.heap:=by rw[←xK.o];exact List.mem_map_of_mem hx
       have hh:=(M.fV.1 H.o.good.heap).2 x.o Me;rw[hh.2.1];have h1:=nC H.o.dN.ok (M.chain p x.o.of).reverse;have h2:=M.sF p x.o.of;unfold M.layout;rw[if_pos hh.1];rw[List.length_reverse]at h1;omega)
      have hou:=aA (aA SV.o GX (fun b hb _ e=>QP.o (by rw[hb,e]))) lh (fun b hb h1 e=>by omega);rw[Yu]at lX;rw[xK.o]at hhp;exact⟨_,_,_,rfl,lX,hhp,SliceOf.gH sU hou rfl rfl (fun _ _=>rfl) (fun _ _=>rfl) DU (by show g.outs.length≤_;omega)⟩
     have⟨HS,nO,Bt,Le⟩:=gD hS kK Uw uF;clear hS kK Uw uF lh nM DU aec hF GX hB Yu HFS G7 hfq;go_wp2_with fail;rw[←Le.o];refine bodyPost_ret (aY fG rfl _ _ w.heap.size rfl [.int .i64 g.status,.slice va fs.length vc,.slice ah os.length ch,.slice ao g.outs.length co,.int .i64 g.back.kind,.int .i64 g.back.n] (ae.gM Bt.o) rfl) rfl ?_;exact⟨⟨_,rfl,HS.o⟩,nO.o⟩
 have TAIL:=Z3 tail;clear tail hK;(refine lN aj 20 (.two [0,1,2,3,4,5,6,7,9,10,11,12,14,15,16,17] 8 19 (.two [] 13 19 (.one [18] 19 (.fin [])) (.one [] 13 (.fin [18]))) (.one [] 8 (.one [] 13 (.fin [18])))) ?_ ?_)
 · exact Kp.rr.drew
 (refine two [_,_,_,_,_,_,_,_,_,_,_,_,_,_,_,_] rfl rfl rfl fun K hK=>?_);(repeat (go_big_quiet_step (fail)));((refine Gj hK (fun K2 ag=>?_) fun K2 ag=>?_)<;>clear hK K)
 · go_wp2_with fail;refine(BM _ (fun _=>True) _ g.st.heap (by rw[←HVH.o];exact(KH.o.ext Kp.rr.drew).things) En).mono ?_;rintro e w4 ⟨⟨v4,gq,os,rfl,OJ,hO⟩,dI⟩;obtain⟨ah,ch,rfl⟩:=hO.row.form;have iG:Zs (Ext w1 w4):=Z3 (((Kp.refl _ w1).drew:Ext w1 _).trans dI);have⟨HO,xK⟩:=aJ hO OJ;have Xi:=iG.o.size;clear dI hO OJ;go_wp2_with fail;(refine kk aj ag iG.o ?_);clear ag K2;(refine vW rfl rfl (fun K2 ag=>?_) fun K2 ag=>?_)
   · go_wp2_with fail;refine(xO _ _ _ _ (by rw[←TQ.o];exact oF (KH.o.ext iG.o).outs.row (kR Ev _)) Wg).mono ?_;rintro e w5 ⟨⟨v5,rfl,tQ⟩,cZ⟩;obtain⟨ao,co,rfl⟩:=bO tQ;have⟨gy,SV⟩:=aJ cZ tQ;have Vt:=cZ.size;clear cZ tQ;go_wp2_with fail;(refine kk aj ag (iG.o.trans gy.o) ?_);clear ag K2;refine Ey ?_;intro K2 ag;go_wp2_with fail;(refine kk aj ag ((iG.o.trans gy.o).alloc _) ?_);clear ag K2;clear aj r2 r4 r5 r6 r7;(refine bU ?_);go_wp2_with fail;have hEn:∀X,Ext w5 (w5.alloc X):=fun X=>Kp.rr.alloc _;refine TAIL.o w5.heap.size ch co ah ao gq os _ ((iG.o.trans gy.o).alloc _) xK.o (HO.o.kp (D:=fun _=>False) (gy.o.trans (hEn _)) fun _ _ x=>x) (fI (aA (D:=fun _=>False) SV.o (hEn _) fun _ _ _ x=>x) Xi) (ay.new _ _ _) Wg ?_ ?_
     · cases e:gq w5.heap.size with
       |none=>rfl
       |some r=>have:=(HO.o.dom _ (by rw[e];simp)).2;omega
     · intro e;have:=(SV.o.lt _ e).2;omega
   · go_wp2_with fail;(refine kk aj ag (iG.o.alloc _) ?_);clear ag K2;obtain⟨w6,nS,dC,b6⟩:=nu w4 #[.int .i64 0,.slice none 0 0,.slice none 0 0,.slice none 0 0,.int .i64 0,.int .i64 0] 40;have⟨kH,dL,CK⟩:=bg dC b6 nS;have Xj:w6.heap.size=w4.heap.size+1:=by rw[nS];simp
     clear dC b6 nS;(refine aX rfl fun K2 ag=>?_);go_wp2_with fail;rw[←CK.o];refine(xO _ _ _ _ (by rw[←TQ.o];exact oF (KH.o.ext (iG.o.trans kH.o)).outs.row (kR Ev _)) Wg).mono ?_;rintro e w5 ⟨⟨v5,rfl,tQ⟩,cZ⟩;obtain⟨ao,co,rfl⟩:=bO tQ;have wh:=dL.o.ext cZ;obtain⟨yz,y0,y1,y2,y3,y4,y5, -⟩:=wh.ca;obtain⟨f0,f1,f2,f3,f4,f5, -⟩:=wh.fz;obtain⟨w9,jK⟩:∃w9,w9=(((((w5.setCell ⟨w4.heap.size,0,none⟩ (.int .i64 g.status)).setCell ⟨w4.heap.size,1,none⟩ (.slice none 0 0)).setCell ⟨w4.heap.size,2,none⟩ (.slice ah os.length ch)).setCell ⟨w4.heap.size,3,none⟩ (.slice ao g.outs.length co)).setCell ⟨w4.heap.size,4,none⟩ (.int .i64 g.back.kind)).setCell ⟨w4.heap.size,5,none⟩ (.int .i64 g.back.n):=⟨_,rfl⟩;have fM:Kp (·=w4.heap.size) w5 w9:=by rw[jK];exact Kp.jV (D:=(·=w4.heap.size)) rfl _ _ _ _ _ _
     have b9:ay w9 w4.heap.size 40 #[.int .i64 g.status,.slice none 0 0,.slice ah os.length ch,.slice ao g.outs.length co,.int .i64 g.back.kind,.int .i64 g.back.n]:=by rw[jK];exact wh.jV _ _ _ _ _ _
     have⟨gy,SV,vM,zR,QV⟩:=kL cZ tQ fM b9 jK;have Vt:=cZ.size;clear cZ tQ fM b9 jK wh;go_wp2_with fail;(refine kk aj ag ((iG.o.trans kH.o).trans gy.o) ?_);clear ag K2;clear aj r2 r4 r5 r6 r7;(refine Du [_] rfl fun K hK=>?_);(repeat (go_big_quiet_step (fail)));(refine qn hK ?_);clear hK K;go_wp2_with fail;rw[←QV.o];refine TAIL.o w4.heap.size ch co ah ao gq os _ (((iG.o.trans kH.o).trans gy.o).own vM.o (fun b e=>by omega)) xK.o ((HO.o.kp (D:=fun _=>False) (kH.o.trans gy.o) fun _ _ x=>x).kp vM.o (fun b hb e=>by have:=(HO.o.dom b hb).2;omega)) (fI (aA SV.o vM.o fun b hb h1 e=>by have:=(SV.o.lt b hb).1;omega) Wg) zR.o Wg ?_ ?_
     · cases e:gq w4.heap.size with
       |none=>rfl
       |some r=>have:=(HO.o.dom _ (by rw[e];simp)).2;omega
     · intro e;have:=(SV.o.lt _ e).1;omega
 · go_wp2_with fail;(refine kk aj ag (((Kp.refl _ w1).drew).alloc _) ?_);clear ag K2;obtain⟨w6,nS⟩:∃w6,w6=(w1.alloc (.cells #[.int .i64 0,.slice none 0 0,.slice none 0 0,.slice none 0 0,.int .i64 0,.int .i64 0] 40)).drew:=⟨_,rfl⟩;have dC:Ext w1 w6:=by rw[nS];exact kx
   have b6:ay w6 (w.heap.size+1) 40 #[.int .i64 0,.slice none 0 0,.slice none 0 0,.slice none 0 0,.int .i64 0,.int .i64 0]:=by rw[nS];exact(ay.newAt _ _ Db).ext Kp.rr.drew
   have⟨kH,dL,CK⟩:=bg dC b6 nS;have Xj:w6.heap.size=w1.heap.size+1:=by rw[nS];simp
   clear dC b6 nS;(refine aX rfl fun K2 ag=>?_);go_wp2_with fail;rw[←CK.o];refine(BM _ (fun _=>True) _ g.st.heap (by rw[←HVH.o];exact(KH.o.ext kH.o).things) En).mono ?_;rintro e w4 ⟨⟨v4,gq,os,rfl,OJ,hO⟩,dI⟩;obtain⟨ah,ch,rfl⟩:=hO.row.form;have iG:Zs (Ext w1 w4):=Z3 (kH.o.trans dI);have⟨afJ,HO,xK⟩:=bg dI hO OJ;have Xi:=dI.size;clear dI hO OJ;go_wp2_with fail;(refine kk aj ag iG.o ?_);clear ag K2
   · (refine aX rfl fun K2 ag=>?_);go_wp2_with fail;refine(xO _ _ _ _ (by rw[←TQ.o];exact oF (KH.o.ext iG.o).outs.row (kR Ev _)) Wg).mono ?_;rintro e w5 ⟨⟨v5,rfl,tQ⟩,cZ⟩;obtain⟨ao,co,rfl⟩:=bO tQ;have wh:=(dL.o.ext afJ.o).ext cZ;obtain⟨yz,y0,y1,y2,y3,y4,y5, -⟩:=wh.ca;obtain⟨f0,f1,f2,f3,f4,f5, -⟩:=wh.fz;obtain⟨w9,jK⟩:∃w9,w9=(((((w5.setCell ⟨w.heap.size+1,0,none⟩ (.int .i64 g.status)).setCell ⟨w.heap.size+1,1,none⟩ (.slice none 0 0)).setCell ⟨w.heap.size+1,2,none⟩ (.slice ah os.length ch)).setCell ⟨w.heap.size+1,3,none⟩ (.slice ao g.outs.length co)).setCell ⟨w.heap.size+1,4,none⟩ (.int .i64 g.back.kind)).setCell ⟨w.heap.size+1,5,none⟩ (.int .i64 g.back.n):=⟨_,rfl⟩;have fM:Kp (·=w.heap.size+1) w5 w9:=by rw[jK];exact Kp.jV (D:=(·=w.heap.size+1)) rfl _ _ _ _ _ _
     have b9:ay w9 (w.heap.size+1) 40 #[.int .i64 g.status,.slice none 0 0,.slice ah os.length ch,.slice ao g.outs.length co,.int .i64 g.back.kind,.int .i64 g.back.n]:=by rw[jK];exact wh.jV _ _ _ _ _ _
     have⟨gy,SV,vM,zR,QV⟩:=kL cZ tQ fM b9 jK;have Vt:=cZ.size;clear cZ tQ fM b9 jK wh;go_wp2_with fail;(refine kk aj ag (iG.o.trans gy.o) ?_);clear ag K2;clear aj r2 r4 r5 r6 r7;(refine Du [_] rfl fun K hK=>?_);(repeat (go_big_quiet_step (fail)));(refine qn hK ?_);clear hK K;go_wp2_with fail;rw[←QV.o];refine TAIL.o (w.heap.size+1) ch co ah ao gq os _ ((iG.o.trans gy.o).own vM.o (fun b e=>by omega)) xK.o (((HO.o.kp (D:=fun _=>False) gy.o fun _ _ x=>x).kp vM.o (fun b hb e=>by have:=(HO.o.dom b hb).1;omega)).mono Wg) (fI (aA SV.o vM.o fun b hb h1 e=>by have:=(SV.o.lt b hb).1;omega) Wg) zR.o Wg ?_ ?_
     · cases e:gq (w.heap.size+1)with
       |none=>rfl
       |some r=>have:=(HO.o.dom _ (by rw[e];simp)).1;omega
     · intro e;have:=(SV.o.lt _ e).1;omega
theorem Kp.own'{D D':Nat→Prop}{w a b:World}(h:Kp D w a)(hk:Kp D' a b)(hD:∀k,D' k→D k∨w.heap.size≤k):Kp D w b:=
 ⟨hk.os.trans h.os,hk.tape.trans h.tape,hk.output.trans h.output,Nat.le_trans h.size hk.size,
  fun k BZ hd=>(hk.block k (Nat.lt_of_lt_of_le BZ h.size) (fun x=>(hD k x).elim hd fun y=>absurd y (Nat.not_le.2 BZ))).trans (h.block k BZ hd)⟩
theorem xX(w:World)(I:Nat→Prop):dU w I M.ky [.int .i64 4,.slice none 0 0,.slice none 0 0,.slice none 0 0,.int .i64 0,.int .i64 0]:=
 ⟨_,_,_,rfl,SliceOf.nil _ _ _ _,SliceOf.nil _ _ _ _,SliceOf.nil _ _ _ _⟩
theorem M.Good.empty{p:M.ax}:M.Good p ⟨1,[],[],[],M.eU⟩:=⟨by simp[M.jI],by simp,by simp,by simp,by simp,by simp[M.bD,M.eU]⟩
theorem Mo(w:World)(l:aH)(p:M.ax)(h:aC w l p)(lk:Bool)(KL:Zs (lk=true→wJ))(k:Int)(n m:ByteArray)(args:List Int)(va:Option Addr)(ac:Nat)(vB:SliceOf 1 jQ w (· <l.O) (.slice va args.length ac) args)(aes:args.all M.iH=true):
    Calls Tryz.prog 21 #[.pointer (some ⟨l.L,0,none⟩),.bool lk,.int .i64 k,.string n,.string m,.slice va args.length ac] w fun e w'=>
     (∃cs,e=.returned (.agg cs.toArray)∧dU w' (fun b=>w.heap.size≤b) (M.start p lk k n m args) cs)∧Kp (·=l.D) w w':=by
 obtain⟨w1,jX,bH,b12⟩:=nu w #[.int .i64 0,.slice none 0 0,.slice none 0 0,.slice none 0 0,.int .i64 0,.int .i64 0] 40;have Db:w1.heap.size=w.heap.size+1:=by rw[jX];simp
 have KM:=h.Hl;have CV:=h.lt;have Aw:=h.ord;obtain⟨F,hF⟩:∃F,M.find p k n=F:=⟨_,rfl⟩;obtain⟨⟨fk,fn⟩,cd⟩:=F;have IQ:=jR w1 l p (h.ext bH) k n;rw[hF]at IQ
 have HV : Zs (M.start p lk k n m args = if cd = 1 ∧ M.bu p ⟨fk, fn⟩ = true then
     (if(M.call p k n m).2=1∧M.kg (M.method p (M.call p k n m).1) args=true then
      M.end_ (M.enter p lk (M.call p k n m).1 (⟨2,0⟩::args.map M.gF) ⟨1,[],[M.fresh p ⟨fk,fn⟩],[],M.eU⟩).1 (M.enter p lk (M.call p k n m).1 (⟨2,0⟩::args.map M.gF) ⟨1,[],[M.fresh p ⟨fk,fn⟩],[],M.eU⟩).2
     else M.ky)else M.ky):=Z3 (by unfold M.start;rw[hF])
 have hla:args.length≤4294967296:=by obtain⟨_,_,e,_,h4⟩:=vB.form;exact h4
 have He:Zs (LC l p w w1):=Z3 ((LC.refl h).ext bH);have⟨HFI,aaH,BB,WE,af5⟩:=kL IQ b12 jX vB aes;clear h bH b12 jX hF IQ vB aes;go_enter Tryz.func21,Tryz.ntmps21;go_wp2_with fail;rw[←BB.o];refine HFI.o.mono ?_;rintro e w2 ⟨rfl,bZ⟩;have NI:=bZ.size;obtain⟨w3,jD,dK,b13⟩:=nu w2 #[.int .i64 fk,.string fn] 70;have KQ:w3.heap.size=w2.heap.size+1:=by rw[jD];simp
 have jJ:=aaH.o.ext bZ;have Dy:=Z3 jJ;have HKZ:Zs (Kp (·=l.D) w w2):=Z3 (He.o.kp.trans bZ.any);have zY:Zs (LC l p w w3):=Z3 (He.o.ext (bZ.trans dK));have⟨Zh,Xq,mV⟩:=bg (jJ.ext dK) b13 jD;clear bZ dK b13 jD HFI;by_cases hcd:cd=1;rotate_left
 · have aia:(cd !=1)=true:=bne_iff_ne.2 hcd;replace HV:Zs (M.start p lk k n m args=M.ky):=Z3 (by rw[HV.o,if_neg (fun e=>hcd e.1)]);clear hcd;obtain⟨yz,y0,y1,y2,y3,y4,y5, -⟩:=jJ.ca;obtain⟨f0,f1,f2,f3,f4,f5, -⟩:=jJ.fz;clear jJ;go_wp2_with fail;obtain⟨w9,jK⟩:∃w9,w9=(((((w2.setCell ⟨w.heap.size,0,none⟩ (.int .i64 4)).setCell ⟨w.heap.size,1,none⟩ (.slice none 0 0)).setCell ⟨w.heap.size,2,none⟩ (.slice none 0 0)).setCell ⟨w.heap.size,3,none⟩ (.slice none 0 0)).setCell ⟨w.heap.size,4,none⟩ (.int .i64 0)).setCell ⟨w.heap.size,5,none⟩ (.int .i64 0):=⟨_,rfl⟩;have fM:Kp (·=w.heap.size) w2 w9:=by rw[jK];exact Kp.jV (D:=(·=w.heap.size)) rfl _ _ _ _ _ _
   have vQ:ay w9 w.heap.size 40 #[.int .i64 4,.slice none 0 0,.slice none 0 0,.slice none 0 0,.int .i64 0,.int .i64 0]:=by rw[jK];exact Dy.o.jV _ _ _ _ _ _
   rw[←jK];refine bodyPost_ret (aY fG rfl _ _ w.heap.size rfl [.int .i64 4,.slice none 0 0,.slice none 0 0,.slice none 0 0,.int .i64 0,.int .i64 0] (ae.gM (vQ.ext (Kp.rr.alloc _))) rfl) rfl ?_;rw[HV.o];exact⟨⟨_,rfl,xX _ _⟩,(HKZ.o.own fM (fun b e=>by omega)).alloc _⟩
 subst hcd;clear jJ;replace HV:=Z3 HV.o;go_wp2_with fail;rw[←mV.o];refine(ik _ _ _ zY.o.at_ ⟨fk,fn⟩).mono ?_;rintro e w4 ⟨rfl,hL4,nQ⟩;have zZ:Zs (LC l p w w4):=Z3 (zY.o.step hL4 nQ);have⟨PR,Zi⟩:=aJ (Zh.o.kp nQ Wg) (Xq.o.kp nQ Wg);have Xi:=nQ.size;clear hL4 nQ Xq Zh;cases fU:M.bu p ⟨fk,fn⟩
 · replace HV:Zs (M.start p lk k n m args=M.ky):=Z3 (by rw[HV.o,if_neg (fun e=>by rw[fU]at e;cases e.2)]);clear fU;have jJ:=PR.o;obtain⟨yz,y0,y1,y2,y3,y4,y5, -⟩:=jJ.ca;obtain⟨f0,f1,f2,f3,f4,f5, -⟩:=jJ.fz;clear jJ;go_wp2_with fail;obtain⟨w9,jK⟩:∃w9,w9=(((((w4.setCell ⟨w.heap.size,0,none⟩ (.int .i64 4)).setCell ⟨w.heap.size,1,none⟩ (.slice none 0 0)).setCell ⟨w.heap.size,2,none⟩ (.slice none 0 0)).setCell ⟨w.heap.size,3,none⟩ (.slice none 0 0)).setCell ⟨w.heap.size,4,none⟩ (.int .i64 0)).setCell ⟨w.heap.size,5,none⟩ (.int .i64 0):=⟨_,rfl⟩;have fM:Kp (·=w.heap.size) w4 w9:=by rw[jK];exact Kp.jV (D:=(·=w.heap.size)) rfl _ _ _ _ _ _
   have vQ:ay w9 w.heap.size 40 #[.int .i64 4,.slice none 0 0,.slice none 0 0,.slice none 0 0,.int .i64 0,.int .i64 0]:=by rw[jK];exact PR.o.jV _ _ _ _ _ _
   rw[←jK];refine bodyPost_ret (aY fG rfl _ _ w.heap.size rfl [.int .i64 4,.slice none 0 0,.slice none 0 0,.slice none 0 0,.int .i64 0,.int .i64 0] (ae.gM vQ) rfl) rfl ?_;rw[HV.o];exact⟨⟨_,rfl,xX _ _⟩,zZ.o.kp.own fM (fun b e=>by omega)⟩
 have qh:=Z3 fU;obtain⟨G,hG⟩:∃G,M.call p k n m=G:=⟨_,rfl⟩;obtain⟨⟨⟨v0,v1⟩,v2⟩,c2⟩:=G;have nR:=uI w4 l p zZ.o.at_ k n m;rw[hG]at nR;simp only[zH]at nR;have BX:c2=1→M.bP p ⟨⟨v0,v1⟩,v2⟩=true:=fun h1=>by
  have h1:(M.call p k n m).2=1:=by rw[hG];exact h1
  obtain⟨rr,Xg⟩:=M.l7 h1;rw[hG]at Xg;exact M.kW Xg
 have⟨aaY,Zk⟩:=aJ BX nR;replace HV:=Z3 (HV.o.trans (if_pos (by simp[fU])));rw[hG]at HV;clear fU hG nR BX;go_wp2_with fail;refine Zk.o.mono ?_;rintro e w5 ⟨⟨ev,rfl,nN⟩,WV,gU⟩;obtain⟨w6,nS,dC,b15⟩:=nu w5 #[.int .i64 v0,.string v1,.int .i64 v2] 94;have Xj:w6.heap.size=w5.heap.size+1:=by rw[nS];simp
 have Vt:=gU.size;have jJ:=PR.o.kp gU Wg;have Dy:=Z3 jJ;have HKZ:Zs (Kp (·=l.D) w w5):=Z3 (zZ.o.kp.trans gU);have zg:Zs (LC l p w w6):=Z3 ((zZ.o.step WV gU).ext dC);have⟨TD,Zj,KR,CK⟩:=gD (jJ.ext dC) ((Zi.o.kp gU Wg).ext dC) b15 nS;clear WV gU dC b15 nS Zk PR Zi;rcases nN.weak with⟨rfl,rfl⟩|⟨hc,eb,rfl⟩;rotate_left
 · replace HV:Zs (M.start p lk k n m args=M.ky):=Z3 (by rw[HV.o,if_neg (fun e=>hc e.1)]);clear hc nN;obtain⟨yz,y0,y1,y2,y3,y4,y5, -⟩:=jJ.ca;obtain⟨f0,f1,f2,f3,f4,f5, -⟩:=jJ.fz;clear jJ;go_wp2_with fail;obtain⟨w9,jK⟩:∃w9,w9=(((((w5.setCell ⟨w.heap.size,0,none⟩ (.int .i64 4)).setCell ⟨w.heap.size,1,none⟩ (.slice none 0 0)).setCell ⟨w.heap.size,2,none⟩ (.slice none 0 0)).setCell ⟨w.heap.size,3,none⟩ (.slice none 0 0)).setCell ⟨w.heap.size,4,none⟩ (.int .i64 0)).setCell ⟨w.heap.size,5,none⟩ (.int .i64 0):=⟨_,rfl⟩;have fM:Kp (·=w.heap.size) w5 w9:=by rw[jK];exact Kp.jV (D:=(·=w.heap.size)) rfl _ _ _ _ _ _
   have vQ:ay w9 w.heap.size 40 #[.int .i64 4,.slice none 0 0,.slice none 0 0,.slice none 0 0,.int .i64 0,.int .i64 0]:=by rw[jK];exact Dy.o.jV _ _ _ _ _ _
   rw[←jK];refine bodyPost_ret (aY fG rfl _ _ w.heap.size rfl [.int .i64 4,.slice none 0 0,.slice none 0 0,.slice none 0 0,.int .i64 0,.int .i64 0] (ae.gM (vQ.ext (Kp.rr.alloc _))) rfl) rfl ?_;rw[HV.o];exact⟨⟨_,rfl,xX _ _⟩,(HKZ.o.own fM (fun b e=>by omega)).alloc _⟩
 clear nN jJ;have hx:=aaY.o rfl;obtain⟨mt,hm⟩:∃mt,M.method p ⟨⟨v0,v1⟩,v2⟩=mt:=⟨_,rfl⟩;have Bp:M.EO mt:=by rw[←hm];exact M.pG (M.ji zg.o.at_.ok hx).1
 have zC:=fQ w6 l p zg.o.at_ ⟨⟨v0,v1⟩,v2⟩ hx;rw[hm]at zC;have Oz:=Bp.Lj;have⟨SS,Bh,HM,HX⟩:=gD Bp zC hm hx;clear hm zC hx aaY Bp;go_wp2_with fail;rw[←CK.o];refine Bh.o.mono ?_;rintro e w7 ⟨⟨cs,mF,rfl⟩,r9⟩;have dw:=Gs w7 (· <l.O) cs mt mF args va ac hla;obtain⟨t2,rfl⟩:=jS mF;have⟨pM,DD⟩:=aJ dw r9;clear dw r9 mF;simp only[iC]at pM ⊢;go_wp2_with fail;refine pM.o.mono ?_;rintro e w8 ⟨rfl,lK⟩;have lJ:Zs (Ext w6 w8):=Z3 (DD.o.trans lK);have hz8:=lJ.o.size;clear lK pM DD;cases hsb:M.kg mt args
 · replace HV:Zs (M.start p lk k n m args=M.ky):=Z3 (by
    rw[HV.o,if_neg];rintro⟨_,e⟩;simp only[HM.o,hsb]at e;cases e)
   clear hsb;have jJ:=TD.o.ext lJ.o;obtain⟨yz,y0,y1,y2,y3,y4,y5, -⟩:=jJ.ca;obtain⟨f0,f1,f2,f3,f4,f5, -⟩:=jJ.fz;have Dy:=Z3 jJ;clear jJ;go_wp2_with fail;obtain⟨w9,jK⟩:∃w9,w9=(((((w8.setCell ⟨w.heap.size,0,none⟩ (.int .i64 4)).setCell ⟨w.heap.size,1,none⟩ (.slice none 0 0)).setCell ⟨w.heap.size,2,none⟩ (.slice none 0 0)).setCell ⟨w.heap.size,3,none⟩ (.slice none 0 0)).setCell ⟨w.heap.size,4,none⟩ (.int .i64 0)).setCell ⟨w.heap.size,5,none⟩ (.int .i64 0):=⟨_,rfl⟩;have fM:Kp (·=w.heap.size) w8 w9:=by rw[jK];exact Kp.jV (D:=(·=w.heap.size)) rfl _ _ _ _ _ _
   have vQ:ay w9 w.heap.size 40 #[.int .i64 4,.slice none 0 0,.slice none 0 0,.slice none 0 0,.int .i64 0,.int .i64 0]:=by rw[jK];exact Dy.o.jV _ _ _ _ _ _
   rw[←jK];refine bodyPost_ret (aY fG rfl _ _ w.heap.size rfl [.int .i64 4,.slice none 0 0,.slice none 0 0,.slice none 0 0,.int .i64 0,.int .i64 0] (ae.gM vQ) rfl) rfl ?_;rw[HV.o];exact⟨⟨_,rfl,xX _ _⟩,(zg.o.ext lJ.o).kp.own fM (fun b e=>by omega)⟩
 replace HV:=Z3 (HV.o.trans (if_pos (by simp[HM.o,hsb])));have hlen:mt.args.length=args.length:=by
  unfold M.kg at hsb;simp only[Bool.and_eq_true,decide_eq_true_eq]at hsb;exact hsb.1
 have Bz:=Z3 hlen;have ahZ:args.length≤3:=by omega
 clear hsb hlen hla;have b13:=Zj.o.ext lJ.o;obtain⟨rz,r0,r1, -⟩:=b13.ca;obtain⟨w9,jK,nk,b17⟩:=nu w8 #[.pointer (some ⟨l.L,0,none⟩),.bool lk,.int .i64 1,.slice none 0 0,.slice none 0 0,.slice none 0 0,.int .i64 0,.int .i64 0] 65;have hz9:w9.heap.size=w8.heap.size+1:=by rw[jK];simp
 obtain⟨YX,W9⟩:∃own',aI w9 l p own' w8.heap.size w8.heap.size lk ⟨1,[],[],[],M.eU,.slice none 0 0,.slice none 0 0,.slice none 0 0⟩:=
  aI.start (zg.o.at_.ext (lJ.o.trans nk)) Wg (mq.nil _ _) rfl (Nat.le_refl _) b17 (World.ownsRow_nil _ _ _ _) (fun b hb=>by cases hb) M.Good.empty
 have Yt:Calls Tryz.prog 43 #[.pointer (some ⟨w8.heap.size,0,none⟩),.agg #[.int .i64 fk,.string fn]] w9 (cu w9 l p YX w8.heap.size w8.heap.size lk (.agg #[.int .i64 2,.int .i64 0]) ⟨1,[],[M.fresh p ⟨fk,fn⟩],[],M.eU⟩):=
  Dg w9 l p YX w8.heap.size w8.heap.size lk _ W9 ⟨fk,fn⟩ qh.o Wf
 have aer:∀b,b<w8.heap.size→b≠l.D→¬MO l YX b:=fun b hb hd hm=>by
  rcases hm with hm|hm
  · exact hd hm
  · have:=(W9.dom b hm).1;omega
 have aa6:=Z3 aer;have HD9:Zs (∀b,YX b≠none→w8.heap.size≤b):=Z3 (fun b hb=>(W9.dom b hb).1);have⟨HCR,su,QV⟩:=bg Yt nk jK;clear b13 nk b17 jK W9 Yt aer;go_wp2_with fail;rw[←QV.o];refine HCR.o.mono ?_;rintro e gu ⟨rfl,lh,V4,g10,Fw,zw,ad9⟩;clear r0 r1 rz;have aeO:=lh.size;have nU:Zs (Kp (·=l.D) w gu):=Z3 (((zg.o.ext lJ.o).kp.trans su.o.any).own' lh (fun b hb=>by
  rcases hb with hb|hb
  · exact .inl hb
  · right;have:=HD9.o b hb;omega))
 have acv:Zs (SliceOf 1 jQ gu (· <l.O) (.slice va args.length ac) args):=Z3 (WE.o.keep jQ.stays (nU.o.same fun b hb e=>by omega) fun _ h=>h);have acz:Zs (ay gu w.heap.size 40 #[.int .i64 0,.slice none 0 0,.slice none 0 0,.slice none 0 0,.int .i64 0,.int .i64 0]):=Z3 ((TD.o.ext (lJ.o.trans su.o)).kp lh (aa6.o _ Wg Wg));have acA:Zs (ay gu w5.heap.size 94 #[.int .i64 v0,.string v1,.int .i64 v2]):=Z3 ((KR.o.ext (lJ.o.trans su.o)).kp lh (aa6.o _ Wg Wg));have⟨jd,aaX⟩:=aJ zw ad9;obtain⟨PE,JR⟩:∃PE,PE=gu.alloc (.cells #[.int .i64 2,.int .i64 0] 38):=⟨_,rfl⟩;have UE:Ext gu PE:=by rw[JR];exact kx
 have bN:PE.ownsRow gu.heap.size 38 2 (.slice (some ⟨gu.heap.size,0,none⟩) 1 1) 1 (bV ⟨2,0⟩):=by
  rw[JR];exact World.ownsRow_lit (size:=2) gu #[.int .i64 2,.int .i64 0] 1 (Nat.le_refl _) (by unfold maxLen;omega) rfl
 have⟨Dz,zk,agl⟩:=bg UE bN JR;clear lh Fw zw ad9 UE bN JR aa6 WE TD KR Zj;go_wp2_with fail;rw[←agl.o];go_loopw [66,18] (fun i vv wr=>∃q:Nat,q≤args.length∧i=.int .i64 q∧Ext gu wr∧wr.ownsRow gu.heap.size 38 2 vv (q+1) ((M.Val.mk 2 0::(args.take q).map M.gF).flatMap bV)) (fun i _ _=>args.length - (intOf i).toNat)
 case atStart=>exact⟨0,Nat.zero_le _,rfl,Dz.o,by simpa using zk.o⟩
 case round=>
  obtain⟨q,hq,rfl,hE,bN⟩:=hrel;obtain⟨vb,vc,rfl,hvb,C9,JQ⟩:=cB bN Wg;have Tp:=hE.size;by_cases bY:q<args.length
  · obtain⟨x,hx⟩:=iT args q bY;obtain⟨b,off,cs,rfl,hI,rfl, -,hc⟩:=(acv.o.ext jQ.stays hE).get hx;rw[Nat.mul_one]at hc;have g0:=hc.one;have gz:=aF g0;have⟨HX,HE,HRW⟩:=bg hx hE bN;clear hx hc hE bN;go_wp2_with fail;refine(Eu x _).mono ?_;rintro e Br ⟨rfl,yA⟩;have DC:=Z3 yA;have aeP:=yA.size;clear yA;go_wp2_with (at_builtin;refine nJ qG _ rfl _ _ rfl gu.heap.size _ (q+1) _ rfl (aA (D:=fun _=>False) HRW.o (DC.o.alloc _) fun _ _ _ x=>x) Br.heap.size 1 (bV (M.gF x)) rfl rfl ?c1 ?c2 ?c3 ?c4 ?_)
    case c1=>exact ae.fB _ _ rfl
    case c2=>exact uN _
    case c3=>omega
    case c4=>simp;omega
    intro v' w' wX hK g1 cp1 hv1 KO Bo;subst hv1;have tY:=Z3 wX;have yu:=Z3 hK;clear wX hK;go_wp2_with fail;refine⟨⟨q+1,by omega,by go_num,(HE.o.trans (DC.o.alloc _)).own yu.o (fun b e=>by cases e;exact hvb),?_⟩,by simp[intOf];omega⟩;have:=tY.o;rw[List.take_add_one,HX.o];simpa using this
  · have G7:q=args.length:=by omega
    have hM:=jd.o.ext hE;have KO:g10.os.length=1:=by
     have:=congrArg (fun s=>s.heap.length) aaX.o;simpa [Gh.st]using this
    have hgs:g10.status=1:=by have:=congrArg M.St.status aaX.o;exact this
    have Vr:(M.Val.mk 2 0::args.map M.gF).length=q+1:=by simp;omega
    have sO:wr.ownsRow gu.heap.size 38 2 (.slice (some ⟨vb,0,none⟩) (q+1) vc) (M.Val.mk 2 0::args.map M.gF).length ((M.Val.mk 2 0::args.map M.gF).flatMap bV):=by
     rw[Vr];rw[G7,List.take_length]at bN;rw[G7];exact bN
    have abS:=zG wr l p V4 w8.heap.size w8.heap.size lk KL g10 hM hgs ⟨⟨v0,v1⟩,v2⟩ HX.o gu.heap.size _ (M.Val.mk 2 0::args.map M.gF) sO (fun b hb hm=>by
        have nM:b=vb:=by cases hb;rfl
        rcases hm with hm|hm
        · omega
        · have:=(jd.o.dom _ hm).2;omega) (fun v hv=>by
        rw[KO];rcases List.mem_cons.1 hv with rfl|hv
        · exact M.tF _ Wg Wg
        · obtain⟨x,hx,rfl⟩:=List.mem_map.1 hv;exact M.il _ (List.all_eq_true.1 af5.o x hx)) (by rw[Vr,HM.o,Bz.o];omega)
    rw[aaX.o]at abS;have b15:=acA.o.ext hE;obtain⟨rz,r0,r1,r2, -⟩:=b15.ca;have⟨afM,HE,HMX⟩:=bg abS hE hM;clear abS hE hM bN sO b15 Vr KO hgs G7;go_wp2_with fail;refine afM.o.mono ?_;rintro e Br ⟨rfl,JE,ae0,g12,Z0,adP,aea⟩;have BV:=Mt Br l p ae0 w8.heap.size w8.heap.size lk g12 adP (M.enter p lk ⟨⟨v0,v1⟩,v2⟩ (M.Val.mk 2 0::args.map M.gF) ⟨1,[],[M.fresh p ⟨fk,fn⟩],[],M.eU⟩).1;rw[aea]at BV;have⟨afL,afU,afl⟩:=bg BV JE Z0;have aeP:=JE.size;clear BV JE Z0 adP aea r0 r1 r2 rz;go_wp2_with fail;refine afL.o.mono ?_;rintro e w13 ⟨rfl,abH,ae1,g13,adT,adQ,aeb⟩;have pM:=Z3 (F6 w13 l p ae1 w8.heap.size w8.heap.size lk g13 adQ);have aiG:=abH.size;have hKa:Kp (MO l V4) wr w13:=afU.o.mo abH afl.o;have⟨HKA,afS⟩:=aJ hKa aeb;clear abH adT adQ aeb hKa;go_wp2_with fail;refine pM.o.mono ?_;rintro e w14 ⟨⟨cs,rfl,hS⟩,Yh⟩;have HS:=Z3 hS;obtain⟨a1,c1,a2,c2,a3,c3,rfl, -, -, -⟩:=hS.form;have aac:∀b,b<w8.heap.size→b≠l.D→¬MO l V4 b:=fun b hb hd hm=>by
     rcases hm with hm|hm
     · exact hd hm
     · have:=(jd.o.dom b hm).1;omega
    have jJ:=((acz.o.ext HE.o).kp HKA.o (aac _ Wg Wg)).ext Yh;have aiH:=Yh.size;obtain⟨Jf,AA⟩:∃Jf,Jf=(((((w14.setCell ⟨w.heap.size,0,none⟩ (.int .i64 g13.st.status)).setCell ⟨w.heap.size,1,none⟩ (.slice a1 g13.st.frames.length c1)).setCell ⟨w.heap.size,2,none⟩ (.slice a2 g13.st.heap.length c2)).setCell ⟨w.heap.size,3,none⟩ (.slice a3 g13.st.outs.length c3)).setCell ⟨w.heap.size,4,none⟩ (.int .i64 g13.st.back.kind)).setCell ⟨w.heap.size,5,none⟩ (.int .i64 g13.st.back.n):=⟨_,rfl⟩;have pV:Kp (·=w.heap.size) w14 Jf:=by rw[AA];exact Kp.jV (D:=(·=w.heap.size)) rfl _ _ _ _ _ _
    have LF:ay Jf w.heap.size 40 #[.int .i64 g13.st.status,.slice a1 g13.st.frames.length c1,.slice a2 g13.st.heap.length c2,.slice a3 g13.st.outs.length c3,.int .i64 g13.st.back.kind,.int .i64 g13.st.back.n]:=by rw[AA];exact jJ.jV _ _ _ _ _ _
    have ZU:Kp (·=l.D) w Jf:=((nU.o.trans HE.o.any).own' (HKA.o.trans Yh.any) (fun b hb=>by
     rcases hb with hb|hb
     · exact .inl hb
     · right;have:=(jd.o.dom b hb).1;omega)).own pV (fun b e=>by omega)
    have ZZ:=dU.stays _ _ _ (fun b=>w.heap.size≤b) _ _ (pV.same fun b (hb:w13.heap.size≤b) e=>by omega) (fun b (hb:w13.heap.size≤b)=>by omega) HS.o;obtain⟨yz,y0,y1,y2,y3,y4,y5, -⟩:=jJ.ca;obtain⟨f0,f1,f2,f3,f4,f5, -⟩:=jJ.fz;have⟨HKF,XH,KR,TR⟩:=gD ZU ZZ LF AA;clear jJ AA pV LF ZU ZZ hS Yh aac;go_wp2_with fail;rw[←TR.o];refine bodyPost_ret (aY fG rfl _ _ w.heap.size rfl [.int .i64 g13.st.status,.slice a1 g13.st.frames.length c1,.slice a2 g13.st.heap.length c2,.slice a3 g13.st.outs.length c3,.int .i64 g13.st.back.kind,.int .i64 g13.st.back.n] (ae.gM KR.o) rfl) rfl ?_;rw[HV.o];have hs:=XH.o;rw[afS.o]at hs ⊢;exact⟨⟨_,rfl,hs⟩,HKF.o⟩
theorem uY(w:World)(I:Nat→Prop):dU w I M.D9 [.int .i64 0,.slice none 0 0,.slice none 0 0,.slice none 0 0,.int .i64 0,.int .i64 0]:=
 ⟨_,_,_,rfl,SliceOf.nil _ _ _ _,SliceOf.nil _ _ _ _,SliceOf.nil _ _ _ _⟩
theorem Y8(w:World)(I:Nat→Prop)(v:Value)(p:M.ax)(hp:SliceOf 2 aB w I v p)(hI:∀b,I b→b<w.heap.size)(lk:Bool)(KL:Zs (lk=true→wJ))(k:Int)(n m:ByteArray)(args:List Int)(va:Option Addr)(ac:Nat)(vB:SliceOf 1 jQ w I (.slice va args.length ac) args):
    Calls Tryz.prog 8 #[.agg #[v],.bool lk,.int .i64 k,.string n,.string m,.slice va args.length ac] w fun e w'=>
     (∃cs,e=.returned (.agg cs.toArray)∧dU w' (fun b=>w.heap.size≤b) (M.jC p lk k n m args) cs)∧Ext w w':=by
 obtain⟨a,cap,rfl,hn,dm⟩:=hp.form;obtain⟨w2,ny⟩:∃w2,w2=(w.alloc (.cells #[.slice a p.length cap] 25)).alloc (.cells #[.int .i64 0,.slice none 0 0,.slice none 0 0,.slice none 0 0,.int .i64 0,.int .i64 0] 40):=⟨_,rfl⟩;have bZ:Ext w w2:=by rw[ny];exact kx
 have b12:ay w2 (w.heap.size+1) 40 #[.int .i64 0,.slice none 0 0,.slice none 0 0,.slice none 0 0,.int .i64 0,.int .i64 0]:=by rw[ny];exact ay.newAt _ _ Wf
 have NI:w2.heap.size=w.heap.size+2:=by rw[ny];simp
 have JM:=Ci w2 I (.slice a p.length cap) p (hp.ext aB.stays bZ) (fun b hb=>by have:=hI b hb;omega);have hla:args.length≤4294967296:=by obtain⟨_,_,e,_,h4⟩:=vB.form;exact h4
 have HV:Zs (M.jC p lk k n m args=if M.dF p&&M.has p k&&M.aT n&&M.aT m&&args.all M.iH then M.start p lk k n m args else M.D9):=Z3 rfl;have⟨Zv,gL,mQ,Bi,WE,HI⟩:=qU JM bZ b12 ny vB hI;clear bZ b12 ny JM hp vB hI;go_enter Tryz.func8,Tryz.ntmps8;go_wp2_with fail;rw[←Bi.o];refine Zv.o.mono ?_;rintro e w3 ⟨dK,cK⟩;have jJ:=mQ.o.ext dK;have⟨Dy,jc⟩:=aJ jJ (gL.o.trans dK);have KQ:=dK.size;clear dK Zv;rcases cK with⟨yC,rfl⟩|⟨yC,l,rfl,hL,hlO⟩
 · replace HV:Zs (M.jC p lk k n m args=M.D9):=Z3 (by rw[HV.o,yC];rfl);clear yC;obtain⟨yz,y0,y1,y2,y3,y4,y5, -⟩:=jJ.ca;obtain⟨f0,f1,f2,f3,f4,f5, -⟩:=jJ.fz;clear jJ;go_wp2_with fail;obtain⟨w9,jK⟩:∃w9,w9=(((((w3.setCell ⟨w.heap.size+1,0,none⟩ (.int .i64 0)).setCell ⟨w.heap.size+1,1,none⟩ (.slice none 0 0)).setCell ⟨w.heap.size+1,2,none⟩ (.slice none 0 0)).setCell ⟨w.heap.size+1,3,none⟩ (.slice none 0 0)).setCell ⟨w.heap.size+1,4,none⟩ (.int .i64 0)).setCell ⟨w.heap.size+1,5,none⟩ (.int .i64 0):=⟨_,rfl⟩;have fM:Kp (·=w.heap.size+1) w3 w9:=by rw[jK];exact Kp.jV (D:=(·=w.heap.size+1)) rfl _ _ _ _ _ _
   have vQ:ay w9 (w.heap.size+1) 40 #[.int .i64 0,.slice none 0 0,.slice none 0 0,.slice none 0 0,.int .i64 0,.int .i64 0]:=by rw[jK];exact Dy.o.jV _ _ _ _ _ _
   rw[←jK];refine bodyPost_ret (aY fG rfl _ _ (w.heap.size+1) rfl [.int .i64 0,.slice none 0 0,.slice none 0 0,.slice none 0 0,.int .i64 0,.int .i64 0] (ae.gM vQ) rfl) rfl ?_;rw[HV.o];exact⟨⟨_,rfl,uY _ _⟩,jc.o.own fM (fun b e=>by omega)⟩
 have Aw:=hL.ord;have HL:=Z3 hL;replace HV:Zs (M.jC p lk k n m args=if M.has p k&&M.aT n&&M.aT m&&args.all M.iH then M.start p lk k n m args else M.D9):=Z3 (by rw[HV.o,yC];rfl);clear hL yC;go_wp2_with fail;refine(oh _ _ _ HL.o k).mono ?_;rintro e w1 ⟨rfl,rfl⟩;cases hh:M.has p k
 · replace HV:Zs (M.jC p lk k n m args=M.D9):=Z3 (by rw[HV.o,hh];rfl);clear hh;obtain⟨yz,y0,y1,y2,y3,y4,y5, -⟩:=jJ.ca;obtain⟨f0,f1,f2,f3,f4,f5, -⟩:=jJ.fz;clear jJ;go_wp2_with fail;obtain⟨w9,jK⟩:∃w9,w9=(((((w3.setCell ⟨w.heap.size+1,0,none⟩ (.int .i64 0)).setCell ⟨w.heap.size+1,1,none⟩ (.slice none 0 0)).setCell ⟨w.heap.size+1,2,none⟩ (.slice none 0 0)).setCell ⟨w.heap.size+1,3,none⟩ (.slice none 0 0)).setCell ⟨w.heap.size+1,4,none⟩ (.int .i64 0)).setCell ⟨w.heap.size+1,5,none⟩ (.int .i64 0):=⟨_,rfl⟩;have fM:Kp (·=w.heap.size+1) w3 w9:=by rw[jK];exact Kp.jV (D:=(·=w.heap.size+1)) rfl _ _ _ _ _ _
   have vQ:ay w9 (w.heap.size+1) 40 #[.int .i64 0,.slice none 0 0,.slice none 0 0,.slice none 0 0,.int .i64 0,.int .i64 0]:=by rw[jK];exact Dy.o.jV _ _ _ _ _ _
   rw[←jK];refine bodyPost_ret (aY fG rfl _ _ (w.heap.size+1) rfl [.int .i64 0,.slice none 0 0,.slice none 0 0,.slice none 0 0,.int .i64 0,.int .i64 0] (ae.gM vQ) rfl) rfl ?_;rw[HV.o];exact⟨⟨_,rfl,uY _ _⟩,jc.o.own fM (fun b e=>by omega)⟩
 replace HV:Zs (M.jC p lk k n m args=if M.aT n&&M.aT m&&args.all M.iH then M.start p lk k n m args else M.D9):=Z3 (by rw[HV.o,hh];rfl);clear hh;go_wp2_with fail;refine(iK n _).mono ?_;rintro e w1 ⟨rfl,rfl⟩;cases hh:M.aT n
 · replace HV:Zs (M.jC p lk k n m args=M.D9):=Z3 (by rw[HV.o,hh];rfl);clear hh;obtain⟨yz,y0,y1,y2,y3,y4,y5, -⟩:=jJ.ca;obtain⟨f0,f1,f2,f3,f4,f5, -⟩:=jJ.fz;clear jJ;go_wp2_with fail;obtain⟨w9,jK⟩:∃w9,w9=(((((w3.setCell ⟨w.heap.size+1,0,none⟩ (.int .i64 0)).setCell ⟨w.heap.size+1,1,none⟩ (.slice none 0 0)).setCell ⟨w.heap.size+1,2,none⟩ (.slice none 0 0)).setCell ⟨w.heap.size+1,3,none⟩ (.slice none 0 0)).setCell ⟨w.heap.size+1,4,none⟩ (.int .i64 0)).setCell ⟨w.heap.size+1,5,none⟩ (.int .i64 0):=⟨_,rfl⟩;have fM:Kp (·=w.heap.size+1) w3 w9:=by rw[jK];exact Kp.jV (D:=(·=w.heap.size+1)) rfl _ _ _ _ _ _
   have vQ:ay w9 (w.heap.size+1) 40 #[.int .i64 0,.slice none 0 0,.slice none 0 0,.slice none 0 0,.int .i64 0,.int .i64 0]:=by rw[jK];exact Dy.o.jV _ _ _ _ _ _
   rw[←jK];refine bodyPost_ret (aY fG rfl _ _ (w.heap.size+1) rfl [.int .i64 0,.slice none 0 0,.slice none 0 0,.slice none 0 0,.int .i64 0,.int .i64 0] (ae.gM vQ) rfl) rfl ?_;rw[HV.o];exact⟨⟨_,rfl,uY _ _⟩,jc.o.own fM (fun b e=>by omega)⟩
 replace HV:Zs (M.jC p lk k n m args=if M.aT m&&args.all M.iH then M.start p lk k n m args else M.D9):=Z3 (by rw[HV.o,hh];rfl);clear hh;go_wp2_with fail;refine(iK m _).mono ?_;rintro e w1 ⟨rfl,rfl⟩;cases hh:M.aT m
 · replace HV:Zs (M.jC p lk k n m args=M.D9):=Z3 (by rw[HV.o,hh];rfl);clear hh;obtain⟨yz,y0,y1,y2,y3,y4,y5, -⟩:=jJ.ca;obtain⟨f0,f1,f2,f3,f4,f5, -⟩:=jJ.fz;clear jJ;go_wp2_with fail;obtain⟨w9,jK⟩:∃w9,w9=(((((w3.setCell ⟨w.heap.size+1,0,none⟩ (.int .i64 0)).setCell ⟨w.heap.size+1,1,none⟩ (.slice none 0 0)).setCell ⟨w.heap.size+1,2,none⟩ (.slice none 0 0)).setCell ⟨w.heap.size+1,3,none⟩ (.slice none 0 0)).setCell ⟨w.heap.size+1,4,none⟩ (.int .i64 0)).setCell ⟨w.heap.size+1,5,none⟩ (.int .i64 0):=⟨_,rfl⟩;have fM:Kp (·=w.heap.size+1) w3 w9:=by rw[jK];exact Kp.jV (D:=(·=w.heap.size+1)) rfl _ _ _ _ _ _
   have vQ:ay w9 (w.heap.size+1) 40 #[.int .i64 0,.slice none 0 0,.slice none 0 0,.slice none 0 0,.int .i64 0,.int .i64 0]:=by rw[jK];exact Dy.o.jV _ _ _ _ _ _
   rw[←jK];refine bodyPost_ret (aY fG rfl _ _ (w.heap.size+1) rfl [.int .i64 0,.slice none 0 0,.slice none 0 0,.slice none 0 0,.int .i64 0,.int .i64 0] (ae.gM vQ) rfl) rfl ?_;rw[HV.o];exact⟨⟨_,rfl,uY _ _⟩,jc.o.own fM (fun b e=>by omega)⟩
 replace HV:Zs (M.jC p lk k n m args=if args.all M.iH then M.start p lk k n m args else M.D9):=Z3 (by rw[HV.o,hh];rfl);clear hh jJ;have acw:Zs (SliceOf 1 jQ w3 (· <l.O) (.slice va args.length ac) args):=Z3 (WE.o.keep jQ.stays (Ext.same jc.o) fun b hb=>by have:=HI.o b hb;omega);go_wp2_with fail;go_loopw [39] (fun i wr=>∃q:Nat,q≤args.length∧i=.int .i64 q∧Ext w3 wr∧Zs ((args.take q).all M.iH=true)) (fun i _=>args.length - (intOf i).toNat)
 case atStart=>exact⟨0,Nat.zero_le _,rfl,Kp.rr,Z3 Wf⟩
 case round =>
  obtain⟨q,hq,rfl,hE,HQ⟩:=hrel;have HE:=Z3 hE;have Tp:=hE.size;have jJ:=Dy.o.ext hE;replace Dy:=Z3 jJ;by_cases bY:q<args.length
  · obtain⟨x,hx⟩:=iT args q bY;obtain⟨b,off,cs,rfl,hI,rfl, -,hc⟩:=(acw.o.ext jQ.stays hE).get hx;rw[Nat.mul_one]at hc;have g0:=hc.one;have gz:=aF g0;have HX:=Z3 hx;clear hx hc hE;go_wp2_with fail;refine(Kh x _).mono ?_;rintro e w4 ⟨rfl,rfl⟩;cases tO:(decide (-9999≤x)&&decide (x≤9999))
    · replace HV:Zs (M.jC p lk k n m args=M.D9):=Z3 (by rw[HV.o,l6 HX.o (show M.iH x=false from tO)];rfl);clear tO g0;obtain⟨yz,y0,y1,y2,y3,y4,y5, -⟩:=jJ.ca;obtain⟨f0,f1,f2,f3,f4,f5, -⟩:=jJ.fz;clear jJ;go_wp2_with fail;obtain⟨w9,jK⟩:∃w9,w9=(((((wr.setCell ⟨w.heap.size+1,0,none⟩ (.int .i64 0)).setCell ⟨w.heap.size+1,1,none⟩ (.slice none 0 0)).setCell ⟨w.heap.size+1,2,none⟩ (.slice none 0 0)).setCell ⟨w.heap.size+1,3,none⟩ (.slice none 0 0)).setCell ⟨w.heap.size+1,4,none⟩ (.int .i64 0)).setCell ⟨w.heap.size+1,5,none⟩ (.int .i64 0):=⟨_,rfl⟩;have fM:Kp (·=w.heap.size+1) wr w9:=by rw[jK];exact Kp.jV (D:=(·=w.heap.size+1)) rfl _ _ _ _ _ _
      have vQ:ay w9 (w.heap.size+1) 40 #[.int .i64 0,.slice none 0 0,.slice none 0 0,.slice none 0 0,.int .i64 0,.int .i64 0]:=by rw[jK];exact Dy.o.jV _ _ _ _ _ _
      rw[←jK];refine bodyPost_ret (aY fG rfl _ _ (w.heap.size+1) rfl [.int .i64 0,.slice none 0 0,.slice none 0 0,.slice none 0 0,.int .i64 0,.int .i64 0] (ae.gM vQ) rfl) rfl ?_;rw[HV.o];exact⟨⟨_,rfl,uY _ _⟩,(jc.o.trans HE.o).own fM (fun b e=>by omega)⟩
    · have HN:Zs (M.iH x=true):=Z3 tO;clear tO jJ;go_wp2_with fail;exact⟨⟨q+1,by omega,by go_num,HE.o,Z3 (all_succ HQ.o HX.o HN.o)⟩,by simp[intOf];omega⟩
  · have HN:Zs (args.all M.iH=true):=Z3 (kD HQ.o Wg);replace HV:Zs (M.jC p lk k n m args=M.start p lk k n m args):=Z3 (by rw[HV.o,HN.o];rfl);clear hE jJ;go_wp2_with fail;refine(Mo _ _ _ (HL.o.ext HE.o) lk KL k n m args va ac (acw.o.ext jQ.stays HE.o) HN.o).mono ?_;rintro e w4 ⟨⟨cs,rfl,hS⟩,nQ⟩;rw[←HV.o]at hS;obtain⟨s,hs⟩:∃s,M.jC p lk k n m args=s:=⟨_,rfl⟩;rw[hs]at hS;have⟨PV,HS⟩:=aJ hs hS;obtain⟨a1,c1,a2,c2,a3,c3,rfl, -, -, -⟩:=hS.form;have jJ:=Dy.o.kp nQ Wg;have Xi:=nQ.size;obtain⟨Jf,AA⟩:∃Jf,Jf=(((((w4.setCell ⟨w.heap.size+1,0,none⟩ (.int .i64 s.status)).setCell ⟨w.heap.size+1,1,none⟩ (.slice a1 s.frames.length c1)).setCell ⟨w.heap.size+1,2,none⟩ (.slice a2 s.heap.length c2)).setCell ⟨w.heap.size+1,3,none⟩ (.slice a3 s.outs.length c3)).setCell ⟨w.heap.size+1,4,none⟩ (.int .i64 s.back.kind)).setCell ⟨w.heap.size+1,5,none⟩ (.int .i64 s.back.n):=⟨_,rfl⟩;have pV:Kp (·=w.heap.size+1) w4 Jf:=by rw[AA];exact Kp.jV (D:=(·=w.heap.size+1)) rfl _ _ _ _ _ _
    have LF:ay Jf (w.heap.size+1) 40 #[.int .i64 s.status,.slice a1 s.frames.length c1,.slice a2 s.heap.length c2,.slice a3 s.outs.length c3,.int .i64 s.back.kind,.int .i64 s.back.n]:=by rw[AA];exact jJ.jV _ _ _ _ _ _
    have ZU:Ext w Jf:=((jc.o.trans HE.o).own nQ (fun b e=>by omega)).own pV (fun b e=>by omega);have ZZ:=dU.stays _ _ _ (fun b=>w.heap.size≤b) _ _ (pV.same fun b (hb:wr.heap.size≤b) e=>by omega) (fun b (hb:wr.heap.size≤b)=>by omega) HS.o;obtain⟨yz,y0,y1,y2,y3,y4,y5, -⟩:=jJ.ca;obtain⟨f0,f1,f2,f3,f4,f5, -⟩:=jJ.fz;have⟨HKF,XH,KR,TR⟩:=gD ZU ZZ LF AA;clear jJ AA pV LF ZU ZZ hS nQ hs;go_wp2_with fail;rw[←TR.o];refine bodyPost_ret (aY fG rfl _ _ (w.heap.size+1) rfl [.int .i64 s.status,.slice a1 s.frames.length c1,.slice a2 s.heap.length c2,.slice a3 s.outs.length c3,.int .i64 s.back.kind,.int .i64 s.back.n] (ae.gM KR.o) rfl) rfl ?_;rw[PV.o];exact⟨⟨_,rfl,XH.o⟩,HKF.o⟩
end Go.Proofs.YtkmclfpjpajjeaaGreat
