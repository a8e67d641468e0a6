/- Walks. -/
import Derived.Test.YtohpiobncgafeaaGreatDoorLnkn
set_option maxRecDepth 100000
set_option maxHeartbeats 4000000
set_option linter.unusedSimpArgs false
set_option linter.unusedVariables false
namespace Go.Proofs.YtohpiobncgafeaaGreatDoor
open Go Go.RowKit
theorem uO(w:World)(I:Nat→Prop)(v:Value)(hs:List M.kZ)(h:SliceOf 3 rQ w I v hs)(hl:hs.length≤12):
    Calls Tryz.prog 43 #[v] w fun e w'=>(∃v' own os,e=.returned v'∧os.map GO.o=hs∧jh w' own w.heap.size v' os)∧Ext w w':=by
 obtain⟨a,cap,rfl,hn,dx⟩:=h.form;have H:=Ys h;clear h;go_enter Tryz.func43,Tryz.ntmps43;go_wp2_with fail;go_loopw [8,3] (fun i v3 wr=>∃(q:Nat) (own:Own) (os:List GO),q≤hs.length∧i=.int .i64 q∧Ext w wr∧Zs (os.map GO.o=hs.take q)∧jh wr own w.heap.size v3 os) (fun i _ _=>hs.length - (intOf i).toNat)
 case atStart=>exact⟨0,_,[],Nat.zero_le _,rfl,Kp.refl _ _,Ys (by simp),jh.nil _ _⟩
 case round=>
  obtain⟨q,own,os,hq,rfl,hE,xV,hO⟩:=hrel;obtain⟨va,vc,rfl⟩:=hO.row.form;have hol:os.length=q:=by
   have:=congrArg List.length xV.o;simpa [Nat.min_eq_left hq]using this
  by_cases cK:q<hs.length
  · obtain⟨⟨⟨ok,on⟩,xq⟩,ho⟩:=gH hs q cK;obtain⟨b,off,cs,rfl,hI,⟨vf,rfl,hf⟩, -,hc⟩:=(H.o.ext rQ.stays hE).get ho;obtain⟨fa,fc,rfl,FE,vY⟩:=hf.form;obtain⟨g0,g1,g2⟩:=hc.three;have gz:=aS g0;obtain⟨w5,uW,ed,b5⟩:=nu wr #[.int .i64 ok,.string on,.slice fa xq.length fc] 174;have G6:w5.heap.size=wr.heap.size+1:=by rw[uW];simp
    have FJ:¬(Value.slice va os.length vc).ownBlock=some wr.heap.size:=fun e=>by have:=(hO.row.blk e).2;omega
    obtain⟨T,f,dm,HT⟩:=gy.ex (fun W'=>Kp (fun b=>(Value.slice va os.length vc).ownBlock=some b) w5 W') _ (Kp.refl _ _);have r0:=fun z=>(b5.kp (HT.aK z) FJ).c 0 (.int .i64 ok) rfl;have r1:=fun z=>(b5.kp (HT.aK z) FJ).c 1 (.string on) rfl;have r2:=fun z=>(b5.kp (HT.aK z) FJ).c 2 (.slice fa xq.length fc) rfl;have ax:=Ys HT;have OE:=Ys uW;have HO5:Zs (jh w5 own w.heap.size (.slice va os.length vc) os):=Ys ⟨fun b hb=>⟨(hO.dom b hb).1,by have:=(hO.dom b hb).2;omega⟩,hO.row.ext ed,fun j o ho=>(hO.obj j o ho).ext ed,hO.I6⟩;have HF:=Ys (hf.ext ig.stays ed);have iG:=Ys (hE.trans ed);have HX:=Ys ho;have HOL:=Ys hol;have WH:=hE.size;have adV:(os.length:Int)=q:=by omega
    clear hE hO ed b5 uW FJ HT hf hc ho hol;go_wp2_with fail;rw[←OE.o];clear g0 g1 g2;(refine dQ ax 9 [([0,1,2,3,4],5),([6],7),([],8)] [] ?_ ?_)
    · exact(Kp.refl _ _).drew
    (refine dn [_,_,_,_,_] rfl rfl fun K hK=>?_);(repeat (go_big_quiet_step (fail)));(refine qn hK fun K2 ag=>?_);clear hK K;go_wp2_with fail;refine(lL _ _ _ _ ((HF.o.ext ig.stays (Kp.refl _ _).drew).vals) vY).mono ?_;rintro e w6 ⟨⟨v6,rfl,yM⟩,iZ⟩;obtain⟨x6,y6,rfl⟩:=bJ yM;have nR:Zs (Ext w5 w6):=Ys (((Kp.refl _ w5).drew:Ext w5 _).trans iZ);have HR6:Zs (w6.ownsRow w5.heap.size 63 2 (Value.slice x6 xq.length y6) xq.length (xq.flatMap bq)):=Ys yM;clear iZ yM;go_wp2_with fail;(refine kk ax ag nR.o.any ?_);clear ag K2;(refine dn [_] rfl rfl fun K hK=>?_);(repeat (go_big_quiet_step (fail)));(refine qn hK fun K2 ag=>?_);clear hK K;go_wp2_with fail;(refine kk ax ag (nR.o.alloc _).any ?_);clear ag K2;(refine fG rfl fun K2 ag=>?_);obtain⟨dO,xJ,MJ,M0,Wl,hq1⟩:=Own.more HO5.o.dom HR6.o nR.o.size (by omega) (7,os.length);have nG:eu w6 dO w.heap.size (2,0) 174 3 (.slice va os.length vc) os.length (os.flatMap iD):=(HO5.o.row.ext nR.o).relabel xJ;have R6:∀j o,os[j]?=some o→eu w6 dO w.heap.size (7,j) 63 2 o.v o.o.fields.length (o.o.fields.flatMap bq):=fun j o ho=>((HO5.o.obj j o ho).ext nR.o).relabel xJ;have Av:Ext w6 (w6.alloc (.cells #[.int .i64 ok,.string on,(Value.slice x6 xq.length y6)] 174)):=kx;have acJ:∀u∈iD (⟨⟨⟨ok,on⟩,xq⟩,(Value.slice x6 xq.length y6)⟩:GO),u.oneCell'=true:=by
     simp[iD,Value.oneCell']
    refine aV Ee rfl (.tmp 12) (.tmp 19) rfl w.heap.size (.slice va os.length vc) os.length (os.flatMap iD) rfl ((nG.ext Av).row) w6.heap.size 1 (iD (⟨⟨⟨ok,on⟩,xq⟩,(Value.slice x6 xq.length y6)⟩:GO)) rfl rfl (af.zk _ _ rfl) acJ (by omega) (by have:=nR.o.size;simp;omega) ?_;intro g9 c9 w9 vX lV nS;change K2 _ _;have j6:Kp (fun b=>(Value.slice va os.length vc).ownBlock=some b) w6 w9:=Av.any.trans lV;(refine kk ax ag (nR.o.any.trans j6) ?_);clear ag K2;obtain⟨Qy,ME,Ws,Vi⟩:=eu.app nG MJ vX j6 (nS.imp id fun e=>by simp at e;omega)
    have Ev : jh w9 (dO.add g9 (2, 0)) w.heap.size (.slice (some ⟨g9, 0, none⟩) (os.length + 1) c9) (os ++ [(⟨⟨⟨ok, on⟩, xq⟩, (Value.slice x6 xq.length y6)⟩ : GO)]) := by
     refine⟨Ws,by simpa using Qy,fun j o ho=>?_,fun b r hb=>?_⟩
     · rcases Nat.lt_trichotomy j os.length with hj|hj|hj
       · rw[List.getElem?_append_left hj]at ho;exact nG.beside (R6 j o ho) j6 ME (by simp)
       · subst hj;simp at ho;subst ho;exact nG.beside M0 j6 ME (by simp)
       · rw[List.getElem?_eq_none (by simp;omega)]at ho;cases ho
     · rcases Vi b r hb with h|rfl
       · rcases hq1 b r h with h|rfl
         · exact HO5.o.I6 b r h
         · exact .inr ⟨_,rfl⟩
       · exact .inl rfl
    have jV:Ext w w9:=(iG.o.trans nR.o).own j6 (fun b e=>(nG.blk e).1);have BU:=Ys Ev;have o7:=Ys jV;clear xJ MJ M0 Wl hq1 nG R6 Av vX lV nS j6 Qy ME Ws Vi Ev jV ax r0 r1 r2;(refine dD ?_);go_wp2_with fail;refine⟨⟨q+1,dO.add g9 (2,0),os++[(⟨⟨⟨ok,on⟩,xq⟩,(Value.slice x6 xq.length y6)⟩:GO)],by omega,by go_num,o7.o,Ys ?_,BU.o⟩,by simp[intOf];omega⟩;rw[List.map_append,xV.o,List.take_add_one,HX.o];rfl
  · have CF:q=hs.length:=by omega
    have HR:Zs (os.map GO.o=hs):=Ys (by rw[xV.o,CF,List.take_length]);have HO:=Ys hO;have HE:=Ys hE;clear hO hE;go_wp2_with fail;go_ret;exact⟨⟨_,own,os,rfl,HR.o,HO.o⟩,HE.o⟩
theorem jh.mono{w:World}{own:Own}{B B':Nat}{v:Value}{os:List GO}(h:jh w own B v os)(hB:B'≤B):jh w own B' v os:=
 ⟨fun b hb=>⟨Nat.le_trans hB (h.dom b hb).1,(h.dom b hb).2⟩,⟨dJ h.row.row hB,h.row.role⟩,fun j o ho=>⟨dJ (h.obj j o ho).row hB,(h.obj j o ho).role⟩,h.I6⟩
theorem jh.kp{D:Nat→Prop}{w w':World}{own:Own}{B:Nat}{v:Value}{os:List GO}(h:jh w own B v os)(hk:Kp D w w')(hD:∀b,own b≠none→¬D b):jh w' own B v os:=
 ⟨fun b hb=>⟨(h.dom b hb).1,Nat.lt_of_lt_of_le (h.dom b hb).2 hk.size⟩,h.row.keep hk (eF.refl _ _) fun b hb _=>hD b (by rw[hb];simp),fun j o ho=>(h.obj j o ho).keep hk (eF.refl _ _) fun b hb _=>hD b (by rw[hb];simp),h.I6⟩
theorem M.Good.part{p:M.ai}{s:M.St}(h:M.Good p s)(n:Nat):M.Good p {s with frames:=s.frames.take n}:=
 ⟨h.heap,fun f hf=>h.frames f (List.mem_of_mem_take hf),by have:=h.nf;simp;omega,h.outs,h.ky,h.back⟩
theorem ay.start{w:World}{l:au}{p:M.ai}{own:Own}{B mb:Nat}{lk:Bool}{st:Int}{os:List GO}{outs:List Int}{back:M.Val}{vh vo:Value}(hL:aj w l p)(hB:l.L<B)(hO:jh w own B vh os)(Aa:own mb=none)
    (rW:B≤mb) (UW:az w mb 87 (rY l lk ⟨st,[],os,outs,back,.slice none 0 0,vh,vo⟩)) (nU:w.ownsRow B 3 1 vo outs.length (outs.flatMap nH)) (jy:∀b,vo.ownBlock=some b→own b=none∧b≠mb)
    (hG:M.Good p ⟨st,[],os.map GO.o,outs,back⟩):∃own',ay w l p own' B mb lk ⟨st,[],os,outs,back,.slice none 0 0,vh,vo⟩:=by
 have h1:∀b q,own b=some q→(own.add mb (0,0)) b=some q:=fun b q hb=>by
  rw[Own.dV _ (fun e=>by subst e;rw[Aa]at hb;cases hb)];exact hb
 have MJ:∀b,own.add mb (0,0) b≠none→B≤b∧b<w.heap.size:=fun b hb=>by
  by_cases e:b=mb
  · subst e;exact⟨rW,UW.lt⟩
  · rw[Own.dV _ e]at hb;exact hO.dom b hb
 have adi:∀i:Nat,∀c:GC,([]:List GC)[i]?=some c→iN w l p own B i c:=fun i c hc=>by simp at hc
 cases he:vo.ownBlock with
 |none=>
  exact⟨own.add mb (0,0),hL,hB,UW,Own.add_eq _ _ _,rW,eu.nil _ _ _ _ _ _,fun i c hc=>by simp at hc,hO.row.relabel h1,fun j o ho=>(hO.obj j o ho).relabel h1,⟨nU,fun b hb=>by rw[he]at hb;cases hb⟩,MJ,hG⟩
 | some g =>
  obtain⟨n1,n2⟩:=jy g he;have hg:=nU.lt g he;have h2:∀b q,(own.add mb (0,0)) b=some q→((own.add mb (0,0)).add g (3,0)) b=some q:=fun b q hb=>by
   rw[Own.dV _ (fun e=>by subst e;rw[Own.dV _ n2,n1]at hb;cases hb)];exact hb
  refine⟨(own.add mb (0,0)).add g (3,0),hL,hB,UW,h2 _ _ (Own.add_eq _ _ _),rW,eu.nil _ _ _ _ _ _,fun i c hc=>by simp at hc,(hO.row.relabel h1).relabel h2,fun j o ho=>((hO.obj j o ho).relabel h1).relabel h2,⟨nU,fun b hb=>?_⟩,fun b hb=>?_,hG⟩
  · rw[he]at hb;cases hb;exact Own.add_eq _ _ _
  · by_cases e:b=g
    · subst e;exact hg
    · rw[Own.dV _ e]at hb;exact MJ b hb
theorem EW(w:World)(l:au)(p:M.ai)(h:aj w l p)(lk:Bool)(s:M.St)(cs:List Value)(hs:cO w (· <l.O) s cs)(hv:M.zL p s=true):
    Calls Tryz.prog 21 #[.pointer (some ⟨l.L,0,none⟩),.bool lk,.agg cs.toArray] w fun e w'=>(∃mb own g,e=.returned (.pointer (some ⟨mb,0,none⟩))∧ay w' l p own w.heap.size mb lk g∧g.st=s)∧Ext w w':=by
 obtain⟨a1,c1,a2,c2,a3,c3,rfl,h1,h2,h3⟩:=hs.form;have hR:=M.zq.1 hv;clear hs hv;obtain⟨st,rA,hp,outs,⟨bk,bn⟩⟩:=s;simp only at h1 h2 h3 ⊢;have kP:=h1.form;have uV:=h2.form;have Wz:=h3.form;obtain⟨_,_,e1,yI,hm1⟩:=kP;cases e1;obtain⟨_,_,e2,DD,RX⟩:=uV;cases e2;obtain⟨_,_,e3,U5,Wy⟩:=Wz;cases e3;have hhp:hp.length≤12:=(M.eT.1 hR.good.heap).1;obtain⟨w1,jl⟩:∃w1,w1=(w.alloc (.cells #[.int .i64 st,.slice a1 rA.length c1,.slice a2 hp.length c2,.slice a3 outs.length c3,.int .i64 bk,.int .i64 bn] 65)).alloc (.cells #[.pointer (some ⟨l.L,0,none⟩),.bool lk,.int .i64 st,.slice none 0 0,.slice none 0 0,.slice none 0 0,.int .i64 bk,.int .i64 bn] 87):=⟨_,rfl⟩;have aZ:Ext w w1:=by rw[jl];exact kx
 have b5:az w1 w.heap.size 65 #[.int .i64 st,.slice a1 rA.length c1,.slice a2 hp.length c2,.slice a3 outs.length c3,.int .i64 bk,.int .i64 bn]:=by rw[jl];exact(az.new _ _ _).ext kx
 have b7:az w1 (w.heap.size+1) 87 #[.pointer (some ⟨l.L,0,none⟩),.bool lk,.int .i64 st,.slice none 0 0,.slice none 0 0,.slice none 0 0,.int .i64 bk,.int .i64 bn]:=by rw[jl];exact az.newAt _ _ (by simp)
 have AL:w1.heap.size=w.heap.size+2:=by rw[jl];simp
 have vW:=h.lt;have HL:=Ys h;have HR:=Ys hR;have eP:=Ys aZ;have ru:=Ys b5;have FQ:=Ys b7;have xW:=Ys jl;have H1:=Ys h1;have H2:=Ys h2;have H3:=Ys h3;clear h hR aZ b5 b7 jl h1 h2 h3;go_enter Tryz.func21,Tryz.ntmps21;go_wp2_with fail;rw[←xW.o];refine(uO _ (· <l.O) _ hp (H2.o.ext rQ.stays eP.o) hhp).mono ?_;rintro e w2 ⟨⟨vh,dO,os,rfl,GR,hO⟩,bY⟩;obtain⟨ah,ch,rfl⟩:=hO.row.form;have b52:=ru.o.ext bY;have XW:=FQ.o.ext bY;obtain⟨w3,hZ⟩:∃w3,w3=w2.setCell ⟨w.heap.size+1,4,none⟩ (Value.slice ah os.length ch):=⟨_,rfl⟩;have mg:Kp (·=w.heap.size+1) w2 w3:=by rw[hZ];exact(Kp.refl (·=w.heap.size+1) w2).setCell (p:=⟨w.heap.size+1,4,none⟩) (fun _=>rfl) _
 have b73:az w3 (w.heap.size+1) 87 #[.pointer (some ⟨l.L,0,none⟩),.bool lk,.int .i64 st,.slice none 0 0,(Value.slice ah os.length ch),.slice none 0 0,.int .i64 bk,.int .i64 bn]:=by rw[hZ];exact XW.bA 4 _
 have iQ:=b52.kp mg (by omega);have y4:=XW.c 4 (.slice none 0 0) rfl;have yf:=XW.frozen 4;have yz:=XW.lt;have x3:=b52.c 3 (.slice a3 outs.length c3) rfl;have xz:=b52.lt;have iL:Zs (Ext w w3):=Ys ((eP.o.trans bY).own mg (fun b e=>by omega));have HO3:Zs (jh w3 dO w1.heap.size (Value.slice ah os.length ch) os):=Ys (hO.kp mg (fun b hb e=>by have:=(hO.dom b hb).1;omega));have xV:=Ys GR;have kK:=Ys hZ;have aaY:=Ys b73;have O5:=Ys iQ;have AO:w2.heap.size≤w3.heap.size:=mg.size;have EA:=bY.size;clear GR hO bY b52 XW hZ mg b73 iQ;go_wp2_with fail;rw[←kK.o];clear y4 yf yz x3 xz;refine(qP _ _ _ _ ((H3.o.ext kL.stays iL.o).ints) Wy).mono ?_;rintro e w4 ⟨⟨vo,rfl,nU⟩,dN⟩;obtain⟨ao,co,rfl⟩:=bJ nU;have XX:=aaY.o.ext dN;have b54:=O5.o.ext dN;obtain⟨w5,uW⟩:∃w5,w5=w4.setCell ⟨w.heap.size+1,5,none⟩ (Value.slice ao outs.length co):=⟨_,rfl⟩;have ql:Kp (·=w.heap.size+1) w4 w5:=by rw[uW];exact(Kp.refl (·=w.heap.size+1) w4).setCell (p:=⟨w.heap.size+1,5,none⟩) (fun _=>rfl) _
 have b75:az w5 (w.heap.size+1) 87 #[.pointer (some ⟨l.L,0,none⟩),.bool lk,.int .i64 st,.slice none 0 0,(Value.slice ah os.length ch),(Value.slice ao outs.length co),.int .i64 bk,.int .i64 bn]:=by rw[uW];exact XX.bA 5 _
 have ed:Ext w w5:=(iL.o.trans dN).own ql (fun b e=>by omega);have Mx:jh w5 dO w.heap.size (Value.slice ah os.length ch) os:=((HO3.o.kp (D:=fun _=>False) dN fun _ _ x=>x).kp ql (fun b hb e=>by have:=(HO3.o.dom b hb).1;omega)).mono (by omega);have aaa:w5.ownsRow w.heap.size 3 1 (Value.slice ao outs.length co) outs.length (outs.flatMap nH):=dJ (aA nU ql (fun q hq hb e=>by have:=nU.lt q hq;omega)) (by omega);have hM:∃own',ay w5 l p own' w.heap.size (w.heap.size+1) lk ⟨st,[],os,outs,⟨bk,bn⟩,.slice none 0 0,(Value.slice ah os.length ch),(Value.slice ao outs.length co)⟩:=by
  refine ay.start (HL.o.ext ed) vW Mx ?_ (by omega) b75 aaa (fun b hb=>?_) ?_
  · cases e:dO (w.heap.size+1)with
    |none=>rfl
    |some r=>have:=(HO3.o.dom _ (by rw[e];simp)).1;omega
  · have h1:=(nU.lt b hb).1;refine⟨?_,by omega⟩;cases e:dO b with
    |none=>rfl
    |some r=>have:=(HO3.o.dom _ (by rw[e];simp)).2;omega
  · rw[xV.o];have:=HR.o.good.part 0;simpa using this
 have y5:=XX.c 5 (.slice none 0 0) rfl;have yf:=XX.frozen 5;have yz:=XX.lt;have x1:=b54.c 1 (.slice a1 rA.length c1) rfl;have xz:=b54.lt;have HM:=Ys hM;have iG:=Ys ed;have OE:=Ys uW;clear XX b54 uW ql b75 ed Mx aaa hM nU dN;go_wp2_with fail;rw[←OE.o];clear y5 yf yz x1 xz;go_loopw [34] (fun i wr=>∃(q:Nat) (own:Own) (g:Gh),q≤rA.length∧i=.int .i64 q∧Ext w wr∧ay wr l p own w.heap.size (w.heap.size+1) lk g∧g.st=⟨st,rA.take q,hp,outs,⟨bk,bn⟩⟩) (fun i _=>rA.length - (intOf i).toNat)
 case atStart=>
  obtain⟨own',hM⟩:=HM.o;exact⟨0,own',_,Nat.zero_le _,rfl,iG.o,hM,by simp[Gh.st,xV.o]⟩
 case round=>
  obtain⟨q,own,g,hq,rfl,hE,hM,bU⟩:=hrel;by_cases cK:q<rA.length
  · obtain⟨⟨⟨⟨xk,xn⟩,xa⟩,pc,lo,sk⟩,hx⟩:=gH rA q cK;have zY:=M.aF.1 (HR.o.good.frames _ (List.mem_of_getElem? hx));have HFO:=Ys zY;obtain⟨b,off,cs,rfl,hI,⟨vl,vs,rfl,rC,hsk⟩, -,hc⟩:=(H1.o.ext KE.stays hE).get hx;obtain⟨la,lc,rfl,hln,RV⟩:=rC.form;obtain⟨sa,sc,rfl,hsn,hsc⟩:=hsk.form;simp only at rC hsk hln RV hsn hsc hc;obtain⟨g0,g1,g2,g3,g4,g5⟩:=hc.six;have gz:=aS g0;obtain⟨w9,fT,jV,b9⟩:=nu wr #[.int .i64 xk,.string xn,.int .i64 xa,.int .i64 pc,.slice la lo.length lc,.slice sa sk.length sc] 121;have hz9:w9.heap.size=wr.heap.size+1:=by rw[fT];simp
    have y0:=b9.c 0 (.int .i64 xk) rfl;have y1:=b9.c 1 (.string xn) rfl;have y2:=b9.c 2 (.int .i64 xa) rfl;have yz:=b9.lt;obtain⟨m,hm⟩:∃m,M.method p ⟨⟨xk,xn⟩,xa⟩=m:=⟨_,rfl⟩;have xG:=dK w9 l p (hM.cu.ext jV) ⟨⟨xk,xn⟩,xa⟩ zY.1;rw[hm]at xG;have Qm:g.cs.length=q:=by
     have:=congrArg (fun s=>s.frames.length) bU;simpa [Gh.st,Nat.min_eq_left hq]using this
    have hcv:∀b,g.vc.ownBlock=some b→b<wr.heap.size:=fun b e=>(hM.calls.blk e).2;have Aj:=Ys xG;have HM:=Ys hm;have BS:=Ys (hM.ext jV);have o7:=Ys (hE.trans jV);have DJ:=Ys b9;have F5:=Ys fT;have HLO:=Ys (rC.ext ig.stays jV);have XI:=Ys (hsk.ext ig.stays jV);have qN:=Ys bU;have HX:=Ys hx;have HGL:=Ys Qm;have WH:=hE.size;clear zY rC hsk hc jV b9 fT xG hm bU hx Qm hE hM;go_wp2_with fail;rw[←F5.o];clear g0 g1 g2 g3 g4 g5;refine Aj.o.mono ?_;rintro e w6 ⟨⟨cs,jk,rfl⟩,iZ⟩;obtain⟨t2,rfl⟩:=gP jk;obtain⟨dR,oG⟩:∃dR,dR=w6.alloc (.cells (eG m t2).toArray 34):=⟨_,rfl⟩;have iy:Ext w6 dR:=by rw[oG];exact kx
    have b10:az dR w6.heap.size 34 (eG m t2).toArray:=by rw[oG];exact az.new _ _ _
    have aai:dR.heap.size=w6.heap.size+1:=by rw[oG];simp
    have Gg:=DJ.o.ext (iZ.trans iy);have rV:=BS.o.ext (iZ.trans iy);have OY:=iZ.size;obtain⟨va,vc,CJ⟩:=rV.calls.form;have xh:¬g.vc.ownBlock=some (w.heap.size+1):=fun e=>by have:=rV.calls.role _ e;rw[rV.role]at this;cases this
    have tX:∀b,wr.heap.size≤b→¬g.vc.ownBlock=some b:=fun b hb e=>by have:=hcv b e;omega
    obtain⟨T,f,dm,HT⟩:=gy.ex (fun W'=>Kp (fun b=>g.vc.ownBlock=some b) dR W') _ (Kp.refl _ _);have rm3:=fun z=>(rV.blk.kp (HT.aK z) xh).c 3 (.slice va g.cs.length vc) (by rw[←CJ];rfl);have r90:=fun z=>(Gg.kp (HT.aK z) (tX _ (Nat.le_refl _))).c 0 (.int .i64 xk) rfl;have r91:=fun z=>(Gg.kp (HT.aK z) (tX _ (Nat.le_refl _))).c 1 (.string xn) rfl;have r92:=fun z=>(Gg.kp (HT.aK z) (tX _ (Nat.le_refl _))).c 2 (.int .i64 xa) rfl;have r93:=fun z=>(Gg.kp (HT.aK z) (tX _ (Nat.le_refl _))).c 3 (.int .i64 pc) rfl;have r94:=fun z=>(Gg.kp (HT.aK z) (tX _ (Nat.le_refl _))).c 4 (.slice la lo.length lc) rfl;have r95:=fun z=>(Gg.kp (HT.aK z) (tX _ (Nat.le_refl _))).c 5 (.slice sa sk.length sc) rfl;have Rw:wr.heap.size≤w6.heap.size:=by omega
    have r70:=fun z=>(b10.kp (HT.aK z) (tX _ Rw)).c 0 (.string m.name) rfl;have r71:=fun z=>(b10.kp (HT.aK z) (tX _ Rw)).c 1 (.slice t2.a1 m.args.length t2.c1) rfl;have r72:=fun z=>(b10.kp (HT.aK z) (tX _ Rw)).c 2 (.int .i64 m.ret.kind) rfl;have r73:=fun z=>(b10.kp (HT.aK z) (tX _ Rw)).c 3 (.string m.ret.name) rfl;have r74:=fun z=>(b10.kp (HT.aK z) (tX _ Rw)).c 4 (.int .i64 m.locals) rfl;have r75:=fun z=>(b10.kp (HT.aK z) (tX _ Rw)).c 5 (.int .i64 m.stack) rfl;have r76:=fun z=>(b10.kp (HT.aK z) (tX _ Rw)).c 6 (.slice t2.a2 m.code.length t2.c2) rfl;have r77:=fun z=>(b10.kp (HT.aK z) (tX _ Rw)).c 7 (.slice t2.a3 m.maps.length t2.c3) rfl;have ax:=Ys HT;have FY:=Ys CJ;have Pv:=Ys xh;have fC:=Ys rV;have kY:=Ys (o7.o.trans (iZ.trans iy));have zU:Zs (aC dR (· <l.O) m (eG m t2)):=Ys (bD.ext aC.stays iy jk);have abD:=Ys (HLO.o.ext ig.stays (iZ.trans iy));have abP:=Ys (XI.o.ext ig.stays (iZ.trans iy));have Jg:=Ys oG;clear HT CJ xh tX rV jk oG b10 Gg iy iZ Aj y0 y1 y2 yz HLO XI;simp only[eG];unfold eG at Jg;go_wp2_with fail;rw[←Jg.o];(refine dQ ax 23 [([0,1,2,3,4,5,6,7,8,9,10,11,13,14,16,17],12),([],15),([18,19],20),([],21),([],22)] [] ?_ ?_)
    · exact(Kp.refl _ _).drew
    (refine dn [_,_,_,_,_,_,_,_,_,_,_,_,_,_,_,_] rfl rfl fun K hK=>?_);(repeat (go_big_quiet_step (fail)));(refine qn hK fun K2 ag=>?_);clear hK K;go_wp2_with fail;refine(lL _ _ _ _ ((abD.o.ext ig.stays (Kp.refl _ _).drew).vals) RV).mono ?_;rintro e Ac ⟨⟨v11,rfl,GX⟩,Cs⟩;obtain⟨La,WN,rfl⟩:=bJ GX;have ny:Zs (Ext dR Ac):=Ys (((Kp.refl _ dR).drew:Ext dR _).trans Cs);have abM:Zs (Ac.ownsRow dR.heap.size 63 2 (Value.slice La lo.length WN) lo.length (lo.flatMap bq)):=Ys GX;clear Cs GX;go_wp2_with fail;(refine kk ax ag ny.o.any ?_);clear ag K2;(refine fG rfl fun K2 ag=>?_);go_wp2_with fail;refine(lL _ _ _ _ ((abP.o.ext ig.stays ny.o).vals) hsc).mono ?_;rintro e pY ⟨⟨v12,rfl,GY⟩,Jz⟩;obtain⟨Ol,y12,rfl⟩:=bJ GY;have wR:=Ys Jz;have abN:=Ys GY;clear Jz GY;go_wp2_with fail;(refine kk ax ag (ny.o.trans wR.o).any ?_);clear ag K2;(refine dn [_,_] rfl rfl fun K hK=>?_);(repeat (go_big_quiet_step (fail)));(refine qn hK fun K2 ag=>?_);clear hK K;go_wp2_with fail;(refine kk ax ag ((ny.o.trans wR.o).alloc _).any ?_);clear ag K2;(refine fG rfl fun K2 ag=>?_);go_wp2_with fail;(refine kk ax ag (((ny.o.trans wR.o).alloc _).alloc _).any ?_);clear ag K2;(refine fG rfl fun K2 ag=>?_);obtain⟨wB,JP⟩:∃wB,wB=(pY.alloc (.cells #[.int .i64 xk,.string xn,.int .i64 xa,.string m.name,.slice t2.a1 m.args.length t2.c1,.int .i64 m.ret.kind,.string m.ret.name,.int .i64 m.locals,.int .i64 m.stack,.slice t2.a2 m.code.length t2.c2,.slice t2.a3 m.maps.length t2.c3,.int .i64 pc,(Value.slice La lo.length WN),(Value.slice Ol sk.length y12),.int .i64 m.stack] 132)).alloc (.cells #[.pointer (some ⟨pY.heap.size,0,none⟩)] 127):=⟨_,rfl⟩;rw[←JP];have KT:Ext pY wB:=by rw[JP];exact kx
    have bB:az wB pY.heap.size 132 #[.int .i64 xk,.string xn,.int .i64 xa,.string m.name,.slice t2.a1 m.args.length t2.c1,.int .i64 m.ret.kind,.string m.ret.name,.int .i64 m.locals,.int .i64 m.stack,.slice t2.a2 m.code.length t2.c2,.slice t2.a3 m.maps.length t2.c3,.int .i64 pc,(Value.slice La lo.length WN),(Value.slice Ol sk.length y12),.int .i64 m.stack]:=by rw[JP];exact(az.newAt (W:=pY) (g:=pY.heap.size) _ _ rfl).ext kx
    have bS:af wB (pY.heap.size+1) 0 [.pointer (some ⟨pY.heap.size,0,none⟩)]:=by rw[JP];exact af.zk _ _ (by simp)
    have hzB:wB.heap.size=pY.heap.size+2:=by rw[JP];simp
    have adZ:w.heap.size≤wr.heap.size:=WH;have ad6:=ny.o.size;have aaj:=wR.o.size;obtain⟨dO,xJ,MJ,M0,Wl, -⟩:=Own.more fC.o.dom abM.o ny.o.size (by omega) (5,g.cs.length);obtain⟨AV,JL,Ws,Qy,ME, -⟩:=Own.more MJ abN.o wR.o.size (by omega) (6,g.cs.length);have uV:∀b,pY.heap.size≤b→AV b=none:=fun b hb=>by
     cases e:AV b with
     |none=>rfl
     |some q=>have:=(Ws b (by rw[e];simp)).2;omega
    have JM:∀b q,AV b=some q→(AV.add pY.heap.size (4,g.cs.length)) b=some q:=fun b q hb=>by
     rw[Own.dV _ (fun e=>by rw[e,uV _ (Nat.le_refl _)]at hb;cases hb)];exact hb
    have Zl:∀b,AV.add pY.heap.size (4,g.cs.length) b≠none→w.heap.size≤b∧b<wB.heap.size:=fun b hb=>by
     by_cases e:b=pY.heap.size
     · subst e;omega
     · rw[Own.dV _ e]at hb;have:=Ws b hb;omega
    have Wh:=(fC.o.ext ((ny.o.trans wR.o).trans KT)).relabel (fun b q hb=>JM _ _ (JL _ _ (xJ _ _ hb))) Zl;have YB:iN wB l p (AV.add pY.heap.size (4,g.cs.length)) w.heap.size g.cs.length (⟨⟨⟨⟨xk,xn⟩,xa⟩,pc,lo,sk⟩,pY.heap.size,t2,(Value.slice La lo.length WN),(Value.slice Ol sk.length y12)⟩:GC):=by
     refine⟨?_,Own.add_eq _ _ _,by show w.heap.size≤pY.heap.size;omega,?_,((M0.ext (wR.o.trans KT)).relabel JL).relabel JM,(Qy.ext KT).relabel JM⟩
     · unfold yh;simp only[HM.o];exact bB
     · simp only[HM.o];exact bD.ext aC.stays ((ny.o.trans wR.o).trans KT) zU.o
    have HMB:=Ys Wh;have KH:=Ys YB;have Ox:Zs (Ext dR wB):=Ys ((ny.o.trans wR.o).trans KT);have acj:g.cs.length<8:=by have h1:rA.length≤8:=HR.o.good.nf;have h2:=HGL.o;omega
    clear JP bB Wh YB xJ MJ M0 Wl JL Ws Qy ME uV JM Zl KT;refine aV Ba rfl (.tmp 46) (.tmp 63) rfl w.heap.size (.slice va g.cs.length vc) g.cs.length (g.cs.flatMap nL) rfl (by rw[←FY.o];exact HMB.o.calls.row) (pY.heap.size+1) 1 [.pointer (some ⟨pY.heap.size,0,none⟩)] rfl rfl bS (by simp[Value.oneCell']) (by omega) (by omega) ?_;intro gg c9 uI YW mf U2;change K2 _ _;rw[←FY.o]at mf U2;(refine kk ax ag (Ox.o.any.trans mf) ?_);clear ag K2;have CB:=HMB.o.blk.kp mf Pv.o;have q3:=CB.c 3 (.slice va g.cs.length vc) (by rw[←FY.o];rfl);have f3:=CB.frozen 3;have qz:=CB.lt;have Vn:({g with cs:=g.cs++[(⟨⟨⟨⟨xk,xn⟩,xa⟩,pc,lo,sk⟩,pY.heap.size,t2,(Value.slice La lo.length WN),(Value.slice Ol sk.length y12)⟩:GC)],vc:=.slice (some ⟨gg,0,none⟩) (g.cs.length+1) c9}:Gh).st=⟨st,rA.take (q+1),hp,outs,⟨bk,bn⟩⟩:=by
     have h1:=qN.o;simp only[Gh.st,M.St.mk.injEq]at h1 ⊢;obtain⟨e1,e2,e3,e4,e5⟩:=h1;refine⟨e1,?_,e3,e4,e5⟩;rw[List.map_append,e2,List.take_add_one,HX.o];rfl
    obtain⟨Gy,own',yF,JC⟩:=HMB.o.Ig (⟨⟨⟨⟨xk,xn⟩,xa⟩,pc,lo,sk⟩,pY.heap.size,t2,(Value.slice La lo.length WN),(Value.slice Ol sk.length y12)⟩:GC) KH.o gg c9 YW mf (by
     rcases U2 with e|e
     · exact .inl e
     · right;omega) (by rw[Vn];exact HR.o.good.part (q+1))
    have Uz:Ext w (uI.setCell ⟨w.heap.size+1,3,none⟩ (.slice (some ⟨gg,0,none⟩) (g.cs.length+1) c9)):=
     ((kY.o.trans Ox.o).own mf (fun b e=>(HMB.o.calls.blk e).1)).own ((Kp.refl (·=w.heap.size+1) uI).setCell (p:=⟨w.heap.size+1,3,none⟩) (fun _=>rfl) _) (fun b e=>by omega)
    have Xr:=Ys Uz;have abG:=Ys JC;have abQ:=Ys Vn;clear Gy yF JC Vn CB YW mf U2 bS ax rm3 r90 r91 r92 r93 r94 r95 r70 r71 r72 r73 r74 r75 r76 r77;(refine dD ?_);go_wp2_with fail;exact⟨⟨q+1,own',_,by omega,by go_num,Xr.o,abG.o,abQ.o⟩,by simp[intOf];omega⟩
  · have CF:q=rA.length:=by omega
    have HF:Zs (g.st=⟨st,rA,hp,outs,⟨bk,bn⟩⟩):=Ys (by rw[bU,CF,List.take_length]);have HE:=Ys hE;have Aj:=Ys hM;clear hE hM bU;go_wp2_with fail;go_ret;exact⟨⟨_,own,g,rfl,Aj.o,HF.o⟩,HE.o⟩
theorem Gp:Elem 59 121 6:=iJ (z:=.agg #[.int .i64 0,.string ⟨#[]⟩,.int .i64 0,.int .i64 0,.slice none 0 0,.slice none 0 0]) (bytes:=88) Tryz.underlying59 (by kernel_rfl) rfl (by decide) (by decide)
structure GF where
 f:M.Fr
 vl:Value
 vs:Value
def Ju(x:GF):List Value:=[.int .i64 x.f.of.of.keeper,.string x.f.of.of.name,.int .i64 x.f.of.at_,.int .i64 x.f.pc,x.vl,x.vs]
structure nk(w:World)(own:Own)(B:Nat)(v:Value)(fs:List GF):Prop where
 dom:∀b,own b≠none→B≤b∧b<w.heap.size
 row:eu w own B (8,0) 121 6 v fs.length (fs.flatMap Ju)
 loc:∀j x,fs[j]?=some x→eu w own B (9,j) 63 2 x.vl x.f.locals.length (x.f.locals.flatMap bq)
 bQ:∀j x,fs[j]?=some x→eu w own B (10,j) 63 2 x.vs x.f.stack.length (x.f.stack.flatMap bq)
theorem nk.nil(w:World)(B:Nat):nk w (fun _=>none) B (.slice none 0 0) []:=
 ⟨fun b h=>absurd rfl h,eu.nil _ _ _ _ _ _,fun j o h=>by simp at h,fun j o h=>by simp at h⟩
theorem nk.slice{w:World}{own:Own}{B:Nat}{v:Value}{fs:List GF}(h:nk w own B v fs){I:Nat→Prop}(hI:∀b,B≤b→b<w.heap.size→I b)(hl:fs.length≤4294967296)(hf:∀x∈fs,x.f.locals.length≤4294967296∧x.f.stack.length≤4294967296):SliceOf 6 KE w I v (fs.map GF.f):=by
 have oq:∀x∈fs,SliceOf 2 ig w I x.vl x.f.locals∧SliceOf 2 ig w I x.vs x.f.stack:=fun x hx=>by
  obtain⟨j,hj,e⟩:=List.getElem_of_mem hx;have hj':fs[j]?=some x:=by rw[List.getElem?_eq_getElem hj,e]
  exact⟨SliceOf.gT bq (h.loc j x hj').row rfl rfl (fun _ _=>rfl) (fun _ _=>rfl) (fun b h1 h2=>hI b h1 h2) (hf x hx).1,
   SliceOf.gT bq (h.bQ j x hj').row rfl rfl (fun _ _=>rfl) (fun _ _=>rfl) (fun b h1 h2=>hI b h1 h2) (hf x hx).2⟩
 have hs:SliceOf 6 (fun w I (x:GF) cs=>(SliceOf 2 ig w I x.vl x.f.locals∧SliceOf 2 ig w I x.vs x.f.stack)∧cs=Ju x) w I v fs:=
  SliceOf.gT Ju h.row.row rfl rfl (fun _ _=>rfl) (fun o ho=>⟨oq o ho,rfl⟩) (fun b h1 h2=>hI b h1 h2) hl
 obtain⟨a,c,e,h1,h2,h3⟩:=hs;refine⟨a,c,by rw[e,List.length_map],by rw[List.length_map];exact h1,by rw[List.length_map];exact h2,fun i x hx=>?_⟩;rw[List.getElem?_map]at hx;cases hi:fs[i]? with
 |none=>rw[hi]at hx;cases hx
 |some o=>
  rw[hi]at hx;cases hx;obtain⟨b,off,cs,ea,Dz,⟨oD,rfl⟩,hlen,hc⟩:=h3 i o hi;exact⟨b,off,_,ea,Dz,⟨o.vl,o.vs,rfl,oD.1,oD.2⟩,hlen,hc⟩
theorem nk.ext{w w':World}{own:Own}{B:Nat}{v:Value}{fs:List GF}(h:nk w own B v fs)(hE:Ext w w'):nk w' own B v fs:=
 ⟨fun b hb=>⟨(h.dom b hb).1,Nat.lt_of_lt_of_le (h.dom b hb).2 hE.size⟩,h.row.ext hE,fun j x hx=>(h.loc j x hx).ext hE,fun j x hx=>(h.bQ j x hx).ext hE⟩
theorem nk.kp{D:Nat→Prop}{w w':World}{own:Own}{B:Nat}{v:Value}{fs:List GF}(h:nk w own B v fs)(hk:Kp D w w')(hD:∀b,own b≠none→¬D b):nk w' own B v fs:=
 ⟨fun b hb=>⟨(h.dom b hb).1,Nat.lt_of_lt_of_le (h.dom b hb).2 hk.size⟩,h.row.keep hk (eF.refl _ _) fun b hb _=>hD b (by rw[hb];simp),
  fun j o ho=>(h.loc j o ho).keep hk (eF.refl _ _) fun b hb _=>hD b (by rw[hb];simp),fun j o ho=>(h.bQ j o ho).keep hk (eF.refl _ _) fun b hb _=>hD b (by rw[hb];simp)⟩
theorem ay.things{w:World}{l:au}{p:M.ai}{own:Own}{B mb:Nat}{lk:Bool}{g:Gh}(h:ay w l p own B mb lk g):SliceOf 3 rQ w (fun _=>True) g.vh g.st.heap:=by
 have hh:=M.eT.1 h.good.heap;have U6:∀o∈g.st.heap,o.fields.length≤4294967296:=fun o ho=>by
  rw[(hh.2 o ho).2.1];have h1:=jH h.cu.ok (M.chain p o.of).reverse;have h2:=M.nA p o.of;unfold M.layout;rw[if_pos (hh.2 o ho).1];rw[List.length_reverse]at h1;omega
 have oq:∀o∈g.os,SliceOf 2 ig w (fun _=>True) o.v o.o.fields:=fun o ho=>by
  obtain⟨j,hj,e⟩:=List.getElem_of_mem ho;exact SliceOf.gT bq (h.obj j o (by rw[List.getElem?_eq_getElem hj,e])).row rfl rfl (fun _ _=>rfl) (fun _ _=>rfl) (fun b h1 h2=>trivial) (U6 o.o (by simp only[Gh.st];exact List.mem_map_of_mem ho))
 have hl:g.os.length≤4294967296:=by
  have:=hh.1;simp only[Gh.st,List.length_map]at this;omega
 have hs:SliceOf 3 (fun w I (x:GO) cs=>SliceOf 2 ig w I x.v x.o.fields∧cs=iD x) w (fun _=>True) g.vh g.os:=
  SliceOf.gT iD h.heap.row rfl rfl (fun _ _=>rfl) (fun o ho=>⟨oq o ho,rfl⟩) (fun b h1 h2=>trivial) hl
 obtain⟨a,c,e,h1,h2,h3⟩:=hs;refine⟨a,c,by rw[e];simp[Gh.st],by simpa [Gh.st]using h1,by simpa [Gh.st]using h2,fun i x hx=>?_⟩;simp only[Gh.st]at hx;rw[List.getElem?_map]at hx;cases hi:g.os[i]? with
 |none=>rw[hi]at hx;cases hx
 |some o=>
  rw[hi]at hx;cases hx;obtain⟨b,off,cs,ea,Dz,⟨oD,rfl⟩,hlen,hc⟩:=h3 i o hi;exact⟨b,off,_,ea,trivial,⟨o.v,rfl,oD⟩,hlen,hc⟩
theorem Kp.gq{D:Nat→Prop}{w:World}{b:Nat}(hD:D b)(v0 v1 v2 v3 v4 v5:Value):Kp D w ((((((w.setCell ⟨b,0,none⟩ v0).setCell ⟨b,1,none⟩ v1).setCell ⟨b,2,none⟩ v2).setCell ⟨b,3,none⟩ v3).setCell ⟨b,4,none⟩ v4).setCell ⟨b,5,none⟩ v5):=
 (Kp.lq hD v0 v1 v2).trans ((((Kp.refl D _).setCell (p:=⟨b,3,none⟩) (fun _=>hD) v3).setCell (p:=⟨b,4,none⟩) (fun _=>hD) v4).setCell (p:=⟨b,5,none⟩) (fun _=>hD) v5)
theorem az.gq{w:World}{b:Nat}{t:TypeId}{u0 u1 u2 u3 u4 u5:Value}(h:az w b t #[u0,u1,u2,u3,u4,u5])(v0 v1 v2 v3 v4 v5:Value):az ((((((w.setCell ⟨b,0,none⟩ v0).setCell ⟨b,1,none⟩ v1).setCell ⟨b,2,none⟩ v2).setCell ⟨b,3,none⟩ v3).setCell ⟨b,4,none⟩ v4).setCell ⟨b,5,none⟩ v5) b t #[v0,v1,v2,v3,v4,v5]:=
 (((((h.bA 0 v0).bA 1 v1).bA 2 v2).bA 3 v3).bA 4 v4).bA 5 v5
theorem ze(w:World)(l:au)(p:M.ai)(own:Own)(B mb:Nat)(lk:Bool)(g:Gh)(h:ay w l p own B mb lk g):
    Calls Tryz.prog 23 #[.pointer (some ⟨mb,0,none⟩)] w fun e w'=>(∃cs,e=.returned (.agg cs.toArray)∧cO w' (fun b=>w.heap.size≤b) g.st cs)∧Ext w w':=by
 obtain⟨w1,jl,aZ,b2⟩:=nu w #[.int .i64 0,.slice none 0 0,.slice none 0 0,.slice none 0 0,.int .i64 0,.int .i64 0] 65;have AL:w1.heap.size=w.heap.size+1:=by rw[jl];simp
 obtain⟨ca,cc,CJ⟩:=h.calls.form;obtain⟨ha,hc,hvh⟩:=h.heap.form;obtain⟨oa,oc,nU⟩:=h.outs.form;have Aa:=h.blk.lt;have Bl:=h.ext aZ;obtain⟨T,f,dm,HT⟩:=gy.ex (fun W'=>Ext w1 W') _ (Kp.refl _ _);have r2:=fun z=>(Bl.blk.ext (HT.aK z)).c 2 (.int .i64 g.status) rfl;have r4:=fun z=>(Bl.blk.ext (HT.aK z)).c 4 (.slice ha g.os.length hc) (by rw[←hvh];rfl);have r5:=fun z=>(Bl.blk.ext (HT.aK z)).c 5 (.slice oa g.outs.length oc) (by rw[←nU];rfl);have r6:=fun z=>(Bl.blk.ext (HT.aK z)).c 6 (.int .i64 g.back.kind) rfl;have r7:=fun z=>(Bl.blk.ext (HT.aK z)).c 7 (.int .i64 g.back.n) rfl;have ax:=Ys HT;have H:=Ys h;have Dw:=Ys Bl;have uF:=Ys b2;have eP:=Ys aZ;have FY:=Ys CJ;have HVH:=Ys hvh;have Lx:=Ys nU;have xW:=Ys jl;clear HT h Bl b2 aZ CJ hvh nU jl;go_enter Tryz.func23,Tryz.ntmps23;go_wp2_with fail;rw[←xW.o];rename_i K hK;have xI:g.st.heap.length≤12:=(M.eT.1 H.o.good.heap).1;have hol:g.outs.length≤40:=H.o.good.outs;have FD:g.cs.length≤8:=by have:=H.o.good.nf;simpa [Gh.st]using this
 have hcv : ∀ b, g.vc.ownBlock = some b → b < w.heap.size := fun b e => (H.o.calls.blk e).2; have tail : ∀ (b3 ch co : Nat) (ah ao : Option Addr) (dO : Own) (os : List GO) (w3 : World), Ext w1 w3 → os.map GO.o = g.st.heap → jh w3 dO w1.heap.size (.slice ah os.length ch) os →
     w3.ownsRow w1.heap.size 3 1 (.slice ao g.outs.length co) g.outs.length (g.outs.flatMap nH)→az w3 b3 65 #[.int .i64 g.status,.slice none 0 0,.slice ah os.length ch,.slice ao g.outs.length co,.int .i64 g.back.kind,.int .i64 g.back.n]→w1.heap.size≤b3→dO b3=none→(Value.slice ao g.outs.length co).ownBlock≠some b3→
     K {tmps:=#[.pointer (some ⟨mb,0,none⟩),undef,.pointer (some ⟨w.heap.size,0,none⟩),.pointer (some ⟨b3,0,none⟩),undef,undef,.pointer (some ⟨mb,0,none⟩),.pointer (some ⟨mb,0,none⟩),.pointer (some ⟨mb,2,none⟩),.int .i64 g.status,.pointer (some ⟨mb,0,none⟩),.pointer (some ⟨mb,0,none⟩),.pointer (some ⟨mb,4,none⟩),.slice ha g.os.length hc,.slice ah os.length ch,.pointer (some ⟨mb,0,none⟩),.pointer (some ⟨mb,0,none⟩),.pointer (some ⟨mb,5,none⟩),.slice oa g.outs.length oc,.slice ao g.outs.length co,.pointer (some ⟨mb,0,none⟩),.pointer (some ⟨mb,0,none⟩),.pointer (some ⟨mb,6,none⟩),.agg #[.int .i64 g.back.kind,.int .i64 g.back.n],.agg #[.int .i64 g.status,.slice none 0 0,.slice ah os.length ch,.slice ao g.outs.length co,.int .i64 g.back.kind,.int .i64 g.back.n],undef,undef,undef,undef,undef,undef,undef,undef,undef,undef,undef,undef,undef,undef,undef,undef,undef,undef,undef,undef,undef,undef,undef,undef,undef,undef,undef,undef,undef,undef,undef,undef,undef,undef,undef,undef],defers:=[]} w3:=by
  intro b3 ch co ah ao dO os w3 dA GR hO nU Ar Wm kP uV;refine hK _ _ ?_;clear hK ax r2 r4 r5 r6 r7;have m3:=(Dw.o.ext dA).blk.c 3 (.slice ca g.cs.length cc) (by rw[←FY.o];rfl);have mz:=(Dw.o.ext dA).blk.lt;have iL:=Ys dA;have xV:=Ys GR;have HO:=Ys hO;have KO:=Ys nU;have gW:=Ys Ar;have KN:=Ys kP;have Pk:=Ys uV;have AO:=dA.size;have Y7:=Ar.lt;clear dA GR hO nU Ar kP uV;go_wp2_with fail;clear m3 mz;go_loopw [30] (fun i wr=>∃(q:Nat) (AV:Own) (fs:List GF) (vf:Value),q≤g.cs.length∧i=.int .i64 q∧Kp (·=b3) w3 wr∧az wr b3 65 #[.int .i64 g.status,vf,.slice ah os.length ch,.slice ao g.outs.length co,.int .i64 g.back.kind,.int .i64 g.back.n]∧nk wr AV w3.heap.size vf fs∧Zs (fs.map GF.f=(g.cs.map GC.f).take q)) (fun i _=>g.cs.length - (intOf i).toNat)
  case atStart=>exact⟨0,_,[],.slice none 0 0,Nat.zero_le _,rfl,Kp.refl _ _,gW.o,nk.nil _ _,Ys (by simp)⟩
  case round =>
   obtain⟨q,AV,fs,vf,hq,rfl,IE,hB,hF,VV⟩:=hrel;obtain⟨va,vc,rfl⟩:=hF.row.form;have hfq:fs.length=q:=by
    have:=congrArg List.length VV.o;simpa [Nat.min_eq_left hq]using this
   have Im:Ext w wr:=(eP.o.trans iL.o).own IE (fun b e=>by omega);have Nb:=IE.size;by_cases cK:q<g.cs.length
   · obtain⟨c,Wq⟩:=gH g.cs q cK;have hM:=H.o.ext Im;have hC:=hM.call q c Wq;have Br:=hM.calls.row;rw[FY.o]at Br;obtain⟨gb,cc',e, -,Qm, -⟩:=aX Br (by omega);cases e;have g0:=(dG (enc:=nL) (k:=1) (fun _=>rfl) Br Wq).one;rw[Nat.mul_one]at g0;obtain⟨la,lc,wh⟩:=hC.loc.form;obtain⟨sa,sc,M8⟩:=hC.bQ.form;have Wo:c.cb<w.heap.size:=(H.o.call q c Wq).blk.lt;have hlw:w3.heap.size≤wr.heap.size:=Nb;have xh:∀b,b<w3.heap.size→¬(Value.slice va fs.length vc).ownBlock=some b:=fun b hb e=>by have:=(hF.row.blk e).1;omega
     obtain⟨T,f,dm,HT⟩:=gy.ex (fun W'=>Kp (fun b=>(Value.slice va fs.length vc).ownBlock=some b) wr W') _ (Kp.refl _ _);have rb1:=fun z=>(hB.kp (HT.aK z) (xh _ Y7)).c 1 (.slice va fs.length vc) rfl;have JF:c.cb<w3.heap.size:=by omega
     have k0:=fun z=>(hC.blk.kp (HT.aK z) (xh _ JF)).c 0 (.int .i64 c.f.of.of.keeper) rfl;have k1:=fun z=>(hC.blk.kp (HT.aK z) (xh _ JF)).c 1 (.string c.f.of.of.name) rfl;have k2:=fun z=>(hC.blk.kp (HT.aK z) (xh _ JF)).c 2 (.int .i64 c.f.of.at_) rfl;have k11:=fun z=>(hC.blk.kp (HT.aK z) (xh _ JF)).c 11 (.int .i64 c.f.pc) rfl;have k12:=fun z=>(hC.blk.kp (HT.aK z) (xh _ JF)).c 12 (.slice la c.f.locals.length lc) (by rw[←wh];rfl);have k13:=fun z=>(hC.blk.kp (HT.aK z) (xh _ JF)).c 13 (.slice sa c.f.stack.length sc) (by rw[←M8];rfl);have zY:=M.aF.1 (H.o.good.frames c.f (by simp only[Gh.st];exact List.mem_map_of_mem (List.mem_of_getElem? Wq)));have uH:=M.ll (M.fH H.o.cu.ok zY.1).1;have hll:c.f.locals.length≤1000:=by have:=uH.locals;have:=zY.2.2.2.1;omega
     have oD:c.f.stack.length≤1000:=by have:=uH.stack;have:=zY.2.2.2.2.1;omega
     have Pe:Zs (Flat wr 2 (.slice la c.f.locals.length lc) c.f.locals.length (c.f.locals.flatMap bq)):=Ys (by rw[←wh];exact kC hC.loc.row (jG oN _));have abt:Zs (SliceOf 2 ig wr (fun _=>True) (.slice sa c.f.stack.length sc) c.f.stack):=Ys (by rw[←M8];exact SliceOf.gT bq hC.bQ.row rfl rfl (fun _ _=>rfl) (fun _ _=>rfl) (fun b h1 h2=>trivial) (by omega));have abq:Zs (SliceOf 2 ig wr (fun _=>True) (.slice la c.f.locals.length lc) c.f.locals):=Ys (by rw[←wh];exact SliceOf.gT bq hC.loc.row rfl rfl (fun _ _=>rfl) (fun _ _=>rfl) (fun b h1 h2=>trivial) (by omega));have ax:=Ys HT;have HCQ:=Ys Wq;have Pv:=Ys xh;have HB:=Ys hB;have HF:=Ys hF;have HKR:=Ys IE;have HFQ:=Ys hfq;have adL:(fs.length:Int)=q:=by omega
     clear HT Wq xh hB hF IE hfq wh M8 hC hM Im zY uH Br;go_wp2_with fail;clear g0;(refine dQ ax 24 [([0,1,2,3,4,5,6,7,8,9,10,11,12,13,15,16,17,18,19],14),([],20),([21],22),([],23)] [] ?_ ?_)
     · exact(Kp.refl _ _).drew
     (refine dn [_,_,_,_,_,_,_,_,_,_,_,_,_,_,_,_,_,_,_] rfl rfl fun K hK=>?_);(repeat (go_big_quiet_step (fail)));(refine qn hK fun K2 ag=>?_);clear hK K;go_wp2_with fail;refine(lL _ _ _ _ ((abq.o.ext ig.stays (Kp.refl _ _).drew).vals) (by omega)).mono ?_;rintro e w6 ⟨⟨v6,rfl,yM⟩,iZ⟩;obtain⟨x6,y6,rfl⟩:=bJ yM;have nR:Zs (Ext wr w6):=Ys (((Kp.refl _ wr).drew:Ext wr _).trans iZ);have HR6:Zs (w6.ownsRow wr.heap.size 63 2 (.slice x6 c.f.locals.length y6) c.f.locals.length (c.f.locals.flatMap bq)):=Ys yM;clear iZ yM;go_wp2_with fail;(refine kk ax ag nR.o.any ?_);clear ag K2;(refine fG rfl fun K2 ag=>?_);go_wp2_with fail;refine(lL _ _ _ _ ((abt.o.ext ig.stays nR.o).vals) (by omega)).mono ?_;rintro e w7 ⟨⟨v7,rfl,M4⟩,Av⟩;obtain⟨x7,y7,rfl⟩:=bJ M4;have Dv:=Ys Av;have HR7:=Ys M4;clear Av M4;go_wp2_with fail;(refine kk ax ag (nR.o.trans Dv.o).any ?_);clear ag K2;(refine dn [_] rfl rfl fun K hK=>?_);(repeat (go_big_quiet_step (fail)));(refine qn hK fun K2 ag=>?_);clear hK K;go_wp2_with fail;(refine kk ax ag ((nR.o.trans Dv.o).alloc _).any ?_);clear ag K2;(refine fG rfl fun K2 ag=>?_);have OY:=nR.o.size;have hz7:=Dv.o.size;obtain⟨VB,JM,Zl,hr3,OO, -⟩:=Own.more HF.o.dom HR6.o nR.o.size hlw (9,fs.length);obtain⟨VC,hs4,hd4,hr4,ha4, -⟩:=Own.more Zl HR7.o Dv.o.size (by omega) (10,fs.length);have hF7:=HF.o.ext (nR.o.trans Dv.o);have hrl:∀b r,AV b=some r→VC b=some r:=fun b r h=>hs4 _ _ (JM _ _ h);have qw:=hF7.row.relabel hrl;have lC:Ext w7 (w7.alloc (.cells #[.int .i64 c.f.of.of.keeper,.string c.f.of.of.name,.int .i64 c.f.of.at_,.int .i64 c.f.pc,.slice x6 c.f.locals.length y6,.slice x7 c.f.stack.length y7] 121)):=kx;refine aV Gp rfl (.tmp 35) (.tmp 56) rfl w3.heap.size (.slice va fs.length vc) fs.length (fs.flatMap Ju) rfl ((qw.ext lC).row) w7.heap.size 1 (Ju (⟨c.f,.slice x6 c.f.locals.length y6,.slice x7 c.f.stack.length y7⟩:GF)) rfl rfl (af.zk _ _ rfl) (by simp[Ju,Value.oneCell']) (by omega) (by simp;omega) ?_;intro g9 c9 w9 vX lV nS;change K2 _ _;have Cv:Kp (fun b=>(Value.slice va fs.length vc).ownBlock=some b) w7 w9:=lC.any.trans lV;(refine kk ax ag ((nR.o.trans Dv.o).any.trans Cv) ?_);clear ag K2;obtain⟨hr9,Y0,hd9,hq9⟩:=eu.app qw hd4 vX Cv (nS.imp id fun e=>by simp at e;omega)
     have Ev:nk w9 (VC.add g9 (8,0)) w3.heap.size (.slice (some ⟨g9,0,none⟩) (fs.length+1) c9) (fs++[(⟨c.f,.slice x6 c.f.locals.length y6,.slice x7 c.f.stack.length y7⟩:GF)]):=by
      refine⟨hd9,by simpa using hr9,fun j o ho=>?_,fun j o ho=>?_⟩
      all_goals
       rcases Nat.lt_trichotomy j fs.length with hj|hj|hj
      · rw[List.getElem?_append_left hj]at ho;exact qw.beside ((hF7.loc j o ho).relabel hrl) Cv Y0 (by simp)
      · subst hj;simp at ho;subst ho;exact qw.beside ((hr3.ext Dv.o).relabel hs4) Cv Y0 (by simp)
      · rw[List.getElem?_eq_none (by simp;omega)]at ho;cases ho
      · rw[List.getElem?_append_left hj]at ho;exact qw.beside ((hF7.bQ j o ho).relabel hrl) Cv Y0 (by simp)
      · subst hj;simp at ho;subst ho;exact qw.beside hr4 Cv Y0 (by simp)
      · rw[List.getElem?_eq_none (by simp;omega)]at ho;cases ho
     have YN:Kp (·=b3) w3 w9:=(HKR.o.trans (nR.o.trans Dv.o).any).own Cv (fun b e=>(qw.blk e).1);have nD:=(HB.o.ext (nR.o.trans Dv.o)).kp Cv (Pv.o _ Y7);have q1:=nD.c 1 (.slice va fs.length vc) rfl;have f1:=nD.frozen 1;have qz:=nD.lt;obtain⟨dR,oG⟩:∃dR,dR=w9.setCell ⟨b3,1,none⟩ (.slice (some ⟨g9,0,none⟩) (fs.length+1) c9):=⟨_,rfl⟩;have kM:Kp (·=b3) w9 dR:=by rw[oG];exact(Kp.refl (·=b3) w9).setCell (p:=⟨b3,1,none⟩) (fun _=>rfl) _
     have Mg:az dR b3 65 #[.int .i64 g.status,.slice (some ⟨g9,0,none⟩) (fs.length+1) c9,.slice ah os.length ch,.slice ao g.outs.length co,.int .i64 g.back.kind,.int .i64 g.back.n]:=by rw[oG];exact nD.bA 1 _
     have YJ:=Ev.kp kM (fun b hb e=>by have:=(Ev.dom b hb).1;omega);have BU:=Ys (And.intro (YN.trans kM) (And.intro Mg YJ));have Jg:=Ys oG;clear JM Zl hr3 OO hs4 hd4 hr4 ha4 hF7 hrl qw lC vX lV nS Cv hr9 Y0 hd9 hq9 Ev YN nD oG kM Mg YJ ax rb1 k0 k1 k2 k11 k12 k13;(refine dD ?_);go_wp2_with fail;rw[←Jg.o];refine⟨⟨q+1,VC.add g9 (8,0),fs++[(⟨c.f,.slice x6 c.f.locals.length y6,.slice x7 c.f.stack.length y7⟩:GF)],.slice (some ⟨g9,0,none⟩) (fs.length+1) c9,by omega,by go_num,BU.o.1,BU.o.2.1,BU.o.2.2,Ys ?_⟩,by simp[intOf];omega⟩;rw[List.map_append,VV.o,List.take_add_one,List.getElem?_map,HCQ.o];rfl
   · have CF:q=g.cs.length:=by omega
     have KY:fs.map GF.f=g.st.frames:=by
      rw[VV.o,CF];exact List.take_of_length_le (by simp)
     have y0:=hB.c 0 (.int .i64 g.status) rfl;have y1:=hB.c 1 (.slice va fs.length vc) rfl;have y2:=hB.c 2 (.slice ah os.length ch) rfl;have y3:=hB.c 3 (.slice ao g.outs.length co) rfl;have y4:=hB.c 4 (.int .i64 g.back.kind) rfl;have y5:=hB.c 5 (.int .i64 g.back.n) rfl;have yz:=hB.lt;have iA:=(uF.o.ext iL.o).kp IE (by omega);have z0:=iA.c 0 (.int .i64 0) rfl;have z1:=iA.c 1 (.slice none 0 0) rfl;have z2:=iA.c 2 (.slice none 0 0) rfl;have z3:=iA.c 3 (.slice none 0 0) rfl;have z4:=iA.c 4 (.int .i64 0) rfl;have z5:=iA.c 5 (.int .i64 0) rfl;have zf0:=iA.frozen 0;have zf1:=iA.frozen 1;have zf2:=iA.frozen 2;have zf3:=iA.frozen 3;have zf4:=iA.frozen 4;have zf5:=iA.frozen 5;have zz:=iA.lt;obtain⟨dR,oG⟩:∃dR,dR=(((((wr.setCell ⟨w.heap.size,0,none⟩ (.int .i64 g.status)).setCell ⟨w.heap.size,1,none⟩ (.slice va fs.length vc)).setCell ⟨w.heap.size,2,none⟩ (.slice ah os.length ch)).setCell ⟨w.heap.size,3,none⟩ (.slice ao g.outs.length co)).setCell ⟨w.heap.size,4,none⟩ (.int .i64 g.back.kind)).setCell ⟨w.heap.size,5,none⟩ (.int .i64 g.back.n):=⟨_,rfl⟩;have kM:Kp (·=w.heap.size) wr dR:=by rw[oG];exact Kp.gq (D:=(·=w.heap.size)) rfl _ _ _ _ _ _
     have Mg:az dR w.heap.size 65 #[.int .i64 g.status,.slice va fs.length vc,.slice ah os.length ch,.slice ao g.outs.length co,.int .i64 g.back.kind,.int .i64 g.back.n]:=by rw[oG];exact iA.gq _ _ _ _ _ _
     have iy:Ext w dR:=Im.own kM (fun b e=>by omega);have JJ:∀b,w1.heap.size≤b→b<dR.heap.size→w.heap.size≤b:=fun b hb _=>by omega
     have Zy:∀b,w3.heap.size≤b→b<dR.heap.size→w.heap.size≤b:=fun b hb _=>by omega
     have hS:cO dR (fun b=>w.heap.size≤b) g.st [.int .i64 g.status,.slice va fs.length vc,.slice ah os.length ch,.slice ao g.outs.length co,.int .i64 g.back.kind,.int .i64 g.back.n]:=by
      have je:=(hF.kp kM (fun b hb e=>by have:=(hF.dom b hb).1;omega)).slice Zy (by omega) (fun x hx=>by
       have hx2:x.f∈g.st.frames:=by rw[←KY];exact List.mem_map_of_mem hx
       have zY:=M.aF.1 (H.o.good.frames x.f hx2);have uH:=M.ll (M.fH H.o.cu.ok zY.1).1;have:=uH.locals;have:=zY.2.2.2.1;have:=uH.stack;have:=zY.2.2.2.2.1;omega)
      have adW:os.length=g.st.heap.length:=by rw[←xV.o,List.length_map]
      have hhp:=((HO.o.kp IE (fun b hb e=>by subst e;exact hb KN.o)).kp kM (fun b hb e=>by have:=(HO.o.dom b hb).1;omega)).slice JJ (by omega) (fun x hx=>by
       have hx2:x.o∈g.st.heap:=by rw[←xV.o];exact List.mem_map_of_mem hx
       have hh:=(M.eT.1 H.o.good.heap).2 x.o hx2;rw[hh.2.1];have h1:=jH H.o.cu.ok (M.chain p x.o.of).reverse;have h2:=M.nA p x.o.of;unfold M.layout;rw[if_pos hh.1];rw[List.length_reverse]at h1;omega)
      have hou:=aA (aA KO.o IE (fun b hb _ e=>Pk.o (by rw[hb,e]))) kM (fun b hb h1 e=>by omega);rw[KY]at je;rw[xV.o]at hhp;exact⟨_,_,_,rfl,je,hhp,SliceOf.gT nH hou rfl rfl (fun _ _=>rfl) (fun _ _=>rfl) JJ (by show g.outs.length≤_;omega)⟩
     have HS:=Ys hS;have kY:=Ys iy;have BM:=Ys Mg;have Jg:=Ys oG;clear hS iy Mg oG kM iA JJ Zy hF IE hB KY VV CF hfq;go_wp2_with fail;rw[←Jg.o];refine bodyPost_ret (aP dB rfl _ _ w.heap.size rfl [.int .i64 g.status,.slice va fs.length vc,.slice ah os.length ch,.slice ao g.outs.length co,.int .i64 g.back.kind,.int .i64 g.back.n] (af.iV BM.o) rfl) rfl ?_;exact⟨⟨_,rfl,HS.o⟩,kY.o⟩
 have TAIL:=Ys tail;clear tail hK;(refine nM ax 20 (.two [0,1,2,3,4,5,6,7,9,10,11,12,14,15,16,17] 8 19 (.two [] 13 19 (.one [18] 19 (.fin [])) (.one [] 13 (.fin [18]))) (.one [] 8 (.one [] 13 (.fin [18])))) ?_ ?_)
 · exact(Kp.refl _ _).drew
 (refine two [_,_,_,_,_,_,_,_,_,_,_,_,_,_,_,_] rfl rfl rfl fun K hK=>?_);(repeat (go_big_quiet_step (fail)));((refine Hp hK (fun K2 ag=>?_) fun K2 ag=>?_)<;>clear hK K)
 · go_wp2_with fail;refine(uO _ (fun _=>True) _ g.st.heap (by rw[←HVH.o];exact(Dw.o.ext (Kp.refl _ _).drew).things) xI).mono ?_;rintro e w4 ⟨⟨v4,dO,os,rfl,GR,hO⟩,dN⟩;obtain⟨ah,ch,rfl⟩:=hO.row.form;have iM:Zs (Ext w1 w4):=Ys (((Kp.refl _ w1).drew:Ext w1 _).trans dN);have HO:=Ys hO;have xV:=Ys GR;have OX:=iM.o.size;clear dN hO GR;go_wp2_with fail;(refine kk ax ag iM.o ?_);clear ag K2;(refine zK rfl rfl (fun K2 ag=>?_) fun K2 ag=>?_)
   · go_wp2_with fail;refine(qP _ _ _ _ (by rw[←Lx.o];exact kC (Dw.o.ext iM.o).outs.row (jG xN _)) (by omega)).mono ?_;rintro e w5 ⟨⟨v5,rfl,nU⟩,ed⟩;obtain⟨ao,co,rfl⟩:=bJ nU;have iG:=Ys ed;have KO:=Ys nU;have G6:=ed.size;clear ed nU;go_wp2_with fail;(refine kk ax ag (iM.o.trans iG.o) ?_);clear ag K2;(refine lu [_] rfl rfl fun K hK=>?_);(repeat (go_big_quiet_step (fail)));(refine qn hK fun K2 ag=>?_);clear hK K;go_wp2_with fail;(refine kk ax ag ((iM.o.trans iG.o).alloc _) ?_);clear ag K2;clear ax r2 r4 r5 r6 r7;(refine dz ?_);go_wp2_with fail;have hEn:∀X,Ext w5 (w5.alloc X):=fun X=>(Kp.refl _ _).alloc _;refine TAIL.o w5.heap.size ch co ah ao dO os _ ((iM.o.trans iG.o).alloc _) xV.o (HO.o.kp (D:=fun _=>False) (iG.o.trans (hEn _)) fun _ _ x=>x) (dJ (aA (D:=fun _=>False) KO.o (hEn _) fun _ _ _ x=>x) OX) (az.new _ _ _) (by omega) ?_ ?_
     · cases e:dO w5.heap.size with
       |none=>rfl
       |some r=>have:=(HO.o.dom _ (by rw[e];simp)).2;omega
     · intro e;have:=(KO.o.lt _ e).2;omega
   · go_wp2_with fail;(refine kk ax ag (iM.o.alloc _) ?_);clear ag K2;obtain⟨w6,wm,iZ,b6⟩:=nu w4 #[.int .i64 0,.slice none 0 0,.slice none 0 0,.slice none 0 0,.int .i64 0,.int .i64 0] 65;have nR:=Ys iZ;have bV:=Ys b6;have Pw:=Ys wm;have OY:w6.heap.size=w4.heap.size+1:=by rw[wm];simp
     clear iZ b6 wm;(refine bX rfl fun K2 ag=>?_);go_wp2_with fail;rw[←Pw.o];refine(qP _ _ _ _ (by rw[←Lx.o];exact kC (Dw.o.ext (iM.o.trans nR.o)).outs.row (jG xN _)) (by omega)).mono ?_;rintro e w5 ⟨⟨v5,rfl,nU⟩,ed⟩;obtain⟨ao,co,rfl⟩:=bJ nU;have jd:=bV.o.ext ed;have y0:=jd.c 0 (.int .i64 0) rfl;have y1:=jd.c 1 (.slice none 0 0) rfl;have y2:=jd.c 2 (.slice none 0 0) rfl;have y3:=jd.c 3 (.slice none 0 0) rfl;have y4:=jd.c 4 (.int .i64 0) rfl;have y5:=jd.c 5 (.int .i64 0) rfl;have f0:=jd.frozen 0;have f1:=jd.frozen 1;have f2:=jd.frozen 2;have f3:=jd.frozen 3;have f4:=jd.frozen 4;have f5:=jd.frozen 5;have yz:=jd.lt;obtain⟨w9,fT⟩:∃w9,w9=(((((w5.setCell ⟨w4.heap.size,0,none⟩ (.int .i64 g.status)).setCell ⟨w4.heap.size,1,none⟩ (.slice none 0 0)).setCell ⟨w4.heap.size,2,none⟩ (.slice ah os.length ch)).setCell ⟨w4.heap.size,3,none⟩ (.slice ao g.outs.length co)).setCell ⟨w4.heap.size,4,none⟩ (.int .i64 g.back.kind)).setCell ⟨w4.heap.size,5,none⟩ (.int .i64 g.back.n):=⟨_,rfl⟩;have kH:Kp (·=w4.heap.size) w5 w9:=by rw[fT];exact Kp.gq (D:=(·=w4.heap.size)) rfl _ _ _ _ _ _
     have b9:az w9 w4.heap.size 65 #[.int .i64 g.status,.slice none 0 0,.slice ah os.length ch,.slice ao g.outs.length co,.int .i64 g.back.kind,.int .i64 g.back.n]:=by rw[fT];exact jd.gq _ _ _ _ _ _
     have iG:=Ys ed;have KO:=Ys nU;have xS:=Ys kH;have DJ:=Ys b9;have F5:=Ys fT;have G6:=ed.size;clear ed nU kH b9 fT jd;go_wp2_with fail;(refine kk ax ag ((iM.o.trans nR.o).trans iG.o) ?_);clear ag K2;clear ax r2 r4 r5 r6 r7;(refine zJ [_] rfl fun K hK=>?_);(repeat (go_big_quiet_step (fail)));(refine qn hK ?_);clear hK K;go_wp2_with fail;rw[←F5.o];refine TAIL.o w4.heap.size ch co ah ao dO os _ (((iM.o.trans nR.o).trans iG.o).own xS.o (fun b e=>by omega)) xV.o ((HO.o.kp (D:=fun _=>False) (nR.o.trans iG.o) fun _ _ x=>x).kp xS.o (fun b hb e=>by have:=(HO.o.dom b hb).2;omega)) (dJ (aA KO.o xS.o fun b hb h1 e=>by have:=(KO.o.lt b hb).1;omega) (by omega)) DJ.o (by omega) ?_ ?_
     · cases e:dO w4.heap.size with
       |none=>rfl
       |some r=>have:=(HO.o.dom _ (by rw[e];simp)).2;omega
     · intro e;have:=(KO.o.lt _ e).1;omega
 · go_wp2_with fail;(refine kk ax ag (((Kp.refl _ w1).drew).alloc _) ?_);clear ag K2;obtain⟨w6,wm⟩:∃w6,w6=(w1.alloc (.cells #[.int .i64 0,.slice none 0 0,.slice none 0 0,.slice none 0 0,.int .i64 0,.int .i64 0] 65)).drew:=⟨_,rfl⟩;have iZ:Ext w1 w6:=by rw[wm];exact kx
   have b6:az w6 (w.heap.size+1) 65 #[.int .i64 0,.slice none 0 0,.slice none 0 0,.slice none 0 0,.int .i64 0,.int .i64 0]:=by rw[wm];exact(az.newAt _ _ AL).ext (Kp.refl _ _).drew
   have nR:=Ys iZ;have bV:=Ys b6;have Pw:=Ys wm;have OY:w6.heap.size=w1.heap.size+1:=by rw[wm];simp
   clear iZ b6 wm;(refine bX rfl fun K2 ag=>?_);go_wp2_with fail;rw[←Pw.o];refine(uO _ (fun _=>True) _ g.st.heap (by rw[←HVH.o];exact(Dw.o.ext nR.o).things) xI).mono ?_;rintro e w4 ⟨⟨v4,dO,os,rfl,GR,hO⟩,dN⟩;obtain⟨ah,ch,rfl⟩:=hO.row.form;have iM:Zs (Ext w1 w4):=Ys (nR.o.trans dN);have abk:=Ys dN;have HO:=Ys hO;have xV:=Ys GR;have OX:=dN.size;clear dN hO GR;go_wp2_with fail;(refine kk ax ag iM.o ?_);clear ag K2
   · (refine bX rfl fun K2 ag=>?_);go_wp2_with fail;refine(qP _ _ _ _ (by rw[←Lx.o];exact kC (Dw.o.ext iM.o).outs.row (jG xN _)) (by omega)).mono ?_;rintro e w5 ⟨⟨v5,rfl,nU⟩,ed⟩;obtain⟨ao,co,rfl⟩:=bJ nU;have jd:=(bV.o.ext abk.o).ext ed;have y0:=jd.c 0 (.int .i64 0) rfl;have y1:=jd.c 1 (.slice none 0 0) rfl;have y2:=jd.c 2 (.slice none 0 0) rfl;have y3:=jd.c 3 (.slice none 0 0) rfl;have y4:=jd.c 4 (.int .i64 0) rfl;have y5:=jd.c 5 (.int .i64 0) rfl;have f0:=jd.frozen 0;have f1:=jd.frozen 1;have f2:=jd.frozen 2;have f3:=jd.frozen 3;have f4:=jd.frozen 4;have f5:=jd.frozen 5;have yz:=jd.lt;obtain⟨w9,fT⟩:∃w9,w9=(((((w5.setCell ⟨w.heap.size+1,0,none⟩ (.int .i64 g.status)).setCell ⟨w.heap.size+1,1,none⟩ (.slice none 0 0)).setCell ⟨w.heap.size+1,2,none⟩ (.slice ah os.length ch)).setCell ⟨w.heap.size+1,3,none⟩ (.slice ao g.outs.length co)).setCell ⟨w.heap.size+1,4,none⟩ (.int .i64 g.back.kind)).setCell ⟨w.heap.size+1,5,none⟩ (.int .i64 g.back.n):=⟨_,rfl⟩;have kH:Kp (·=w.heap.size+1) w5 w9:=by rw[fT];exact Kp.gq (D:=(·=w.heap.size+1)) rfl _ _ _ _ _ _
     have b9:az w9 (w.heap.size+1) 65 #[.int .i64 g.status,.slice none 0 0,.slice ah os.length ch,.slice ao g.outs.length co,.int .i64 g.back.kind,.int .i64 g.back.n]:=by rw[fT];exact jd.gq _ _ _ _ _ _
     have iG:=Ys ed;have KO:=Ys nU;have xS:=Ys kH;have DJ:=Ys b9;have F5:=Ys fT;have G6:=ed.size;clear ed nU kH b9 fT jd;go_wp2_with fail;(refine kk ax ag (iM.o.trans iG.o) ?_);clear ag K2;clear ax r2 r4 r5 r6 r7;(refine zJ [_] rfl fun K hK=>?_);(repeat (go_big_quiet_step (fail)));(refine qn hK ?_);clear hK K;go_wp2_with fail;rw[←F5.o];refine TAIL.o (w.heap.size+1) ch co ah ao dO os _ ((iM.o.trans iG.o).own xS.o (fun b e=>by omega)) xV.o (((HO.o.kp (D:=fun _=>False) iG.o fun _ _ x=>x).kp xS.o (fun b hb e=>by have:=(HO.o.dom b hb).1;omega)).mono (by omega)) (dJ (aA KO.o xS.o fun b hb h1 e=>by have:=(KO.o.lt b hb).1;omega) (by omega)) DJ.o (by omega) ?_ ?_
     · cases e:dO (w.heap.size+1)with
       |none=>rfl
       |some r=>have:=(HO.o.dom _ (by rw[e];simp)).1;omega
     · intro e;have:=(KO.o.lt _ e).1;omega
theorem Kp.own'{D D':Nat→Prop}{w a b:World}(h:Kp D w a)(hk:Kp D' a b)(hD:∀k,D' k→D k∨w.heap.size≤k):Kp D w b:=
 ⟨hk.os.trans h.os,hk.tape.trans h.tape,hk.output.trans h.output,Nat.le_trans h.size hk.size,
  fun k uU hd=>(hk.block k (Nat.lt_of_lt_of_le uU h.size) (fun x=>(hD k x).elim hd fun y=>absurd y (Nat.not_le.2 uU))).trans (h.block k uU hd)⟩
theorem qU(w:World)(I:Nat→Prop):cO w I M.ik [.int .i64 4,.slice none 0 0,.slice none 0 0,.slice none 0 0,.int .i64 0,.int .i64 0]:=
 ⟨_,_,_,rfl,SliceOf.nil _ _ _ _,SliceOf.nil _ _ _ _,SliceOf.nil _ _ _ _⟩
theorem M.Good.empty{p:M.ai}:M.Good p ⟨1,[],[],[],M.dE⟩:=⟨by simp[M.gm],by simp,by simp,by simp,by simp,by simp[M.aR,M.dE]⟩
theorem EJ(w:World)(l:au)(p:M.ai)(h:aj w l p)(lk:Bool)(Ic:Zs (lk=true→qd))(k:Int)(n m:ByteArray)(args:List Int)(va:Option Addr)(ac:Nat)(o8:SliceOf 1 kL w (· <l.O) (.slice va args.length ac) args)(ZO:args.all M.dw=true):
    Calls Tryz.prog 27 #[.pointer (some ⟨l.L,0,none⟩),.bool lk,.int .i64 k,.string n,.string m,.slice va args.length ac] w fun e w'=>
     (∃cs,e=.returned (.agg cs.toArray)∧cO w' (fun b=>w.heap.size≤b) (M.start p lk k n m args) cs)∧Kp (·=l.D) w w':=by
 obtain⟨w1,jl,aZ,b12⟩:=nu w #[.int .i64 0,.slice none 0 0,.slice none 0 0,.slice none 0 0,.int .i64 0,.int .i64 0] 65;have AL:w1.heap.size=w.heap.size+1:=by rw[jl];simp
 have Fz:=h.Cg;have vW:=h.lt;have rX:=h.ord;obtain⟨F,hF⟩:∃F,M.find p k n=F:=⟨_,rfl⟩;obtain⟨⟨fk,fn⟩,cd⟩:=F;have Bp:=gN w1 l p (h.ext aZ) k n;rw[hF]at Bp
 have HV : Zs (M.start p lk k n m args = if cd = 1 ∧ M.bI p ⟨fk, fn⟩ = true then
     (if(M.call p k n m).2=1∧M.ic (M.method p (M.call p k n m).1) args=true then
      M.end_ (M.enter p lk (M.call p k n m).1 (⟨2,0⟩::args.map M.dY) ⟨1,[],[M.fresh p ⟨fk,fn⟩],[],M.dE⟩).1 (M.enter p lk (M.call p k n m).1 (⟨2,0⟩::args.map M.dY) ⟨1,[],[M.fresh p ⟨fk,fn⟩],[],M.dE⟩).2
     else M.ik)else M.ik):=Ys (by unfold M.start;rw[hF])
 have hla:args.length≤4294967296:=by obtain⟨_,_,e,_,h4⟩:=o8.form;exact h4
 have Ag:Zs (LC l p w w1):=Ys ((LC.refl h).ext aZ);have HFI:=Ys Bp;have Tc:=Ys b12;have xW:=Ys jl;have Ou:=Ys o8;have abH:=Ys ZO;clear h aZ b12 jl hF Bp o8 ZO;go_enter Tryz.func27,Tryz.ntmps27;go_wp2_with fail;rw[←xW.o];refine HFI.o.mono ?_;rintro e w2 ⟨rfl,bY⟩;have EA:=bY.size;obtain⟨w3,hZ,dA,b13⟩:=nu w2 #[.int .i64 fk,.string fn] 51;have AO:w3.heap.size=w2.heap.size+1:=by rw[hZ];simp
 have aN:=Tc.o.ext bY;have wQ:=Ys aN;have HKZ:Zs (Kp (·=l.D) w w2):=Ys (Ag.o.kp.trans bY.any);have FT:Zs (LC l p w w3):=Ys (Ag.o.ext (bY.trans dA));have Q7:=Ys (aN.ext dA);have Jd:=Ys b13;have kK:=Ys hZ;clear bY dA b13 hZ HFI;by_cases hcd:cd=1;rotate_left
 · have adH:(cd !=1)=true:=bne_iff_ne.2 hcd;replace HV:Zs (M.start p lk k n m args=M.ik):=Ys (by rw[HV.o,if_neg (fun e=>hcd e.1)]);clear hcd;have y0:=aN.c 0 (.int .i64 0) rfl;have f0:=aN.frozen 0;have y1:=aN.c 1 (.slice none 0 0) rfl;have f1:=aN.frozen 1;have y2:=aN.c 2 (.slice none 0 0) rfl;have f2:=aN.frozen 2;have y3:=aN.c 3 (.slice none 0 0) rfl;have f3:=aN.frozen 3;have y4:=aN.c 4 (.int .i64 0) rfl;have f4:=aN.frozen 4;have y5:=aN.c 5 (.int .i64 0) rfl;have f5:=aN.frozen 5;have yz:=aN.lt;clear aN;go_wp2_with fail;obtain⟨w9,fT⟩:∃w9,w9=(((((w2.setCell ⟨w.heap.size,0,none⟩ (.int .i64 4)).setCell ⟨w.heap.size,1,none⟩ (.slice none 0 0)).setCell ⟨w.heap.size,2,none⟩ (.slice none 0 0)).setCell ⟨w.heap.size,3,none⟩ (.slice none 0 0)).setCell ⟨w.heap.size,4,none⟩ (.int .i64 0)).setCell ⟨w.heap.size,5,none⟩ (.int .i64 0):=⟨_,rfl⟩;have kH:Kp (·=w.heap.size) w2 w9:=by rw[fT];exact Kp.gq (D:=(·=w.heap.size)) rfl _ _ _ _ _ _
   have nD:az w9 w.heap.size 65 #[.int .i64 4,.slice none 0 0,.slice none 0 0,.slice none 0 0,.int .i64 0,.int .i64 0]:=by rw[fT];exact wQ.o.gq _ _ _ _ _ _
   rw[←fT];refine bodyPost_ret (aP dB rfl _ _ w.heap.size rfl [.int .i64 4,.slice none 0 0,.slice none 0 0,.slice none 0 0,.int .i64 0,.int .i64 0] (af.iV (nD.ext ((Kp.refl _ _).alloc _))) rfl) rfl ?_;rw[HV.o];exact⟨⟨_,rfl,qU _ _⟩,(HKZ.o.own kH (fun b e=>by omega)).alloc _⟩
 subst hcd;clear aN;replace HV:=Ys HV.o;go_wp2_with fail;rw[←kK.o];refine(eX _ _ _ FT.o.at_ ⟨fk,fn⟩).mono ?_;rintro e w4 ⟨rfl,YP,ni⟩;have Li:Zs (LC l p w w4):=Ys (FT.o.step YP ni);have H9:=Ys (Q7.o.kp ni (by omega));have Q8:=Ys (Jd.o.kp ni (by omega));have OX:=ni.size;clear YP ni Jd Q7;cases ek:M.bI p ⟨fk,fn⟩
 · replace HV:Zs (M.start p lk k n m args=M.ik):=Ys (by rw[HV.o,if_neg (fun e=>by rw[ek]at e;cases e.2)]);clear ek;have aN:=H9.o;have y0:=aN.c 0 (.int .i64 0) rfl;have f0:=aN.frozen 0;have y1:=aN.c 1 (.slice none 0 0) rfl;have f1:=aN.frozen 1;have y2:=aN.c 2 (.slice none 0 0) rfl;have f2:=aN.frozen 2;have y3:=aN.c 3 (.slice none 0 0) rfl;have f3:=aN.frozen 3;have y4:=aN.c 4 (.int .i64 0) rfl;have f4:=aN.frozen 4;have y5:=aN.c 5 (.int .i64 0) rfl;have f5:=aN.frozen 5;have yz:=aN.lt;clear aN;go_wp2_with fail;obtain⟨w9,fT⟩:∃w9,w9=(((((w4.setCell ⟨w.heap.size,0,none⟩ (.int .i64 4)).setCell ⟨w.heap.size,1,none⟩ (.slice none 0 0)).setCell ⟨w.heap.size,2,none⟩ (.slice none 0 0)).setCell ⟨w.heap.size,3,none⟩ (.slice none 0 0)).setCell ⟨w.heap.size,4,none⟩ (.int .i64 0)).setCell ⟨w.heap.size,5,none⟩ (.int .i64 0):=⟨_,rfl⟩;have kH:Kp (·=w.heap.size) w4 w9:=by rw[fT];exact Kp.gq (D:=(·=w.heap.size)) rfl _ _ _ _ _ _
   have nD:az w9 w.heap.size 65 #[.int .i64 4,.slice none 0 0,.slice none 0 0,.slice none 0 0,.int .i64 0,.int .i64 0]:=by rw[fT];exact H9.o.gq _ _ _ _ _ _
   rw[←fT];refine bodyPost_ret (aP dB rfl _ _ w.heap.size rfl [.int .i64 4,.slice none 0 0,.slice none 0 0,.slice none 0 0,.int .i64 0,.int .i64 0] (af.iV nD) rfl) rfl ?_;rw[HV.o];exact⟨⟨_,rfl,qU _ _⟩,Li.o.kp.own kH (fun b e=>by omega)⟩
 have zR:=Ys ek;obtain⟨G,hG⟩:∃G,M.call p k n m=G:=⟨_,rfl⟩;obtain⟨⟨⟨v0,v1⟩,v2⟩,c2⟩:=G;have jW:=lZ w4 l p Li.o.at_ k n m;rw[hG]at jW;simp only[mX]at jW;have uT:c2=1→M.bM p ⟨⟨v0,v1⟩,v2⟩=true:=fun h1=>by
  have h1:(M.call p k n m).2=1:=by rw[hG];exact h1
  obtain⟨rr,OV⟩:=M.jY h1;rw[hG]at OV;exact M.jN OV
 have Ty:=Ys uT;have Ra:=Ys jW;replace HV:=Ys (HV.o.trans (if_pos (by simp[ek])));rw[hG]at HV;clear ek hG jW uT;go_wp2_with fail;refine Ra.o.mono ?_;rintro e w5 ⟨⟨ev,rfl,ji⟩,OI,ql⟩;obtain⟨w6,wm,iZ,b15⟩:=nu w5 #[.int .i64 v0,.string v1,.int .i64 v2] 53;have OY:w6.heap.size=w5.heap.size+1:=by rw[wm];simp
 have G6:=ql.size;have aN:=H9.o.kp ql (by omega);have wQ:=Ys aN;have HKZ:Zs (Kp (·=l.D) w w5):=Ys (Li.o.kp.trans ql);have Tm:Zs (LC l p w w6):=Ys ((Li.o.step OI ql).ext iZ);have Lg:=Ys (aN.ext iZ);have Q9:=Ys ((Q8.o.kp ql (by omega)).ext iZ);have xQ:=Ys b15;have Pw:=Ys wm;clear OI ql iZ b15 wm Ra H9 Q8;rcases ji.weak with⟨rfl,rfl⟩|⟨hc,eb,rfl⟩;rotate_left
 · replace HV:Zs (M.start p lk k n m args=M.ik):=Ys (by rw[HV.o,if_neg (fun e=>hc e.1)]);clear hc ji;have y0:=aN.c 0 (.int .i64 0) rfl;have f0:=aN.frozen 0;have y1:=aN.c 1 (.slice none 0 0) rfl;have f1:=aN.frozen 1;have y2:=aN.c 2 (.slice none 0 0) rfl;have f2:=aN.frozen 2;have y3:=aN.c 3 (.slice none 0 0) rfl;have f3:=aN.frozen 3;have y4:=aN.c 4 (.int .i64 0) rfl;have f4:=aN.frozen 4;have y5:=aN.c 5 (.int .i64 0) rfl;have f5:=aN.frozen 5;have yz:=aN.lt;clear aN;go_wp2_with fail;obtain⟨w9,fT⟩:∃w9,w9=(((((w5.setCell ⟨w.heap.size,0,none⟩ (.int .i64 4)).setCell ⟨w.heap.size,1,none⟩ (.slice none 0 0)).setCell ⟨w.heap.size,2,none⟩ (.slice none 0 0)).setCell ⟨w.heap.size,3,none⟩ (.slice none 0 0)).setCell ⟨w.heap.size,4,none⟩ (.int .i64 0)).setCell ⟨w.heap.size,5,none⟩ (.int .i64 0):=⟨_,rfl⟩;have kH:Kp (·=w.heap.size) w5 w9:=by rw[fT];exact Kp.gq (D:=(·=w.heap.size)) rfl _ _ _ _ _ _
   have nD:az w9 w.heap.size 65 #[.int .i64 4,.slice none 0 0,.slice none 0 0,.slice none 0 0,.int .i64 0,.int .i64 0]:=by rw[fT];exact wQ.o.gq _ _ _ _ _ _
   rw[←fT];refine bodyPost_ret (aP dB rfl _ _ w.heap.size rfl [.int .i64 4,.slice none 0 0,.slice none 0 0,.slice none 0 0,.int .i64 0,.int .i64 0] (af.iV (nD.ext ((Kp.refl _ _).alloc _))) rfl) rfl ?_;rw[HV.o];exact⟨⟨_,rfl,qU _ _⟩,(HKZ.o.own kH (fun b e=>by omega)).alloc _⟩
 clear ji aN;have hx:=Ty.o rfl;obtain⟨mt,hm⟩:∃mt,M.method p ⟨⟨v0,v1⟩,v2⟩=mt:=⟨_,rfl⟩;have uH:M.xY mt:=by rw[←hm];exact M.ll (M.fH Tm.o.at_.ok hx).1
 have xG:=dK w6 l p Tm.o.at_ ⟨⟨v0,v1⟩,v2⟩ hx;rw[hm]at xG;have GA:=uH.DW;have KM:=Ys uH;have Aj:=Ys xG;have HM:=Ys hm;have HX:=Ys hx;clear hm xG hx Ty uH;go_wp2_with fail;rw[←Pw.o];refine Aj.o.mono ?_;rintro e w7 ⟨⟨cs,jk,rfl⟩,Av⟩;have bU:=zu w7 (· <l.O) cs mt jk args va ac hla;obtain⟨t2,rfl⟩:=gP jk;have qN:=Ys bU;have Dv:=Ys Av;clear bU Av jk;simp only[eG]at qN ⊢;go_wp2_with fail;refine qN.o.mono ?_;rintro e w8 ⟨rfl,lC⟩;have jQ:Zs (Ext w6 w8):=Ys (Dv.o.trans lC);have Vr:=jQ.o.size;clear lC qN Dv;cases Vl:M.ic mt args
 · replace HV:Zs (M.start p lk k n m args=M.ik):=Ys (by
    rw[HV.o,if_neg];rintro⟨_,e⟩;simp only[HM.o,Vl]at e;cases e)
   clear Vl;have aN:=Lg.o.ext jQ.o;have y0:=aN.c 0 (.int .i64 0) rfl;have f0:=aN.frozen 0;have y1:=aN.c 1 (.slice none 0 0) rfl;have f1:=aN.frozen 1;have y2:=aN.c 2 (.slice none 0 0) rfl;have f2:=aN.frozen 2;have y3:=aN.c 3 (.slice none 0 0) rfl;have f3:=aN.frozen 3;have y4:=aN.c 4 (.int .i64 0) rfl;have f4:=aN.frozen 4;have y5:=aN.c 5 (.int .i64 0) rfl;have f5:=aN.frozen 5;have yz:=aN.lt;have wQ:=Ys aN;clear aN;go_wp2_with fail;obtain⟨w9,fT⟩:∃w9,w9=(((((w8.setCell ⟨w.heap.size,0,none⟩ (.int .i64 4)).setCell ⟨w.heap.size,1,none⟩ (.slice none 0 0)).setCell ⟨w.heap.size,2,none⟩ (.slice none 0 0)).setCell ⟨w.heap.size,3,none⟩ (.slice none 0 0)).setCell ⟨w.heap.size,4,none⟩ (.int .i64 0)).setCell ⟨w.heap.size,5,none⟩ (.int .i64 0):=⟨_,rfl⟩;have kH:Kp (·=w.heap.size) w8 w9:=by rw[fT];exact Kp.gq (D:=(·=w.heap.size)) rfl _ _ _ _ _ _
   have nD:az w9 w.heap.size 65 #[.int .i64 4,.slice none 0 0,.slice none 0 0,.slice none 0 0,.int .i64 0,.int .i64 0]:=by rw[fT];exact wQ.o.gq _ _ _ _ _ _
   rw[←fT];refine bodyPost_ret (aP dB rfl _ _ w.heap.size rfl [.int .i64 4,.slice none 0 0,.slice none 0 0,.slice none 0 0,.int .i64 0,.int .i64 0] (af.iV nD) rfl) rfl ?_;rw[HV.o];exact⟨⟨_,rfl,qU _ _⟩,(Tm.o.ext jQ.o).kp.own kH (fun b e=>by omega)⟩
 replace HV:=Ys (HV.o.trans (if_pos (by simp[HM.o,Vl])));have hlen:mt.args.length=args.length:=by
  unfold M.ic at Vl;simp only[Bool.and_eq_true,decide_eq_true_eq]at Vl;exact Vl.1
 have uK:=Ys hlen;have adz:args.length≤3:=by omega
 clear Vl hlen hla;have b13:=Q9.o.ext jQ.o;have r0:=b13.c 0 (.int .i64 fk) rfl;have r1:=b13.c 1 (.string fn) rfl;have rz:=b13.lt;obtain⟨w9,fT,jV,b17⟩:=nu w8 #[.pointer (some ⟨l.L,0,none⟩),.bool lk,.int .i64 1,.slice none 0 0,.slice none 0 0,.slice none 0 0,.int .i64 0,.int .i64 0] 87;have hz9:w9.heap.size=w8.heap.size+1:=by rw[fT];simp
 obtain⟨QR,OM⟩:∃own',ay w9 l p own' w8.heap.size w8.heap.size lk ⟨1,[],[],[],M.dE,.slice none 0 0,.slice none 0 0,.slice none 0 0⟩:=
  ay.start (Tm.o.at_.ext (jQ.o.trans jV)) (by omega) (jh.nil _ _) rfl (Nat.le_refl _) b17 (World.ownsRow_nil _ _ _ _) (fun b hb=>by cases hb) M.Good.empty
 have Qk:Calls Tryz.prog 66 #[.pointer (some ⟨w8.heap.size,0,none⟩),.agg #[.int .i64 fk,.string fn]] w9 (bG w9 l p QR w8.heap.size w8.heap.size lk (.agg #[.int .i64 2,.int .i64 0]) ⟨1,[],[M.fresh p ⟨fk,fn⟩],[],M.dE⟩):=
  wD w9 l p QR w8.heap.size w8.heap.size lk _ OM ⟨fk,fn⟩ zR.o (by simp)
 have ZN:∀b,b<w8.heap.size→b≠l.D→¬MO l QR b:=fun b hb hd hm=>by
  rcases hm with hm|hm
  · exact hd hm
  · have:=(OM.dom b hm).1;omega
 have TF:=Ys ZN;have HD9:Zs (∀b,QR b≠none→w8.heap.size≤b):=Ys (fun b hb=>(OM.dom b hb).1);have HCR:=Ys Qk;have o7:=Ys jV;have F5:=Ys fT;clear b13 jV b17 fT OM Qk ZN;go_wp2_with fail;rw[←F5.o];refine HCR.o.mono ?_;rintro e dR ⟨rfl,kM,NS,g10,yF,rV,Zp⟩;clear r0 r1 rz;have aai:=kM.size;have nV:Zs (Kp (·=l.D) w dR):=Ys (((Tm.o.ext jQ.o).kp.trans o7.o.any).own' kM (fun b hb=>by
  rcases hb with hb|hb
  · exact .inl hb
  · right;have:=HD9.o b hb;omega))
 have WW:Zs (SliceOf 1 kL dR (· <l.O) (.slice va args.length ac) args):=Ys (Ou.o.keep kL.stays (nV.o.same fun b hb e=>by omega) fun _ h=>h);have WZ:Zs (az dR w.heap.size 65 #[.int .i64 0,.slice none 0 0,.slice none 0 0,.slice none 0 0,.int .i64 0,.int .i64 0]):=Ys ((Lg.o.ext (jQ.o.trans o7.o)).kp kM (TF.o _ (by omega) (by omega)));have W9:Zs (az dR w5.heap.size 53 #[.int .i64 v0,.string v1,.int .i64 v2]):=Ys ((xQ.o.ext (jQ.o.trans o7.o)).kp kM (TF.o _ (by omega) (by omega)));have fC:=Ys rV;have Tx:=Ys Zp;obtain⟨Ac,xm⟩:∃Ac,Ac=dR.alloc (.cells #[.int .i64 2,.int .i64 0] 63):=⟨_,rfl⟩;have Cs:Ext dR Ac:=by rw[xm];exact kx
 have aU:Ac.ownsRow dR.heap.size 63 2 (.slice (some ⟨dR.heap.size,0,none⟩) 1 1) 1 (bq ⟨2,0⟩):=by
  rw[xm];exact World.ownsRow_lit (size:=2) dR #[.int .i64 2,.int .i64 0] 1 (Nat.le_refl _) (by unfold maxLen;omega) rfl
 have ny:=Ys Cs;have pU:=Ys aU;have abS:=Ys xm;clear kM yF rV Zp Cs aU xm TF Ou Lg xQ Q9;go_wp2_with fail;rw[←abS.o];go_loopw [66,18] (fun i vv wr=>∃q:Nat,q≤args.length∧i=.int .i64 q∧Ext dR wr∧wr.ownsRow dR.heap.size 63 2 vv (q+1) ((M.Val.mk 2 0::(args.take q).map M.dY).flatMap bq)) (fun i _ _=>args.length - (intOf i).toNat)
 case atStart=>exact⟨0,Nat.zero_le _,rfl,ny.o,by simpa using pU.o⟩
 case round=>
  obtain⟨q,hq,rfl,hE,aU⟩:=hrel;obtain⟨vb,vc,rfl,hvb,wh,CJ⟩:=aX aU (by omega);have Nb:=hE.size;by_cases cK:q<args.length
  · obtain⟨x,hx⟩:=gH args q cK;obtain⟨b,off,cs,rfl,hI,rfl, -,hc⟩:=(WW.o.ext kL.stays hE).get hx;rw[Nat.mul_one]at hc;have g0:=hc.one;have gz:=aS g0;have HX:=Ys hx;have HE:=Ys hE;have HRW:=Ys aU;clear hx hc hE aU;go_wp2_with fail;refine(xM x _).mono ?_;rintro e pY ⟨rfl,Jz⟩;have wR:=Ys Jz;have aaj:=Jz.size;clear Jz;go_wp2_with (at_builtin;refine mU lT _ rfl _ _ rfl dR.heap.size _ (q+1) _ rfl (aA (D:=fun _=>False) HRW.o (wR.o.alloc _) fun _ _ _ x=>x) pY.heap.size 1 (bq (M.dY x)) rfl rfl ?c1 ?c2 ?c3 ?c4 ?_)
    case c1=>exact af.zk _ _ rfl
    case c2=>exact oN _
    case c3=>omega
    case c4=>simp;omega
    intro v' w' vZ hK g1 cp1 hv1 IL yI;subst hv1;have xU:=Ys vZ;have Ah:=Ys hK;clear vZ hK;go_wp2_with fail;refine⟨⟨q+1,by omega,by go_num,(HE.o.trans (wR.o.alloc _)).own Ah.o (fun b e=>by cases e;exact hvb),?_⟩,by simp[intOf];omega⟩;have:=xU.o;rw[List.take_add_one,HX.o];simpa using this
  · have CF:q=args.length:=by omega
    have hM:=fC.o.ext hE;have IL:g10.os.length=1:=by
     have:=congrArg (fun s=>s.heap.length) Tx.o;simpa [Gh.st]using this
    have hgs:g10.status=1:=by have:=congrArg M.St.status Tx.o;exact this
    have M8:(M.Val.mk 2 0::args.map M.dY).length=q+1:=by simp;omega
    have nG:wr.ownsRow dR.heap.size 63 2 (.slice (some ⟨vb,0,none⟩) (q+1) vc) (M.Val.mk 2 0::args.map M.dY).length ((M.Val.mk 2 0::args.map M.dY).flatMap bq):=by
     rw[M8];rw[CF,List.take_length]at aU;rw[CF];exact aU
    have U0:=rZ wr l p NS w8.heap.size w8.heap.size lk Ic g10 hM hgs ⟨⟨v0,v1⟩,v2⟩ HX.o dR.heap.size _ (M.Val.mk 2 0::args.map M.dY) nG (fun b hb hm=>by
        have iA:b=vb:=by cases hb;rfl
        rcases hm with hm|hm
        · omega
        · have:=(fC.o.dom _ hm).2;omega) (fun v hv=>by
        rw[IL];rcases List.mem_cons.1 hv with rfl|hv
        · exact M.uC _ (by omega) (by omega)
        · obtain⟨x,hx,rfl⟩:=List.mem_map.1 hv;exact M.gV _ (List.all_eq_true.1 abH.o x hx)) (by rw[M8,HM.o,uK.o];omega)
    rw[Tx.o]at U0;have b15:=W9.o.ext hE;have r0:=b15.c 0 (.int .i64 v0) rfl;have r1:=b15.c 1 (.string v1) rfl;have r2:=b15.c 2 (.int .i64 v2) rfl;have rz:=b15.lt;have abo:=Ys U0;have HE:=Ys hE;have HMX:=Ys hM;clear U0 hE hM aU nG b15 M8 IL hgs CF;go_wp2_with fail;refine abo.o.mono ?_;rintro e pY ⟨rfl,Cu,aao,g12,RH,YT,Zq⟩;have uS:=EO pY l p aao w8.heap.size w8.heap.size lk g12 YT (M.enter p lk ⟨⟨v0,v1⟩,v2⟩ (M.Val.mk 2 0::args.map M.dY) ⟨1,[],[M.fresh p ⟨fk,fn⟩],[],M.dE⟩).1;rw[Zq]at uS;have abn:=Ys uS;have Pg:=Ys Cu;have aaP:=Ys RH;have aaj:=Cu.size;clear uS Cu RH YT Zq r0 r1 r2 rz;go_wp2_with fail;refine abn.o.mono ?_;rintro e w13 ⟨rfl,UG,aap,g13,Y1,YU,Zr⟩;have qN:=Ys (ze w13 l p aap w8.heap.size w8.heap.size lk g13 YU);have ad7:=UG.size;have hKa:Kp (MO l NS) wr w13:=Pg.o.mo UG aaP.o;have HKA:=Ys hKa;have abu:=Ys Zr;clear UG Y1 YU Zr hKa;go_wp2_with fail;refine qN.o.mono ?_;rintro e FL ⟨⟨cs,rfl,hS⟩,Ej⟩;have HS:=Ys hS;obtain⟨a1,c1,a2,c2,a3,c3,rfl, -, -, -⟩:=hS.form;have R4:∀b,b<w8.heap.size→b≠l.D→¬MO l NS b:=fun b hb hd hm=>by
     rcases hm with hm|hm
     · exact hd hm
     · have:=(fC.o.dom b hm).1;omega
    have aN:=((WZ.o.ext HE.o).kp HKA.o (R4 _ (by omega) (by omega))).ext Ej;have ad8:=Ej.size;obtain⟨uI,oH⟩:∃uI,uI=(((((FL.setCell ⟨w.heap.size,0,none⟩ (.int .i64 g13.st.status)).setCell ⟨w.heap.size,1,none⟩ (.slice a1 g13.st.frames.length c1)).setCell ⟨w.heap.size,2,none⟩ (.slice a2 g13.st.heap.length c2)).setCell ⟨w.heap.size,3,none⟩ (.slice a3 g13.st.outs.length c3)).setCell ⟨w.heap.size,4,none⟩ (.int .i64 g13.st.back.kind)).setCell ⟨w.heap.size,5,none⟩ (.int .i64 g13.st.back.n):=⟨_,rfl⟩;have mf:Kp (·=w.heap.size) FL uI:=by rw[oH];exact Kp.gq (D:=(·=w.heap.size)) rfl _ _ _ _ _ _
    have yB:az uI w.heap.size 65 #[.int .i64 g13.st.status,.slice a1 g13.st.frames.length c1,.slice a2 g13.st.heap.length c2,.slice a3 g13.st.outs.length c3,.int .i64 g13.st.back.kind,.int .i64 g13.st.back.n]:=by rw[oH];exact aN.gq _ _ _ _ _ _
    have Mv:Kp (·=l.D) w uI:=((nV.o.trans HE.o.any).own' (HKA.o.trans Ej.any) (fun b hb=>by
     rcases hb with hb|hb
     · exact .inl hb
     · right;have:=(fC.o.dom b hb).1;omega)).own mf (fun b e=>by omega)
    have MB:=cO.stays _ _ _ (fun b=>w.heap.size≤b) _ _ (mf.same fun b (hb:w13.heap.size≤b) e=>by omega) (fun b (hb:w13.heap.size≤b)=>by omega) HS.o;have y0:=aN.c 0 (.int .i64 0) rfl;have f0:=aN.frozen 0;have y1:=aN.c 1 (.slice none 0 0) rfl;have f1:=aN.frozen 1;have y2:=aN.c 2 (.slice none 0 0) rfl;have f2:=aN.frozen 2;have y3:=aN.c 3 (.slice none 0 0) rfl;have f3:=aN.frozen 3;have y4:=aN.c 4 (.int .i64 0) rfl;have f4:=aN.frozen 4;have y5:=aN.c 5 (.int .i64 0) rfl;have f5:=aN.frozen 5;have yz:=aN.lt;have TC:=Ys Mv;have Lu:=Ys MB;have xQ:=Ys yB;have FZ:=Ys oH;clear aN oH mf yB Mv MB hS Ej R4;go_wp2_with fail;rw[←FZ.o];refine bodyPost_ret (aP dB rfl _ _ w.heap.size rfl [.int .i64 g13.st.status,.slice a1 g13.st.frames.length c1,.slice a2 g13.st.heap.length c2,.slice a3 g13.st.outs.length c3,.int .i64 g13.st.back.kind,.int .i64 g13.st.back.n] (af.iV xQ.o) rfl) rfl ?_;rw[HV.o];have hs:=Lu.o;rw[abu.o]at hs ⊢;exact⟨⟨_,rfl,hs⟩,TC.o⟩
end Go.Proofs.YtohpiobncgafeaaGreatDoor
