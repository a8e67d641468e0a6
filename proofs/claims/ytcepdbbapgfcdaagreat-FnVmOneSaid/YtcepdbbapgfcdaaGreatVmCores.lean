/- Walks. -/
import Derived.Test.YtcepdbbapgfcdaaGreatVmCorer
set_option maxRecDepth 100000
set_option maxHeartbeats 4000000
set_option linter.unusedSimpArgs false
set_option linter.unusedVariables false
namespace Go.Proofs.YtcepdbbapgfcdaaGreat
open Go Go.RowKit
theorem Bf(w:World)(I:Nat→Prop)(v:Value)(hs:List M.iC)(h:SliceOf 3 rA w I v hs)(hl:hs.length≤12):
    Calls Tryz.prog 54 #[v] w fun e w'=>(∃v' own os,e=.returned v'∧os.map GO.o=hs∧lS w' own w.heap.size v' os)∧Ext w w':=by
 obtain⟨a,cap,rfl,hn,dn⟩:=h.form;have H:=Ys h;clear h;go_enter Tryz.func54,Tryz.ntmps54;go_wp2_with fail;go_loopw [8,3] (fun i v3 wr=>∃(q:Nat) (own:Own) (os:List GO),q≤hs.length∧i=.int .i64 q∧Ext w wr∧Zs (os.map GO.o=hs.take q)∧lS wr own w.heap.size v3 os) (fun i _ _=>hs.length - (intOf i).toNat)
 case atStart=>exact⟨0,_,[],Nat.zero_le _,rfl,Kp.refl _ _,Ys (by simp),lS.nil _ _⟩
 case round=>
  obtain⟨q,own,os,hq,rfl,hE,vK,hO⟩:=hrel;obtain⟨va,vc,rfl⟩:=hO.row.form;have WJ:os.length=q:=by
   have:=congrArg List.length vK.o;simpa [Nat.min_eq_left hq]using this
  by_cases bZ:q<hs.length
  · obtain⟨⟨⟨ok,on⟩,Dk⟩,ho⟩:=jo hs q bZ;obtain⟨b,off,cs,rfl,hI,⟨vf,rfl,hf⟩, -,hc⟩:=(H.o.ext rA.stays hE).get ho;obtain⟨fa,fc,rfl,OU,zY⟩:=hf.form;obtain⟨g0,g1,g2⟩:=hc.three;have gz:=aG g0;obtain⟨w5,ji,dC,b5⟩:=nu wr #[.int .i64 ok,.string on,.slice fa Dk.length fc] 62;have TP:w5.heap.size=wr.heap.size+1:=by rw[ji];simp
    have Mt:¬(Value.slice va os.length vc).ownBlock=some wr.heap.size:=fun e=>by have:=(hO.row.blk e).2;omega
    obtain⟨T,f,dB,HT⟩:=iq.ex (fun W'=>Kp (fun b=>(Value.slice va os.length vc).ownBlock=some b) w5 W') _ (Kp.refl _ _);have r0:=fun z=>(b5.kp (HT.aJ z) Mt).c 0 (.int .i64 ok) rfl;have r1:=fun z=>(b5.kp (HT.aJ z) Mt).c 1 (.string on) rfl;have r2:=fun z=>(b5.kp (HT.aJ z) Mt).c 2 (.slice fa Dk.length fc) rfl;have aj:=Ys HT;have zm:=Ys ji;have Oo:Zs (lS w5 own w.heap.size (.slice va os.length vc) os):=Ys ⟨fun b hb=>⟨(hO.dom b hb).1,by have:=(hO.dom b hb).2;omega⟩,hO.row.ext dC,fun j o ho=>(hO.obj j o ho).ext dC,hO.Pb⟩;have HF:=Ys (hf.ext jy.stays dC);have gm:=Ys (hE.trans dC);have HX:=Ys ho;have MH:=Ys WJ;have hwr:=hE.size;have afZ:(os.length:Int)=q:=by omega
    clear hE hO dC b5 ji Mt HT hf hc ho WJ;go_wp2_with fail;rw[←zm.o];clear g0 g1 g2;(refine dZ aj 9 [([0,1,2,3,4],5),([6],7),([],8)] [] ?_ ?_)
    · exact(Kp.refl _ _).drew
    (refine di [_,_,_,_,_] rfl rfl fun K hK=>?_);(repeat (go_big_quiet_step (fail)));(refine qn hK fun K2 af=>?_);clear hK K;go_wp2_with fail;refine(pU _ _ _ _ ((HF.o.ext jy.stays (Kp.refl _ _).drew).vals) zY).mono ?_;rintro e w6 ⟨⟨v6,rfl,EP⟩,dK⟩;obtain⟨x6,y6,rfl⟩:=bV EP;have jX:Zs (Ext w5 w6):=Ys (((Kp.refl _ w5).drew:Ext w5 _).trans dK);have Dx:Zs (w6.ownsRow w5.heap.size 32 2 (Value.slice x6 Dk.length y6) Dk.length (Dk.flatMap bW)):=Ys EP;clear dK EP;go_wp2_with fail;(refine kk aj af jX.o.any ?_);clear af K2;(refine di [_] rfl rfl fun K hK=>?_);(repeat (go_big_quiet_step (fail)));(refine qn hK fun K2 af=>?_);clear hK K;go_wp2_with fail;(refine kk aj af (jX.o.alloc _).any ?_);clear af K2;(refine ic rfl fun K2 af=>?_);obtain⟨fQ,yu,OT,TC,ha1,Nu⟩:=Own.more Oo.o.dom Dx.o jX.o.size (by omega) (7,os.length);have sw:gP w6 fQ w.heap.size (2,0) 62 3 (.slice va os.length vc) os.length (os.flatMap kE):=(Oo.o.row.ext jX.o).relabel yu;have Yr:∀j o,os[j]?=some o→gP w6 fQ w.heap.size (7,j) 32 2 o.v o.o.fields.length (o.o.fields.flatMap bW):=fun j o ho=>((Oo.o.obj j o ho).ext jX.o).relabel yu;have rE:Ext w6 (w6.alloc (.cells #[.int .i64 ok,.string on,(Value.slice x6 Dk.length y6)] 62)):=kx;have aeO:∀u∈kE (⟨⟨⟨ok,on⟩,Dk⟩,(Value.slice x6 Dk.length y6)⟩:GO),u.oneCell'=true:=by
     simp[kE,Value.oneCell']
    refine aB KH rfl (.tmp 12) (.tmp 19) rfl w.heap.size (.slice va os.length vc) os.length (os.flatMap kE) rfl ((sw.ext rE).row) w6.heap.size 1 (kE (⟨⟨⟨ok,on⟩,Dk⟩,(Value.slice x6 Dk.length y6)⟩:GO)) rfl rfl (ae.fB _ _ rfl) aeO (by omega) (by have:=jX.o.size;simp;omega) ?_;intro g9 c9 w9 qW qw wE;change K2 _ _;have nH:Kp (fun b=>(Value.slice va os.length vc).ownBlock=some b) w6 w9:=rE.any.trans qw;(refine kk aj af (jX.o.any.trans nH) ?_);clear af K2;obtain⟨WO,PR,hd2,Jj⟩:=gP.app sw OT qW nH (wE.imp id fun e=>by simp at e;omega)
    have KY : lS w9 (fQ.add g9 (2, 0)) w.heap.size (.slice (some ⟨g9, 0, none⟩) (os.length + 1) c9) (os ++ [(⟨⟨⟨ok, on⟩, Dk⟩, (Value.slice x6 Dk.length y6)⟩ : GO)]) := by
     refine⟨hd2,by simpa using WO,fun j o ho=>?_,fun b r hb=>?_⟩
     · rcases Nat.lt_trichotomy j os.length with hj|hj|hj
       · rw[List.getElem?_append_left hj]at ho;exact sw.beside (Yr j o ho) nH PR (by simp)
       · subst hj;simp at ho;subst ho;exact sw.beside TC nH PR (by simp)
       · rw[List.getElem?_eq_none (by simp;omega)]at ho;cases ho
     · rcases Jj b r hb with h|rfl
       · rcases Nu b r h with h|rfl
         · exact Oo.o.Pb b r h
         · exact .inr ⟨_,rfl⟩
       · exact .inl rfl
    have oZ:Ext w w9:=(gm.o.trans jX.o).own nH (fun b e=>(sw.blk e).1);have IG:=Ys KY;have uK:=Ys oZ;clear yu OT TC ha1 Nu sw Yr rE qW qw wE nH WO PR hd2 Jj KY oZ aj r0 r1 r2;(refine dW ?_);go_wp2_with fail;refine⟨⟨q+1,fQ.add g9 (2,0),os++[(⟨⟨⟨ok,on⟩,Dk⟩,(Value.slice x6 Dk.length y6)⟩:GO)],by omega,by go_num,uK.o,Ys ?_,IG.o⟩,by simp[intOf];omega⟩;rw[List.map_append,vK.o,List.take_add_one,HX.o];rfl
  · have Jk:q=hs.length:=by omega
    have HR:Zs (os.map GO.o=hs):=Ys (by rw[vK.o,Jk,List.take_length]);have HO:=Ys hO;have HE:=Ys hE;clear hO hE;go_wp2_with fail;go_ret;exact⟨⟨_,own,os,rfl,HR.o,HO.o⟩,HE.o⟩
theorem lS.mono{w:World}{own:Own}{B B':Nat}{v:Value}{os:List GO}(h:lS w own B v os)(hB:B'≤B):lS w own B' v os:=
 ⟨fun b hb=>⟨Nat.le_trans hB (h.dom b hb).1,(h.dom b hb).2⟩,⟨fF h.row.row hB,h.row.role⟩,fun j o ho=>⟨fF (h.obj j o ho).row hB,(h.obj j o ho).role⟩,h.Pb⟩
theorem lS.kp{D:Nat→Prop}{w w':World}{own:Own}{B:Nat}{v:Value}{os:List GO}(h:lS w own B v os)(hk:Kp D w w')(hD:∀b,own b≠none→¬D b):lS w' own B v os:=
 ⟨fun b hb=>⟨(h.dom b hb).1,Nat.lt_of_lt_of_le (h.dom b hb).2 hk.size⟩,h.row.keep hk (gY.refl _ _) fun b hb _=>hD b (by rw[hb];simp),fun j o ho=>(h.obj j o ho).keep hk (gY.refl _ _) fun b hb _=>hD b (by rw[hb];simp),h.Pb⟩
theorem M.Good.part{p:M.au}{s:M.St}(h:M.Good p s)(n:Nat):M.Good p {s with frames:=s.frames.take n}:=
 ⟨h.heap,fun f hf=>h.frames f (List.mem_of_mem_take hf),by have:=h.nf;simp;omega,h.outs,h.nP,h.back⟩
theorem aK.start{w:World}{l:aI}{p:M.au}{own:Own}{B mb:Nat}{lk:Bool}{st:Int}{os:List GO}{outs:List Int}{back:M.Val}{vh vo:Value}(hL:aF w l p)(hB:l.L<B)(hO:lS w own B vh os)(GV:own mb=none)
    (vH:B≤mb) (aai:aC w mb 88 (yU l lk ⟨st,[],os,outs,back,.slice none 0 0,vh,vo⟩)) (pY:w.ownsRow B 3 1 vo outs.length (outs.flatMap sJ)) (oC:∀b,vo.ownBlock=some b→own b=none∧b≠mb)
    (hG:M.Good p ⟨st,[],os.map GO.o,outs,back⟩):∃own',aK w l p own' B mb lk ⟨st,[],os,outs,back,.slice none 0 0,vh,vo⟩:=by
 have h1:∀b q,own b=some q→(own.add mb (0,0)) b=some q:=fun b q hb=>by
  rw[Own.gB _ (fun e=>by subst e;rw[GV]at hb;cases hb)];exact hb
 have OT:∀b,own.add mb (0,0) b≠none→B≤b∧b<w.heap.size:=fun b hb=>by
  by_cases e:b=mb
  · subst e;exact⟨vH,aai.lt⟩
  · rw[Own.gB _ e]at hb;exact hO.dom b hb
 have afk:∀i:Nat,∀c:GC,([]:List GC)[i]?=some c→kM w l p own B i c:=fun i c hc=>by simp at hc
 cases he:vo.ownBlock with
 |none=>
  exact⟨own.add mb (0,0),hL,hB,aai,Own.add_eq _ _ _,vH,gP.nil _ _ _ _ _ _,fun i c hc=>by simp at hc,hO.row.relabel h1,fun j o ho=>(hO.obj j o ho).relabel h1,⟨pY,fun b hb=>by rw[he]at hb;cases hb⟩,OT,hG⟩
 | some g =>
  obtain⟨n1,n2⟩:=oC g he;have hg:=pY.lt g he;have h2:∀b q,(own.add mb (0,0)) b=some q→((own.add mb (0,0)).add g (3,0)) b=some q:=fun b q hb=>by
   rw[Own.gB _ (fun e=>by subst e;rw[Own.gB _ n2,n1]at hb;cases hb)];exact hb
  refine⟨(own.add mb (0,0)).add g (3,0),hL,hB,aai,h2 _ _ (Own.add_eq _ _ _),vH,gP.nil _ _ _ _ _ _,fun i c hc=>by simp at hc,(hO.row.relabel h1).relabel h2,fun j o ho=>((hO.obj j o ho).relabel h1).relabel h2,⟨pY,fun b hb=>?_⟩,fun b hb=>?_,hG⟩
  · rw[he]at hb;cases hb;exact Own.add_eq _ _ _
  · by_cases e:b=g
    · subst e;exact hg
    · rw[Own.gB _ e]at hb;exact OT b hb
theorem Lt(w:World)(l:aI)(p:M.au)(h:aF w l p)(lk:Bool)(s:M.St)(cs:List Value)(hs:aN w (· <l.O) s cs)(hv:M.FZ p s=true):
    Calls Tryz.prog 29 #[.pointer (some ⟨l.L,0,none⟩),.bool lk,.agg cs.toArray] w fun e w'=>(∃mb own g,e=.returned (.pointer (some ⟨mb,0,none⟩))∧aK w' l p own w.heap.size mb lk g∧g.st=s)∧Ext w w':=by
 obtain⟨a1,c1,a2,c2,a3,c3,rfl,h1,h2,h3⟩:=hs.form;have hR:=M.sP.1 hv;clear hs hv;obtain⟨st,xO,hp,outs,⟨bk,bn⟩⟩:=s;simp only at h1 h2 h3 ⊢;have mG:=h1.form;have xR:=h2.form;have WE:=h3.form;obtain⟨_,_,e1,Bt,hm1⟩:=mG;cases e1;obtain⟨_,_,e2,Bu,PZ⟩:=xR;cases e2;obtain⟨_,_,e3,Yl,Ym⟩:=WE;cases e3;have hhp:hp.length≤12:=(M.fA.1 hR.good.heap).1;obtain⟨w1,kS⟩:∃w1,w1=(w.alloc (.cells #[.int .i64 st,.slice a1 xO.length c1,.slice a2 hp.length c2,.slice a3 outs.length c3,.int .i64 bk,.int .i64 bn] 34)).alloc (.cells #[.pointer (some ⟨l.L,0,none⟩),.bool lk,.int .i64 st,.slice none 0 0,.slice none 0 0,.slice none 0 0,.int .i64 bk,.int .i64 bn] 88):=⟨_,rfl⟩;have bA:Ext w w1:=by rw[kS];exact kx
 have b5:aC w1 w.heap.size 34 #[.int .i64 st,.slice a1 xO.length c1,.slice a2 hp.length c2,.slice a3 outs.length c3,.int .i64 bk,.int .i64 bn]:=by rw[kS];exact(aC.new _ _ _).ext kx
 have b7:aC w1 (w.heap.size+1) 88 #[.pointer (some ⟨l.L,0,none⟩),.bool lk,.int .i64 st,.slice none 0 0,.slice none 0 0,.slice none 0 0,.int .i64 bk,.int .i64 bn]:=by rw[kS];exact aC.newAt _ _ (by simp)
 have Gt:w1.heap.size=w.heap.size+2:=by rw[kS];simp
 have Cu:=h.lt;have HL:=Ys h;have HR:=Ys hR;have fe:=Ys bA;have iL:=Ys b5;have mQ:=Ys b7;have Ee:=Ys kS;have H1:=Ys h1;have H2:=Ys h2;have H3:=Ys h3;clear h hR bA b5 b7 kS h1 h2 h3;go_enter Tryz.func29,Tryz.ntmps29;go_wp2_with fail;rw[←Ee.o];refine(Bf _ (· <l.O) _ hp (H2.o.ext rA.stays fe.o) hhp).mono ?_;rintro e w2 ⟨⟨vh,fQ,os,rfl,Nr,hO⟩,bP⟩;obtain⟨ah,ch,rfl⟩:=hO.row.form;have b52:=iL.o.ext bP;have b72:=mQ.o.ext bP;obtain⟨w3,jw⟩:∃w3,w3=w2.setCell ⟨w.heap.size+1,4,none⟩ (Value.slice ah os.length ch):=⟨_,rfl⟩;have nX:Kp (·=w.heap.size+1) w2 w3:=by rw[jw];exact(Kp.refl (·=w.heap.size+1) w2).setCell (p:=⟨w.heap.size+1,4,none⟩) (fun _=>rfl) _
 have b73:aC w3 (w.heap.size+1) 88 #[.pointer (some ⟨l.L,0,none⟩),.bool lk,.int .i64 st,.slice none 0 0,(Value.slice ah os.length ch),.slice none 0 0,.int .i64 bk,.int .i64 bn]:=by rw[jw];exact b72.bI 4 _
 have kR:=b52.kp nX (by omega);have y4:=b72.c 4 (.slice none 0 0) rfl;have yf:=b72.frozen 4;have yz:=b72.lt;have x3:=b52.c 3 (.slice a3 outs.length c3) rfl;have xz:=b52.lt;have iH:Zs (Ext w w3):=Ys ((fe.o.trans bP).own nX (fun b e=>by omega));have HO3:Zs (lS w3 fQ w1.heap.size (Value.slice ah os.length ch) os):=Ys (hO.kp nX (fun b hb e=>by have:=(hO.dom b hb).1;omega));have vK:=Ys Nr;have mq:=Ys jw;have adg:=Ys b73;have Vu:=Ys kR;have K7:w2.heap.size≤w3.heap.size:=nX.size;have EX:=bP.size;clear Nr hO bP b52 b72 jw nX b73 kR;go_wp2_with fail;rw[←mq.o];clear y4 yf yz x3 xz;refine(xw _ _ _ _ ((H3.o.ext iZ.stays iH.o).ints) Ym).mono ?_;rintro e w4 ⟨⟨vo,rfl,pY⟩,dA⟩;obtain⟨ao,co,rfl⟩:=bV pY;have b74:=adg.o.ext dA;have VR:=Vu.o.ext dA;obtain⟨w5,ji⟩:∃w5,w5=w4.setCell ⟨w.heap.size+1,5,none⟩ (Value.slice ao outs.length co):=⟨_,rfl⟩;have gD:Kp (·=w.heap.size+1) w4 w5:=by rw[ji];exact(Kp.refl (·=w.heap.size+1) w4).setCell (p:=⟨w.heap.size+1,5,none⟩) (fun _=>rfl) _
 have b75:aC w5 (w.heap.size+1) 88 #[.pointer (some ⟨l.L,0,none⟩),.bool lk,.int .i64 st,.slice none 0 0,(Value.slice ah os.length ch),(Value.slice ao outs.length co),.int .i64 bk,.int .i64 bn]:=by rw[ji];exact b74.bI 5 _
 have dC:Ext w w5:=(iH.o.trans dA).own gD (fun b e=>by omega);have Te:lS w5 fQ w.heap.size (Value.slice ah os.length ch) os:=((HO3.o.kp (D:=fun _=>False) dA fun _ _ x=>x).kp gD (fun b hb e=>by have:=(HO3.o.dom b hb).1;omega)).mono (by omega);have acE:w5.ownsRow w.heap.size 3 1 (Value.slice ao outs.length co) outs.length (outs.flatMap sJ):=fF (aD pY gD (fun q hq hb e=>by have:=pY.lt q hq;omega)) (by omega);have hM:∃own',aK w5 l p own' w.heap.size (w.heap.size+1) lk ⟨st,[],os,outs,⟨bk,bn⟩,.slice none 0 0,(Value.slice ah os.length ch),(Value.slice ao outs.length co)⟩:=by
  refine aK.start (HL.o.ext dC) Cu Te ?_ (by omega) b75 acE (fun b hb=>?_) ?_
  · cases e:fQ (w.heap.size+1)with
    |none=>rfl
    |some r=>have:=(HO3.o.dom _ (by rw[e];simp)).1;omega
  · have h1:=(pY.lt b hb).1;refine⟨?_,by omega⟩;cases e:fQ b with
    |none=>rfl
    |some r=>have:=(HO3.o.dom _ (by rw[e];simp)).2;omega
  · rw[vK.o];have:=HR.o.good.part 0;simpa using this
 have y5:=b74.c 5 (.slice none 0 0) rfl;have yf:=b74.frozen 5;have yz:=b74.lt;have x1:=VR.c 1 (.slice a1 xO.length c1) rfl;have xz:=VR.lt;have HM:=Ys hM;have gm:=Ys dC;have zm:=Ys ji;clear b74 VR ji gD b75 dC Te acE hM pY dA;go_wp2_with fail;rw[←zm.o];clear y5 yf yz x1 xz;go_loopw [34] (fun i wr=>∃(q:Nat) (own:Own) (g:Gh),q≤xO.length∧i=.int .i64 q∧Ext w wr∧aK wr l p own w.heap.size (w.heap.size+1) lk g∧g.st=⟨st,xO.take q,hp,outs,⟨bk,bn⟩⟩) (fun i _=>xO.length - (intOf i).toNat)
 case atStart=>
  obtain⟨own',hM⟩:=HM.o;exact⟨0,own',_,Nat.zero_le _,rfl,gm.o,hM,by simp[Gh.st,vK.o]⟩
 case round=>
  obtain⟨q,own,g,hq,rfl,hE,hM,bH⟩:=hrel;by_cases bZ:q<xO.length
  · obtain⟨⟨⟨⟨xk,xn⟩,xa⟩,pc,lo,sk⟩,hx⟩:=jo xO q bZ;have Gn:=M.aP.1 (HR.o.good.frames _ (List.mem_of_getElem? hx));have HFO:=Ys Gn;obtain⟨b,off,cs,rfl,hI,⟨vl,vs,rfl,zq,hsk⟩, -,hc⟩:=(H1.o.ext JZ.stays hE).get hx;obtain⟨la,lc,rfl,xQ,hlc⟩:=zq.form;obtain⟨sa,sc,rfl,Ms,hsc⟩:=hsk.form;simp only at zq hsk xQ hlc Ms hsc hc;obtain⟨g0,g1,g2,g3,g4,g5⟩:=hc.six;have gz:=aG g0;obtain⟨w9,fu,oZ,b9⟩:=nu wr #[.int .i64 xk,.string xn,.int .i64 xa,.int .i64 pc,.slice la lo.length lc,.slice sa sk.length sc] 45;have hz9:w9.heap.size=wr.heap.size+1:=by rw[fu];simp
    have y0:=b9.c 0 (.int .i64 xk) rfl;have y1:=b9.c 1 (.string xn) rfl;have y2:=b9.c 2 (.int .i64 xa) rfl;have yz:=b9.lt;obtain⟨m,hm⟩:∃m,M.method p ⟨⟨xk,xn⟩,xa⟩=m:=⟨_,rfl⟩;have yR:=fJ w9 l p (hM.dP.ext oZ) ⟨⟨xk,xn⟩,xa⟩ Gn.1;rw[hm]at yR;have hgl:g.cs.length=q:=by
     have:=congrArg (fun s=>s.frames.length) bH;simpa [Gh.st,Nat.min_eq_left hq]using this
    have hcv:∀b,g.vc.ownBlock=some b→b<wr.heap.size:=fun b e=>(hM.calls.blk e).2;have AQ:=Ys yR;have HM:=Ys hm;have IE:=Ys (hM.ext oZ);have uK:=Ys (hE.trans oZ);have p9:=Ys b9;have Ef:=Ys fu;have HLO:=Ys (zq.ext jy.stays oZ);have HSK:=Ys (hsk.ext jy.stays oZ);have qM:=Ys bH;have HX:=Ys hx;have HGL:=Ys hgl;have hwr:=hE.size;clear Gn zq hsk hc oZ b9 fu yR hm bH hx hgl hE hM;go_wp2_with fail;rw[←Ef.o];clear g0 g1 g2 g3 g4 g5;refine AQ.o.mono ?_;rintro e w6 ⟨⟨cs,lu,rfl⟩,dK⟩;obtain⟨t2,rfl⟩:=jN lu;obtain⟨gN,xW⟩:∃gN,gN=w6.alloc (.cells (ig m t2).toArray 54):=⟨_,rfl⟩;have kV:Ext w6 gN:=by rw[xW];exact kx
    have b10:aC gN w6.heap.size 54 (ig m t2).toArray:=by rw[xW];exact aC.new _ _ _
    have acG:gN.heap.size=w6.heap.size+1:=by rw[xW];simp
    have M3:=p9.o.ext (dK.trans kV);have yP:=IE.o.ext (dK.trans kV);have Vq:=dK.size;obtain⟨va,vc,yT⟩:=yP.calls.form;have Di:¬g.vc.ownBlock=some (w.heap.size+1):=fun e=>by have:=yP.calls.role _ e;rw[yP.role]at this;cases this
    have Ae:∀b,wr.heap.size≤b→¬g.vc.ownBlock=some b:=fun b hb e=>by have:=hcv b e;omega
    obtain⟨T,f,dB,HT⟩:=iq.ex (fun W'=>Kp (fun b=>g.vc.ownBlock=some b) gN W') _ (Kp.refl _ _);have rm3:=fun z=>(yP.blk.kp (HT.aJ z) Di).c 3 (.slice va g.cs.length vc) (by rw[←yT];rfl);have r90:=fun z=>(M3.kp (HT.aJ z) (Ae _ (Nat.le_refl _))).c 0 (.int .i64 xk) rfl;have r91:=fun z=>(M3.kp (HT.aJ z) (Ae _ (Nat.le_refl _))).c 1 (.string xn) rfl;have r92:=fun z=>(M3.kp (HT.aJ z) (Ae _ (Nat.le_refl _))).c 2 (.int .i64 xa) rfl;have r93:=fun z=>(M3.kp (HT.aJ z) (Ae _ (Nat.le_refl _))).c 3 (.int .i64 pc) rfl;have r94:=fun z=>(M3.kp (HT.aJ z) (Ae _ (Nat.le_refl _))).c 4 (.slice la lo.length lc) rfl;have r95:=fun z=>(M3.kp (HT.aJ z) (Ae _ (Nat.le_refl _))).c 5 (.slice sa sk.length sc) rfl;have XY:wr.heap.size≤w6.heap.size:=by omega
    have r70:=fun z=>(b10.kp (HT.aJ z) (Ae _ XY)).c 0 (.string m.name) rfl;have r71:=fun z=>(b10.kp (HT.aJ z) (Ae _ XY)).c 1 (.slice t2.a1 m.args.length t2.c1) rfl;have r72:=fun z=>(b10.kp (HT.aJ z) (Ae _ XY)).c 2 (.int .i64 m.ret.kind) rfl;have r73:=fun z=>(b10.kp (HT.aJ z) (Ae _ XY)).c 3 (.string m.ret.name) rfl;have r74:=fun z=>(b10.kp (HT.aJ z) (Ae _ XY)).c 4 (.int .i64 m.locals) rfl;have r75:=fun z=>(b10.kp (HT.aJ z) (Ae _ XY)).c 5 (.int .i64 m.stack) rfl;have r76:=fun z=>(b10.kp (HT.aJ z) (Ae _ XY)).c 6 (.slice t2.a2 m.code.length t2.c2) rfl;have r77:=fun z=>(b10.kp (HT.aJ z) (Ae _ XY)).c 7 (.slice t2.a3 m.maps.length t2.c3) rfl;have aj:=Ys HT;have MK:=Ys yT;have VK:=Ys Di;have iT:=Ys yP;have qK:=Ys (uK.o.trans (dK.trans kV));have Gf:Zs (aH gN (· <l.O) m (ig m t2)):=Ys (bQ.ext aH.stays kV lu);have adJ:=Ys (HLO.o.ext jy.stays (dK.trans kV));have adU:=Ys (HSK.o.ext jy.stays (dK.trans kV));have Pv:=Ys xW;clear HT yT Di Ae yP lu xW b10 M3 kV dK AQ y0 y1 y2 yz HLO HSK;simp only[ig];unfold ig at Pv;go_wp2_with fail;rw[←Pv.o];(refine dZ aj 23 [([0,1,2,3,4,5,6,7,8,9,10,11,13,14,16,17],12),([],15),([18,19],20),([],21),([],22)] [] ?_ ?_)
    · exact(Kp.refl _ _).drew
    (refine di [_,_,_,_,_,_,_,_,_,_,_,_,_,_,_,_] rfl rfl fun K hK=>?_);(repeat (go_big_quiet_step (fail)));(refine qn hK fun K2 af=>?_);clear hK K;go_wp2_with fail;refine(pU _ _ _ _ ((adJ.o.ext jy.stays (Kp.refl _ _).drew).vals) hlc).mono ?_;rintro e Oa ⟨⟨v11,rfl,Nv⟩,SY⟩;obtain⟨x11,y11,rfl⟩:=bV Nv;have CY:Zs (Ext gN Oa):=Ys (((Kp.refl _ gN).drew:Ext gN _).trans SY);have adS:Zs (Oa.ownsRow gN.heap.size 32 2 (Value.slice x11 lo.length y11) lo.length (lo.flatMap bW)):=Ys Nv;clear SY Nv;go_wp2_with fail;(refine kk aj af CY.o.any ?_);clear af K2;(refine ic rfl fun K2 af=>?_);go_wp2_with fail;refine(pU _ _ _ _ ((adU.o.ext jy.stays CY.o).vals) hsc).mono ?_;rintro e AR ⟨⟨v12,rfl,Nw⟩,xP⟩;obtain⟨x12,y12,rfl⟩:=bV Nw;have CZ:=Ys xP;have adT:=Ys Nw;clear xP Nw;go_wp2_with fail;(refine kk aj af (CY.o.trans CZ.o).any ?_);clear af K2;(refine di [_,_] rfl rfl fun K hK=>?_);(repeat (go_big_quiet_step (fail)));(refine qn hK fun K2 af=>?_);clear hK K;go_wp2_with fail;(refine kk aj af ((CY.o.trans CZ.o).alloc _).any ?_);clear af K2;(refine ic rfl fun K2 af=>?_);go_wp2_with fail;(refine kk aj af (((CY.o.trans CZ.o).alloc _).alloc _).any ?_);clear af K2;(refine ic rfl fun K2 af=>?_);obtain⟨wB,Qa⟩:∃wB,wB=(AR.alloc (.cells #[.int .i64 xk,.string xn,.int .i64 xa,.string m.name,.slice t2.a1 m.args.length t2.c1,.int .i64 m.ret.kind,.string m.ret.name,.int .i64 m.locals,.int .i64 m.stack,.slice t2.a2 m.code.length t2.c2,.slice t2.a3 m.maps.length t2.c3,.int .i64 pc,(Value.slice x11 lo.length y11),(Value.slice x12 sk.length y12),.int .i64 m.stack] 128)).alloc (.cells #[.pointer (some ⟨AR.heap.size,0,none⟩)] 123):=⟨_,rfl⟩;rw[←Qa];have Rj:Ext AR wB:=by rw[Qa];exact kx
    have bB:aC wB AR.heap.size 128 #[.int .i64 xk,.string xn,.int .i64 xa,.string m.name,.slice t2.a1 m.args.length t2.c1,.int .i64 m.ret.kind,.string m.ret.name,.int .i64 m.locals,.int .i64 m.stack,.slice t2.a2 m.code.length t2.c2,.slice t2.a3 m.maps.length t2.c3,.int .i64 pc,(Value.slice x11 lo.length y11),(Value.slice x12 sk.length y12),.int .i64 m.stack]:=by rw[Qa];exact(aC.newAt (W:=AR) (g:=AR.heap.size) _ _ rfl).ext kx
    have bS:ae wB (AR.heap.size+1) 0 [.pointer (some ⟨AR.heap.size,0,none⟩)]:=by rw[Qa];exact ae.fB _ _ (by simp)
    have hzB:wB.heap.size=AR.heap.size+2:=by rw[Qa];simp
    have af6:w.heap.size≤wr.heap.size:=hwr;have agc:=CY.o.size;have acH:=CZ.o.size;obtain⟨fQ,yu,OT,TC,ha1, -⟩:=Own.more iT.o.dom adS.o CY.o.size (by omega) (5,g.cs.length);obtain⟨Hc,KZ,hd2,WO,PR, -⟩:=Own.more OT adT.o CZ.o.size (by omega) (6,g.cs.length);have xR:∀b,AR.heap.size≤b→Hc b=none:=fun b hb=>by
     cases e:Hc b with
     |none=>rfl
     |some q=>have:=(hd2 b (by rw[e];simp)).2;omega
    have Ny:∀b q,Hc b=some q→(Hc.add AR.heap.size (4,g.cs.length)) b=some q:=fun b q hb=>by
     rw[Own.gB _ (fun e=>by rw[e,xR _ (Nat.le_refl _)]at hb;cases hb)];exact hb
    have hd3:∀b,Hc.add AR.heap.size (4,g.cs.length) b≠none→w.heap.size≤b∧b<wB.heap.size:=fun b hb=>by
     by_cases e:b=AR.heap.size
     · subst e;omega
     · rw[Own.gB _ e]at hb;have:=hd2 b hb;omega
    have hMB:=(iT.o.ext ((CY.o.trans CZ.o).trans Rj)).relabel (fun b q hb=>Ny _ _ (KZ _ _ (yu _ _ hb))) hd3;have hCA:kM wB l p (Hc.add AR.heap.size (4,g.cs.length)) w.heap.size g.cs.length (⟨⟨⟨⟨xk,xn⟩,xa⟩,pc,lo,sk⟩,AR.heap.size,t2,(Value.slice x11 lo.length y11),(Value.slice x12 sk.length y12)⟩:GC):=by
     refine⟨?_,Own.add_eq _ _ _,by show w.heap.size≤AR.heap.size;omega,?_,((TC.ext (CZ.o.trans Rj)).relabel KZ).relabel Ny,(WO.ext Rj).relabel Ny⟩
     · unfold Eo;simp only[HM.o];exact bB
     · simp only[HM.o];exact bQ.ext aH.stays ((CY.o.trans CZ.o).trans Rj) Gf.o
    have HMB:=Ys hMB;have Q4:=Ys hCA;have U0:Zs (Ext gN wB):=Ys ((CY.o.trans CZ.o).trans Rj);have aej:g.cs.length<8:=by have h1:xO.length≤8:=HR.o.good.nf;have h2:=HGL.o;omega
    clear Qa bB hMB hCA yu OT TC ha1 KZ hd2 WO PR xR Ny hd3 Rj;refine aB Hq rfl (.tmp 46) (.tmp 63) rfl w.heap.size (.slice va g.cs.length vc) g.cs.length (g.cs.flatMap sO) rfl (by rw[←MK.o];exact HMB.o.calls.row) (AR.heap.size+1) 1 [.pointer (some ⟨AR.heap.size,0,none⟩)] rfl rfl bS (by simp[Value.oneCell']) (by omega) (by omega) ?_;intro gg c9 Iu abQ pF aam;change K2 _ _;rw[←MK.o]at pF aam;(refine kk aj af (U0.o.any.trans pF) ?_);clear af K2;have Ji:=HMB.o.blk.kp pF VK.o;have q3:=Ji.c 3 (.slice va g.cs.length vc) (by rw[←MK.o];rfl);have f3:=Ji.frozen 3;have qz:=Ji.lt;have aau:({g with cs:=g.cs++[(⟨⟨⟨⟨xk,xn⟩,xa⟩,pc,lo,sk⟩,AR.heap.size,t2,(Value.slice x11 lo.length y11),(Value.slice x12 sk.length y12)⟩:GC)],vc:=.slice (some ⟨gg,0,none⟩) (g.cs.length+1) c9}:Gh).st=⟨st,xO.take (q+1),hp,outs,⟨bk,bn⟩⟩:=by
     have h1:=qM.o;simp only[Gh.st,M.St.mk.injEq]at h1 ⊢;obtain⟨e1,e2,e3,e4,e5⟩:=h1;refine⟨e1,?_,e3,e4,e5⟩;rw[List.map_append,e2,List.take_add_one,HX.o];rfl
    obtain⟨Nb,own',EH,PQ⟩:=HMB.o.Oz (⟨⟨⟨⟨xk,xn⟩,xa⟩,pc,lo,sk⟩,AR.heap.size,t2,(Value.slice x11 lo.length y11),(Value.slice x12 sk.length y12)⟩:GC) Q4.o gg c9 abQ pF (by
     rcases aam with e|e
     · exact .inl e
     · right;omega) (by rw[aau];exact HR.o.good.part (q+1))
    have hEF:Ext w (Iu.setCell ⟨w.heap.size+1,3,none⟩ (.slice (some ⟨gg,0,none⟩) (g.cs.length+1) c9)):=
     ((qK.o.trans U0.o).own pF (fun b e=>(HMB.o.calls.blk e).1)).own ((Kp.refl (·=w.heap.size+1) Iu).setCell (p:=⟨w.heap.size+1,3,none⟩) (fun _=>rfl) _) (fun b e=>by omega)
    have HEF:=Ys hEF;have adM:=Ys PQ;have adX:=Ys aau;clear Nb EH PQ aau Ji abQ pF aam bS aj rm3 r90 r91 r92 r93 r94 r95 r70 r71 r72 r73 r74 r75 r76 r77;(refine dW ?_);go_wp2_with fail;exact⟨⟨q+1,own',_,by omega,by go_num,HEF.o,adM.o,adX.o⟩,by simp[intOf];omega⟩
  · have Jk:q=xO.length:=by omega
    have HF:Zs (g.st=⟨st,xO,hp,outs,⟨bk,bn⟩⟩):=Ys (by rw[bH,Jk,List.take_length]);have HE:=Ys hE;have AQ:=Ys hM;clear hE hM bH;go_wp2_with fail;go_ret;exact⟨⟨_,own,g,rfl,AQ.o,HF.o⟩,HE.o⟩
theorem M4:Elem 29 45 6:=iF (z:=.agg #[.int .i64 0,.string ⟨#[]⟩,.int .i64 0,.int .i64 0,.slice none 0 0,.slice none 0 0]) (bytes:=88) Tryz.underlying29 (by kernel_rfl) rfl (by decide) (by decide)
structure GF where
 f:M.Fr
 vl:Value
 vs:Value
def PG(x:GF):List Value:=[.int .i64 x.f.of.of.keeper,.string x.f.of.of.name,.int .i64 x.f.of.at_,.int .i64 x.f.pc,x.vl,x.vs]
structure rR(w:World)(own:Own)(B:Nat)(v:Value)(fs:List GF):Prop where
 dom:∀b,own b≠none→B≤b∧b<w.heap.size
 row:gP w own B (8,0) 45 6 v fs.length (fs.flatMap PG)
 loc:∀j x,fs[j]?=some x→gP w own B (9,j) 32 2 x.vl x.f.locals.length (x.f.locals.flatMap bW)
 dG:∀j x,fs[j]?=some x→gP w own B (10,j) 32 2 x.vs x.f.stack.length (x.f.stack.flatMap bW)
theorem rR.nil(w:World)(B:Nat):rR w (fun _=>none) B (.slice none 0 0) []:=
 ⟨fun b h=>absurd rfl h,gP.nil _ _ _ _ _ _,fun j o h=>by simp at h,fun j o h=>by simp at h⟩
theorem rR.slice{w:World}{own:Own}{B:Nat}{v:Value}{fs:List GF}(h:rR w own B v fs){I:Nat→Prop}(hI:∀b,B≤b→b<w.heap.size→I b)(hl:fs.length≤4294967296)(hf:∀x∈fs,x.f.locals.length≤4294967296∧x.f.stack.length≤4294967296):SliceOf 6 JZ w I v (fs.map GF.f):=by
 have sj:∀x∈fs,SliceOf 2 jy w I x.vl x.f.locals∧SliceOf 2 jy w I x.vs x.f.stack:=fun x hx=>by
  obtain⟨j,hj,e⟩:=List.getElem_of_mem hx;have hj':fs[j]?=some x:=by rw[List.getElem?_eq_getElem hj,e]
  exact⟨SliceOf.iy bW (h.loc j x hj').row rfl rfl (fun _ _=>rfl) (fun _ _=>rfl) (fun b h1 h2=>hI b h1 h2) (hf x hx).1,
   SliceOf.iy bW (h.dG j x hj').row rfl rfl (fun _ _=>rfl) (fun _ _=>rfl) (fun b h1 h2=>hI b h1 h2) (hf x hx).2⟩
 have hs:SliceOf 6 (fun w I (x:GF) cs=>(SliceOf 2 jy w I x.vl x.f.locals∧SliceOf 2 jy w I x.vs x.f.stack)∧cs=PG x) w I v fs:=
  SliceOf.iy PG h.row.row rfl rfl (fun _ _=>rfl) (fun o ho=>⟨sj o ho,rfl⟩) (fun b h1 h2=>hI b h1 h2) hl
 obtain⟨a,c,e,h1,h2,h3⟩:=hs;refine⟨a,c,by rw[e,List.length_map],by rw[List.length_map];exact h1,by rw[List.length_map];exact h2,fun i x hx=>?_⟩;rw[List.getElem?_map]at hx;cases hi:fs[i]? with
 |none=>rw[hi]at hx;cases hx
 |some o=>
  rw[hi]at hx;cases hx;obtain⟨b,off,cs,ea,J6,⟨uQ,rfl⟩,hlen,hc⟩:=h3 i o hi;exact⟨b,off,_,ea,J6,⟨o.vl,o.vs,rfl,uQ.1,uQ.2⟩,hlen,hc⟩
theorem rR.ext{w w':World}{own:Own}{B:Nat}{v:Value}{fs:List GF}(h:rR w own B v fs)(hE:Ext w w'):rR w' own B v fs:=
 ⟨fun b hb=>⟨(h.dom b hb).1,Nat.lt_of_lt_of_le (h.dom b hb).2 hE.size⟩,h.row.ext hE,fun j x hx=>(h.loc j x hx).ext hE,fun j x hx=>(h.dG j x hx).ext hE⟩
theorem rR.kp{D:Nat→Prop}{w w':World}{own:Own}{B:Nat}{v:Value}{fs:List GF}(h:rR w own B v fs)(hk:Kp D w w')(hD:∀b,own b≠none→¬D b):rR w' own B v fs:=
 ⟨fun b hb=>⟨(h.dom b hb).1,Nat.lt_of_lt_of_le (h.dom b hb).2 hk.size⟩,h.row.keep hk (gY.refl _ _) fun b hb _=>hD b (by rw[hb];simp),
  fun j o ho=>(h.loc j o ho).keep hk (gY.refl _ _) fun b hb _=>hD b (by rw[hb];simp),fun j o ho=>(h.dG j o ho).keep hk (gY.refl _ _) fun b hb _=>hD b (by rw[hb];simp)⟩
theorem aK.things{w:World}{l:aI}{p:M.au}{own:Own}{B mb:Nat}{lk:Bool}{g:Gh}(h:aK w l p own B mb lk g):SliceOf 3 rA w (fun _=>True) g.vh g.st.heap:=by
 have hh:=M.fA.1 h.good.heap;have aao:∀o∈g.st.heap,o.fields.length≤4294967296:=fun o ho=>by
  rw[(hh.2 o ho).2.1];have h1:=mH h.dP.ok (M.chain p o.of).reverse;have h2:=M.rW p o.of;unfold M.layout;rw[if_pos (hh.2 o ho).1];rw[List.length_reverse]at h1;omega
 have sj:∀o∈g.os,SliceOf 2 jy w (fun _=>True) o.v o.o.fields:=fun o ho=>by
  obtain⟨j,hj,e⟩:=List.getElem_of_mem ho;exact SliceOf.iy bW (h.obj j o (by rw[List.getElem?_eq_getElem hj,e])).row rfl rfl (fun _ _=>rfl) (fun _ _=>rfl) (fun b h1 h2=>trivial) (aao o.o (by simp only[Gh.st];exact List.mem_map_of_mem ho))
 have hl:g.os.length≤4294967296:=by
  have:=hh.1;simp only[Gh.st,List.length_map]at this;omega
 have hs:SliceOf 3 (fun w I (x:GO) cs=>SliceOf 2 jy w I x.v x.o.fields∧cs=kE x) w (fun _=>True) g.vh g.os:=
  SliceOf.iy kE h.heap.row rfl rfl (fun _ _=>rfl) (fun o ho=>⟨sj o ho,rfl⟩) (fun b h1 h2=>trivial) hl
 obtain⟨a,c,e,h1,h2,h3⟩:=hs;refine⟨a,c,by rw[e];simp[Gh.st],by simpa [Gh.st]using h1,by simpa [Gh.st]using h2,fun i x hx=>?_⟩;simp only[Gh.st]at hx;rw[List.getElem?_map]at hx;cases hi:g.os[i]? with
 |none=>rw[hi]at hx;cases hx
 |some o=>
  rw[hi]at hx;cases hx;obtain⟨b,off,cs,ea,J6,⟨uQ,rfl⟩,hlen,hc⟩:=h3 i o hi;exact⟨b,off,_,ea,trivial,⟨o.v,rfl,uQ⟩,hlen,hc⟩
theorem Kp.gK{D:Nat→Prop}{w:World}{b:Nat}(hD:D b)(v0 v1 v2 v3 v4 v5:Value):Kp D w ((((((w.setCell ⟨b,0,none⟩ v0).setCell ⟨b,1,none⟩ v1).setCell ⟨b,2,none⟩ v2).setCell ⟨b,3,none⟩ v3).setCell ⟨b,4,none⟩ v4).setCell ⟨b,5,none⟩ v5):=
 (Kp.qO hD v0 v1 v2).trans ((((Kp.refl D _).setCell (p:=⟨b,3,none⟩) (fun _=>hD) v3).setCell (p:=⟨b,4,none⟩) (fun _=>hD) v4).setCell (p:=⟨b,5,none⟩) (fun _=>hD) v5)
theorem aC.gK{w:World}{b:Nat}{t:TypeId}{u0 u1 u2 u3 u4 u5:Value}(h:aC w b t #[u0,u1,u2,u3,u4,u5])(v0 v1 v2 v3 v4 v5:Value):aC ((((((w.setCell ⟨b,0,none⟩ v0).setCell ⟨b,1,none⟩ v1).setCell ⟨b,2,none⟩ v2).setCell ⟨b,3,none⟩ v3).setCell ⟨b,4,none⟩ v4).setCell ⟨b,5,none⟩ v5) b t #[v0,v1,v2,v3,v4,v5]:=
 (((((h.bI 0 v0).bI 1 v1).bI 2 v2).bI 3 v3).bI 4 v4).bI 5 v5
theorem Fu(w:World)(l:aI)(p:M.au)(own:Own)(B mb:Nat)(lk:Bool)(g:Gh)(h:aK w l p own B mb lk g):
    Calls Tryz.prog 31 #[.pointer (some ⟨mb,0,none⟩)] w fun e w'=>(∃cs,e=.returned (.agg cs.toArray)∧aN w' (fun b=>w.heap.size≤b) g.st cs)∧Ext w w':=by
 obtain⟨w1,kS,bA,b2⟩:=nu w #[.int .i64 0,.slice none 0 0,.slice none 0 0,.slice none 0 0,.int .i64 0,.int .i64 0] 34;have Gt:w1.heap.size=w.heap.size+1:=by rw[kS];simp
 obtain⟨ca,cc,yT⟩:=h.calls.form;obtain⟨ha,hc,hvh⟩:=h.heap.form;obtain⟨oa,oc,pY⟩:=h.outs.form;have GV:=h.blk.lt;have bT:=h.ext bA;obtain⟨T,f,dB,HT⟩:=iq.ex (fun W'=>Ext w1 W') _ (Kp.refl _ _);have r2:=fun z=>(bT.blk.ext (HT.aJ z)).c 2 (.int .i64 g.status) rfl;have r4:=fun z=>(bT.blk.ext (HT.aJ z)).c 4 (.slice ha g.os.length hc) (by rw[←hvh];rfl);have r5:=fun z=>(bT.blk.ext (HT.aJ z)).c 5 (.slice oa g.outs.length oc) (by rw[←pY];rfl);have r6:=fun z=>(bT.blk.ext (HT.aJ z)).c 6 (.int .i64 g.back.kind) rfl;have r7:=fun z=>(bT.blk.ext (HT.aJ z)).c 7 (.int .i64 g.back.n) rfl;have aj:=Ys HT;have H:=Ys h;have J3:=Ys bT;have lD:=Ys b2;have fe:=Ys bA;have MK:=Ys yT;have HVH:=Ys hvh;have Pt:=Ys pY;have Ee:=Ys kS;clear HT h bT b2 bA yT hvh pY kS;go_enter Tryz.func31,Tryz.ntmps31;go_wp2_with fail;rw[←Ee.o];rename_i K hK;have WK:g.st.heap.length≤12:=(M.fA.1 H.o.good.heap).1;have WJ:g.outs.length≤40:=H.o.good.outs;have ym:g.cs.length≤8:=by have:=H.o.good.nf;simpa [Gh.st]using this
 have hcv : ∀ b, g.vc.ownBlock = some b → b < w.heap.size := fun b e => (H.o.calls.blk e).2; have tail : ∀ (b3 ch co : Nat) (ah ao : Option Addr) (fQ : Own) (os : List GO) (w3 : World), Ext w1 w3 → os.map GO.o = g.st.heap → lS w3 fQ w1.heap.size (.slice ah os.length ch) os →
     w3.ownsRow w1.heap.size 3 1 (.slice ao g.outs.length co) g.outs.length (g.outs.flatMap sJ)→aC w3 b3 34 #[.int .i64 g.status,.slice none 0 0,.slice ah os.length ch,.slice ao g.outs.length co,.int .i64 g.back.kind,.int .i64 g.back.n]→w1.heap.size≤b3→fQ b3=none→(Value.slice ao g.outs.length co).ownBlock≠some b3→
     K {tmps:=#[.pointer (some ⟨mb,0,none⟩),undef,.pointer (some ⟨w.heap.size,0,none⟩),.pointer (some ⟨b3,0,none⟩),undef,undef,.pointer (some ⟨mb,0,none⟩),.pointer (some ⟨mb,0,none⟩),.pointer (some ⟨mb,2,none⟩),.int .i64 g.status,.pointer (some ⟨mb,0,none⟩),.pointer (some ⟨mb,0,none⟩),.pointer (some ⟨mb,4,none⟩),.slice ha g.os.length hc,.slice ah os.length ch,.pointer (some ⟨mb,0,none⟩),.pointer (some ⟨mb,0,none⟩),.pointer (some ⟨mb,5,none⟩),.slice oa g.outs.length oc,.slice ao g.outs.length co,.pointer (some ⟨mb,0,none⟩),.pointer (some ⟨mb,0,none⟩),.pointer (some ⟨mb,6,none⟩),.agg #[.int .i64 g.back.kind,.int .i64 g.back.n],.agg #[.int .i64 g.status,.slice none 0 0,.slice ah os.length ch,.slice ao g.outs.length co,.int .i64 g.back.kind,.int .i64 g.back.n],undef,undef,undef,undef,undef,undef,undef,undef,undef,undef,undef,undef,undef,undef,undef,undef,undef,undef,undef,undef,undef,undef,undef,undef,undef,undef,undef,undef,undef,undef,undef,undef,undef,undef,undef,undef],defers:=[]} w3:=by
  intro b3 ch co ah ao fQ os w3 dm Nr hO pY GM xA mG xR;refine hK _ _ ?_;clear hK aj r2 r4 r5 r6 r7;have m3:=(J3.o.ext dm).blk.c 3 (.slice ca g.cs.length cc) (by rw[←MK.o];rfl);have mz:=(J3.o.ext dm).blk.lt;have iH:=Ys dm;have vK:=Ys Nr;have HO:=Ys hO;have Ra:=Ys pY;have fM:=Ys GM;have J4:=Ys mG;have Pm:=Ys xR;have K7:=dm.size;have abU:=GM.lt;clear dm Nr hO pY GM mG xR;go_wp2_with fail;clear m3 mz;go_loopw [30] (fun i wr=>∃(q:Nat) (Hc:Own) (fs:List GF) (vf:Value),q≤g.cs.length∧i=.int .i64 q∧Kp (·=b3) w3 wr∧aC wr b3 34 #[.int .i64 g.status,vf,.slice ah os.length ch,.slice ao g.outs.length co,.int .i64 g.back.kind,.int .i64 g.back.n]∧rR wr Hc w3.heap.size vf fs∧Zs (fs.map GF.f=(g.cs.map GC.f).take q)) (fun i _=>g.cs.length - (intOf i).toNat)
  case atStart=>exact⟨0,_,[],.slice none 0 0,Nat.zero_le _,rfl,Kp.refl _ _,fM.o,rR.nil _ _,Ys (by simp)⟩
  case round =>
   obtain⟨q,Hc,fs,vf,hq,rfl,Gj,hB,hF,HFS⟩:=hrel;obtain⟨va,vc,rfl⟩:=hF.row.form;have hfq:fs.length=q:=by
    have:=congrArg List.length HFS.o;simpa [Nat.min_eq_left hq]using this
   have XZ:Ext w wr:=(fe.o.trans iH.o).own Gj (fun b e=>by omega);have TQ:=Gj.size;by_cases bZ:q<g.cs.length
   · obtain⟨c,Rm⟩:=jo g.cs q bZ;have hM:=H.o.ext XZ;have hC:=hM.call q c Rm;have OZ:=hM.calls.row;rw[MK.o]at OZ;obtain⟨gb,cc',e, -,hgl, -⟩:=cO OZ (by omega);cases e;have g0:=(eZ (enc:=sO) (k:=1) (fun _=>rfl) OZ Rm).one;rw[Nat.mul_one]at g0;obtain⟨la,lc,Ad⟩:=hC.loc.form;obtain⟨sa,sc,G5⟩:=hC.dG.form;have hcb:c.cb<w.heap.size:=(H.o.call q c Rm).blk.lt;have hlw:w3.heap.size≤wr.heap.size:=TQ;have Di:∀b,b<w3.heap.size→¬(Value.slice va fs.length vc).ownBlock=some b:=fun b hb e=>by have:=(hF.row.blk e).1;omega
     obtain⟨T,f,dB,HT⟩:=iq.ex (fun W'=>Kp (fun b=>(Value.slice va fs.length vc).ownBlock=some b) wr W') _ (Kp.refl _ _);have rb1:=fun z=>(hB.kp (HT.aJ z) (Di _ abU)).c 1 (.slice va fs.length vc) rfl;have PU:c.cb<w3.heap.size:=by omega
     have k0:=fun z=>(hC.blk.kp (HT.aJ z) (Di _ PU)).c 0 (.int .i64 c.f.of.of.keeper) rfl;have k1:=fun z=>(hC.blk.kp (HT.aJ z) (Di _ PU)).c 1 (.string c.f.of.of.name) rfl;have k2:=fun z=>(hC.blk.kp (HT.aJ z) (Di _ PU)).c 2 (.int .i64 c.f.of.at_) rfl;have k11:=fun z=>(hC.blk.kp (HT.aJ z) (Di _ PU)).c 11 (.int .i64 c.f.pc) rfl;have k12:=fun z=>(hC.blk.kp (HT.aJ z) (Di _ PU)).c 12 (.slice la c.f.locals.length lc) (by rw[←Ad];rfl);have k13:=fun z=>(hC.blk.kp (HT.aJ z) (Di _ PU)).c 13 (.slice sa c.f.stack.length sc) (by rw[←G5];rfl);have Gn:=M.aP.1 (H.o.good.frames c.f (by simp only[Gh.st];exact List.mem_map_of_mem (List.mem_of_getElem? Rm)));have yo:=M.lL (M.gI H.o.dP.ok Gn.1).1;have hll:c.f.locals.length≤1000:=by have:=yo.locals;have:=Gn.2.2.2.1;omega
     have uQ:c.f.stack.length≤1000:=by have:=yo.stack;have:=Gn.2.2.2.2.1;omega
     have tF:Zs (Flat wr 2 (.slice la c.f.locals.length lc) c.f.locals.length (c.f.locals.flatMap bW)):=Ys (by rw[←Ad];exact nQ hC.loc.row (kD uy _));have adA:Zs (SliceOf 2 jy wr (fun _=>True) (.slice sa c.f.stack.length sc) c.f.stack):=Ys (by rw[←G5];exact SliceOf.iy bW hC.dG.row rfl rfl (fun _ _=>rfl) (fun _ _=>rfl) (fun b h1 h2=>trivial) (by omega));have adx:Zs (SliceOf 2 jy wr (fun _=>True) (.slice la c.f.locals.length lc) c.f.locals):=Ys (by rw[←Ad];exact SliceOf.iy bW hC.loc.row rfl rfl (fun _ _=>rfl) (fun _ _=>rfl) (fun b h1 h2=>trivial) (by omega));have aj:=Ys HT;have HCQ:=Ys Rm;have VK:=Ys Di;have HB:=Ys hB;have HF:=Ys hF;have HKR:=Ys Gj;have HFQ:=Ys hfq;have afM:(fs.length:Int)=q:=by omega
     clear HT Rm Di hB hF Gj hfq Ad G5 hC hM XZ Gn yo OZ;go_wp2_with fail;clear g0;(refine dZ aj 24 [([0,1,2,3,4,5,6,7,8,9,10,11,12,13,15,16,17,18,19],14),([],20),([21],22),([],23)] [] ?_ ?_)
     · exact(Kp.refl _ _).drew
     (refine di [_,_,_,_,_,_,_,_,_,_,_,_,_,_,_,_,_,_,_] rfl rfl fun K hK=>?_);(repeat (go_big_quiet_step (fail)));(refine qn hK fun K2 af=>?_);clear hK K;go_wp2_with fail;refine(pU _ _ _ _ ((adx.o.ext jy.stays (Kp.refl _ _).drew).vals) (by omega)).mono ?_;rintro e w6 ⟨⟨v6,rfl,EP⟩,dK⟩;obtain⟨x6,y6,rfl⟩:=bV EP;have jX:Zs (Ext wr w6):=Ys (((Kp.refl _ wr).drew:Ext wr _).trans dK);have Dx:Zs (w6.ownsRow wr.heap.size 32 2 (.slice x6 c.f.locals.length y6) c.f.locals.length (c.f.locals.flatMap bW)):=Ys EP;clear dK EP;go_wp2_with fail;(refine kk aj af jX.o.any ?_);clear af K2;(refine ic rfl fun K2 af=>?_);go_wp2_with fail;refine(pU _ _ _ _ ((adA.o.ext jy.stays jX.o).vals) (by omega)).mono ?_;rintro e w7 ⟨⟨v7,rfl,ER⟩,rE⟩;obtain⟨x7,y7,rfl⟩:=bV ER;have C8:=Ys rE;have Zn:=Ys ER;clear rE ER;go_wp2_with fail;(refine kk aj af (jX.o.trans C8.o).any ?_);clear af K2;(refine di [_] rfl rfl fun K hK=>?_);(repeat (go_big_quiet_step (fail)));(refine qn hK fun K2 af=>?_);clear hK K;go_wp2_with fail;(refine kk aj af ((jX.o.trans C8.o).alloc _).any ?_);clear af K2;(refine ic rfl fun K2 af=>?_);have Vq:=jX.o.size;have hz7:=C8.o.size;obtain⟨aaz,Ny,hd3,hr3,Vj, -⟩:=Own.more HF.o.dom Dx.o jX.o.size hlw (9,fs.length);obtain⟨aaA,hs4,hd4,hr4,ha4, -⟩:=Own.more hd3 Zn.o C8.o.size (by omega) (10,fs.length);have Va:=HF.o.ext (jX.o.trans C8.o);have hrl:∀b r,Hc b=some r→aaA b=some r:=fun b r h=>hs4 _ _ (Ny _ _ h);have Cy:=Va.row.relabel hrl;have mY:Ext w7 (w7.alloc (.cells #[.int .i64 c.f.of.of.keeper,.string c.f.of.of.name,.int .i64 c.f.of.at_,.int .i64 c.f.pc,.slice x6 c.f.locals.length y6,.slice x7 c.f.stack.length y7] 45)):=kx;refine aB M4 rfl (.tmp 35) (.tmp 56) rfl w3.heap.size (.slice va fs.length vc) fs.length (fs.flatMap PG) rfl ((Cy.ext mY).row) w7.heap.size 1 (PG (⟨c.f,.slice x6 c.f.locals.length y6,.slice x7 c.f.stack.length y7⟩:GF)) rfl rfl (ae.fB _ _ rfl) (by simp[PG,Value.oneCell']) (by omega) (by simp;omega) ?_;intro g9 c9 w9 qW qw wE;change K2 _ _;have Jc:Kp (fun b=>(Value.slice va fs.length vc).ownBlock=some b) w7 w9:=mY.any.trans qw;(refine kk aj af ((jX.o.trans C8.o).any.trans Jc) ?_);clear af K2;obtain⟨hr9,ha9,hd9,hq9⟩:=gP.app Cy hd4 qW Jc (wE.imp id fun e=>by simp at e;omega)
     have KY:rR w9 (aaA.add g9 (8,0)) w3.heap.size (.slice (some ⟨g9,0,none⟩) (fs.length+1) c9) (fs++[(⟨c.f,.slice x6 c.f.locals.length y6,.slice x7 c.f.stack.length y7⟩:GF)]):=by
      refine⟨hd9,by simpa using hr9,fun j o ho=>?_,fun j o ho=>?_⟩
      all_goals
       rcases Nat.lt_trichotomy j fs.length with hj|hj|hj
      · rw[List.getElem?_append_left hj]at ho;exact Cy.beside ((Va.loc j o ho).relabel hrl) Jc ha9 (by simp)
      · subst hj;simp at ho;subst ho;exact Cy.beside ((hr3.ext C8.o).relabel hs4) Jc ha9 (by simp)
      · rw[List.getElem?_eq_none (by simp;omega)]at ho;cases ho
      · rw[List.getElem?_append_left hj]at ho;exact Cy.beside ((Va.dG j o ho).relabel hrl) Jc ha9 (by simp)
      · subst hj;simp at ho;subst ho;exact Cy.beside hr4 Jc ha9 (by simp)
      · rw[List.getElem?_eq_none (by simp;omega)]at ho;cases ho
     have abJ:Kp (·=b3) w3 w9:=(HKR.o.trans (jX.o.trans C8.o).any).own Jc (fun b e=>(Cy.blk e).1);have mU:=(HB.o.ext (jX.o.trans C8.o)).kp Jc (VK.o _ abU);have q1:=mU.c 1 (.slice va fs.length vc) rfl;have f1:=mU.frozen 1;have qz:=mU.lt;obtain⟨gN,xW⟩:∃gN,gN=w9.setCell ⟨b3,1,none⟩ (.slice (some ⟨g9,0,none⟩) (fs.length+1) c9):=⟨_,rfl⟩;have kI:Kp (·=b3) w9 gN:=by rw[xW];exact(Kp.refl (·=b3) w9).setCell (p:=⟨b3,1,none⟩) (fun _=>rfl) _
     have SN:aC gN b3 34 #[.int .i64 g.status,.slice (some ⟨g9,0,none⟩) (fs.length+1) c9,.slice ah os.length ch,.slice ao g.outs.length co,.int .i64 g.back.kind,.int .i64 g.back.n]:=by rw[xW];exact mU.bI 1 _
     have abH:=KY.kp kI (fun b hb e=>by have:=(KY.dom b hb).1;omega);have IG:=Ys (And.intro (abJ.trans kI) (And.intro SN abH));have Pv:=Ys xW;clear Ny hd3 hr3 Vj hs4 hd4 hr4 ha4 Va hrl Cy mY qW qw wE Jc hr9 ha9 hd9 hq9 KY abJ mU xW kI SN abH aj rb1 k0 k1 k2 k11 k12 k13;(refine dW ?_);go_wp2_with fail;rw[←Pv.o];refine⟨⟨q+1,aaA.add g9 (8,0),fs++[(⟨c.f,.slice x6 c.f.locals.length y6,.slice x7 c.f.stack.length y7⟩:GF)],.slice (some ⟨g9,0,none⟩) (fs.length+1) c9,by omega,by go_num,IG.o.1,IG.o.2.1,IG.o.2.2,Ys ?_⟩,by simp[intOf];omega⟩;rw[List.map_append,HFS.o,List.take_add_one,List.getElem?_map,HCQ.o];rfl
   · have Jk:q=g.cs.length:=by omega
     have Wu:fs.map GF.f=g.st.frames:=by
      rw[HFS.o,Jk];exact List.take_of_length_le (by simp)
     have y0:=hB.c 0 (.int .i64 g.status) rfl;have y1:=hB.c 1 (.slice va fs.length vc) rfl;have y2:=hB.c 2 (.slice ah os.length ch) rfl;have y3:=hB.c 3 (.slice ao g.outs.length co) rfl;have y4:=hB.c 4 (.int .i64 g.back.kind) rfl;have y5:=hB.c 5 (.int .i64 g.back.n) rfl;have yz:=hB.lt;have iU:=(lD.o.ext iH.o).kp Gj (by omega);have z0:=iU.c 0 (.int .i64 0) rfl;have z1:=iU.c 1 (.slice none 0 0) rfl;have z2:=iU.c 2 (.slice none 0 0) rfl;have z3:=iU.c 3 (.slice none 0 0) rfl;have z4:=iU.c 4 (.int .i64 0) rfl;have z5:=iU.c 5 (.int .i64 0) rfl;have Ph:=iU.frozen 0;have Pj:=iU.frozen 1;have QZ:=iU.frozen 2;have Q0:=iU.frozen 3;have zf4:=iU.frozen 4;have zf5:=iU.frozen 5;have zz:=iU.lt;obtain⟨gN,xW⟩:∃gN,gN=(((((wr.setCell ⟨w.heap.size,0,none⟩ (.int .i64 g.status)).setCell ⟨w.heap.size,1,none⟩ (.slice va fs.length vc)).setCell ⟨w.heap.size,2,none⟩ (.slice ah os.length ch)).setCell ⟨w.heap.size,3,none⟩ (.slice ao g.outs.length co)).setCell ⟨w.heap.size,4,none⟩ (.int .i64 g.back.kind)).setCell ⟨w.heap.size,5,none⟩ (.int .i64 g.back.n):=⟨_,rfl⟩;have kI:Kp (·=w.heap.size) wr gN:=by rw[xW];exact Kp.gK (D:=(·=w.heap.size)) rfl _ _ _ _ _ _
     have SN:aC gN w.heap.size 34 #[.int .i64 g.status,.slice va fs.length vc,.slice ah os.length ch,.slice ao g.outs.length co,.int .i64 g.back.kind,.int .i64 g.back.n]:=by rw[xW];exact iU.gK _ _ _ _ _ _
     have kV:Ext w gN:=XZ.own kI (fun b e=>by omega);have Nl:∀b,w1.heap.size≤b→b<gN.heap.size→w.heap.size≤b:=fun b hb _=>by omega
     have acb:∀b,w3.heap.size≤b→b<gN.heap.size→w.heap.size≤b:=fun b hb _=>by omega
     have hS:aN gN (fun b=>w.heap.size≤b) g.st [.int .i64 g.status,.slice va fs.length vc,.slice ah os.length ch,.slice ao g.outs.length co,.int .i64 g.back.kind,.int .i64 g.back.n]:=by
      have kQ:=(hF.kp kI (fun b hb e=>by have:=(hF.dom b hb).1;omega)).slice acb (by omega) (fun x hx=>by
       have K6:x.f∈g.st.frames:=by rw[←Wu];exact List.mem_map_of_mem hx
       have Gn:=M.aP.1 (H.o.good.frames x.f K6);have yo:=M.lL (M.gI H.o.dP.ok Gn.1).1;have:=yo.locals;have:=Gn.2.2.2.1;have:=yo.stack;have:=Gn.2.2.2.2.1;omega)
      have af0:os.length=g.st.heap.length:=by rw[←vK.o,List.length_map]
      have hhp:=((HO.o.kp Gj (fun b hb e=>by subst e;exact hb J4.o)).kp kI (fun b hb e=>by have:=(HO.o.dom b hb).1;omega)).slice Nl (by omega) (fun x hx=>by
       have K6:x.o∈g.st.heap:=by rw[←vK.o];exact List.mem_map_of_mem hx
       have hh:=(M.fA.1 H.o.good.heap).2 x.o K6;rw[hh.2.1];have h1:=mH H.o.dP.ok (M.chain p x.o.of).reverse;have h2:=M.rW p x.o.of;unfold M.layout;rw[if_pos hh.1];rw[List.length_reverse]at h1;omega)
      have hou:=aD (aD Ra.o Gj (fun b hb _ e=>Pm.o (by rw[hb,e]))) kI (fun b hb h1 e=>by omega);rw[Wu]at kQ;rw[vK.o]at hhp;exact⟨_,_,_,rfl,kQ,hhp,SliceOf.iy sJ hou rfl rfl (fun _ _=>rfl) (fun _ _=>rfl) Nl (by show g.outs.length≤_;omega)⟩
     have HS:=Ys hS;have qK:=Ys kV;have nA:=Ys SN;have Pv:=Ys xW;clear hS kV SN xW kI iU Nl acb hF Gj hB Wu HFS Jk hfq;go_wp2_with fail;rw[←Pv.o];refine bodyPost_ret (aT dV rfl _ _ w.heap.size rfl [.int .i64 g.status,.slice va fs.length vc,.slice ah os.length ch,.slice ao g.outs.length co,.int .i64 g.back.kind,.int .i64 g.back.n] (ae.gX nA.o) rfl) rfl ?_;exact⟨⟨_,rfl,HS.o⟩,qK.o⟩
 have TAIL:=Ys tail;clear tail hK;(refine l5 aj 20 (.two [0,1,2,3,4,5,6,7,9,10,11,12,14,15,16,17] 8 19 (.two [] 13 19 (.one [18] 19 (.fin [])) (.one [] 13 (.fin [18]))) (.one [] 8 (.one [] 13 (.fin [18])))) ?_ ?_)
 · exact(Kp.refl _ _).drew
 (refine two [_,_,_,_,_,_,_,_,_,_,_,_,_,_,_,_] rfl rfl rfl fun K hK=>?_);(repeat (go_big_quiet_step (fail)));((refine Gu hK (fun K2 af=>?_) fun K2 af=>?_)<;>clear hK K)
 · go_wp2_with fail;refine(Bf _ (fun _=>True) _ g.st.heap (by rw[←HVH.o];exact(J3.o.ext (Kp.refl _ _).drew).things) WK).mono ?_;rintro e w4 ⟨⟨v4,fQ,os,rfl,Nr,hO⟩,dA⟩;obtain⟨ah,ch,rfl⟩:=hO.row.form;have gZ:Zs (Ext w1 w4):=Ys (((Kp.refl _ w1).drew:Ext w1 _).trans dA);have HO:=Ys hO;have vK:=Ys Nr;have Vp:=gZ.o.size;clear dA hO Nr;go_wp2_with fail;(refine kk aj af gZ.o ?_);clear af K2;(refine ze rfl rfl (fun K2 af=>?_) fun K2 af=>?_)
   · go_wp2_with fail;refine(xw _ _ _ _ (by rw[←Pt.o];exact nQ (J3.o.ext gZ.o).outs.row (kD DN _)) (by omega)).mono ?_;rintro e w5 ⟨⟨v5,rfl,pY⟩,dC⟩;obtain⟨ao,co,rfl⟩:=bV pY;have gm:=Ys dC;have Ra:=Ys pY;have TP:=dC.size;clear dC pY;go_wp2_with fail;(refine kk aj af (gZ.o.trans gm.o) ?_);clear af K2;(refine pJ [_] rfl rfl fun K hK=>?_);(repeat (go_big_quiet_step (fail)));(refine qn hK fun K2 af=>?_);clear hK K;go_wp2_with fail;(refine kk aj af ((gZ.o.trans gm.o).alloc _) ?_);clear af K2;clear aj r2 r4 r5 r6 r7;(refine bY ?_);go_wp2_with fail;have hEn:∀X,Ext w5 (w5.alloc X):=fun X=>(Kp.refl _ _).alloc _;refine TAIL.o w5.heap.size ch co ah ao fQ os _ ((gZ.o.trans gm.o).alloc _) vK.o (HO.o.kp (D:=fun _=>False) (gm.o.trans (hEn _)) fun _ _ x=>x) (fF (aD (D:=fun _=>False) Ra.o (hEn _) fun _ _ _ x=>x) Vp) (aC.new _ _ _) (by omega) ?_ ?_
     · cases e:fQ w5.heap.size with
       |none=>rfl
       |some r=>have:=(HO.o.dom _ (by rw[e];simp)).2;omega
     · intro e;have:=(Ra.o.lt _ e).2;omega
   · go_wp2_with fail;(refine kk aj af (gZ.o.alloc _) ?_);clear af K2;obtain⟨w6,nk,dK,b6⟩:=nu w4 #[.int .i64 0,.slice none 0 0,.slice none 0 0,.slice none 0 0,.int .i64 0,.int .i64 0] 34;have jX:=Ys dK;have bg:=Ys b6;have Ch:=Ys nk;have Vq:w6.heap.size=w4.heap.size+1:=by rw[nk];simp
     clear dK b6 nk;(refine aZ rfl fun K2 af=>?_);go_wp2_with fail;rw[←Ch.o];refine(xw _ _ _ _ (by rw[←Pt.o];exact nQ (J3.o.ext (gZ.o.trans jX.o)).outs.row (kD DN _)) (by omega)).mono ?_;rintro e w5 ⟨⟨v5,rfl,pY⟩,dC⟩;obtain⟨ao,co,rfl⟩:=bV pY;have lI:=bg.o.ext dC;have y0:=lI.c 0 (.int .i64 0) rfl;have y1:=lI.c 1 (.slice none 0 0) rfl;have y2:=lI.c 2 (.slice none 0 0) rfl;have y3:=lI.c 3 (.slice none 0 0) rfl;have y4:=lI.c 4 (.int .i64 0) rfl;have y5:=lI.c 5 (.int .i64 0) rfl;have f0:=lI.frozen 0;have f1:=lI.frozen 1;have f2:=lI.frozen 2;have f3:=lI.frozen 3;have f4:=lI.frozen 4;have f5:=lI.frozen 5;have yz:=lI.lt;obtain⟨w9,fu⟩:∃w9,w9=(((((w5.setCell ⟨w4.heap.size,0,none⟩ (.int .i64 g.status)).setCell ⟨w4.heap.size,1,none⟩ (.slice none 0 0)).setCell ⟨w4.heap.size,2,none⟩ (.slice ah os.length ch)).setCell ⟨w4.heap.size,3,none⟩ (.slice ao g.outs.length co)).setCell ⟨w4.heap.size,4,none⟩ (.int .i64 g.back.kind)).setCell ⟨w4.heap.size,5,none⟩ (.int .i64 g.back.n):=⟨_,rfl⟩;have fE:Kp (·=w4.heap.size) w5 w9:=by rw[fu];exact Kp.gK (D:=(·=w4.heap.size)) rfl _ _ _ _ _ _
     have b9:aC w9 w4.heap.size 34 #[.int .i64 g.status,.slice none 0 0,.slice ah os.length ch,.slice ao g.outs.length co,.int .i64 g.back.kind,.int .i64 g.back.n]:=by rw[fu];exact lI.gK _ _ _ _ _ _
     have gm:=Ys dC;have Ra:=Ys pY;have vD:=Ys fE;have p9:=Ys b9;have Ef:=Ys fu;have TP:=dC.size;clear dC pY fE b9 fu lI;go_wp2_with fail;(refine kk aj af ((gZ.o.trans jX.o).trans gm.o) ?_);clear af K2;clear aj r2 r4 r5 r6 r7;(refine Pe [_] rfl fun K hK=>?_);(repeat (go_big_quiet_step (fail)));(refine qn hK ?_);clear hK K;go_wp2_with fail;rw[←Ef.o];refine TAIL.o w4.heap.size ch co ah ao fQ os _ (((gZ.o.trans jX.o).trans gm.o).own vD.o (fun b e=>by omega)) vK.o ((HO.o.kp (D:=fun _=>False) (jX.o.trans gm.o) fun _ _ x=>x).kp vD.o (fun b hb e=>by have:=(HO.o.dom b hb).2;omega)) (fF (aD Ra.o vD.o fun b hb h1 e=>by have:=(Ra.o.lt b hb).1;omega) (by omega)) p9.o (by omega) ?_ ?_
     · cases e:fQ w4.heap.size with
       |none=>rfl
       |some r=>have:=(HO.o.dom _ (by rw[e];simp)).2;omega
     · intro e;have:=(Ra.o.lt _ e).1;omega
 · go_wp2_with fail;(refine kk aj af (((Kp.refl _ w1).drew).alloc _) ?_);clear af K2;obtain⟨w6,nk⟩:∃w6,w6=(w1.alloc (.cells #[.int .i64 0,.slice none 0 0,.slice none 0 0,.slice none 0 0,.int .i64 0,.int .i64 0] 34)).drew:=⟨_,rfl⟩;have dK:Ext w1 w6:=by rw[nk];exact kx
   have b6:aC w6 (w.heap.size+1) 34 #[.int .i64 0,.slice none 0 0,.slice none 0 0,.slice none 0 0,.int .i64 0,.int .i64 0]:=by rw[nk];exact(aC.newAt _ _ Gt).ext (Kp.refl _ _).drew
   have jX:=Ys dK;have bg:=Ys b6;have Ch:=Ys nk;have Vq:w6.heap.size=w1.heap.size+1:=by rw[nk];simp
   clear dK b6 nk;(refine aZ rfl fun K2 af=>?_);go_wp2_with fail;rw[←Ch.o];refine(Bf _ (fun _=>True) _ g.st.heap (by rw[←HVH.o];exact(J3.o.ext jX.o).things) WK).mono ?_;rintro e w4 ⟨⟨v4,fQ,os,rfl,Nr,hO⟩,dA⟩;obtain⟨ah,ch,rfl⟩:=hO.row.form;have gZ:Zs (Ext w1 w4):=Ys (jX.o.trans dA);have ads:=Ys dA;have HO:=Ys hO;have vK:=Ys Nr;have Vp:=dA.size;clear dA hO Nr;go_wp2_with fail;(refine kk aj af gZ.o ?_);clear af K2
   · (refine aZ rfl fun K2 af=>?_);go_wp2_with fail;refine(xw _ _ _ _ (by rw[←Pt.o];exact nQ (J3.o.ext gZ.o).outs.row (kD DN _)) (by omega)).mono ?_;rintro e w5 ⟨⟨v5,rfl,pY⟩,dC⟩;obtain⟨ao,co,rfl⟩:=bV pY;have lI:=(bg.o.ext ads.o).ext dC;have y0:=lI.c 0 (.int .i64 0) rfl;have y1:=lI.c 1 (.slice none 0 0) rfl;have y2:=lI.c 2 (.slice none 0 0) rfl;have y3:=lI.c 3 (.slice none 0 0) rfl;have y4:=lI.c 4 (.int .i64 0) rfl;have y5:=lI.c 5 (.int .i64 0) rfl;have f0:=lI.frozen 0;have f1:=lI.frozen 1;have f2:=lI.frozen 2;have f3:=lI.frozen 3;have f4:=lI.frozen 4;have f5:=lI.frozen 5;have yz:=lI.lt;obtain⟨w9,fu⟩:∃w9,w9=(((((w5.setCell ⟨w.heap.size+1,0,none⟩ (.int .i64 g.status)).setCell ⟨w.heap.size+1,1,none⟩ (.slice none 0 0)).setCell ⟨w.heap.size+1,2,none⟩ (.slice ah os.length ch)).setCell ⟨w.heap.size+1,3,none⟩ (.slice ao g.outs.length co)).setCell ⟨w.heap.size+1,4,none⟩ (.int .i64 g.back.kind)).setCell ⟨w.heap.size+1,5,none⟩ (.int .i64 g.back.n):=⟨_,rfl⟩;have fE:Kp (·=w.heap.size+1) w5 w9:=by rw[fu];exact Kp.gK (D:=(·=w.heap.size+1)) rfl _ _ _ _ _ _
     have b9:aC w9 (w.heap.size+1) 34 #[.int .i64 g.status,.slice none 0 0,.slice ah os.length ch,.slice ao g.outs.length co,.int .i64 g.back.kind,.int .i64 g.back.n]:=by rw[fu];exact lI.gK _ _ _ _ _ _
     have gm:=Ys dC;have Ra:=Ys pY;have vD:=Ys fE;have p9:=Ys b9;have Ef:=Ys fu;have TP:=dC.size;clear dC pY fE b9 fu lI;go_wp2_with fail;(refine kk aj af (gZ.o.trans gm.o) ?_);clear af K2;clear aj r2 r4 r5 r6 r7;(refine Pe [_] rfl fun K hK=>?_);(repeat (go_big_quiet_step (fail)));(refine qn hK ?_);clear hK K;go_wp2_with fail;rw[←Ef.o];refine TAIL.o (w.heap.size+1) ch co ah ao fQ os _ ((gZ.o.trans gm.o).own vD.o (fun b e=>by omega)) vK.o (((HO.o.kp (D:=fun _=>False) gm.o fun _ _ x=>x).kp vD.o (fun b hb e=>by have:=(HO.o.dom b hb).1;omega)).mono (by omega)) (fF (aD Ra.o vD.o fun b hb h1 e=>by have:=(Ra.o.lt b hb).1;omega) (by omega)) p9.o (by omega) ?_ ?_
     · cases e:fQ (w.heap.size+1)with
       |none=>rfl
       |some r=>have:=(HO.o.dom _ (by rw[e];simp)).1;omega
     · intro e;have:=(Ra.o.lt _ e).1;omega
theorem Kp.own'{D D':Nat→Prop}{w a b:World}(h:Kp D w a)(hk:Kp D' a b)(hD:∀k,D' k→D k∨w.heap.size≤k):Kp D w b:=
 ⟨hk.os.trans h.os,hk.tape.trans h.tape,hk.output.trans h.output,Nat.le_trans h.size hk.size,
  fun k Br hd=>(hk.block k (Nat.lt_of_lt_of_le Br h.size) (fun x=>(hD k x).elim hd fun y=>absurd y (Nat.not_le.2 Br))).trans (h.block k Br hd)⟩
theorem xC(w:World)(I:Nat→Prop):aN w I M.dD [.int .i64 4,.slice none 0 0,.slice none 0 0,.slice none 0 0,.int .i64 0,.int .i64 0]:=
 ⟨_,_,_,rfl,SliceOf.nil _ _ _ _,SliceOf.nil _ _ _ _,SliceOf.nil _ _ _ _⟩
theorem M.Good.empty{p:M.au}:M.Good p ⟨1,[],[],[],M.ek⟩:=⟨by simp[M.ib],by simp,by simp,by simp,by simp,by simp[M.bE,M.ek]⟩
theorem Lh(w:World)(l:aI)(p:M.au)(h:aF w l p)(lk:Bool)(Cg:Zs (lk=true→nD))(k:Int)(n m:ByteArray)(args:List Int)(va:Option Addr)(ac:Nat)(yh:SliceOf 1 iZ w (· <l.O) (.slice va args.length ac) args)(acs:args.all M.fT=true):
    Calls Tryz.prog 27 #[.pointer (some ⟨l.L,0,none⟩),.bool lk,.int .i64 k,.string n,.string m,.slice va args.length ac] w fun e w'=>
     (∃cs,e=.returned (.agg cs.toArray)∧aN w' (fun b=>w.heap.size≤b) (M.start p lk k n m args) cs)∧Kp (·=l.D) w w':=by
 obtain⟨w1,kS,bA,b12⟩:=nu w #[.int .i64 0,.slice none 0 0,.slice none 0 0,.slice none 0 0,.int .i64 0,.int .i64 0] 34;have Gt:w1.heap.size=w.heap.size+1:=by rw[kS];simp
 have Mi:=h.IW;have Cu:=h.lt;have Bv:=h.ord;obtain⟨F,hF⟩:∃F,M.find p k n=F:=⟨_,rfl⟩;obtain⟨⟨fk,fn⟩,cd⟩:=F;have H7:=jM w1 l p (h.ext bA) k n;rw[hF]at H7
 have HV : Zs (M.start p lk k n m args = if cd = 1 ∧ M.cZ p ⟨fk, fn⟩ = true then
     (if(M.call p k n m).2=1∧M.iK (M.method p (M.call p k n m).1) args=true then
      M.end_ (M.enter p lk (M.call p k n m).1 (⟨2,0⟩::args.map M.gJ) ⟨1,[],[M.fresh p ⟨fk,fn⟩],[],M.ek⟩).1 (M.enter p lk (M.call p k n m).1 (⟨2,0⟩::args.map M.gJ) ⟨1,[],[M.fresh p ⟨fk,fn⟩],[],M.ek⟩).2
     else M.dD)else M.dD):=Ys (by unfold M.start;rw[hF])
 have hla:args.length≤4294967296:=by obtain⟨_,_,e,_,h4⟩:=yh.form;exact h4
 have Dv:Zs (LC l p w w1):=Ys ((LC.refl h).ext bA);have HFI:=Ys H7;have YS:=Ys b12;have Ee:=Ys kS;have UZ:=Ys yh;have adN:=Ys acs;clear h bA b12 kS hF H7 yh acs;go_enter Tryz.func27,Tryz.ntmps27;go_wp2_with fail;rw[←Ee.o];refine HFI.o.mono ?_;rintro e w2 ⟨rfl,bP⟩;have EX:=bP.size;obtain⟨w3,jw,dm,b13⟩:=nu w2 #[.int .i64 fk,.string fn] 40;have K7:w3.heap.size=w2.heap.size+1:=by rw[jw];simp
 have aW:=YS.o.ext bP;have xN:=Ys aW;have HKZ:Zs (Kp (·=l.D) w w2):=Ys (Dv.o.kp.trans bP.any);have vQ:Zs (LC l p w w3):=Ys (Dv.o.ext (bP.trans dm));have Xx:=Ys (aW.ext dm);have Vt:=Ys b13;have mq:=Ys jw;clear bP dm b13 jw HFI;by_cases hcd:cd=1;rotate_left
 · have afI:(cd !=1)=true:=bne_iff_ne.2 hcd;replace HV:Zs (M.start p lk k n m args=M.dD):=Ys (by rw[HV.o,if_neg (fun e=>hcd e.1)]);clear hcd;have y0:=aW.c 0 (.int .i64 0) rfl;have f0:=aW.frozen 0;have y1:=aW.c 1 (.slice none 0 0) rfl;have f1:=aW.frozen 1;have y2:=aW.c 2 (.slice none 0 0) rfl;have f2:=aW.frozen 2;have y3:=aW.c 3 (.slice none 0 0) rfl;have f3:=aW.frozen 3;have y4:=aW.c 4 (.int .i64 0) rfl;have f4:=aW.frozen 4;have y5:=aW.c 5 (.int .i64 0) rfl;have f5:=aW.frozen 5;have yz:=aW.lt;clear aW;go_wp2_with fail;obtain⟨w9,fu⟩:∃w9,w9=(((((w2.setCell ⟨w.heap.size,0,none⟩ (.int .i64 4)).setCell ⟨w.heap.size,1,none⟩ (.slice none 0 0)).setCell ⟨w.heap.size,2,none⟩ (.slice none 0 0)).setCell ⟨w.heap.size,3,none⟩ (.slice none 0 0)).setCell ⟨w.heap.size,4,none⟩ (.int .i64 0)).setCell ⟨w.heap.size,5,none⟩ (.int .i64 0):=⟨_,rfl⟩;have fE:Kp (·=w.heap.size) w2 w9:=by rw[fu];exact Kp.gK (D:=(·=w.heap.size)) rfl _ _ _ _ _ _
   have mU:aC w9 w.heap.size 34 #[.int .i64 4,.slice none 0 0,.slice none 0 0,.slice none 0 0,.int .i64 0,.int .i64 0]:=by rw[fu];exact xN.o.gK _ _ _ _ _ _
   rw[←fu];refine bodyPost_ret (aT dV rfl _ _ w.heap.size rfl [.int .i64 4,.slice none 0 0,.slice none 0 0,.slice none 0 0,.int .i64 0,.int .i64 0] (ae.gX (mU.ext ((Kp.refl _ _).alloc _))) rfl) rfl ?_;rw[HV.o];exact⟨⟨_,rfl,xC _ _⟩,(HKZ.o.own fE (fun b e=>by omega)).alloc _⟩
 subst hcd;clear aW;replace HV:=Ys HV.o;go_wp2_with fail;rw[←mq.o];refine(iG _ _ _ vQ.o.at_ ⟨fk,fn⟩).mono ?_;rintro e w4 ⟨rfl,hL4,mZ⟩;have vR:Zs (LC l p w w4):=Ys (vQ.o.step hL4 mZ);have Ol:=Ys (Xx.o.kp mZ (by omega));have Xy:=Ys (Vt.o.kp mZ (by omega));have Vp:=mZ.size;clear hL4 mZ Vt Xx;cases fV:M.cZ p ⟨fk,fn⟩
 · replace HV:Zs (M.start p lk k n m args=M.dD):=Ys (by rw[HV.o,if_neg (fun e=>by rw[fV]at e;cases e.2)]);clear fV;have aW:=Ol.o;have y0:=aW.c 0 (.int .i64 0) rfl;have f0:=aW.frozen 0;have y1:=aW.c 1 (.slice none 0 0) rfl;have f1:=aW.frozen 1;have y2:=aW.c 2 (.slice none 0 0) rfl;have f2:=aW.frozen 2;have y3:=aW.c 3 (.slice none 0 0) rfl;have f3:=aW.frozen 3;have y4:=aW.c 4 (.int .i64 0) rfl;have f4:=aW.frozen 4;have y5:=aW.c 5 (.int .i64 0) rfl;have f5:=aW.frozen 5;have yz:=aW.lt;clear aW;go_wp2_with fail;obtain⟨w9,fu⟩:∃w9,w9=(((((w4.setCell ⟨w.heap.size,0,none⟩ (.int .i64 4)).setCell ⟨w.heap.size,1,none⟩ (.slice none 0 0)).setCell ⟨w.heap.size,2,none⟩ (.slice none 0 0)).setCell ⟨w.heap.size,3,none⟩ (.slice none 0 0)).setCell ⟨w.heap.size,4,none⟩ (.int .i64 0)).setCell ⟨w.heap.size,5,none⟩ (.int .i64 0):=⟨_,rfl⟩;have fE:Kp (·=w.heap.size) w4 w9:=by rw[fu];exact Kp.gK (D:=(·=w.heap.size)) rfl _ _ _ _ _ _
   have mU:aC w9 w.heap.size 34 #[.int .i64 4,.slice none 0 0,.slice none 0 0,.slice none 0 0,.int .i64 0,.int .i64 0]:=by rw[fu];exact Ol.o.gK _ _ _ _ _ _
   rw[←fu];refine bodyPost_ret (aT dV rfl _ _ w.heap.size rfl [.int .i64 4,.slice none 0 0,.slice none 0 0,.slice none 0 0,.int .i64 0,.int .i64 0] (ae.gX mU) rfl) rfl ?_;rw[HV.o];exact⟨⟨_,rfl,xC _ _⟩,vR.o.kp.own fE (fun b e=>by omega)⟩
 have pQ:=Ys fV;obtain⟨G,hG⟩:∃G,M.call p k n m=G:=⟨_,rfl⟩;obtain⟨⟨⟨v0,v1⟩,v2⟩,c2⟩:=G;have ng:=uo w4 l p vR.o.at_ k n m;rw[hG]at ng;simp only[yX]at ng;have Bq:c2=1→M.cK p ⟨⟨v0,v1⟩,v2⟩=true:=fun h1=>by
  have h1:(M.call p k n m).2=1:=by rw[hG];exact h1
  obtain⟨rr,Mr⟩:=M.jI h1;rw[hG]at Mr;exact M.jW Mr
 have Zc:=Ys Bq;have XB:=Ys ng;replace HV:=Ys (HV.o.trans (if_pos (by simp[fV])));rw[hG]at HV;clear fV hG ng Bq;go_wp2_with fail;refine XB.o.mono ?_;rintro e w5 ⟨⟨ev,rfl,mV⟩,Ve,gD⟩;obtain⟨w6,nk,dK,b15⟩:=nu w5 #[.int .i64 v0,.string v1,.int .i64 v2] 42;have Vq:w6.heap.size=w5.heap.size+1:=by rw[nk];simp
 have TP:=gD.size;have aW:=Ol.o.kp gD (by omega);have xN:=Ys aW;have HKZ:Zs (Kp (·=l.D) w w5):=Ys (vR.o.kp.trans gD);have vC:Zs (LC l p w w6):=Ys ((vR.o.step Ve gD).ext dK);have RO:=Ys (aW.ext dK);have Xz:=Ys ((Xy.o.kp gD (by omega)).ext dK);have J9:=Ys b15;have Ch:=Ys nk;clear Ve gD dK b15 nk XB Ol Xy;rcases mV.weak with⟨rfl,rfl⟩|⟨hc,eb,rfl⟩;rotate_left
 · replace HV:Zs (M.start p lk k n m args=M.dD):=Ys (by rw[HV.o,if_neg (fun e=>hc e.1)]);clear hc mV;have y0:=aW.c 0 (.int .i64 0) rfl;have f0:=aW.frozen 0;have y1:=aW.c 1 (.slice none 0 0) rfl;have f1:=aW.frozen 1;have y2:=aW.c 2 (.slice none 0 0) rfl;have f2:=aW.frozen 2;have y3:=aW.c 3 (.slice none 0 0) rfl;have f3:=aW.frozen 3;have y4:=aW.c 4 (.int .i64 0) rfl;have f4:=aW.frozen 4;have y5:=aW.c 5 (.int .i64 0) rfl;have f5:=aW.frozen 5;have yz:=aW.lt;clear aW;go_wp2_with fail;obtain⟨w9,fu⟩:∃w9,w9=(((((w5.setCell ⟨w.heap.size,0,none⟩ (.int .i64 4)).setCell ⟨w.heap.size,1,none⟩ (.slice none 0 0)).setCell ⟨w.heap.size,2,none⟩ (.slice none 0 0)).setCell ⟨w.heap.size,3,none⟩ (.slice none 0 0)).setCell ⟨w.heap.size,4,none⟩ (.int .i64 0)).setCell ⟨w.heap.size,5,none⟩ (.int .i64 0):=⟨_,rfl⟩;have fE:Kp (·=w.heap.size) w5 w9:=by rw[fu];exact Kp.gK (D:=(·=w.heap.size)) rfl _ _ _ _ _ _
   have mU:aC w9 w.heap.size 34 #[.int .i64 4,.slice none 0 0,.slice none 0 0,.slice none 0 0,.int .i64 0,.int .i64 0]:=by rw[fu];exact xN.o.gK _ _ _ _ _ _
   rw[←fu];refine bodyPost_ret (aT dV rfl _ _ w.heap.size rfl [.int .i64 4,.slice none 0 0,.slice none 0 0,.slice none 0 0,.int .i64 0,.int .i64 0] (ae.gX (mU.ext ((Kp.refl _ _).alloc _))) rfl) rfl ?_;rw[HV.o];exact⟨⟨_,rfl,xC _ _⟩,(HKZ.o.own fE (fun b e=>by omega)).alloc _⟩
 clear mV aW;have hx:=Zc.o rfl;obtain⟨mt,hm⟩:∃mt,M.method p ⟨⟨v0,v1⟩,v2⟩=mt:=⟨_,rfl⟩;have yo:M.Eg mt:=by rw[←hm];exact M.lL (M.gI vC.o.at_.ok hx).1
 have yR:=fJ w6 l p vC.o.at_ ⟨⟨v0,v1⟩,v2⟩ hx;rw[hm]at yR;have Ng:=yo.Ky;have Q6:=Ys yo;have AQ:=Ys yR;have HM:=Ys hm;have HX:=Ys hx;clear hm yR hx Zc yo;go_wp2_with fail;rw[←Ch.o];refine AQ.o.mono ?_;rintro e w7 ⟨⟨cs,lu,rfl⟩,rE⟩;have bH:=FN w7 (· <l.O) cs mt lu args va ac hla;obtain⟨t2,rfl⟩:=jN lu;have qM:=Ys bH;have C8:=Ys rE;clear bH rE lu;simp only[ig]at qM ⊢;go_wp2_with fail;refine qM.o.mono ?_;rintro e w8 ⟨rfl,mY⟩;have mW:Zs (Ext w6 w8):=Ys (C8.o.trans mY);have hz8:=mW.o.size;clear mY qM C8;cases Nz:M.iK mt args
 · replace HV:Zs (M.start p lk k n m args=M.dD):=Ys (by
    rw[HV.o,if_neg];rintro⟨_,e⟩;simp only[HM.o,Nz]at e;cases e)
   clear Nz;have aW:=RO.o.ext mW.o;have y0:=aW.c 0 (.int .i64 0) rfl;have f0:=aW.frozen 0;have y1:=aW.c 1 (.slice none 0 0) rfl;have f1:=aW.frozen 1;have y2:=aW.c 2 (.slice none 0 0) rfl;have f2:=aW.frozen 2;have y3:=aW.c 3 (.slice none 0 0) rfl;have f3:=aW.frozen 3;have y4:=aW.c 4 (.int .i64 0) rfl;have f4:=aW.frozen 4;have y5:=aW.c 5 (.int .i64 0) rfl;have f5:=aW.frozen 5;have yz:=aW.lt;have xN:=Ys aW;clear aW;go_wp2_with fail;obtain⟨w9,fu⟩:∃w9,w9=(((((w8.setCell ⟨w.heap.size,0,none⟩ (.int .i64 4)).setCell ⟨w.heap.size,1,none⟩ (.slice none 0 0)).setCell ⟨w.heap.size,2,none⟩ (.slice none 0 0)).setCell ⟨w.heap.size,3,none⟩ (.slice none 0 0)).setCell ⟨w.heap.size,4,none⟩ (.int .i64 0)).setCell ⟨w.heap.size,5,none⟩ (.int .i64 0):=⟨_,rfl⟩;have fE:Kp (·=w.heap.size) w8 w9:=by rw[fu];exact Kp.gK (D:=(·=w.heap.size)) rfl _ _ _ _ _ _
   have mU:aC w9 w.heap.size 34 #[.int .i64 4,.slice none 0 0,.slice none 0 0,.slice none 0 0,.int .i64 0,.int .i64 0]:=by rw[fu];exact xN.o.gK _ _ _ _ _ _
   rw[←fu];refine bodyPost_ret (aT dV rfl _ _ w.heap.size rfl [.int .i64 4,.slice none 0 0,.slice none 0 0,.slice none 0 0,.int .i64 0,.int .i64 0] (ae.gX mU) rfl) rfl ?_;rw[HV.o];exact⟨⟨_,rfl,xC _ _⟩,(vC.o.ext mW.o).kp.own fE (fun b e=>by omega)⟩
 replace HV:=Ys (HV.o.trans (if_pos (by simp[HM.o,Nz])));have hlen:mt.args.length=args.length:=by
  unfold M.iK at Nz;simp only[Bool.and_eq_true,decide_eq_true_eq]at Nz;exact Nz.1
 have AX:=Ys hlen;have afx:args.length≤3:=by omega
 clear Nz hlen hla;have b13:=Xz.o.ext mW.o;have r0:=b13.c 0 (.int .i64 fk) rfl;have r1:=b13.c 1 (.string fn) rfl;have rz:=b13.lt;obtain⟨w9,fu,oZ,b17⟩:=nu w8 #[.pointer (some ⟨l.L,0,none⟩),.bool lk,.int .i64 1,.slice none 0 0,.slice none 0 0,.slice none 0 0,.int .i64 0,.int .i64 0] 88;have hz9:w9.heap.size=w8.heap.size+1:=by rw[fu];simp
 obtain⟨Xh,Vi⟩:∃own',aK w9 l p own' w8.heap.size w8.heap.size lk ⟨1,[],[],[],M.ek,.slice none 0 0,.slice none 0 0,.slice none 0 0⟩:=
  aK.start (vC.o.at_.ext (mW.o.trans oZ)) (by omega) (lS.nil _ _) rfl (Nat.le_refl _) b17 (World.ownsRow_nil _ _ _ _) (fun b hb=>by cases hb) M.Good.empty
 have Ws:Calls Tryz.prog 49 #[.pointer (some ⟨w8.heap.size,0,none⟩),.agg #[.int .i64 fk,.string fn]] w9 (cB w9 l p Xh w8.heap.size w8.heap.size lk (.agg #[.int .i64 2,.int .i64 0]) ⟨1,[],[M.fresh p ⟨fk,fn⟩],[],M.ek⟩):=
  CG w9 l p Xh w8.heap.size w8.heap.size lk _ Vi ⟨fk,fn⟩ pQ.o (by simp)
 have acr:∀b,b<w8.heap.size→b≠l.D→¬MO l Xh b:=fun b hb hd hm=>by
  rcases hm with hm|hm
  · exact hd hm
  · have:=(Vi.dom b hm).1;omega
 have Zj:=Ys acr;have HD9:Zs (∀b,Xh b≠none→w8.heap.size≤b):=Ys (fun b hb=>(Vi.dom b hb).1);have HCR:=Ys Ws;have uK:=Ys oZ;have Ef:=Ys fu;clear b13 oZ b17 fu Vi Ws acr;go_wp2_with fail;rw[←Ef.o];refine HCR.o.mono ?_;rintro e gN ⟨rfl,kI,Ux,g10,EH,yP,ab8⟩;clear r0 r1 rz;have acG:=kI.size;have nC:Zs (Kp (·=l.D) w gN):=Ys (((vC.o.ext mW.o).kp.trans uK.o.any).own' kI (fun b hb=>by
  rcases hb with hb|hb
  · exact .inl hb
  · right;have:=HD9.o b hb;omega))
 have aaR:Zs (SliceOf 1 iZ gN (· <l.O) (.slice va args.length ac) args):=Ys (UZ.o.keep iZ.stays (nC.o.same fun b hb e=>by omega) fun _ h=>h);have aaV:Zs (aC gN w.heap.size 34 #[.int .i64 0,.slice none 0 0,.slice none 0 0,.slice none 0 0,.int .i64 0,.int .i64 0]):=Ys ((RO.o.ext (mW.o.trans uK.o)).kp kI (Zj.o _ (by omega) (by omega)));have aaW:Zs (aC gN w5.heap.size 42 #[.int .i64 v0,.string v1,.int .i64 v2]):=Ys ((J9.o.ext (mW.o.trans uK.o)).kp kI (Zj.o _ (by omega) (by omega)));have iT:=Ys yP;have Zb:=Ys ab8;obtain⟨Oa,Jn⟩:∃Oa,Oa=gN.alloc (.cells #[.int .i64 2,.int .i64 0] 32):=⟨_,rfl⟩;have SY:Ext gN Oa:=by rw[Jn];exact kx
 have cu:Oa.ownsRow gN.heap.size 32 2 (.slice (some ⟨gN.heap.size,0,none⟩) 1 1) 1 (bW ⟨2,0⟩):=by
  rw[Jn];exact World.ownsRow_lit (size:=2) gN #[.int .i64 2,.int .i64 0] 1 (Nat.le_refl _) (by unfold maxLen;omega) rfl
 have CY:=Ys SY;have yI:=Ys cu;have ad3:=Ys Jn;clear kI EH yP ab8 SY cu Jn Zj UZ RO J9 Xz;go_wp2_with fail;rw[←ad3.o];go_loopw [66,18] (fun i vv wr=>∃q:Nat,q≤args.length∧i=.int .i64 q∧Ext gN wr∧wr.ownsRow gN.heap.size 32 2 vv (q+1) ((M.Val.mk 2 0::(args.take q).map M.gJ).flatMap bW)) (fun i _ _=>args.length - (intOf i).toNat)
 case atStart=>exact⟨0,Nat.zero_le _,rfl,CY.o,by simpa using yI.o⟩
 case round=>
  obtain⟨q,hq,rfl,hE,cu⟩:=hrel;obtain⟨vb,vc,rfl,hvb,Ad,yT⟩:=cO cu (by omega);have TQ:=hE.size;by_cases bZ:q<args.length
  · obtain⟨x,hx⟩:=jo args q bZ;obtain⟨b,off,cs,rfl,hI,rfl, -,hc⟩:=(aaR.o.ext iZ.stays hE).get hx;rw[Nat.mul_one]at hc;have g0:=hc.one;have gz:=aG g0;have HX:=Ys hx;have HE:=Ys hE;have HRW:=Ys cu;clear hx hc hE cu;go_wp2_with fail;refine(DL x _).mono ?_;rintro e AR ⟨rfl,xP⟩;have CZ:=Ys xP;have acH:=xP.size;clear xP;go_wp2_with (at_builtin;refine ru qh _ rfl _ _ rfl gN.heap.size _ (q+1) _ rfl (aD (D:=fun _=>False) HRW.o (CZ.o.alloc _) fun _ _ _ x=>x) AR.heap.size 1 (bW (M.gJ x)) rfl rfl ?c1 ?c2 ?c3 ?c4 ?_)
    case c1=>exact ae.fB _ _ rfl
    case c2=>exact uy _
    case c3=>omega
    case c4=>simp;omega
    intro v' w' Cx hK g1 cp1 hv1 Rn Bt;subst hv1;have yG:=Ys Cx;have zy:=Ys hK;clear Cx hK;go_wp2_with fail;refine⟨⟨q+1,by omega,by go_num,(HE.o.trans (CZ.o.alloc _)).own zy.o (fun b e=>by cases e;exact hvb),?_⟩,by simp[intOf];omega⟩;have:=yG.o;rw[List.take_add_one,HX.o];simpa using this
  · have Jk:q=args.length:=by omega
    have hM:=iT.o.ext hE;have Rn:g10.os.length=1:=by
     have:=congrArg (fun s=>s.heap.length) Zb.o;simpa [Gh.st]using this
    have hgs:g10.status=1:=by have:=congrArg M.St.status Zb.o;exact this
    have G5:(M.Val.mk 2 0::args.map M.gJ).length=q+1:=by simp;omega
    have sw:wr.ownsRow gN.heap.size 32 2 (.slice (some ⟨vb,0,none⟩) (q+1) vc) (M.Val.mk 2 0::args.map M.gJ).length ((M.Val.mk 2 0::args.map M.gJ).flatMap bW):=by
     rw[G5];rw[Jk,List.take_length]at cu;rw[Jk];exact cu
    have aal:=yV wr l p Ux w8.heap.size w8.heap.size lk Cg g10 hM hgs ⟨⟨v0,v1⟩,v2⟩ HX.o gN.heap.size _ (M.Val.mk 2 0::args.map M.gJ) sw (fun b hb hm=>by
        have iU:b=vb:=by cases hb;rfl
        rcases hm with hm|hm
        · omega
        · have:=(iT.o.dom _ hm).2;omega) (fun v hv=>by
        rw[Rn];rcases List.mem_cons.1 hv with rfl|hv
        · exact M.qG _ (by omega) (by omega)
        · obtain⟨x,hx,rfl⟩:=List.mem_map.1 hv;exact M.gV _ (List.all_eq_true.1 adN.o x hx)) (by rw[G5,HM.o,AX.o];omega)
    rw[Zb.o]at aal;have b15:=aaW.o.ext hE;have r0:=b15.c 0 (.int .i64 v0) rfl;have r1:=b15.c 1 (.string v1) rfl;have r2:=b15.c 2 (.int .i64 v2) rfl;have rz:=b15.lt;have adv:=Ys aal;have HE:=Ys hE;have HMX:=Ys hM;clear aal hE hM cu sw b15 G5 Rn hgs Jk;go_wp2_with fail;refine adv.o.mono ?_;rintro e AR ⟨rfl,Jb,acP,g12,Yb,abN,ab9⟩;have Bp:=Lm AR l p acP w8.heap.size w8.heap.size lk g12 abN (M.enter p lk ⟨⟨v0,v1⟩,v2⟩ (M.Val.mk 2 0::args.map M.gJ) ⟨1,[],[M.fresh p ⟨fk,fn⟩],[],M.ek⟩).1;rw[ab9]at Bp;have adu:=Ys Bp;have adD:=Ys Jb;have ac1:=Ys Yb;have acH:=Jb.size;clear Bp Jb Yb abN ab9 r0 r1 r2 rz;go_wp2_with fail;refine adu.o.mono ?_;rintro e w13 ⟨rfl,aab,acQ,g13,abR,abO,aca⟩;have qM:=Ys (Fu w13 l p acQ w8.heap.size w8.heap.size lk g13 abO);have agd:=aab.size;have hKa:Kp (MO l Ux) wr w13:=adD.o.mo aab ac1.o;have HKA:=Ys hKa;have adB:=Ys aca;clear aab abR abO aca hKa;go_wp2_with fail;refine qM.o.mono ?_;rintro e w14 ⟨⟨cs,rfl,hS⟩,Wh⟩;have HS:=Ys hS;obtain⟨a1,c1,a2,c2,a3,c3,rfl, -, -, -⟩:=hS.form;have Yo:∀b,b<w8.heap.size→b≠l.D→¬MO l Ux b:=fun b hb hd hm=>by
     rcases hm with hm|hm
     · exact hd hm
     · have:=(iT.o.dom b hm).1;omega
    have aW:=((aaV.o.ext HE.o).kp HKA.o (Yo _ (by omega) (by omega))).ext Wh;have age:=Wh.size;obtain⟨Iu,Af⟩:∃Iu,Iu=(((((w14.setCell ⟨w.heap.size,0,none⟩ (.int .i64 g13.st.status)).setCell ⟨w.heap.size,1,none⟩ (.slice a1 g13.st.frames.length c1)).setCell ⟨w.heap.size,2,none⟩ (.slice a2 g13.st.heap.length c2)).setCell ⟨w.heap.size,3,none⟩ (.slice a3 g13.st.outs.length c3)).setCell ⟨w.heap.size,4,none⟩ (.int .i64 g13.st.back.kind)).setCell ⟨w.heap.size,5,none⟩ (.int .i64 g13.st.back.n):=⟨_,rfl⟩;have pF:Kp (·=w.heap.size) w14 Iu:=by rw[Af];exact Kp.gK (D:=(·=w.heap.size)) rfl _ _ _ _ _ _
    have KN:aC Iu w.heap.size 34 #[.int .i64 g13.st.status,.slice a1 g13.st.frames.length c1,.slice a2 g13.st.heap.length c2,.slice a3 g13.st.outs.length c3,.int .i64 g13.st.back.kind,.int .i64 g13.st.back.n]:=by rw[Af];exact aW.gK _ _ _ _ _ _
    have X5:Kp (·=l.D) w Iu:=((nC.o.trans HE.o.any).own' (HKA.o.trans Wh.any) (fun b hb=>by
     rcases hb with hb|hb
     · exact .inl hb
     · right;have:=(iT.o.dom b hb).1;omega)).own pF (fun b e=>by omega)
    have Ya:=aN.stays _ _ _ (fun b=>w.heap.size≤b) _ _ (pF.same fun b (hb:w13.heap.size≤b) e=>by omega) (fun b (hb:w13.heap.size≤b)=>by omega) HS.o;have y0:=aW.c 0 (.int .i64 0) rfl;have f0:=aW.frozen 0;have y1:=aW.c 1 (.slice none 0 0) rfl;have f1:=aW.frozen 1;have y2:=aW.c 2 (.slice none 0 0) rfl;have f2:=aW.frozen 2;have y3:=aW.c 3 (.slice none 0 0) rfl;have f3:=aW.frozen 3;have y4:=aW.c 4 (.int .i64 0) rfl;have f4:=aW.frozen 4;have y5:=aW.c 5 (.int .i64 0) rfl;have f5:=aW.frozen 5;have yz:=aW.lt;have HKF:=Ys X5;have VI:=Ys Ya;have J9:=Ys KN;have R9:=Ys Af;clear aW Af pF KN X5 Ya hS Wh Yo;go_wp2_with fail;rw[←R9.o];refine bodyPost_ret (aT dV rfl _ _ w.heap.size rfl [.int .i64 g13.st.status,.slice a1 g13.st.frames.length c1,.slice a2 g13.st.heap.length c2,.slice a3 g13.st.outs.length c3,.int .i64 g13.st.back.kind,.int .i64 g13.st.back.n] (ae.gX J9.o) rfl) rfl ?_;rw[HV.o];have hs:=VI.o;rw[adB.o]at hs ⊢;exact⟨⟨_,rfl,hs⟩,HKF.o⟩
end Go.Proofs.YtcepdbbapgfcdaaGreat
