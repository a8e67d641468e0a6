/- Walks. -/
import Derived.Test.YtkmclfpjpajjeaaGreatTnCoreLu
set_option maxRecDepth 100000
set_option maxHeartbeats 4000000
set_option linter.unusedSimpArgs false
set_option linter.unusedVariables false
namespace Go.Proofs.YtkmclfpjpajjeaaGreat
open Go Go.RowKit
theorem M.Sz{p:M.ax}{lk:Bool}{s:M.St}(h:s.status≠1)(f:Nat):M.steps p lk f s=s:=by
 cases f with
 |zero=>rfl
 |succ f=>unfold M.steps;rw[if_neg h]
theorem Y9(w:World)(I:Nat→Prop)(v:Value)(p:M.ax)(hp:SliceOf 2 aB w I v p)(hI:∀b,I b→b<w.heap.size)(lk:Bool)(KL:Zs (lk=true→wJ))(s:M.St)(cs:List Value)(hs:dU w I s cs)(fuel:Int):
    Calls Tryz.prog 9 #[.agg #[v],.bool lk,.agg cs.toArray,.int .i64 fuel] w fun e w'=>
     (∃cs',e=.returned (.agg cs'.toArray)∧dU w' (fun b=>w.heap.size≤b) (M.oQ p lk s fuel) cs')∧Ext w w':=by
 obtain⟨a,cap,rfl,hn,dm⟩:=hp.form;obtain⟨a1,c1,a2,c2,a3,c3,rfl, -, -, -⟩:=hs.form;obtain⟨w2,ny⟩:∃w2,w2=((w.alloc (.cells #[.slice a p.length cap] 25)).alloc (.cells #[.int .i64 s.status,.slice a1 s.frames.length c1,.slice a2 s.heap.length c2,.slice a3 s.outs.length c3,.int .i64 s.back.kind,.int .i64 s.back.n] 40)).alloc (.cells #[.int .i64 0,.slice none 0 0,.slice none 0 0,.slice none 0 0,.int .i64 0,.int .i64 0] 40):=⟨_,rfl⟩;have bZ:Ext w w2:=by rw[ny];exact kx
 have b8:ay w2 (w.heap.size+2) 40 #[.int .i64 0,.slice none 0 0,.slice none 0 0,.slice none 0 0,.int .i64 0,.int .i64 0]:=by rw[ny];exact ay.newAt _ _ Wf
 have b6:ay w2 (w.heap.size+1) 40 #[.int .i64 s.status,.slice a1 s.frames.length c1,.slice a2 s.heap.length c2,.slice a3 s.outs.length c3,.int .i64 s.back.kind,.int .i64 s.back.n]:=by rw[ny];exact ay.ext (w:=(w.alloc (.cells #[.slice a p.length cap] 25)).alloc (.cells #[.int .i64 s.status,.slice a1 s.frames.length c1,.slice a2 s.heap.length c2,.slice a3 s.outs.length c3,.int .i64 s.back.kind,.int .i64 s.back.n] 40)) (ay.newAt _ _ Wf) (Kp.rr.alloc _)
 have NI:w2.heap.size=w.heap.size+3:=by rw[ny];simp
 have JM:=Ci w2 I (.slice a p.length cap) p (hp.ext aB.stays bZ) (fun b hb=>by have:=hI b hb;omega);have HV:Zs (M.oQ p lk s fuel=if decide (fuel≤400)&&M.dF p&&M.Cx p s then M.steps p lk fuel.toNat s else M.D9):=Z3 rfl;have⟨Zv,gL,yt,dL,Bi,HS,HI⟩:=pX JM bZ b8 b6 ny hs hI;clear bZ b8 b6 ny JM hp hs hI;go_enter Tryz.func9,Tryz.ntmps9;go_wp2_with fail;rw[←Bi.o];refine Zv.o.mono ?_;rintro e w3 ⟨dK,cK⟩;have jJ:=yt.o.ext dK;have⟨Dy,afG,jc⟩:=bg jJ dK (gL.o.trans dK);have KQ:=dK.size;clear dK Zv;by_cases hf:400<fuel
 · replace HV:Zs (M.oQ p lk s fuel=M.D9):=Z3 (by rw[HV.o,decide_eq_false Wg];rfl);have hf':decide (400<fuel)=true:=decide_eq_true hf;clear hf;rcases cK with⟨yC,rfl⟩|⟨yC,l,rfl,hL,hlO⟩
   · clear yC;obtain⟨yz,y0,y1,y2,y3,y4,y5, -⟩:=jJ.ca;obtain⟨f0,f1,f2,f3,f4,f5, -⟩:=jJ.fz;clear jJ;go_wp2_with fail;obtain⟨w9,jK⟩:∃w9,w9=(((((w3.setCell ⟨w.heap.size+2,0,none⟩ (.int .i64 0)).setCell ⟨w.heap.size+2,1,none⟩ (.slice none 0 0)).setCell ⟨w.heap.size+2,2,none⟩ (.slice none 0 0)).setCell ⟨w.heap.size+2,3,none⟩ (.slice none 0 0)).setCell ⟨w.heap.size+2,4,none⟩ (.int .i64 0)).setCell ⟨w.heap.size+2,5,none⟩ (.int .i64 0):=⟨_,rfl⟩;have fM:Kp (·=w.heap.size+2) w3 w9:=by rw[jK];exact Kp.jV (D:=(·=w.heap.size+2)) rfl _ _ _ _ _ _
     have vQ:ay w9 (w.heap.size+2) 40 #[.int .i64 0,.slice none 0 0,.slice none 0 0,.slice none 0 0,.int .i64 0,.int .i64 0]:=by rw[jK];exact Dy.o.jV _ _ _ _ _ _
     rw[←jK];refine bodyPost_ret (aY fG rfl _ _ (w.heap.size+2) rfl [.int .i64 0,.slice none 0 0,.slice none 0 0,.slice none 0 0,.int .i64 0,.int .i64 0] (ae.gM vQ) rfl) rfl ?_;rw[HV.o];exact⟨⟨_,rfl,uY _ _⟩,jc.o.own fM (fun b e=>by omega)⟩
   · clear yC hL;obtain⟨yz,y0,y1,y2,y3,y4,y5, -⟩:=jJ.ca;obtain⟨f0,f1,f2,f3,f4,f5, -⟩:=jJ.fz;clear jJ;go_wp2_with fail;obtain⟨w9,jK⟩:∃w9,w9=(((((w3.setCell ⟨w.heap.size+2,0,none⟩ (.int .i64 0)).setCell ⟨w.heap.size+2,1,none⟩ (.slice none 0 0)).setCell ⟨w.heap.size+2,2,none⟩ (.slice none 0 0)).setCell ⟨w.heap.size+2,3,none⟩ (.slice none 0 0)).setCell ⟨w.heap.size+2,4,none⟩ (.int .i64 0)).setCell ⟨w.heap.size+2,5,none⟩ (.int .i64 0):=⟨_,rfl⟩;have fM:Kp (·=w.heap.size+2) w3 w9:=by rw[jK];exact Kp.jV (D:=(·=w.heap.size+2)) rfl _ _ _ _ _ _
     have vQ:ay w9 (w.heap.size+2) 40 #[.int .i64 0,.slice none 0 0,.slice none 0 0,.slice none 0 0,.int .i64 0,.int .i64 0]:=by rw[jK];exact Dy.o.jV _ _ _ _ _ _
     rw[←jK];refine bodyPost_ret (aY fG rfl _ _ (w.heap.size+2) rfl [.int .i64 0,.slice none 0 0,.slice none 0 0,.slice none 0 0,.int .i64 0,.int .i64 0] (ae.gM vQ) rfl) rfl ?_;rw[HV.o];exact⟨⟨_,rfl,uY _ _⟩,jc.o.own fM (fun b e=>by omega)⟩
 have hf':decide (400<fuel)=false:=decide_eq_false hf;rcases cK with⟨yC,rfl⟩|⟨yC,l,rfl,hL,hlO⟩
 · replace HV:Zs (M.oQ p lk s fuel=M.D9):=Z3 (by rw[HV.o,yC,Bool.and_false];rfl);clear yC hf;obtain⟨yz,y0,y1,y2,y3,y4,y5, -⟩:=jJ.ca;obtain⟨f0,f1,f2,f3,f4,f5, -⟩:=jJ.fz;clear jJ;go_wp2_with fail;obtain⟨w9,jK⟩:∃w9,w9=(((((w3.setCell ⟨w.heap.size+2,0,none⟩ (.int .i64 0)).setCell ⟨w.heap.size+2,1,none⟩ (.slice none 0 0)).setCell ⟨w.heap.size+2,2,none⟩ (.slice none 0 0)).setCell ⟨w.heap.size+2,3,none⟩ (.slice none 0 0)).setCell ⟨w.heap.size+2,4,none⟩ (.int .i64 0)).setCell ⟨w.heap.size+2,5,none⟩ (.int .i64 0):=⟨_,rfl⟩;have fM:Kp (·=w.heap.size+2) w3 w9:=by rw[jK];exact Kp.jV (D:=(·=w.heap.size+2)) rfl _ _ _ _ _ _
   have vQ:ay w9 (w.heap.size+2) 40 #[.int .i64 0,.slice none 0 0,.slice none 0 0,.slice none 0 0,.int .i64 0,.int .i64 0]:=by rw[jK];exact Dy.o.jV _ _ _ _ _ _
   rw[←jK];refine bodyPost_ret (aY fG rfl _ _ (w.heap.size+2) rfl [.int .i64 0,.slice none 0 0,.slice none 0 0,.slice none 0 0,.int .i64 0,.int .i64 0] (ae.gM vQ) rfl) rfl ?_;rw[HV.o];exact⟨⟨_,rfl,uY _ _⟩,jc.o.own fM (fun b e=>by omega)⟩
 have Aw:=hL.ord;have HL:=Z3 hL;replace HV:Zs (M.oQ p lk s fuel=if M.Cx p s then M.steps p lk fuel.toNat s else M.D9):=Z3 (by rw[HV.o,decide_eq_true Wg,yC];rfl);have b63:=dL.o.ext afG.o;have Ad:Zs (dU w3 (· <l.O) s [.int .i64 s.status,.slice a1 s.frames.length c1,.slice a2 s.heap.length c2,.slice a3 s.outs.length c3,.int .i64 s.back.kind,.int .i64 s.back.n]):=Z3 (dU.stays _ _ _ _ _ _ (Ext.same jc.o) (fun b hb=>by have:=HI.o b hb;omega) HS.o);have⟨afu,HF⟩:=aJ b63 hf;obtain⟨xz,x0,x1,x2,x3,x4,x5, -⟩:=b63.ca;clear hL yC b63 hf jJ;go_wp2_with fail;refine(O0 _ _ _ HL.o s _ Ad.o).mono ?_;rintro e w4 ⟨rfl,Yf⟩;have zZ:=Z3 Yf;have Xi:=Yf.kp.size;clear Yf x0 x1 x2 x3 x4 x5 xz;have jJ:=Dy.o.kp zZ.o.kp Wg;replace Dy:=Z3 jJ;have iG:Zs (Ext w w4):=Z3 (jc.o.own zZ.o.kp (fun b e=>by omega));cases hv:M.Cx p s
 · replace HV:Zs (M.oQ p lk s fuel=M.D9):=Z3 (by rw[HV.o,hv];rfl);clear hv;obtain⟨yz,y0,y1,y2,y3,y4,y5, -⟩:=jJ.ca;obtain⟨f0,f1,f2,f3,f4,f5, -⟩:=jJ.fz;clear jJ;go_wp2_with fail;obtain⟨w9,jK⟩:∃w9,w9=(((((w4.setCell ⟨w.heap.size+2,0,none⟩ (.int .i64 0)).setCell ⟨w.heap.size+2,1,none⟩ (.slice none 0 0)).setCell ⟨w.heap.size+2,2,none⟩ (.slice none 0 0)).setCell ⟨w.heap.size+2,3,none⟩ (.slice none 0 0)).setCell ⟨w.heap.size+2,4,none⟩ (.int .i64 0)).setCell ⟨w.heap.size+2,5,none⟩ (.int .i64 0):=⟨_,rfl⟩;have fM:Kp (·=w.heap.size+2) w4 w9:=by rw[jK];exact Kp.jV (D:=(·=w.heap.size+2)) rfl _ _ _ _ _ _
   have vQ:ay w9 (w.heap.size+2) 40 #[.int .i64 0,.slice none 0 0,.slice none 0 0,.slice none 0 0,.int .i64 0,.int .i64 0]:=by rw[jK];exact Dy.o.jV _ _ _ _ _ _
   rw[←jK];refine bodyPost_ret (aY fG rfl _ _ (w.heap.size+2) rfl [.int .i64 0,.slice none 0 0,.slice none 0 0,.slice none 0 0,.int .i64 0,.int .i64 0] (ae.gM vQ) rfl) rfl ?_;rw[HV.o];exact⟨⟨_,rfl,uY _ _⟩,iG.o.own fM (fun b e=>by omega)⟩
 replace HV:Zs (M.oQ p lk s fuel=M.steps p lk fuel.toNat s):=Z3 (by rw[HV.o,hv];rfl);have b64:=afu.o.kp zZ.o.kp Wg;obtain⟨xz,x0,x1,x2,x3,x4,x5, -⟩:=b64.ca;have TQ:=Z3 hv;clear hv b64 jJ;go_wp2_with fail;refine(MG _ _ _ zZ.o.at_ lk s _ (dU.stays _ _ _ _ _ _ (zZ.o.same Wg) (fun _ h=>h) Ad.o) TQ.o).mono ?_;rintro e w5 ⟨⟨mb,own,g,rfl,hM,hg⟩,cZ⟩;have⟨HM,HG,gy⟩:=bg hM hg cZ;have Vt:=cZ.size;clear hM hg cZ x0 x1 x2 x3 x4 x5 xz;go_wp2_with fail;go_loopw [11] (fun i wr=>∃(q:Nat) (own':Own) (g':Gh),i=.int .i64 q∧Ext w wr∧Kp (fun b=>w4.heap.size≤b∨b=l.D) w5 wr∧aI wr l p own' w4.heap.size mb lk g'∧M.yx p g'.st∧M.steps p lk fuel.toNat s=M.steps p lk (fuel.toNat - q) g'.st) (fun i _=>fuel.toNat - (intOf i).toNat)
 case atStart=>exact⟨0,own,g,rfl,iG.o.trans gy.o,Kp.rr,HM.o,by rw[HG.o];exact M.Gp.1 TQ.o,by rw[HG.o];rfl⟩
 case round =>
  obtain⟨q,own',g',rfl,hE,GX,hM,hR,dw⟩:=hrel;have⟨HE,HKR,Bh,HR,pM⟩:=kL hE GX hM hR dw;obtain⟨ez, -, -,e2, -⟩:=hM.blk.ca;have Tp:=GX.size;by_cases Au:(q:Int)<fuel∧g'.status=1
  · obtain⟨hq,Ep⟩:=Au;have Qr:decide ((q:Int)<fuel)=true:=decide_eq_true hq;have e3:((g'.status:Int)==1)=true:=beq_iff_eq.2 Ep;obtain⟨r,c,cK⟩:∃r c,g'.cs=r++[c]:=by
     have oV:g'.cs≠[]:=fun e=>by
      have:=hR.goes.1 Ep;simp[Gh.st,e]at this
     exact⟨g'.cs.dropLast,g'.cs.getLast oV,(List.dropLast_concat_getLast oV).symm⟩
    have Ma:=RQ wr l p own' w4.heap.size mb lk KL g' hM r c cK Ep;have⟨acY,HQ,HS1⟩:=bg Ma hq Ep;have YH:IntKind.i64.wrap ((q:Int)+1)=q+1:=IntWalk.i64_in _ (by have:=HF.o;omega);clear hE GX hM hR dw cK Ma Ep;go_wp2_with fail;refine acY.o.mono ?_;rintro e w6 ⟨rfl,zV,ahv,g6,agy,WY,hg6⟩;have HX:=Z3 (And.intro zV (And.intro WY hg6));have hd:∀b,MO l own' b→w4.heap.size≤b∨b=l.D:=fun b hb=>by
     rcases hb with hb|hb
     · exact .inr hb
     · exact .inl (Bh.o.dom b hb).1
    have HD:=Z3 hd;clear zV agy WY hg6 hd e2 ez;go_wp2_with fail;refine⟨⟨q+1,ahv,g6,by go_num,HE.o.own HX.o.1 (fun b hb=>by rcases HD.o b hb with h|h<;>omega),HKR.o.trans (HX.o.1.weak fun b _ hb=>HD.o b hb),HX.o.2.1,?_,?_⟩,by simp[intOf];omega⟩
    · rw[HX.o.2.2];exact M.Jd Bh.o.dN.ok HR.o lk
    · rw[HX.o.2.2,pM.o];have e1:fuel.toNat - q=(fuel.toNat - (q+1))+1:=by omega
      rw[e1];show(if g'.st.status=1 then _ else _)=_
      rw[if_pos (show g'.st.status=1 from HS1.o)]
  · have Ar:M.steps p lk fuel.toNat s=g'.st:=by
     rw[dw];by_cases Ep:g'.status=1
     · have:fuel.toNat - q=0:=by omega
       rw[this];rfl
     · exact M.Sz Ep _
    have jL:=Z3 Ar;have aeA:=F6 wr l p own' w4.heap.size mb lk g' hM;have agh:=Z3 aeA;have jJ:=(Dy.o.ext gy.o).kp GX (fun e=>by omega);replace Dy:=Z3 jJ;have Qr:∃b1,decide ((q:Int)<fuel)=b1:=⟨_,rfl⟩;obtain⟨b1,vZ⟩:=Qr;have e3:∃b2,((g'.status:Int)==1)=b2:=⟨_,rfl⟩;obtain⟨b2,nM⟩:=e3;have hand:(b1&&b2)=false:=by
     rw[←vZ,←nM];cases hx:decide ((q:Int)<fuel)
     · rfl
     · have h1:=of_decide_eq_true hx;have h2:¬g'.status=1:=fun e=>Au ⟨h1,e⟩;simp[h2]
    have ahO:=Dy;clear Au hE GX hM hR dw Ar aeA jJ;have tail:True:=trivial;have IP:(b1=false)∨(b1=true∧b2=false):=by cases b1<;>cases b2<;>simp_all
    clear hand;rcases IP with rfl|⟨rfl,rfl⟩
    all_goals
     go_wp2_with fail;refine agh.o.mono ?_;rintro e w6 ⟨⟨cs,rfl,hS⟩,dC⟩;rw[←jL.o,←HV.o]at hS;obtain⟨s2,L8⟩:∃s2,M.oQ p lk s fuel=s2:=⟨_,rfl⟩;rw[L8]at hS;have⟨HS2,HSX⟩:=aJ L8 hS;obtain⟨a1',c1',a2',c2',a3',c3',rfl, -, -, -⟩:=hS.form;have jJ:=Dy.o.ext dC;have Xj:=dC.size;obtain⟨Jf,AA⟩:∃Jf,Jf=(((((w6.setCell ⟨w.heap.size+2,0,none⟩ (.int .i64 s2.status)).setCell ⟨w.heap.size+2,1,none⟩ (.slice a1' s2.frames.length c1')).setCell ⟨w.heap.size+2,2,none⟩ (.slice a2' s2.heap.length c2')).setCell ⟨w.heap.size+2,3,none⟩ (.slice a3' s2.outs.length c3')).setCell ⟨w.heap.size+2,4,none⟩ (.int .i64 s2.back.kind)).setCell ⟨w.heap.size+2,5,none⟩ (.int .i64 s2.back.n):=⟨_,rfl⟩;have pV:Kp (·=w.heap.size+2) w6 Jf:=by rw[AA];exact Kp.jV (D:=(·=w.heap.size+2)) rfl _ _ _ _ _ _
     have LF:ay Jf (w.heap.size+2) 40 #[.int .i64 s2.status,.slice a1' s2.frames.length c1',.slice a2' s2.heap.length c2',.slice a3' s2.outs.length c3',.int .i64 s2.back.kind,.int .i64 s2.back.n]:=by rw[AA];exact jJ.jV _ _ _ _ _ _
     have ZU:Ext w Jf:=(HE.o.trans dC).own pV (fun b e=>by omega);have ZZ:=dU.stays _ _ _ (fun b=>w.heap.size≤b) _ _ (pV.same fun b (hb:wr.heap.size≤b) e=>by omega) (fun b (hb:wr.heap.size≤b)=>by omega) HSX.o;obtain⟨yz,y0,y1,y2,y3,y4,y5, -⟩:=jJ.ca;obtain⟨f0,f1,f2,f3,f4,f5, -⟩:=jJ.fz;have⟨HKF,XH,KR,TR⟩:=gD ZU ZZ LF AA;clear jJ AA pV LF ZU ZZ hS dC L8;go_wp2_with fail;rw[←TR.o];refine bodyPost_ret (aY fG rfl _ _ (w.heap.size+2) rfl [.int .i64 s2.status,.slice a1' s2.frames.length c1',.slice a2' s2.heap.length c2',.slice a3' s2.outs.length c3',.int .i64 s2.back.kind,.int .i64 s2.back.n] (ae.gM KR.o) rfl) rfl ?_;rw[HS2.o];exact⟨⟨_,rfl,XH.o⟩,HKF.o⟩
def ll(p:M.ax)(k:Nat)(cs:List M.Class):List M.Ref:=(cs.map fun c=>(⟨k,c.name⟩:M.Ref)).filter fun r=>decide (0<(M.chain p r).length)
def gp(p:M.ax)(n:Nat):List M.Ref:=(List.range n).flatMap fun k=>(((p[k]?).map fun q=>q.owns.map fun c=>(⟨k,c.name⟩:M.Ref)).getD []).filter fun r=>decide (0<(M.chain p r).length)
theorem Hm(p:M.ax):gp p p.length=M.classes p:=rfl
theorem wR{p:M.ax}{n:Nat}{q:M.eY}(h:p[n]?=some q):gp p (n+1)=gp p n++ll p n q.owns:=by
 unfold gp ll;rw[List.range_succ,List.flatMap_append];simp[h]
theorem Ki{p:M.ax}{k n:Nat}{cs:List M.Class}{c:M.Class}(h:cs[n]?=some c):ll p k (cs.take (n+1))=ll p k (cs.take n)++if 0<(M.chain p ⟨k,c.name⟩).length then [⟨k,c.name⟩]else []:=by
 unfold ll;rw[List.take_add_one,h];simp only[Option.toList,List.map_append,List.filter_append,List.map_cons,List.map_nil];split
 · rename_i h;simp[h]
 · rename_i h;simp[h]
theorem Dm(p:M.ax)(k:Nat)(cs:List M.Class):(ll p k cs).length≤cs.length:=by
 unfold ll;exact Nat.le_trans (List.length_filter_le _ _) Wf
theorem yN{p:M.ax}(jM:M.dF p=true):∀n,n≤p.length→(gp p n).length≤n*5
 |0,_=>by simp[gp]
 | n + 1, h => by
  obtain⟨q,hq⟩:=iT p n Wg;rw[wR hq,List.length_append];have h1:=yN jM n Wg;have h2:=Dm p n q.owns;have h3:q.owns.length≤5:=by
   unfold M.dF at jM;simp only[Bool.and_eq_true,List.all_eq_true]at jM;have:=jM.2 q (List.mem_of_getElem? hq);unfold M.bA at this;simp only[Bool.and_eq_true,decide_eq_true_eq]at this;exact this.1.1.1
  omega
theorem Ia (w : World) (l : aH) (p : M.ax) (h : aC w l p) :
    Calls Tryz.prog 26 #[.pointer (some ⟨l.L,0,none⟩)] w fun e w'=>(∃v,e=.returned v∧SliceOf 2 zn w' (fun b=>w.heap.size≤b) v (M.classes p))∧Ext w w':=by
 have hp3:p.length≤3:=(M.xY h.ok).2;obtain⟨a,cap,hs,c0, -⟩:=h.cells;have d0:=c0 w Kp.rr;have dz:=aF d0;have rY:Zs (∀n,n≤p.length→(gp p n).length≤n*5):=Z3 (yN h.ok);have⟨H,HS⟩:=aJ h hs;clear h hs c0;go_enter Tryz.func26,Tryz.ntmps26;go_wp2_with fail;clear d0 dz;go_loopw [14,3] (fun i v wr=>∃q:Nat,q≤p.length∧i=.int .i64 q∧Ext w wr∧wr.ownsRow w.heap.size 70 2 v (gp p q).length ((gp p q).flatMap uu)) (fun i _ _=>p.length - (intOf i).toNat)
 case atStart=>exact⟨0,Nat.zero_le _,rfl,Kp.rr,World.ownsRow_nil _ _ _ _⟩
 case round=>
  obtain⟨q,hq,rfl,hE,bN⟩:=hrel;obtain⟨va,vc,rfl⟩:=bO bN;by_cases bY:q<p.length
  · obtain⟨⟨owns,asks⟩,jr⟩:=iT p q bY;obtain⟨b,off,cs,rfl,hI,⟨vo,vk,rfl,so,sk⟩, -,hc⟩:=HS.o.get jr;obtain⟨oa,oc,rfl,hon,hoc⟩:=so.form;obtain⟨ka,kc,rfl, -, -⟩:=sk.form;simp only at so hon hoc hc;obtain⟨g0,g1⟩:=(hc.ext hE).two;have gz:=aF g0;obtain⟨w5,iA⟩:∃w5,w5=wr.alloc (.cells #[.slice oa owns.length oc,.slice ka asks.length kc] 33):=⟨_,rfl⟩;have cZ:Ext wr w5:=by rw[iA];exact kx
    have⟨gy,yJ,HSO,HKP,tN⟩:=kL (hE.trans cZ) (aA (D:=fun _=>False) bN cZ fun _ _ _ x=>x) so jr iA;have h5:=rY.o q hq;have HOW:Zs (owns.length≤5):=Z3 (by
     have jM:=H.o.ok;unfold M.dF at jM;simp only[Bool.and_eq_true,List.all_eq_true]at jM;have:=jM.2 _ (List.mem_of_getElem? jr);unfold M.bA at this;simp only[Bool.and_eq_true,decide_eq_true_eq]at this;exact this.1.1.1)
    clear hE bN cZ iA so sk hc jr;go_wp2_with fail;rw[←tN.o];clear g0 g1;obtain⟨wo,rfl⟩:∃wo:World,wo=wr:=⟨_,rfl⟩;go_loopw [22,3] (fun j v wr=>∃t:Nat,t≤owns.length∧j=.int .i64 t∧Ext w wr∧wr.ownsRow w.heap.size 70 2 v (gp p q++ll p q (owns.take t)).length ((gp p q++ll p q (owns.take t)).flatMap uu)) (fun j _ _=>owns.length - (intOf j).toNat)
    case atStart=>exact⟨0,Nat.zero_le _,rfl,gy.o,by simpa [ll]using yJ.o⟩
    case round =>
     obtain⟨t,ht,rfl,hE,bN⟩:=hrel;obtain⟨va,vc,rfl⟩:=bO bN;by_cases OH:t<owns.length
     · obtain⟨c,ND⟩:=iT owns t OH;obtain⟨b,off,cs,rfl,hI,fU, -,hc⟩:=(HSO.o.ext aP.stays hE).get ND;obtain⟨fa,fc,ma,mc,rfl⟩:=fU.form;obtain⟨g0,g1,g2,g3⟩:=hc.four;have gz:=aF g0;have hlen:(gp p q++ll p q (owns.take t)).length≤1000:=by
        have h1:=Dm p q (owns.take t);have h2:=HOW.o;rw[List.length_append];rw[List.length_take]at h1;omega
       have KJ:=Z3 (Ki (p:=p) (k:=q) ND);obtain⟨L,hL⟩:∃L,gp p q++ll p q (owns.take t)=L:=⟨_,rfl⟩;obtain⟨w8,JS⟩:∃w8,w8=(wr.alloc (.cells #[.string c.name,.string c.aL,.slice fa c.fields.length fc,.slice ma c.methods.length mc] 75)).alloc (.cells #[.int .i64 q,.string c.name] 70):=⟨_,rfl⟩;have lK:Ext wr w8:=by rw[JS];exact kx
       have b8:ay w8 (wr.heap.size+1) 70 #[.int .i64 q,.string c.name]:=by rw[JS];exact ay.newAt _ _ Wf
       have XC:=Z3 hL;rw[hL]at bN hlen;simp only[hL];have⟨lJ,WO,yt,WQ⟩:=gD (hE.trans lK) (aA (D:=fun _=>False) bN lK fun _ _ _ x=>x) b8 JS;have hzw:=hE.size;clear hL hE bN lK b8 JS fU hc ND;go_wp2_with fail;rw[←WQ.o];clear g0 g1 g2 g3;refine(mH _ _ _ (H.o.ext lJ.o) ⟨q,c.name⟩).mono ?_;rintro e w9 ⟨⟨v9,rfl,hs9⟩,nk⟩;obtain⟨a9,c9,rfl, -, -⟩:=hs9.form;have b89:=yt.o.ext nk;obtain⟨yz,y0,y1, -⟩:=b89.ca;have⟨su,Iw⟩:=aJ (lJ.o.trans nk) (aA (D:=fun _=>False) WO.o nk fun _ _ _ x=>x);have hz9:=nk.size;clear hs9 nk b89;by_cases U0:0<(M.chain p ⟨q,c.name⟩).length
       · have agG:(0:Int)<(M.chain p ⟨q,c.name⟩).length:=by omega
         have HCH:=Z3 U0;clear U0;go_wp2_with (at_builtin;refine nJ Lx _ rfl _ _ rfl w.heap.size _ L.length _ rfl (aA (D:=fun _=>False) Iw.o (Kp.rr.alloc _) fun _ _ _ x=>x) w9.heap.size 1 (uu ⟨q,c.name⟩) rfl rfl ?c1 ?c2 ?c3 ?c4 ?_)
         case c1=>exact ae.fB _ _ rfl
         case c2=>simp[uu,Value.oneCell']
         case c3=>omega
         case c4=>have:=su.o.size;simp;omega
         intro v' w' wX hK g1 cp1 hv1 KO Bo;subst hv1;have tY:=Z3 wX;have yu:=Z3 hK;clear wX hK;go_wp2_with fail;refine⟨⟨t+1,by omega,by go_num,(su.o.alloc _).own yu.o (fun b e=>(Iw.o.lt b e).1),?_⟩,by simp[intOf];omega⟩;have:=tY.o;rw[KJ.o,if_pos HCH.o,←List.append_assoc,XC.o];simpa using this
       · have agG:((0:Int)<(M.chain p ⟨q,c.name⟩).length)=False:=eq_false Wg;have HCH:=Z3 U0;clear U0;go_wp2_with fail;refine⟨⟨t+1,by omega,by go_num,su.o,?_⟩,by simp[intOf];omega⟩;rw[KJ.o,if_neg HCH.o,List.append_nil,XC.o];exact Iw.o
     · have hte:t=owns.length:=by omega
       have HLE:Zs (gp p q++ll p q (owns.take t)=gp p (q+1)):=Z3 (by rw[hte,List.take_length,wR HKP.o]);rw[HLE.o]at bN ⊢;have⟨HRW,HEE⟩:=aJ bN hE;clear bN hE hte;go_wp2_with fail;exact⟨⟨q+1,by omega,by go_num,HEE.o,HRW.o⟩,by simp[intOf];omega⟩
  · have G7:q=p.length:=by omega
    have HE:=Z3 hE;have HRF:Zs (SliceOf 2 zn wr (fun b=>w.heap.size≤b) (.slice va (gp p q).length vc) (M.classes p)):=Z3 (by
     rw[←Hm,←G7];exact SliceOf.gH uu bN rfl rfl (fun _ _=>rfl) (fun _ _=>rfl) (fun b h1 h2=>h1) (by have:=rY.o q hq;omega))
    clear hE bN G7;go_wp2_with fail;go_ret;exact⟨⟨_,rfl,HRF.o⟩,HE.o⟩
theorem Gg(w:World)(I:Nat→Prop)(v:Value)(p:M.ax)(hp:SliceOf 2 aB w I v p)(hI:∀b,I b→b<w.heap.size):
    Calls Tryz.prog 11 #[.agg #[v]] w fun e w'=>e=.returned (.bool (M.iI p))∧Ext w w':=by
 obtain⟨a,cap,rfl,hn,dm⟩:=hp.form;obtain⟨w1,jX⟩:∃w1,w1=w.alloc (.cells #[.slice a p.length cap] 25):=⟨_,rfl⟩;have bH:Ext w w1:=by rw[jX];exact kx
 have Db:=bH.size;have JM:=Ci w1 I (.slice a p.length cap) p (hp.ext aB.stays bH) (fun b hb=>by have:=hI b hb;omega);have HV:Zs (M.iI p=(M.dF p&&(M.classes p).all (M.eG p))):=Z3 rfl;have⟨Zv,eQ,BB⟩:=bg JM bH jX;clear bH jX JM hp hI;go_enter Tryz.func11,Tryz.ntmps11;go_wp2_with fail;rw[←BB.o];refine Zv.o.mono ?_;rintro e w2 ⟨bZ,cK⟩;have gL:=Z3 (eQ.o.trans bZ);have NI:=bZ.size;clear bZ Zv;rcases cK with⟨yC,rfl⟩|⟨yC,l,rfl,hL,hlO⟩
 · have HR:Zs (M.iI p=false):=Z3 (by rw[HV.o,yC];rfl);clear yC;go_wp2_with fail;go_ret;exact⟨af HR.o.symm,gL.o⟩
 replace HV:Zs (M.iI p=(M.classes p).all (M.eG p)):=Z3 (by rw[HV.o,yC];rfl);have Aw:=hL.ord;have KM:=hL.Hl;have HL:=Z3 hL;clear hL yC;go_wp2_with fail;refine(Ia _ _ _ HL.o).mono ?_;rintro e w3 ⟨⟨v3,rfl,JO⟩,dK⟩;obtain⟨a3,c3,rfl,U8,DT⟩:=JO.form;have⟨NV,SQ,jc⟩:=bg JO (HL.o.ext dK) (gL.o.trans dK);have KQ:=dK.size;obtain⟨C,hC⟩:∃C,M.classes p=C:=⟨_,rfl⟩;rw[hC]at NV HV U8 DT;simp only[hC];clear dK JO hC;go_wp2_with fail;go_loopw [13] (fun i wr=>∃q:Nat,q≤C.length∧i=.int .i64 q∧LC l p w3 wr∧Zs ((C.take q).all (M.eG p)=true)) (fun i _=>C.length - (intOf i).toNat)
 case atStart=>exact⟨0,Nat.zero_le _,rfl,LC.refl SQ.o,Z3 Wf⟩
 case round=>
  obtain⟨q,hq,rfl,hC,HQ⟩:=hrel;have HC:=Z3 hC;have Tp:=hC.kp.size;by_cases bY:q<C.length
  · obtain⟨⟨rk,rn⟩,hr⟩:=iT C q bY;obtain⟨b,off,cs,rfl,hI,rfl, -,hc⟩:=NV.o.get hr;have hlb:w2.heap.size≤b:=hI;obtain⟨g0,g1⟩:=(hc.kp hC.kp Wg).two;have gz:=aF g0;obtain⟨w5,iA⟩:∃w5,w5=wr.alloc (.cells #[.int .i64 rk,.string rn] 70):=⟨_,rfl⟩;have cZ:Ext wr w5:=by rw[iA];exact kx
    have⟨HL5,rX,HX,tN⟩:=gD (hC.at_.ext cZ) (hC.ext cZ) hr iA;clear cZ iA hr hc hC hI;go_wp2_with fail;rw[←tN.o];refine(DX _ _ _ HL5.o ⟨rk,rn⟩).mono ?_;rintro e w6 ⟨rfl,zV,hL6⟩;have zg:Zs (LC l p w3 w6):=Z3 (rX.o.step hL6 zV);clear zV hL6;cases Yz:M.eG p ⟨rk,rn⟩
    · have HR:Zs (M.iI p=false):=Z3 (by rw[HV.o];exact l6 HX.o Yz);clear Yz;go_wp2_with fail;go_ret;exact⟨af HR.o.symm,jc.o.own zg.o.kp (fun b e=>by omega)⟩
    · have HT:=Z3 Yz;clear Yz;go_wp2_with fail;exact⟨⟨q+1,by omega,by go_num,zg.o,Z3 (all_succ HQ.o HX.o HT.o)⟩,by simp[intOf];omega⟩
  · have HR:Zs (M.iI p=true):=Z3 (by rw[HV.o];exact kD HQ.o Wg);clear hC;go_wp2_with fail;go_ret;exact⟨af HR.o.symm,jc.o.own HC.o.kp (fun b e=>by omega)⟩
end Go.Proofs.YtkmclfpjpajjeaaGreat
