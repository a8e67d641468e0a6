/- Walks. -/
import Derived.Test.YtmcmhalhieejaaaGreatDoorChgTexti
import Derived.Maps.RangeWalk
set_option maxRecDepth 100000
set_option maxHeartbeats 4000000
set_option linter.unusedSimpArgs false
set_option linter.unusedVariables false
namespace Go.Proofs.YtmcmhalhieejaaaGreatDoor
open Go Go.RowKit
theorem ug (w : World) (I : Nat → Prop) (cs : List Value) (c : M.eO) (h : aA w I c cs) (p : M.aP) (many : Int) (LZ : many = p.length) (Py : 0 ≤ many) (JL : many ≤ 1000) :
    Calls Tryz.prog 66 #[.agg cs.toArray,.int .i64 many] w fun e w'=>e=.returned (.bool (M.dJ p c))∧Ext w w':=by
 have MS:=Zy LZ;clear LZ;obtain⟨vf,vm,rfl,h0,h1⟩:=h;obtain⟨a1,m1,rfl,zD,Eo⟩:=h0.form;obtain⟨a2,m2,rfl,F9,Hn⟩:=h1.form;obtain⟨w0,bB,bH,hb⟩:=nu w #[.slice a1 c.owns.length m1,.slice a2 c.asks.length m2] 67;have c2:=hb.c 0 (.slice a1 c.owns.length m1) rfl;have c3:=hb.c 1 (.slice a2 c.asks.length m2) rfl;have cz:=hb.lt;have HF:=Zy h0;have HM:=Zy h1;have aZ:=Zy bH;have bZ:=Zy bB;clear bH hb bB h0 h1;by_cases h5:5<c.owns.length
 · have La:decide ((5:Int)<c.owns.length)=true:=decide_eq_true (by omega);go_enter Tryz.func66,Tryz.ntmps66;go_wp2_with fail;rw[←bZ.o];go_wp2_with fail;go_ret;exact⟨ag (by unfold M.dJ;rw[decide_eq_false (show¬c.owns.length≤5 by omega)];rfl),aZ.o⟩
 have La:decide ((5:Int)<c.owns.length)=false:=decide_eq_false (by omega);by_cases h4:4<c.asks.length
 · have Ei:decide ((4:Int)<c.asks.length)=true:=decide_eq_true (by omega);go_enter Tryz.func66,Tryz.ntmps66;go_wp2_with fail;rw[←bZ.o];go_wp2_with fail;go_ret;exact⟨ag (by unfold M.dJ;rw[decide_eq_false (show¬c.asks.length≤4 by omega)];simp),aZ.o⟩
 have sw:Zz (M.dJ p c=(M.aG M.Class.name M.eY c.owns []&&M.aG M.Ask.name (fun a=>M.aB a.name&&M.has p a.keeper) c.asks [])):=Zy (by unfold M.dJ;rw[decide_eq_true (show c.owns.length≤5 by omega),decide_eq_true (show c.asks.length≤4 by omega)];rfl);have Ei:decide ((4:Int)<c.asks.length)=false:=decide_eq_false (by omega);go_enter Tryz.func66,Tryz.ntmps66;go_wp2_with fail;rw[←bZ.o];go_wp2_with fail;go_loopw [5] (fun i wr=>∃k:Nat,k≤c.owns.length∧i=.int .i64 k∧Ext w0 wr∧Zz (M.aG M.Class.name M.eY (c.owns.take k) []=true)) (fun i _=>c.owns.length - (intOf i).toNat)
 case atStart=>exact⟨0,Nat.zero_le _,rfl,Kp.refl _ _,Zy rfl⟩
 case round =>
  obtain⟨k,hk,rfl,hE,HA⟩:=hrel;have HE:=Zy hE;have d2:=hE.aj c2;have d3:=hE.aj c3;have dz:=ax d2;clear c2 c3 cz La Ei;by_cases dI:k<c.owns.length
  · have dk:(k:Int)<c.owns.length:=by omega
    obtain⟨x,hx⟩:∃x,c.owns[k]?=some x:=⟨c.owns[k]'dI,List.getElem?_eq_getElem dI⟩;obtain⟨b',off,cs,rfl,hI,hM, -,hc⟩:=HF.o.get hx;obtain⟨ma,mu,mb,mv,rfl⟩:=hM.form;have Co:=ai.stays _ _ _ _ _ _ (Ext.same (aZ.o.trans HE.o)) (fun _ h=>h) hM;obtain⟨g0,g1,g2,g3⟩:=(hc.ext (aZ.o.trans hE)).four;have Dc:=Zy ((HF.o.take (i:=k) (by omega)).ext ai.stays (aZ.o.trans hE));have uy:(c.owns.take k).length=k:=by rw[List.length_take];omega
    obtain⟨T,f,fZ,HT⟩:=jS.ex (fun W'=>Ext wr W') wr (Kp.refl _ _);have y0:=fun z=>(HT.aK z).aj g0;have y1:=fun z=>(HT.aK z).aj g1;have y2:=fun z=>(HT.aK z).aj g2;have y3:=fun z=>(HT.aK z).aj g3;have ye:=fun z=>(HT.aK z).aj d2;have ay:=Zy HT;have Ce:=Zy Co;have Iz:=Zy uy;have sD:=Zy (M.iQ (name:=M.Class.name) (ok:=M.eY) hx);have wU:Zz (M.aG M.Class.name M.eY (c.owns.take (k+1)) []=false→M.dJ p c=false):=Zy fun e=>by rw[sw.o,M.jO e];rfl
    clear HT hE hc hx g0 g1 g2 g3 dz uy hM Co;go_wp2_with fail;have lD:Ext wr wr.drew:=(Kp.refl _ _).drew;(refine ji ay 22 [([0,1,2,3,4],5),([6,7,8,9,10,11,12,13,14,15,16,17,18],19)] [20,21] ?_ ?_)
    · exact(Kp.refl _ _).drew
    (refine dR [_,_,_,_,_] rfl rfl fun K hK=>?_);(repeat (go_big_quiet_step (fail)));(refine qn hK fun K2 au=>?_);clear hK K;go_wp2_with fail;refine(tX _ I _ x (ai.stays _ _ _ _ _ _ (Ext.same lD) (fun _ h=>h) Ce.o)).mono ?_;rintro e w2 ⟨rfl,bg⟩;obtain⟨q2,iV⟩:∃q,M.eY x=q:=⟨_,rfl⟩;have o6:=Zy iV;rw[iV];clear iV;have mr:=lD.trans bg;cases q2
    · go_wp2_with fail;(refine kk ay au mr ?_);clear au K2;(refine dR [_,_,_,_,_,_,_,_,_,_,_,_,_] rfl rfl fun K hK=>?_);(repeat (go_big_quiet_step (fail)));(refine qn hK fun K2 au=>?_);clear hK K;go_wp2_with fail;(refine kk ay au mr ?_);clear au K2;(refine fG [_,_] rfl rfl fun K hK=>?_);(repeat (go_big_quiet_step (fail)));(refine qn hK ?_);clear hK K;go_wp2_with fail;go_ret;exact⟨ag (wU.o (by rw[sD.o,o6.o];simp)).symm,(aZ.o.trans HE.o).trans mr⟩
    go_wp2_with fail;(refine kk ay au mr ?_);clear au K2;(refine dR [_,_,_,_,_,_,_,_,_,_,_,_,_] rfl rfl fun K hK=>?_);(repeat (go_big_quiet_step (fail)));(refine qn hK fun K2 au=>?_);clear hK K;go_wp2_with fail;refine(Ai _ I (.slice (some ⟨b',off,none⟩) k m1) (.slice none 0 0) (c.owns.take k) (Dc.o.ext ai.stays mr) x.name).mono ?_;rintro e w3 ⟨⟨n,rfl,hn⟩,dX⟩;have qY:=mr.trans dX;obtain⟨q,hq⟩:∃q,decide (0≤n)=q:=⟨_,rfl⟩;simp only[eX]at hn;rw[hq]at hn;have HN:=Zy hn;clear hn;cases q
    · go_wp2_with fail;(refine kk ay au qY ?_);clear au K2;(refine fG [_,_] rfl rfl fun K hK=>?_);(repeat (go_big_quiet_step (fail)));(refine qn hK ?_);clear hK K;go_wp2_with fail;go_round
      case rel=>exact⟨k+1,by omega,by go_num,HE.o.trans qY,Zy (by rw[sD.o,HA.o,o6.o,←HN.o];rfl)⟩
      case measure=>simp[intOf];omega
    · go_wp2_with fail;(refine kk ay au qY ?_);clear au K2;(refine fG [_,_] rfl rfl fun K hK=>?_);(repeat (go_big_quiet_step (fail)));(refine qn hK ?_);clear hK K;go_wp2_with fail;go_ret;exact⟨ag (wU.o (by rw[sD.o,←HN.o];simp)).symm,(aZ.o.trans HE.o).trans qY⟩
  · have dk : ¬ (k : Int) < c.owns.length := by omega
    obtain⟨wo,rfl⟩:∃wo:World,wo=wr:=⟨_,rfl⟩;have EK:Zz (M.dJ p c=M.aG M.Ask.name (fun a=>M.aB a.name&&M.has p a.keeper) c.asks []):=Zy (by have:=HA.o;rw[List.take_of_length_le (by omega)]at this;rw[sw.o,this];rfl);clear hE HA;go_wp2_with fail;go_loopw [6] (fun i wr=>∃k:Nat,k≤c.asks.length∧i=.int .i64 k∧Ext wo wr∧Zz (M.aG M.Ask.name (fun a=>M.aB a.name&&M.has p a.keeper) (c.asks.take k) []=true)) (fun i _=>c.asks.length - (intOf i).toNat)
    case atStart=>exact⟨0,Nat.zero_le _,rfl,Kp.refl _ _,Zy rfl⟩
    case round =>
     obtain⟨k2,Bo,rfl,dm,HA⟩:=hrel;have bX:=Zy (HE.o.trans dm);have Ju:=Zy dm;have e3:=dm.aj d3;have ez:=ax e3;clear d2 d3 dz;by_cases zC:k2<c.asks.length
     · have dk2:(k2:Int)<c.asks.length:=by omega
       obtain⟨x,hx⟩:∃x,c.asks[k2]?=some x:=⟨c.asks[k2]'zC,List.getElem?_eq_getElem zC⟩;obtain⟨b',off,cs,rfl,hI,rfl, -,hc⟩:=HM.o.get hx;obtain⟨g0,g1⟩:=(hc.ext (aZ.o.trans bX.o)).two;have Dc:=Zy ((HM.o.take (i:=k2) (by omega)).ext eH.stays (aZ.o.trans bX.o));have uy:(c.asks.take k2).length=k2:=by rw[List.length_take];omega
       obtain⟨T,f,fZ,HT⟩:=jS.ex (fun W'=>Ext wr W') wr (Kp.refl _ _);have y0:=fun z=>(HT.aK z).aj g0;have y1:=fun z=>(HT.aK z).aj g1;have ye:=fun z=>(HT.aK z).aj e3;have ay:=Zy HT;have Iz:=Zy uy;have sD:=Zy (M.iQ (name:=M.Ask.name) (ok:=fun a=>M.aB a.name&&M.has p a.keeper) hx);have wU:Zz (M.aG M.Ask.name (fun a=>M.aB a.name&&M.has p a.keeper) (c.asks.take (k2+1)) []=false→M.dJ p c=false):=Zy fun e=>by rw[EK.o,M.jO e]
       clear HT dm hc hx g0 g1 ez uy;go_wp2_with fail;have lD:Ext wr wr.drew:=(Kp.refl _ _).drew;(refine ji ay 35 [([0,1,2,3,4,5],6),([7,8,9,10,11,12,13,14,15,16],17),([18,19,20,21,22,23,24,25,26,27,28,29,30,31],32)] [33,34] ?_ ?_)
       · exact(Kp.refl _ _).drew
       (refine dR [_,_,_,_,_,_] rfl rfl fun K hK=>?_);(repeat (go_big_quiet_step (fail)));(refine qn hK fun K2 au=>?_);clear hK K;go_wp2_with fail;refine(aJ _ _).mono ?_;rintro e w1 ⟨rfl,rfl⟩;obtain⟨q1,q8⟩:∃q,M.aB x.name=q:=⟨_,rfl⟩;have pX:=Zy q8;rw[q8];clear q8;cases q1
       · go_wp2_with fail;(refine kk ay au lD ?_);clear au K2;(refine dR [_,_,_,_,_,_,_,_,_,_] rfl rfl fun K hK=>?_);(repeat (go_big_quiet_step (fail)));(refine qn hK fun K2 au=>?_);clear hK K;go_wp2_with fail;(refine kk ay au lD ?_);clear au K2;(refine dR [_,_,_,_,_,_,_,_,_,_,_,_,_,_] rfl rfl fun K hK=>?_);(repeat (go_big_quiet_step (fail)));(refine qn hK fun K2 au=>?_);clear hK K;go_wp2_with fail;(refine kk ay au lD ?_);clear au K2;(refine fG [_,_] rfl rfl fun K hK=>?_);(repeat (go_big_quiet_step (fail)));(refine qn hK ?_);clear hK K;go_wp2_with fail;go_ret;exact⟨ag (wU.o (by rw[sD.o,pX.o];simp)).symm,(aZ.o.trans bX.o).trans lD⟩
       go_wp2_with fail;(refine kk ay au lD ?_);clear au K2;(refine dR [_,_,_,_,_,_,_,_,_,_] rfl rfl fun K hK=>?_);(repeat (go_big_quiet_step (fail)));(refine qn hK fun K2 au=>?_);clear hK K;go_wp2_with fail;refine(dO _ _ _ _).mono ?_;rintro e w' ⟨rfl,rfl⟩;obtain⟨q2,iV⟩:∃q,(decide ((0:Int)≤x.keeper)&&decide (x.keeper≤many - 1))=q:=⟨_,rfl⟩;have o6:Zz (M.has p x.keeper=q2):=Zy (by
        rw[←iV];unfold M.has;congr 1;exact decide_eq_decide.2 (by have:=MS.o;omega))
       rw[iV];clear iV;cases q2
       · go_wp2_with fail;(refine kk ay au lD ?_);clear au K2;(refine dR [_,_,_,_,_,_,_,_,_,_,_,_,_,_] rfl rfl fun K hK=>?_);(repeat (go_big_quiet_step (fail)));(refine qn hK fun K2 au=>?_);clear hK K;go_wp2_with fail;(refine kk ay au lD ?_);clear au K2;(refine fG [_,_] rfl rfl fun K hK=>?_);(repeat (go_big_quiet_step (fail)));(refine qn hK ?_);clear hK K;go_wp2_with fail;go_ret;exact⟨ag (wU.o (by rw[sD.o,o6.o];simp)).symm,(aZ.o.trans bX.o).trans lD⟩
       go_wp2_with fail;(refine kk ay au lD ?_);clear au K2;(refine dR [_,_,_,_,_,_,_,_,_,_,_,_,_,_] rfl rfl fun K hK=>?_);(repeat (go_big_quiet_step (fail)));(refine qn hK fun K2 au=>?_);clear hK K;go_wp2_with fail;refine(yh _ I (.slice (some ⟨b',off,none⟩) k2 m2) (.slice none 0 0) (c.asks.take k2) (Dc.o.ext eH.stays lD) x.name).mono ?_;rintro e w3 ⟨⟨n,rfl,hn⟩,dX⟩;have qY:=lD.trans dX;obtain⟨q,hq⟩:∃q,decide (0≤n)=q:=⟨_,rfl⟩;have HN:Zz (q=(c.asks.take k2).any fun y=>decide (y.name=x.name)):=Zy (by
        simp only[eX]at hn;rw[←hq];rcases hn with⟨y,hy,he,rfl⟩|⟨he,rfl⟩
        · rw[List.any_eq_true.2 ⟨y,hy,he⟩];have h1:=M.lX HA.o y hy;simp only[Bool.and_eq_true]at h1;exact decide_eq_true (M.Bn.1 h1.2).1
        · rw[he];rfl)
       clear hn;cases q
       · go_wp2_with fail;(refine kk ay au qY ?_);clear au K2;(refine fG [_,_] rfl rfl fun K hK=>?_);(repeat (go_big_quiet_step (fail)));(refine qn hK ?_);clear hK K;go_wp2_with fail;go_round
         case rel=>exact⟨k2+1,by omega,by go_num,Ju.o.trans qY,Zy (by rw[sD.o,HA.o,pX.o,o6.o,←HN.o];rfl)⟩
         case measure=>simp[intOf];omega
       · go_wp2_with fail;(refine kk ay au qY ?_);clear au K2;(refine fG [_,_] rfl rfl fun K hK=>?_);(repeat (go_big_quiet_step (fail)));(refine qn hK ?_);clear hK K;go_wp2_with fail;go_ret;exact⟨ag (wU.o (by rw[sD.o,←HN.o];simp)).symm,(aZ.o.trans bX.o).trans qY⟩
     · have dk2:¬(k2:Int)<c.asks.length:=by omega
       clear dm;go_wp2_with fail;go_ret;exact⟨ag (by have:=HA.o;rw[List.take_of_length_le (by omega)]at this;rw[EK.o,this]),aZ.o.trans bX.o⟩
theorem Ag(w:World)(I:Nat→Prop)(v:Value)(p:M.aP)(h:SliceOf 2 aA w I v p):
    Calls Tryz.prog 47 #[.agg #[v]] w fun e w'=>e=.returned (.bool (M.qw p))∧Ext w w':=by
 obtain⟨a1,m1,rfl,zD,Eo⟩:=h.form;obtain⟨w0,bB,bH,hb⟩:=nu w #[.slice a1 p.length m1] 61;have c2:=hb.c 0 (.slice a1 p.length m1) rfl;have cz:=hb.lt;have HF:=Zy h;have aZ:=Zy bH;have bZ:=Zy bB;clear bH hb bB h;go_enter Tryz.func47,Tryz.ntmps47;go_wp2_with fail;rw[←bZ.o];go_wp2_with fail;refine(dO _ _ _ _).mono ?_;rintro e w' ⟨rfl,rfl⟩;obtain⟨q1,q8⟩:∃q,(decide ((1:Int)≤p.length)&&decide ((p.length:Int)≤3))=q:=⟨_,rfl⟩;have sw:Zz (M.qw p=(q1&&p.all (M.dJ p))):=Zy (by
  unfold M.qw;rw[←q8];congr 2
  · exact decide_eq_decide.2 (by omega)
  · exact decide_eq_decide.2 (by omega))
 rw[q8];cases q1
 · go_wp2_with fail;go_ret;exact⟨ag (by rw[sw.o];rfl),aZ.o⟩
 have wB:(p.length:Int)≤3:=by simp at q8;omega
 clear q8;go_wp2_with fail;go_loopw [3] (fun i wr=>∃k:Nat,k≤p.length∧i=.int .i64 k∧Ext w0 wr∧Zz ((p.take k).all (M.dJ p)=true)) (fun i _=>p.length - (intOf i).toNat)
 case atStart=>exact⟨0,Nat.zero_le _,rfl,Kp.refl _ _,Zy (by simp)⟩
 case round =>
  obtain⟨k,hk,rfl,hE,HA⟩:=hrel;have HE:=Zy hE;have d2:=hE.aj c2;have dz:=ax d2;clear c2 cz;by_cases dI:k<p.length
  · have dk:(k:Int)<p.length:=by omega
    obtain⟨x,hx⟩:∃x,p[k]?=some x:=⟨p[k]'dI,List.getElem?_eq_getElem dI⟩;obtain⟨b',off,cs,rfl,hI,hM, -,hc⟩:=HF.o.get hx;obtain⟨ma,mu,mb,mv,rfl⟩:=hM.form;have Co:=aA.stays _ _ _ _ _ _ (Ext.same (aZ.o.trans HE.o)) (fun _ h=>h) hM;obtain⟨g0,g1⟩:=(hc.ext (aZ.o.trans hE)).two;obtain⟨T,f,fZ,HT⟩:=jS.ex (fun W'=>Ext wr W') wr (Kp.refl _ _);have y0:=fun z=>(HT.aK z).aj g0;have y1:=fun z=>(HT.aK z).aj g1;have ye:=fun z=>(HT.aK z).aj d2;have ay:=Zy HT;have Ce:=Zy Co;have HX:=Zy hx;clear HT hE hc hx g0 g1 dz hM Co;go_wp2_with fail;have lD:Ext wr wr.drew:=(Kp.refl _ _).drew;(refine ji ay 10 [([0,1,2,3,4,5,6,7],8)] [9] ?_ ?_)
    · exact(Kp.refl _ _).drew
    (refine dR [_,_,_,_,_,_,_,_] rfl rfl fun K hK=>?_);(repeat (go_big_quiet_step (fail)));(refine qn hK fun K2 au=>?_);clear hK K;go_wp2_with fail;refine(ug _ I _ x (aA.stays _ _ _ _ _ _ (Ext.same lD) (fun _ h=>h) Ce.o) p p.length rfl (by omega) (by omega)).mono ?_;rintro e w2 ⟨rfl,bg⟩;obtain⟨q2,iV⟩:∃q,M.dJ p x=q:=⟨_,rfl⟩;have o6:=Zy iV;rw[iV];clear iV;have mr:=lD.trans bg;cases q2
    · go_wp2_with fail;(refine kk ay au mr ?_);clear au K2;(refine fG [_] rfl rfl fun K hK=>?_);(repeat (go_big_quiet_step (fail)));(refine qn hK ?_);clear hK K;go_wp2_with fail;go_ret;exact⟨ag (by rw[sw.o,M.mO HX.o o6.o];rfl),(aZ.o.trans HE.o).trans mr⟩
    · go_wp2_with fail;(refine kk ay au mr ?_);clear au K2;(refine fG [_] rfl rfl fun K hK=>?_);(repeat (go_big_quiet_step (fail)));(refine qn hK ?_);clear hK K;go_wp2_with fail;go_round
      case rel=>exact⟨k+1,by omega,by go_num,HE.o.trans mr,Zy (M.nk HX.o o6.o HA.o)⟩
      case measure=>simp[intOf];omega
  · have dk:¬(k:Int)<p.length:=by omega
    clear hE;go_wp2_with fail;go_ret;exact⟨ag (by have:=HA.o;rw[List.take_of_length_le (by omega)]at this;rw[sw.o,this];rfl),aZ.o.trans HE.o⟩
def yO(F:M.aP→Prop)(w w':World)(e:Ending):Prop:=∃p v n,e=.returned (.tuple #[.agg #[v],.int .i64 n])∧SliceOf 2 aA w' (fun b=>w.heap.size≤b∧b<w'.heap.size) v p∧0≤n∧(p=[]∨(M.qw p=true∧F p))
theorem iW{F:M.aP→Prop}{w wc:World}(p:M.aP){v:Value}(hK:Ext w wc)(hs:SliceOf 2 aA wc (fun b=>w.heap.size+1≤b) v p)(n:Int)(hn:0≤n)(uY:p=[]∨(M.qw p=true∧F p))(v0:Value):
    yO F w (wc.setCell ⟨w.heap.size,0,none⟩ v0) (.returned (.tuple #[.agg #[v],.int .i64 n]))∧Ext w (wc.setCell ⟨w.heap.size,0,none⟩ v0):=by
 have hP:Kp (·=w.heap.size) wc (wc.setCell ⟨w.heap.size,0,none⟩ v0):=(Kp.refl (·=w.heap.size) wc).setCell (p:=⟨w.heap.size,0,none⟩) (fun _=>rfl) _;have Oh:=hs.keep (J:=fun b=>w.heap.size+1≤b) aA.stays (hP.same fun b hb e=>by omega) (fun b hb=>hb);have Oi:=Oh.inside (fun _ _ _ _ h=>aA.inside h) (by omega);exact⟨⟨p,v,n,rfl,Oi.keep aA.stays (fun _ _ _ _ h=>h) (fun b hb=>⟨by omega,hb.2⟩),hn,uY⟩,hK.own hP fun b e=>by omega⟩
theorem rP(Q:Nat→M.aP→Prop)(w:World)(I:Nat→Prop)(v:Value)(lines:List ByteArray)(hv:SliceOf 1 aY w I v lines)(gL:∀u∈lines,u.size≤1000000)(Er:Q 0 [])(Hr:∀k p p' x,lines[k]?=some x→Q k p→vS x p p'→Q (k+1) p'):
    Calls Tryz.prog 32 #[v] w fun e w'=>yO (Q lines.length) w w' e∧Ext w w':=by
 obtain⟨a,c,rfl,FN,FP⟩:=hv.form;by_cases hl:400<lines.length
 · have Oc:(400:Int)<lines.length:=by omega
   have FIN:=Zy (fun(n:Int) (hn:0≤n) v0=>iW (F:=Q lines.length) (w:=w) (wc:=w.alloc (.cells #[.slice none 0 0] 61)) [] ((Kp.refl _ _).alloc _) (SliceOf.nil _ _ _ _) n hn (.inl rfl) v0);clear hv;go_enter Tryz.func32,Tryz.ntmps32;go_wp2_with fail;refine bodyPost_ret (ae hY rfl _ _ w.heap.size rfl [.slice none 0 0] (af.bN _ _ rfl) rfl) rfl ?_;exact⟨⟨[],_,_,rfl,SliceOf.nil _ _ _ _,by omega,.inl rfl⟩,(by repeat (first|with_reducible exact Kp.refl _ _|with_reducible assumption|with_reducible refine Kp.alloc ?_ _|with_reducible refine Kp.drew ?_|with_reducible refine Kp.drewN ?_ _|with_reducible refine Kp.setCell ?_ (fun h=>absurd h (by simp<;>omega)) _|with_reducible refine Kp.trans ?_ (by with_reducible assumption)|exact Kp.refl _ _|assumption|refine Kp.alloc ?_ _|refine Kp.drew ?_|refine Kp.drewN ?_ _|(refine Kp.setCell ?_ (fun h=>absurd h (by simp;done)) _)|(refine Kp.setCell ?_ (fun h=>absurd h (by simp;omega)) _)|refine Kp.trans ?_ (by assumption)))⟩
 have Oc:¬(400:Int)<lines.length:=by omega
 obtain⟨w1,lH⟩:∃w1,w1=(w.alloc (.cells #[.slice none 0 0] 61)).alloc (.cells #[.slice none 0 0] 61):=⟨_,rfl⟩;have aQ:Ext w w1:=by rw[lH];exact(by repeat (first|with_reducible exact Kp.refl _ _|with_reducible assumption|with_reducible refine Kp.alloc ?_ _|with_reducible refine Kp.drew ?_|with_reducible refine Kp.drewN ?_ _|with_reducible refine Kp.setCell ?_ (fun h=>absurd h (by simp<;>omega)) _|with_reducible refine Kp.trans ?_ (by with_reducible assumption)|exact Kp.refl _ _|assumption|refine Kp.alloc ?_ _|refine Kp.drew ?_|refine Kp.drewN ?_ _|(refine Kp.setCell ?_ (fun h=>absurd h (by simp;done)) _)|(refine Kp.setCell ?_ (fun h=>absurd h (by simp;omega)) _)|refine Kp.trans ?_ (by assumption)))
 have b2:az w1 w.heap.size 61 #[.slice none 0 0]:=by rw[lH];exact(az.new _ _ _).ext (by repeat (first|with_reducible exact Kp.refl _ _|with_reducible assumption|with_reducible refine Kp.alloc ?_ _|with_reducible refine Kp.drew ?_|with_reducible refine Kp.drewN ?_ _|with_reducible refine Kp.setCell ?_ (fun h=>absurd h (by simp<;>omega)) _|with_reducible refine Kp.trans ?_ (by with_reducible assumption)|exact Kp.refl _ _|assumption|refine Kp.alloc ?_ _|refine Kp.drew ?_|refine Kp.drewN ?_ _|(refine Kp.setCell ?_ (fun h=>absurd h (by simp;done)) _)|(refine Kp.setCell ?_ (fun h=>absurd h (by simp;omega)) _)|refine Kp.trans ?_ (by assumption)))
 have b4:az w1 (w.heap.size+1) 61 #[.slice none 0 0]:=by rw[lH];exact az.lJ _ _ (by simp)
 have yD:w1.heap.size=w.heap.size+2:=by rw[lH];simp
 have Aw:=Zy lH;have kW:=Zy yD;have iK:=Zy b2;have iq:=Zy b4;have bM:=Zy aQ;have HV:=Zy (hv.ext aY.stays aQ);have Ng:=Zy hv;have mq:=Zy gL;have MZ:=Zy Er;have M0:=Zy Hr;clear lH yD b2 b4 aQ hv gL Er Hr;go_enter Tryz.func32,Tryz.ntmps32;go_upto_region 4 with(fail);rw[←Aw.o];go_wp2_with fail;go_loopw [5] (fun i wr=>∃(k:Nat) (p:M.aP) (a6:Option Addr) (n6 m6:Nat),k≤lines.length∧i=.int .i64 k∧az wr (w.heap.size+1) 61 #[.slice a6 n6 m6]∧SliceOf 2 aA wr (fun b=>w.heap.size+2≤b) (.slice a6 n6 m6) p∧gB k p∧Q k p∧Kp (·=w.heap.size+1) w1 wr) (fun i _=>lines.length - (intOf i).toNat)
 case atStart=>exact⟨0,[],_,_,_,Nat.zero_le _,rfl,iq.o,SliceOf.nil _ _ _ _,⟨by simp,by simp⟩,MZ.o,Kp.refl _ _⟩
 case round =>
  obtain⟨k,p,a6,n6,m6,hk,rfl,hb,hs,jh,AO,hK⟩:=hrel;have EY:=Zy AO;clear AO;have HB:=Zy hb;have HS:=Zy hs;have jY:=Zy jh;have HK:=Zy hK;have K3:Zz (w.heap.size+2≤wr.heap.size):=Zy (by have:=hK.size;have:=kW.o;omega);have Ik:Zz (Ext w wr):=Zy (bM.o.own hK fun b e=>by omega);have mg:=Zy (iK.o.kp hK (by omega));by_cases dI:k<lines.length
  · have dk:(k:Int)<lines.length:=by omega
    obtain⟨x,hx⟩:∃x,lines[k]?=some x:=⟨lines[k]'dI,List.getElem?_eq_getElem dI⟩;have J8:=mq.o x (List.mem_of_getElem? hx);have kY:=Zy (fun p'=>M0.o k p p' x hx EY.o);obtain⟨bl,ol,rfl,gl⟩:=aY.at_ Ng.o hx;have K7:=Ik.o.aj gl;obtain⟨T,f,fZ,HT⟩:=jS.ex (fun W'=>Ext wr W') wr (Kp.refl _ _);have y0:=fun z=>(HT.aK z).aj K7;have y1:=fun z=>(hb.ext (HT.aK z)).c 0 (.slice a6 n6 m6) rfl;have ay:=Zy HT;have c1:=mg.o.c 0 (.slice none 0 0) rfl;have Jh:=mg.o.frozen 0;have cz:=mg.o.lt;have c4:=hb.c 0 (.slice a6 n6 m6) rfl;have Nt:=hb.frozen 0;have Ji:=hb.lt;have KI:Zz (SliceOf 2 aA wr (fun b=>w.heap.size+2≤b∧b<wr.heap.size) (.slice a6 n6 m6) p):=Zy (hs.inside (fun _ _ _ _ h=>aA.inside h) (by omega));clear hb hs jh hK HT hx gl K7;go_upto_region 7 with(fail);go_cut [6,7] (fun s6 s7 wx=>∃b6 ok p' a7 n7 m7,s6=.pointer (some ⟨b6,0,none⟩)∧s7=.bool ok∧az wx b6 61 #[.slice a7 n7 m7]∧SliceOf 2 aA wx (fun b=>w.heap.size+2≤b) (.slice a7 n7 m7) p'∧gB (k+1) p'∧(ok=true→Q (k+1) p')∧Ext wr wx)
    case first=>
     (refine kQ ay 11 (.two [0,1,2,3,4] 5 9 (.one [6,7,8] 9 (.one [] 10 (.fin []))) (.one [] 5 (.one [6,7,8] 10 (.fin [])))) ?_ ?_)
     · exact(Kp.refl _ _).drew
     (refine two [_,_,_,_,_] rfl rfl rfl fun K hK=>?_);(repeat (go_big_quiet_step (fail)));((refine AQ hK (fun K2 au=>?_) fun K2 au=>?_)<;>clear hK K)
     · have ed:Ext wr wr.drew:=(Kp.refl _ _).drew;go_wp2_with fail;refine(qE _ _ (fun _ h=>Nat.lt_of_lt_of_le h.2 ed.size) _ p (KI.o.ext aA.stays ed) x J8 k (by omega) jY.o).mono ?_;rintro e w4 ⟨⟨p',v',ok,rfl,yC,xB,Cs⟩,dw⟩;have HG:=Zy (fun h=>kY.o p' (Cs h));clear Cs;obtain⟨a7,m7,rfl, -, -⟩:=yC.form;obtain⟨n7,DV⟩:∃n7,List.length p'=n7:=⟨_,rfl⟩;rw[DV]at yC;simp only[DV];clear DV;have e4:=ed.trans dw;go_wp2_with fail;(refine kk ay au e4 ?_);clear au K2;(refine D9 [_,_,_] rfl rfl fun K hK=>?_);(repeat (go_big_quiet_step (fail)));(refine qn hK fun K2 au=>?_);clear hK K;go_wp2_with fail;obtain⟨w5,dA,bg,b5⟩:=nu w4 #[.slice none 0 0] 61;rw[←dA];have e5:=e4.trans bg;have dh:=Zy e5;have IM:=Zy ((yC.inside (fun _ _ _ _ h=>aA.inside h) (by omega)).ext aA.stays bg);have kZ:=Zy e4.size;have cZ:=Zy b5;have z0:=b5.c 0 (.slice none 0 0) rfl;have zf:=b5.frozen 0;have zz:=b5.lt;clear bg b5 dA yC;(refine kk ay au dh.o ?_);clear au K2;(refine aN rfl fun K2 au=>?_);go_wp2_with fail;have hP:Kp (·=w4.heap.size) w5 (w5.setCell ⟨w4.heap.size,0,none⟩ (.slice a7 n7 m7)):=(Kp.refl (·=w4.heap.size) w5).setCell (p:=⟨w4.heap.size,0,none⟩) (fun _=>rfl) _;have bu:=dh.o.own hP (fun b e=>by have:=kZ.o;omega);(refine kk ay au bu ?_);clear au K2;(refine bL ?_);go_wp2_with fail;go_meet;exact⟨_,_,p',_,_,_,rfl,rfl,cZ.o.bn 0 _,IM.o.keep aA.stays (hP.same fun b hb e=>by have:=hb.2;omega) (fun b hb=>hb.1.elim (fun h=>h.1) (fun h=>by have:=ed.size;have:=K3.o;omega)),xB,HG.o,bu⟩
     · have ed:Ext wr wr.drew:=(Kp.refl _ _).drew;generalize wr.drew=wd at ed ⊢;go_wp2_with fail;obtain⟨w5,dA,bg,b5⟩:=nu wd #[.slice none 0 0] 61;rw[←dA];have kZ:Zz (w5.heap.size=wd.heap.size+1):=Zy (by rw[dA];simp);have e5:=ed.trans bg;clear dA bg;(refine kk ay au e5 ?_);clear au K2;(refine aN rfl fun K2 au=>?_);go_wp2_with fail;refine(qE _ _ (fun _ h=>Nat.lt_of_lt_of_le h.2 e5.size) _ p (KI.o.ext aA.stays e5) x J8 k (by omega) jY.o).mono ?_;rintro e w4 ⟨⟨p',v',ok,rfl,yC,xB,Cs⟩,dw⟩;have HG:=Zy (fun h=>kY.o p' (Cs h));clear Cs;obtain⟨a7,m7,rfl, -, -⟩:=yC.form;obtain⟨n7,DV⟩:∃n7,List.length p'=n7:=⟨_,rfl⟩;rw[DV]at yC;simp only[DV];clear DV;have Fp:=b5.ext dw;have cZ:=Zy Fp;have pq:=Zy (e5.trans dw);have IM:=Zy yC;have Ie:=Zy ed.size;have z0:=Fp.c 0 (.slice none 0 0) rfl;have zf:=Fp.frozen 0;have zz:=Fp.lt;clear b5 Fp yC dw e5;go_wp2_with fail;(refine kk ay au pq.o ?_);clear au K2;(refine D9 [_,_,_] rfl rfl fun K hK=>?_);(repeat (go_big_quiet_step (fail)));(refine qn hK fun K2 au=>?_);clear hK K;go_wp2_with fail;have hP:Kp (·=wd.heap.size) w4 (w4.setCell ⟨wd.heap.size,0,none⟩ (.slice a7 n7 m7)):=(Kp.refl (·=wd.heap.size) w4).setCell (p:=⟨wd.heap.size,0,none⟩) (fun _=>rfl) _;have bu:=pq.o.own hP (fun b e=>by have:=Ie.o;omega);(refine kk ay au bu ?_);clear au K2;(refine bL ?_);go_wp2_with fail;go_meet;exact⟨_,_,p',_,_,_,rfl,rfl,cZ.o.bn 0 _,IM.o.keep aA.stays (hP.same fun b hb e=>hb.elim (fun h=>by have:=Ie.o;omega) (fun h=>by have:=kZ.o;omega)) (fun b hb=>hb.elim (fun h=>h.1) (fun h=>by have:=kZ.o;have:=Ie.o;have:=K3.o;omega)),xB,HG.o,bu⟩
    obtain⟨b6,ok,p',a7,n7,m7,rfl,rfl,aW,yC,xB,Cs,AA⟩:=hcut;have HG:=Zy Cs;clear Cs;have d1:=AA.aj c1;have Nv:=(mg.o.ext AA).frozen 0;have dz:=(mg.o.ext AA).lt;have d4:=AA.aj c4;have Pe:=(HB.o.ext AA).frozen 0;have Nw:=(HB.o.ext AA).lt;have x6:=aW.c 0 (.slice a7 n7 m7) rfl;have Qf:=aW.lt;have H6:=Zy (mg.o.ext AA);have MG:=Zy (HB.o.ext AA);have Nc:=Zy yC;have IP:=Zy xB;have Ko:=Zy AA;have FL:b6≠w.heap.size+1∨b6=w.heap.size+1:=by omega
    clear c1 Jh cz c4 Nt Ji aW yC xB AA ay y0 y1;cases ok
    · have FIN:=Zy (fun(n:Int) (hn:0≤n) v0=>iW (F:=Q lines.length) (w:=w) [] (Ik.o.trans Ko.o) (SliceOf.nil _ _ _ _) n hn (.inl rfl) v0);clear FL;go_wp2_with fail;refine bodyPost_ret (ae hY rfl _ _ w.heap.size rfl [.slice none 0 0] (af.cO (H6.o.bn 0 _)) rfl) rfl ?_;exact FIN.o _ (by omega) _
    · clear FL;go_wp2_with fail;have hP:Kp (·=w.heap.size+1) wc (wc.setCell ⟨w.heap.size+1,0,none⟩ (.slice a7 n7 m7)):=(Kp.refl (·=w.heap.size+1) wc).setCell (p:=⟨w.heap.size+1,0,none⟩) (fun _=>rfl) _;go_round
      case rel=>exact⟨k+1,p',_,_,_,by omega,by go_num,MG.o.bn 0 _,Nc.o.keep aA.stays (hP.same fun b hb e=>by omega) (fun _ h=>h),IP.o,HG.o rfl,(HK.o.trans Ko.o.any).trans hP⟩
      case measure=>simp[intOf];omega
  · have dk:¬(k:Int)<lines.length:=by omega
    have uy:k=lines.length:=by omega
    have KO:=EY;rw[uy]at KO;clear uy;have c1:=mg.o.c 0 (.slice none 0 0) rfl;have Jh:=mg.o.frozen 0;have cz:=mg.o.lt;have c4:=hb.c 0 (.slice a6 n6 m6) rfl;have Ji:=hb.lt;clear hb hs jh hK;obtain⟨p6,Og⟩:∃p6:Nat,p6=n6:=⟨_,rfl⟩;go_wp2_with fail;refine(Ag _ _ _ p HS.o).mono ?_;rintro e w4 ⟨rfl,dw⟩;obtain⟨ok,uY⟩:∃ok,M.qw p=ok:=⟨_,rfl⟩;have yI:=Zy uY;rw[uY];clear uY;have d1:=dw.aj c1;have Nv:=(mg.o.ext dw).frozen 0;have dz:=(mg.o.ext dw).lt;have d4:=dw.aj c4;have Nw:=(HB.o.ext dw).lt;have EB:=Zy (mg.o.ext dw);have pq:=Zy (Ik.o.trans dw);have M8:=Zy ((HS.o.ext aA.stays dw).keep (J:=fun b=>w.heap.size+1≤b) aA.stays (fun _ _ _ _ h=>h) (fun b hb=>by omega));clear dw c1 Jh cz c4 Ji Og;cases ok
    · have FIN:=Zy (fun(n:Int) (hn:0≤n) v0=>iW (F:=Q lines.length) (w:=w) [] pq.o (SliceOf.nil _ _ _ _) n hn (.inl rfl) v0);go_wp2_with fail;refine bodyPost_ret (ae hY rfl _ _ w.heap.size rfl [.slice none 0 0] (af.cO (EB.o.bn 0 _)) rfl) rfl ?_;exact FIN.o _ (by omega) _
    · have FIN:=Zy (fun(n:Int) (hn:0≤n) v0=>iW (F:=Q lines.length) (w:=w) p pq.o M8.o n hn (.inr ⟨yI.o,KO.o⟩) v0);go_wp2_with fail;refine bodyPost_ret (ae hY rfl _ _ w.heap.size rfl [.slice a6 n6 m6] (af.cO (EB.o.bn 0 _)) rfl) rfl ?_;exact FIN.o _ (by omega) _
end Go.Proofs.YtmcmhalhieejaaaGreatDoor
namespace Go.Proofs.YtmcmhalhieejaaaGreatDoor
open Go Go.RowKit
def hG(D:Nat→Bool)(j:Nat):Nat→Bool:=fun i=>if i=j then true else D i
def Fq(md:Region.Mode)(ops:Array Oper)(j k:Nat):Bool:=match ops[j]? with
 |some o=>o.after.any fun e=>Region.binds md e&&decide (e.on=k)
 |none=>false
def qj(ops:Array Oper)(n:Nat)(ds:List (List Nat)):Bool:=
 l9 .any ops n&&decide (n≤ops.size)&&((List.range n).all fun j=>((ops[j]?).map (fun o=>o.after.all fun e=> !Region.binds .any e || decide (e.on<j))).getD false&&(ds.getD j []).all fun k=>Fq .any ops j k)&&
 Region.seqB .any ops (ops.size - n) n (Array.replicate n true++Array.replicate (ops.size - n) false)
theorem Ak{n:Nat}{D:Nat→Bool}{j:Nat}(hj:j<n)(h:D j=false):((List.range n).filter fun i=> !D i).length=((List.range n).filter fun i=> !hG D j i).length+1:=by
 have key:∀l:List Nat,l.Nodup→(if j∈l then(l.filter fun i=> !D i).length=(l.filter fun i=> !hG D j i).length+1 else(l.filter fun i=> !D i).length=(l.filter fun i=> !hG D j i).length):=by
  intro l hn;induction l with
  |nil=>simp
  |cons x l ih=>
   have JO:=List.nodup_cons.1 hn;have ih:=ih JO.2;by_cases hx:x=j
   · subst hx;rw[if_neg JO.1]at ih;simp[hG,h];simpa [hG]using ih
   · have e1:hG D j x=D x:=if_neg hx;have e2:(j∈x::l)=(j∈l):=by simp[Ne.symm hx]
     simp only[List.filter_cons,e1,e2];cases hd:D x<;>split at ih<;>rename_i hm<;>simp[hm,hd,ih]
 have:=key (List.range n) List.nodup_range;rwa[if_pos (List.mem_range.2 hj)]at this
section
variable {P:Program} {Q:Exit→Act→World→Prop} {n:Nat}
theorem xN{l:List Oper}(ds:List (List Nat))(J:(Nat→Bool)→Act→World→Prop)(hB:qj l.toArray n ds=true)
    (step:∀D a w j,j<n→D j=false→(∀k∈ds.getD j [],D k=true)→J D a w→wpList P l.toArray (Exit.then (J (hG D j)) Q) (l[j]?).toList a w)
    (fin:∀D a w,(∀i,i<n→D i=true)→J D a w→wpList P l.toArray Q (l.drop n) a w):
    ∀(m:Nat) (L:Array Bool) (a:Act) (w:World),L.size=l.length→(∀i,n≤i→i<l.length→L[i]?=some false)→((List.range n).filter fun i=> !L.getD i false).length=m→J (fun i=>L.getD i false) a w→
     gZ P .any l.toArray n (fun _=>True) Q ((l.length - n)+m) L a w:=by
 unfold qj at hB;simp only[Bool.and_eq_true,decide_eq_true_eq,List.all_eq_true,List.mem_range]at hB;obtain⟨⟨⟨ht,hn⟩,hd⟩,hs⟩:=hB;have JO:n≤l.length:=by simpa using hn
 intro m;induction m with
 | zero =>
  intro L a w hL hF hm hJ;have gF:∀i,i<n→L.getD i false=true:=fun i hi=>by
   have h0:=List.length_eq_zero_iff.1 hm;cases hd:L.getD i false with
   |true=>rfl
   |false=>
    have:i∈(List.range n).filter fun i=> !L.getD i false:=List.mem_filter.2 ⟨List.mem_range.2 hi,by rw[hd];rfl⟩;rw[h0]at this;cases this
  have NL:L=Array.replicate n true++Array.replicate (l.toArray.size - n) false:=by
   apply Array.ext
   · simp[hL];omega
   · intro i h1 h2;by_cases hi:i<n
     · rw[Array.getElem_append_left (by simpa using hi)];have:=gF i hi;simp[h1]at this;simpa using this
     · rw[Array.getElem_append_right (by simpa using Nat.le_of_not_lt hi)];have:=hF i (by omega) (by omega);rw[Array.getElem?_eq_getElem h1]at this;simpa using this
  have:=iX (P:=P) (Q:=Q) (md:=.any) (C:=fun _=>True) (l:=l) (l.drop n) n L a w (Nat.le_refl _) (fun j=>by simp[List.getElem?_drop]) (by rw[NL];simpa using hs) (fin _ _ _ gF hJ);simpa using this
 | succ m ih =>
  intro L a w hL hF hm hJ;have hex:∃i,i<n∧L.getD i false=false:=by
   cases hf:(List.range n).filter fun i=> !L.getD i false with
   |nil=>rw[hf]at hm;cases hm
   |cons i r=>
    have:i∈(List.range n).filter fun i=> !L.getD i false:=by rw[hf];simp
    obtain⟨h1,h2⟩:=List.mem_filter.1 this;exact⟨i,List.mem_range.1 h1,by simpa using h2⟩
  have JM : ∃ i, i < n ∧ L.getD i false = false ∧ ∀ k, k < i → L.getD k false = true := by
   obtain⟨i0,h1,h2⟩:=hex;induction i0 using Nat.strongRecOn with
   |ind i0 Ox=>
    by_cases h:∃k,k<i0∧L.getD k false=false
    · obtain⟨k,jc,Bo⟩:=h;exact Ox k jc (by omega) Bo
    · exact⟨i0,h1,h2,fun k hk=>by
       cases hc:L.getD k false with
       |true=>rfl
       |false=>exact absurd ⟨k,hk,hc⟩ h⟩
  obtain⟨i,hi,LP,uW⟩:=JM;have Fu:∀k,k<l.length→L.getD k true=L.getD k false:=fun k hk=>by
   have FY:k<L.size:=by omega
   simp[FY]
  have zG:i∈Region.ready .any l.toArray L:=by
   refine mem_ready.2 ⟨by rw[Fu i (by omega)];exact LP,?_⟩;have h1:=(hd i hi).1;cases uX:l.toArray[i]? with
   |none=>rw[uX]at h1;cases h1
   |some o=>
    rw[uX]at h1;simp only[Option.map_some,Option.getD_some,Array.all_eq_true_iff_forall_mem,Bool.or_eq_true,Bool.not_eq_true',decide_eq_true_eq]at h1;refine⟨o,rfl,fun e he hb=>uW _ ((h1 e he).resolve_left (by rw[hb];simp))⟩
  refine⟨fun h=>(by rw[h]at zG;cases zG),fun j hj=>?_⟩;obtain⟨DN,oj,AL,gF⟩:=mem_ready.1 hj;have Hm:j<l.length:=by
   rcases Nat.lt_or_ge j l.length with h|h
   · exact h
   · simp[h]at AL
  have DR:j<n:=by
   rcases Nat.lt_or_ge j n with h|h
   · exact h
   · rcases qJ ht hi j h with hw|hw
     · obtain⟨oj',zF,e,he,hb,heq⟩:=Region.waitsFor_spec hw;rw[AL]at zF;cases zF;have:=gF e he hb;rw[heq,LP]at this;cases this
     · rw[AL]at hw;cases hw
  have LV:L.getD j false=false:=by rw[←Fu j Hm];exact DN
  have q9:=step (fun i=>L.getD i false) a w j DR LV (fun k hk=>by
   have h1:=(hd j DR).2 k hk;unfold Fq at h1;rw[AL]at h1;obtain⟨q,hq,h2⟩:=Array.any_eq_true.1 h1;simp only[Bool.and_eq_true,decide_eq_true_eq]at h2;obtain⟨hb,heq⟩:=h2;have he:oj.after[q]∈oj.after:=Array.getElem_mem hq;rw[←heq];exact gF _ he hb) hJ
  refine jQ hj q9 fun a'' w' h3=>⟨fun _=>trivial,?_⟩;have Gj:(fun i=>(L.setIfInBounds j true).getD i false)=hG (fun i=>L.getD i false) j:=by
   funext k;unfold hG;by_cases hk:k=j
   · subst hk;have:k<L.size:=by omega
     simp[this]
   · rw[if_neg hk,getD_set_ne false (Ne.symm hk)]
  refine ih (L.setIfInBounds j true) a'' w' (by simpa using hL) (fun i h1 h2=>by
   rw[Array.getElem?_setIfInBounds_ne (by omega)];exact hF i h1 h2) ?_ (by rw[Gj];exact h3)
  have hc:=Ak (D:=fun i=>L.getD i false) DR LV;rw[hm]at hc;have e2:(List.filter (fun i=> !(L.setIfInBounds j true).getD i false) (List.range n))=(List.filter (fun i=> !hG (fun i=>L.getD i false) j i) (List.range n)):=by
   apply List.filter_congr;intro x _;rw[←Gj]
  rw[e2];omega
end
theorem Gv{P:Program}{id:Nat}{Q:Exit→Act→World→Prop}{a:Act}{w:World}{l:List Oper}(n:Nat)(ds:List (List Nat))(J:Act→(Nat→Bool)→Act→World→Prop)
    (h0:J a (fun _=>false) a w.drew)
    (step:∀D a' w' j,j<n→D j=false→(∀k∈ds.getD j [],D k=true)→J a D a' w'→wpList P l.toArray (Exit.then (J a (hG D j)) Q) (l[j]?).toList a' w')
    (fin:∀D a' w',(∀i,i<n→D i=true)→J a D a' w'→wpList P l.toArray Q (l.drop n) a' w')
    (hm:P.follows .mixedOrders=true:=by kernel_rfl) (hB:qj l.toArray n ds=true:=by kernel_rfl):(Code.region id l.toArray true).wp P Q a w:=by
 refine wp_region_any hm (ja (C:=fun _=>True) (n:=n) _ _ _ _ ?_);have hn:n≤l.length:=by
  unfold qj at hB;simp only[Bool.and_eq_true,decide_eq_true_eq]at hB;simpa using hB.1.1.2
 have hc:((List.range n).filter fun i=> !(Array.replicate l.length false).getD i false).length=n:=by
  have:(List.range n).filter (fun i=> !(Array.replicate l.length false).getD i false)=List.range n:=by
   apply List.filter_eq_self.2;intro x hx;have:x<l.length:=by have:=List.mem_range.1 hx;omega
   simp[this]
  rw[this,List.length_range]
 have hz:(fun i=>(Array.replicate l.length false).getD i false)=fun _=>false:=by
  funext k;by_cases hk:k<l.length<;>simp[hk]
 have:=xN (P:=P) (Q:=Q) ds (J a) hB step fin n (Array.replicate l.length false) a w.drew (by simp) (fun i h1 h2=>by simp[h2]) hc (by rw[hz];exact h0);have e:l.length - n+n=l.toArray.size:=by simp;omega
 rw[e]at this;simpa using this
def upd(s:Nat→Value)(j:Nat)(x:Value):Nat→Value:=fun i=>if i=j then x else s i
structure yQ(SP:Nat→World→Value→Prop)(WP:(Nat→Bool)→World→Prop)(D:Nat→Bool)(j:Nat)(W W':World)(x:Value):Prop where
 old:∀k y,SP k W y→SP k W' y
 Qe:WP (hG D j) W'
 new:SP j W' x
theorem D7{P:Program}{id:Nat}{Q:Exit→Act→World→Prop}{a:Act}{w:World}{l:List Oper}(n:Nat)(ds:List (List Nat))(F:(Nat→Value)→Act)(SP:Nat→World→Value→Prop)(WP:(Nat→Bool)→World→Prop)
    (ha:F (fun _=>undef)=a) (h0:WP (fun _=>false) w.drew)
    (step:∀D s W j,j<n→D j=false→WP D W→(∀k∈ds.getD j [],SP k W (s k))→∀K:Act→World→Prop,(∀x W',yQ SP WP D j W W' x→K (F (upd s j x)) W')→wpList P l.toArray (Exit.then K Q) (l[j]?).toList (F s) W)
    (fin:∀D s W,(∀i,i<n→D i=true)→WP D W→(∀i,i<n→SP i W (s i))→wpList P l.toArray Q (l.drop n) (F s) W)
    (hm:P.follows .mixedOrders=true:=by kernel_rfl) (hB:qj l.toArray n ds=true:=by kernel_rfl):(Code.region id l.toArray true).wp P Q a w:=by
 subst ha;refine Gv n ds (fun _ D a w=>∃s,a=F s∧WP D w∧∀i,D i=true→SP i w (s i)) ⟨_,rfl,h0,fun _ h=>by cases h⟩ ?_ ?_ hm hB
 · rintro D _ W j hj hD hk ⟨s,rfl,hW,hs⟩;refine step D s W j hj hD hW (fun k FY=>hs k (hk k FY)) _ fun x W' ⟨h1,h2,h3⟩=>⟨_,rfl,h2,fun i hi=>?_⟩;unfold upd;split
   · rename_i e;subst e;exact h3
   · rename_i e;unfold hG at hi;rw[if_neg e]at hi;exact h1 _ _ (hs i hi)
 · rintro D _ W gF ⟨s,rfl,hW,hs⟩;exact fin D s W gF hW fun i hi=>hs i (gF i hi)
theorem js{P:Program}{l:List Oper}{Q:Exit→Act→World→Prop}{j:Nat}{o:Oper}{a:Act}{w:World}(h:wpList P l.toArray Q [o] a w)(ho:(l[j]?).toList=[o]:=by rfl):wpList P l.toArray Q (l[j]?).toList a w:=by rw[ho];exact h
def fD:List Nat→Nat→(Nat→Value)→Array Value→Array Value
 |[],_,_,t=>t
 |d::r,j,s,t=>fD r (j+1) s (t.setIfInBounds d (s j))
theorem oh(t:Array Value)(g:Nat→Value):∀(l:List Nat) (j:Nat),(∀i d,l[i]?=some d→g (j+i)=t.getD d undef)→fD l j g t=t
 |[],_,_=>rfl
 | d :: r, j, h => by
  have h0:g j=t.getD d undef:=h 0 d rfl;have hs:t.setIfInBounds d (g j)=t:=by
   rw[h0];apply Array.ext
   · simp
   · intro k h1 h2;by_cases e:d=k
     · subst e;simp[h2]
     · rw[Array.getElem_setIfInBounds_ne (by simpa using h1) e]
  rw[fD,hs];exact oh t g r (j+1) fun i e he=>by
   have:=h (i+1) e (by simpa using he);rwa[Nat.add_assoc,Nat.add_comm 1 i]
theorem BI{P:Program}{id:Nat}{Q:Exit→Act→World→Prop}{t:Array Value}{df:List Deferred}{w:World}{l:List Oper}(n:Nat)(ds:List (List Nat))(dl:List Nat)(SP:Nat→World→Value→Prop)(WP:(Nat→Bool)→World→Prop)
    (h0:WP (fun _=>false) w.drew)
    (step:∀D s W j,j<n→D j=false→WP D W→(∀k∈ds.getD j [],SP k W (s k))→∀K:Act→World→Prop,(∀x W',yQ SP WP D j W W' x→K ⟨fD dl 0 (upd s j x) t,df⟩ W')→wpList P l.toArray (Exit.then K Q) (l[j]?).toList ⟨fD dl 0 s t,df⟩ W)
    (fin:∀D s W,(∀i,i<n→D i=true)→WP D W→(∀i,i<n→SP i W (s i))→wpList P l.toArray Q (l.drop n) ⟨fD dl 0 s t,df⟩ W)
    (hm:P.follows .mixedOrders=true:=by kernel_rfl) (hB:qj l.toArray n ds=true:=by kernel_rfl):(Code.region id l.toArray true).wp P Q ⟨t,df⟩ w:=by
 have ha:fD dl 0 (fun i=>t.getD (dl.getD i 0) undef) t=t:=oh t _ dl 0 fun i d h=>by simp[h]
 have e:(⟨t,df⟩:Act)=⟨fD dl 0 (fun i=>t.getD (dl.getD i 0) undef) t,df⟩:=by rw[ha]
 rw[e];refine Gv n ds (fun _ D a w=>∃s,a=⟨fD dl 0 s t,df⟩∧WP D w∧∀i,D i=true→SP i w (s i)) ⟨_,rfl,h0,fun _ h=>by cases h⟩ ?_ ?_ hm hB
 · rintro D _ W j hj hD hk ⟨s,rfl,hW,hs⟩;refine step D s W j hj hD hW (fun k FY=>hs k (hk k FY)) _ fun x W' ⟨h1,h2,h3⟩=>⟨_,rfl,h2,fun i hi=>?_⟩;unfold upd;split
   · rename_i e;subst e;exact h3
   · rename_i e;unfold hG at hi;rw[if_neg e]at hi;exact h1 _ _ (hs i hi)
 · rintro D _ W gF ⟨s,rfl,hW,hs⟩;exact fin D s W gF hW fun i hi=>hs i (gF i hi)
end Go.Proofs.YtmcmhalhieejaaaGreatDoor
namespace Go.Proofs.YtmcmhalhieejaaaGreatDoor
open Go Go.RowKit
theorem gy.turn{w w':World}{rb p b:Nat}{v:Value}{zs:List Int}(h:gy w rb v zs p)(hk:Kp (·=b) w w')(hn:rb≠b)(hv:zs.length≠0→∀ad l c,v=.slice (some ad) l c→ad.block≠b):gy w' rb v zs p:=
 ⟨h.blk.kp hk hn,h.Eh.kp hk fun h0 a n c e=>hv h0 a n c e,h.own,h.len⟩
theorem gy.below{w:World}{rb p:Nat}{v:Value}{zs:List Int}(h:gy w rb v zs p):rb<w.heap.size∧(zs.length≠0→∀ad l c,v=.slice (some ad) l c→ad.block<w.heap.size):=by
 refine⟨h.blk.lt,fun h0 ad l c e=>?_⟩;rcases h.Eh with⟨-,h1⟩|⟨a',cap,e1,bK,hc,hb⟩
 · rw[h1]at h0;simp at h0
 · rw[e1]at e;cases e;have:=jN (hc 0 (by omega));rwa[add_block]at this
end Go.Proofs.YtmcmhalhieejaaaGreatDoor
