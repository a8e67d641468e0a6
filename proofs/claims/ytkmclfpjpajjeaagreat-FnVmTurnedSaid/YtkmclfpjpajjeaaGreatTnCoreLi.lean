/- Walks. -/
import Derived.Test.YtkmclfpjpajjeaaGreatTnCoreLh
import Derived.Maps.Own
set_option maxRecDepth 100000
set_option maxHeartbeats 4000000
set_option linter.unusedSimpArgs false
set_option linter.unusedVariables false
namespace Go.Proofs.YtkmclfpjpajjeaaGreat
open Go Go.RowKit
theorem Wj(w:World)(I:Nat→Prop)(cs:List Value)(c:M.Class)(h:aP w I c cs):
    Calls Tryz.prog 73 #[.agg cs.toArray] w fun e w'=>e=.returned (.bool (M.jF c))∧Ext w w':=by
 obtain⟨vf,vm,rfl,h0,h1⟩:=h;obtain⟨a1,m1,rfl,mR,Bo⟩:=h0.form;obtain⟨a2,m2,rfl,yD,Hw⟩:=h1.form;obtain⟨w0,bI,aU,hb⟩:=nu w #[.string c.name,.string c.aL,.slice a1 c.fields.length m1,.slice a2 c.methods.length m2] 75;obtain⟨cz,c0,c1,c2,c3, -⟩:=hb.ca;have⟨HF,HM,bM,dO⟩:=gD h0 h1 aU bI;clear aU hb bI h0 h1;go_enter Tryz.func73,Tryz.ntmps73;go_upto_region 1 with(fail);rw[←dO.o];go_cut [31] (fun s31 wx=>s31=.bool (!(M.aT c.name&&(decide (c.aL=M.none_)|| M.aT c.aL)&&decide (c.fields.length≤3)&&decide (c.methods.length≤4)))∧wx=w0)
 case first=>
  obtain⟨qn,hqn⟩:∃q,M.aT c.name=q:=⟨_,rfl⟩;obtain⟨qs,hqs⟩:∃q,(c.aL.toList==[])=q:=⟨_,rfl⟩;obtain⟨qp,hqp⟩:∃q,M.aT c.aL=q:=⟨_,rfl⟩;obtain⟨qf,hqf⟩:∃q,decide (c.fields.length≤3)=q:=⟨_,rfl⟩;obtain⟨qm,hqm⟩:∃q,decide (c.methods.length≤4)=q:=⟨_,rfl⟩;have Ld:Zs ((!(M.aT c.name&&(decide (c.aL=M.none_)|| M.aT c.aL)&&decide (c.fields.length≤3)&&decide (c.methods.length≤4)))= !(qn&&(qs || qp)&&qf&&qm)):=Z3 (by rw[hqn,kT,hqs,hqp,hqf,hqm]);have HN:=fun W=>Z3 (di c.name W);have HP:=fun W=>Z3 (di c.aL W);have⟨HQF,HQM⟩:=aJ hqf hqm;simp only[hqn]at HN;simp only[hqp]at HP;clear hqn hqp hqf hqm;cases qn
  · go_wp2_with fail;refine(HN _).o.mono ?_;rintro e w' ⟨rfl,rfl⟩;go_wp2_with fail;go_meet;exact⟨by rw[Ld.o];rfl,rfl⟩
  cases qs
  · cases qp
    · go_wp2_with fail;refine(HN _).o.mono ?_;rintro e w' ⟨rfl,rfl⟩;go_wp2_with fail;refine(HP _).o.mono ?_;rintro e w' ⟨rfl,rfl⟩;go_wp2_with fail;go_meet;exact⟨by rw[Ld.o];rfl,rfl⟩
    cases qf
    · have h3d:decide ((3:Int)<c.fields.length)=true:=decide_eq_true (by have:=of_decide_eq_false HQF.o;omega);go_wp2_with fail;refine(HN _).o.mono ?_;rintro e w' ⟨rfl,rfl⟩;go_wp2_with fail;refine(HP _).o.mono ?_;rintro e w' ⟨rfl,rfl⟩;go_wp2_with fail;go_meet;exact⟨by rw[Ld.o];rfl,rfl⟩
    have h3d:decide ((3:Int)<c.fields.length)=false:=decide_eq_false (by have:=of_decide_eq_true HQF.o;omega);cases qm
    · have h4d:decide ((4:Int)<c.methods.length)=true:=decide_eq_true (by have:=of_decide_eq_false HQM.o;omega);go_wp2_with fail;refine(HN _).o.mono ?_;rintro e w' ⟨rfl,rfl⟩;go_wp2_with fail;refine(HP _).o.mono ?_;rintro e w' ⟨rfl,rfl⟩;go_wp2_with fail;go_meet;exact⟨by rw[Ld.o];rfl,rfl⟩
    have h4d:decide ((4:Int)<c.methods.length)=false:=decide_eq_false (by have:=of_decide_eq_true HQM.o;omega);go_wp2_with fail;refine(HN _).o.mono ?_;rintro e w' ⟨rfl,rfl⟩;go_wp2_with fail;refine(HP _).o.mono ?_;rintro e w' ⟨rfl,rfl⟩;go_wp2_with fail;go_meet;exact⟨by rw[Ld.o];rfl,rfl⟩
  · clear HP;cases qf
    · have h3d:decide ((3:Int)<c.fields.length)=true:=decide_eq_true (by have:=of_decide_eq_false HQF.o;omega);go_wp2_with fail;refine(HN _).o.mono ?_;rintro e w' ⟨rfl,rfl⟩;go_wp2_with fail;go_meet;exact⟨by rw[Ld.o];rfl,rfl⟩
    have h3d:decide ((3:Int)<c.fields.length)=false:=decide_eq_false (by have:=of_decide_eq_true HQF.o;omega);cases qm
    · have h4d:decide ((4:Int)<c.methods.length)=true:=decide_eq_true (by have:=of_decide_eq_false HQM.o;omega);go_wp2_with fail;refine(HN _).o.mono ?_;rintro e w' ⟨rfl,rfl⟩;go_wp2_with fail;go_meet;exact⟨by rw[Ld.o];rfl,rfl⟩
    have h4d:decide ((4:Int)<c.methods.length)=false:=decide_eq_false (by have:=of_decide_eq_true HQM.o;omega);go_wp2_with fail;refine(HN _).o.mono ?_;rintro e w' ⟨rfl,rfl⟩;go_wp2_with fail;go_meet;exact⟨by rw[Ld.o];rfl,rfl⟩
 obtain⟨rfl,kG⟩:=hcut;rw[kG];clear kG;obtain⟨b,hb⟩:∃b,(M.aT c.name&&(decide (c.aL=M.none_)|| M.aT c.aL)&&decide (c.fields.length≤3)&&decide (c.methods.length≤4))=b:=⟨_,rfl⟩;have KV:Zs (M.jF c=(b&&M.aZ M.Field.name (fun f=>M.aT f.name&&M.fe f.kind) c.fields []&&M.aZ M.Method.name M.jA c.methods [])):=Z3 (by unfold M.jF;rw[hb]);rw[hb];clear hb;cases b
 · simp only[Bool.not_false];go_wp2_with fail;go_ret;exact⟨af (by rw[KV.o];rfl),bM.o⟩
 simp only[Bool.not_true];go_wp2_with fail;go_loopw [3] (fun i wr=>∃k:Nat,k≤c.fields.length∧i=.int .i64 k∧Ext w0 wr∧Zs (M.aZ M.Field.name (fun f=>M.aT f.name&&M.fe f.kind) (c.fields.take k) []=true)) (fun i _=>c.fields.length - (intOf i).toNat)
 case atStart=>exact⟨0,Nat.zero_le _,rfl,Kp.rr,Z3 rfl⟩
 case round =>
  obtain⟨k,hk,rfl,hE,HA⟩:=hrel;have HE:=Z3 hE;have d2:=hE.aD c2;have d3:=hE.aD c3;have dz:=aF d2;clear c0 c1 c2 c3 cz;by_cases bY:k<c.fields.length
  · have dk:(k:Int)<c.fields.length:=by omega
    obtain⟨x,hx⟩:∃x,c.fields[k]?=some x:=⟨c.fields[k]'bY,List.getElem?_eq_getElem bY⟩;obtain⟨b',off,cs,rfl,hI,rfl, -,hc⟩:=HF.o.get hx;obtain⟨g0,g1,g2⟩:=(hc.ext (bM.o.trans hE)).three;have HTK:=Z3 ((HF.o.take (i:=k) Wg).ext eF.stays (bM.o.trans hE));have Bn:(c.fields.take k).length=k:=by rw[List.length_take];omega
    obtain⟨T,f,dA,HT⟩:=iN.ex (fun W'=>Ext wr W') wr Kp.rr;have y0:=fun z=>(HT.aW z).aD g0;have y1:=fun z=>(HT.aW z).aD g1;have y2:=fun z=>(HT.aW z).aD g2;have y3:=fun z=>(HT.aW z).aD d2;have⟨aj,HKL,EE⟩:=bg HT Bn (M.uA (name:=M.Field.name) (ok:=fun f=>M.aT f.name&&M.fe f.kind) hx);have QM:Zs (M.aZ M.Field.name (fun f=>M.aT f.name&&M.fe f.kind) (c.fields.take (k+1)) []=false→M.jF c=false):=Z3 fun e=>by rw[KV.o,M.xS e];rfl
    clear HT hE hc hx g0 g1 g2 dz Bn;have hD1:Ext wr wr.drew:=Kp.rr.drew;go_wp2_with fail;(refine eO aj 32 [([0,1,2,3,4,5],6),([7,8,9,10,11,12,13,14],15),([16,17,18,19,20,21,22,23,24,25,26,27,28],29)] [30,31] ?_ ?_)
    · exact Kp.rr.drew
    refine iX ?_;intro K2 ag;go_wp2_with fail;refine(di _ _).mono ?_;rintro e w1 ⟨rfl,rfl⟩;obtain⟨q1,Bq⟩:∃q,M.aT x.name=q:=⟨_,rfl⟩;have GR:=Z3 Bq;rw[Bq];clear Bq;cases q1
    · go_wp2_with fail;(refine kk aj ag hD1 ?_);clear ag K2;refine iX ?_;intro K2 ag;go_wp2_with fail;(refine kk aj ag hD1 ?_);clear ag K2;refine iX ?_;intro K2 ag;go_wp2_with fail;(refine kk aj ag hD1 ?_);clear ag K2;refine qa ?_;go_wp2_with fail;go_ret;exact⟨af (QM.o (by rw[EE.o,GR.o];simp)).symm,(bM.o.trans HE.o).trans hD1⟩
    go_wp2_with fail;(refine kk aj ag hD1 ?_);clear ag K2;refine iX ?_;intro K2 ag;go_wp2_with fail;refine(Ct x.kind.kind x.kind.name _).mono ?_;rintro e w2 ⟨rfl,bZ⟩;obtain⟨q2,pY⟩:∃q,M.fe ⟨x.kind.kind,x.kind.name⟩=q:=⟨_,rfl⟩;have Ed:Zs (M.fe x.kind=q2):=Z3 pY;rw[pY];clear pY;have hD2:=hD1.trans bZ;cases q2
    · go_wp2_with fail;(refine kk aj ag hD2 ?_);clear ag K2;refine iX ?_;intro K2 ag;go_wp2_with fail;(refine kk aj ag hD2 ?_);clear ag K2;refine qa ?_;go_wp2_with fail;go_ret;exact⟨af (QM.o (by rw[EE.o,Ed.o];simp)).symm,(bM.o.trans HE.o).trans hD2⟩
    go_wp2_with fail;(refine kk aj ag hD2 ?_);clear ag K2;refine iX ?_;intro K2 ag;go_wp2_with fail;refine(Pv _ I (.slice (some ⟨b',off,none⟩) k m1) (c.fields.take k) (HTK.o.ext eF.stays hD2) x.name).mono ?_;rintro e w3 ⟨⟨n,rfl,hn⟩,dK⟩;have JC:=hD2.trans dK;obtain⟨q,hq⟩:∃q,decide (0≤n)=q:=⟨_,rfl⟩;simp only[iV]at hn;rw[hq]at hn;have HN:=Z3 hn;clear hn;cases q
    · go_wp2_with fail;(refine kk aj ag JC ?_);clear ag K2;refine qa ?_;go_wp2_with fail;go_round
      case rel=>exact⟨k+1,by omega,by go_num,HE.o.trans JC,Z3 (by rw[EE.o,HA.o,GR.o,Ed.o,←HN.o];rfl)⟩
      case measure=>simp[intOf];omega
    · go_wp2_with fail;(refine kk aj ag JC ?_);clear ag K2;refine qa ?_;go_wp2_with fail;go_ret;exact⟨af (QM.o (by rw[EE.o,←HN.o];simp)).symm,(bM.o.trans HE.o).trans JC⟩
  · have dk : ¬ (k : Int) < c.fields.length := by omega
    obtain⟨wo,rfl⟩:∃wo:World,wo=wr:=⟨_,rfl⟩;have WJ:Zs (M.jF c=M.aZ M.Method.name M.jA c.methods []):=Z3 (by have:=HA.o;rw[List.take_of_length_le Wg]at this;rw[KV.o,this];rfl);clear hE HA;go_wp2_with fail;go_loopw [4] (fun i wr=>∃k:Nat,k≤c.methods.length∧i=.int .i64 k∧Ext wo wr∧Zs (M.aZ M.Method.name M.jA (c.methods.take k) []=true)) (fun i _=>c.methods.length - (intOf i).toNat)
    case atStart=>exact⟨0,Nat.zero_le _,rfl,Kp.rr,Z3 rfl⟩
    case round =>
     obtain⟨k2,qy,rfl,bZ,HA⟩:=hrel;have⟨gL,hEq⟩:=aJ (HE.o.trans bZ) bZ;have e3:=bZ.aD d3;have ez:=aF e3;clear d2 d3 dz;by_cases OH:k2<c.methods.length
     · have dk2:(k2:Int)<c.methods.length:=by omega
       obtain⟨x,hx⟩:∃x,c.methods[k2]?=some x:=⟨c.methods[k2]'OH,List.getElem?_eq_getElem OH⟩;obtain⟨b',off,cs,rfl,hI,hM, -,hc⟩:=HM.o.get hx;obtain⟨ma,mu,mb,mv,md,mw,rfl⟩:=hM.form;have UQ:=aG.stays _ _ _ _ _ _ (Ext.same (bM.o.trans gL.o)) (fun _ h=>h) hM;obtain⟨g0,g1,g2,g3,g4,g5,g6,g7⟩:=(hc.ext (bM.o.trans gL.o)).eight;have HTK:=Z3 ((HM.o.take (i:=k2) Wg).ext aG.stays (bM.o.trans gL.o));have Bn:(c.methods.take k2).length=k2:=by rw[List.length_take];omega
       obtain⟨T,f,dA,HT⟩:=iN.ex (fun W'=>Ext wr W') wr Kp.rr;have y0:=fun z=>(HT.aW z).aD g0;have y1:=fun z=>(HT.aW z).aD g1;have y2:=fun z=>(HT.aW z).aD g2;have y3:=fun z=>(HT.aW z).aD g3;have y4:=fun z=>(HT.aW z).aD g4;have y5:=fun z=>(HT.aW z).aD g5;have y6:=fun z=>(HT.aW z).aD g6;have y7:=fun z=>(HT.aW z).aD g7;have ye:=fun z=>(HT.aW z).aD e3;have aj:=Z3 HT;have Jk:=Z3 UQ;have⟨HKL,EE⟩:=aJ Bn (M.uA (name:=M.Method.name) (ok:=M.jA) hx);have QM:Zs (M.aZ M.Method.name M.jA (c.methods.take (k2+1)) []=false→M.jF c=false):=Z3 fun e=>by rw[WJ.o,M.xS e]
       clear HT bZ hc hx g0 g1 g2 g3 g4 g5 g6 g7 ez Bn hM UQ;have hD1:Ext wr wr.drew:=Kp.rr.drew;go_wp2_with fail;(refine eO aj 21 [([0,1,2,3,4],5),([6,7,8,9,10,11,12,13,14,15,16,17],18)] [19,20] ?_ ?_)
       · exact Kp.rr.drew
       refine iX ?_;intro K2 ag;go_wp2_with fail;refine(Wm _ I _ x (aG.stays _ _ _ _ _ _ (Ext.same hD1) (fun _ h=>h) Jk.o)).mono ?_;rintro e w2 ⟨rfl,cZ⟩;obtain⟨q2,pY⟩:∃q,M.jA x=q:=⟨_,rfl⟩;have Ed:=Z3 pY;rw[pY];clear pY;have hD2:=hD1.trans cZ;cases q2
       · go_wp2_with fail;(refine kk aj ag hD2 ?_);clear ag K2;refine iX ?_;intro K2 ag;go_wp2_with fail;(refine kk aj ag hD2 ?_);clear ag K2;refine qa ?_;go_wp2_with fail;go_ret;exact⟨af (QM.o (by rw[EE.o,Ed.o];simp)).symm,(bM.o.trans gL.o).trans hD2⟩
       go_wp2_with fail;(refine kk aj ag hD2 ?_);clear ag K2;refine iX ?_;intro K2 ag;go_wp2_with fail;refine(MZ _ I (.slice (some ⟨b',off,none⟩) k2 m2) (c.methods.take k2) (HTK.o.ext aG.stays hD2) x.name).mono ?_;rintro e w3 ⟨⟨n,rfl,hn⟩,dK⟩;have JC:=hD2.trans dK;obtain⟨q,hq⟩:∃q,decide (0≤n)=q:=⟨_,rfl⟩;simp only[iV]at hn;rw[hq]at hn;have HN:=Z3 hn;clear hn;cases q
       · go_wp2_with fail;(refine kk aj ag JC ?_);clear ag K2;refine qa ?_;go_wp2_with fail;go_round
         case rel=>exact⟨k2+1,by omega,by go_num,(hEq.o).trans JC,Z3 (by rw[EE.o,HA.o,Ed.o,←HN.o];rfl)⟩
         case measure=>simp[intOf];omega
       · go_wp2_with fail;(refine kk aj ag JC ?_);clear ag K2;refine qa ?_;go_wp2_with fail;go_ret;exact⟨af (QM.o (by rw[EE.o,←HN.o];simp)).symm,(bM.o.trans gL.o).trans JC⟩
     · have dk2:¬(k2:Int)<c.methods.length:=by omega
       clear bZ;go_wp2_with fail;go_ret;exact⟨af (by have:=HA.o;rw[List.take_of_length_le Wg]at this;rw[WJ.o,this]),bM.o.trans gL.o⟩
theorem M0 (w : World) (I : Nat → Prop) (cs : List Value) (c : M.eY) (h : aB w I c cs) (p : M.ax) (many : Int) (hmp : many = p.length) (hm0 : 0 ≤ many) (hm1 : many ≤ 1000) :
    Calls Tryz.prog 30 #[.agg cs.toArray,.int .i64 many] w fun e w'=>e=.returned (.bool (M.bA p c))∧Ext w w':=by
 have HMP:=Z3 hmp;clear hmp;obtain⟨vf,vm,rfl,h0,h1⟩:=h;obtain⟨a1,m1,rfl,mR,Bo⟩:=h0.form;obtain⟨a2,m2,rfl,yD,Hw⟩:=h1.form;obtain⟨w0,bI,aU,hb⟩:=nu w #[.slice a1 c.owns.length m1,.slice a2 c.asks.length m2] 33;obtain⟨cz,c2,c3, -⟩:=hb.ca;have⟨HF,HM,bM,dO⟩:=gD h0 h1 aU bI;clear aU hb bI h0 h1;by_cases h5:5<c.owns.length
 · have h5d:decide ((5:Int)<c.owns.length)=true:=decide_eq_true Wg;go_enter Tryz.func30,Tryz.ntmps30;go_wp2_with fail;rw[←dO.o];go_wp2_with fail;go_ret;exact⟨af (by unfold M.bA;rw[decide_eq_false (show¬c.owns.length≤5 by omega)];rfl),bM.o⟩
 have h5d:decide ((5:Int)<c.owns.length)=false:=decide_eq_false Wg;by_cases h4:4<c.asks.length
 · have h4d:decide ((4:Int)<c.asks.length)=true:=decide_eq_true Wg;go_enter Tryz.func30,Tryz.ntmps30;go_wp2_with fail;rw[←dO.o];go_wp2_with fail;go_ret;exact⟨af (by unfold M.bA;rw[decide_eq_false (show¬c.asks.length≤4 by omega)];simp),bM.o⟩
 have KV:Zs (M.bA p c=(M.aZ M.Class.name M.jF c.owns []&&M.aZ M.Ask.name (fun a=>M.aT a.name&&M.has p a.keeper) c.asks [])):=Z3 (by unfold M.bA;rw[decide_eq_true (show c.owns.length≤5 by omega),decide_eq_true (show c.asks.length≤4 by omega)];rfl);have h4d:decide ((4:Int)<c.asks.length)=false:=decide_eq_false Wg;go_enter Tryz.func30,Tryz.ntmps30;go_wp2_with fail;rw[←dO.o];go_wp2_with fail;go_loopw [5] (fun i wr=>∃k:Nat,k≤c.owns.length∧i=.int .i64 k∧Ext w0 wr∧Zs (M.aZ M.Class.name M.jF (c.owns.take k) []=true)) (fun i _=>c.owns.length - (intOf i).toNat)
 case atStart=>exact⟨0,Nat.zero_le _,rfl,Kp.rr,Z3 rfl⟩
 case round =>
  obtain⟨k,hk,rfl,hE,HA⟩:=hrel;have HE:=Z3 hE;have d2:=hE.aD c2;have d3:=hE.aD c3;have dz:=aF d2;clear c2 c3 cz h5d h4d;by_cases bY:k<c.owns.length
  · have dk:(k:Int)<c.owns.length:=by omega
    obtain⟨x,hx⟩:∃x,c.owns[k]?=some x:=⟨c.owns[k]'bY,List.getElem?_eq_getElem bY⟩;obtain⟨b',off,cs,rfl,hI,hM, -,hc⟩:=HF.o.get hx;obtain⟨ma,mu,mb,mv,rfl⟩:=hM.form;have UQ:=aP.stays _ _ _ _ _ _ (Ext.same (bM.o.trans HE.o)) (fun _ h=>h) hM;obtain⟨g0,g1,g2,g3⟩:=(hc.ext (bM.o.trans hE)).four;have HTK:=Z3 ((HF.o.take (i:=k) Wg).ext aP.stays (bM.o.trans hE));have Bn:(c.owns.take k).length=k:=by rw[List.length_take];omega
    obtain⟨T,f,dA,HT⟩:=iN.ex (fun W'=>Ext wr W') wr Kp.rr;have y0:=fun z=>(HT.aW z).aD g0;have y1:=fun z=>(HT.aW z).aD g1;have y2:=fun z=>(HT.aW z).aD g2;have y3:=fun z=>(HT.aW z).aD g3;have ye:=fun z=>(HT.aW z).aD d2;have aj:=Z3 HT;have Jk:=Z3 UQ;have⟨HKL,EE⟩:=aJ Bn (M.uA (name:=M.Class.name) (ok:=M.jF) hx);have QM:Zs (M.aZ M.Class.name M.jF (c.owns.take (k+1)) []=false→M.bA p c=false):=Z3 fun e=>by rw[KV.o,M.xS e];rfl
    clear HT hE hc hx g0 g1 g2 g3 dz Bn hM UQ;go_wp2_with fail;have hD1:Ext wr wr.drew:=Kp.rr.drew;(refine eO aj 22 [([0,1,2,3,4],5),([6,7,8,9,10,11,12,13,14,15,16,17,18],19)] [20,21] ?_ ?_)
    · exact Kp.rr.drew
    refine iX ?_;intro K2 ag;go_wp2_with fail;refine(Wj _ I _ x (aP.stays _ _ _ _ _ _ (Ext.same hD1) (fun _ h=>h) Jk.o)).mono ?_;rintro e w2 ⟨rfl,cZ⟩;obtain⟨q2,pY⟩:∃q,M.jF x=q:=⟨_,rfl⟩;have Ed:=Z3 pY;rw[pY];clear pY;have hD2:=hD1.trans cZ;cases q2
    · go_wp2_with fail;(refine kk aj ag hD2 ?_);clear ag K2;refine iX ?_;intro K2 ag;go_wp2_with fail;(refine kk aj ag hD2 ?_);clear ag K2;refine qa ?_;go_wp2_with fail;go_ret;exact⟨af (QM.o (by rw[EE.o,Ed.o];simp)).symm,(bM.o.trans HE.o).trans hD2⟩
    go_wp2_with fail;(refine kk aj ag hD2 ?_);clear ag K2;refine iX ?_;intro K2 ag;go_wp2_with fail;refine(Wn _ I (.slice (some ⟨b',off,none⟩) k m1) (.slice none 0 0) (c.owns.take k) (HTK.o.ext aP.stays hD2) x.name).mono ?_;rintro e w3 ⟨⟨n,rfl,hn⟩,dK⟩;have JC:=hD2.trans dK;obtain⟨q,hq⟩:∃q,decide (0≤n)=q:=⟨_,rfl⟩;simp only[iV]at hn;rw[hq]at hn;have HN:=Z3 hn;clear hn;cases q
    · go_wp2_with fail;(refine kk aj ag JC ?_);clear ag K2;refine qa ?_;go_wp2_with fail;go_round
      case rel=>exact⟨k+1,by omega,by go_num,HE.o.trans JC,Z3 (by rw[EE.o,HA.o,Ed.o,←HN.o];rfl)⟩
      case measure=>simp[intOf];omega
    · go_wp2_with fail;(refine kk aj ag JC ?_);clear ag K2;refine qa ?_;go_wp2_with fail;go_ret;exact⟨af (QM.o (by rw[EE.o,←HN.o];simp)).symm,(bM.o.trans HE.o).trans JC⟩
  · have dk : ¬ (k : Int) < c.owns.length := by omega
    obtain⟨wo,rfl⟩:∃wo:World,wo=wr:=⟨_,rfl⟩;have WJ:Zs (M.bA p c=M.aZ M.Ask.name (fun a=>M.aT a.name&&M.has p a.keeper) c.asks []):=Z3 (by have:=HA.o;rw[List.take_of_length_le Wg]at this;rw[KV.o,this];rfl);clear hE HA;go_wp2_with fail;go_loopw [6] (fun i wr=>∃k:Nat,k≤c.asks.length∧i=.int .i64 k∧Ext wo wr∧Zs (M.aZ M.Ask.name (fun a=>M.aT a.name&&M.has p a.keeper) (c.asks.take k) []=true)) (fun i _=>c.asks.length - (intOf i).toNat)
    case atStart=>exact⟨0,Nat.zero_le _,rfl,Kp.rr,Z3 rfl⟩
    case round =>
     obtain⟨k2,qy,rfl,bZ,HA⟩:=hrel;have⟨gL,hEq⟩:=aJ (HE.o.trans bZ) bZ;have e3:=bZ.aD d3;have ez:=aF e3;clear d2 d3 dz;by_cases OH:k2<c.asks.length
     · have dk2:(k2:Int)<c.asks.length:=by omega
       obtain⟨x,hx⟩:∃x,c.asks[k2]?=some x:=⟨c.asks[k2]'OH,List.getElem?_eq_getElem OH⟩;obtain⟨b',off,cs,rfl,hI,rfl, -,hc⟩:=HM.o.get hx;obtain⟨g0,g1⟩:=(hc.ext (bM.o.trans gL.o)).two;have HTK:=Z3 ((HM.o.take (i:=k2) Wg).ext eu.stays (bM.o.trans gL.o));have Bn:(c.asks.take k2).length=k2:=by rw[List.length_take];omega
       obtain⟨T,f,dA,HT⟩:=iN.ex (fun W'=>Ext wr W') wr Kp.rr;have y0:=fun z=>(HT.aW z).aD g0;have y1:=fun z=>(HT.aW z).aD g1;have ye:=fun z=>(HT.aW z).aD e3;have⟨aj,HKL,EE⟩:=bg HT Bn (M.uA (name:=M.Ask.name) (ok:=fun a=>M.aT a.name&&M.has p a.keeper) hx);have QM:Zs (M.aZ M.Ask.name (fun a=>M.aT a.name&&M.has p a.keeper) (c.asks.take (k2+1)) []=false→M.bA p c=false):=Z3 fun e=>by rw[WJ.o,M.xS e]
       clear HT bZ hc hx g0 g1 ez Bn;go_wp2_with fail;have hD1:Ext wr wr.drew:=Kp.rr.drew;(refine eO aj 35 [([0,1,2,3,4,5],6),([7,8,9,10,11,12,13,14,15,16],17),([18,19,20,21,22,23,24,25,26,27,28,29,30,31],32)] [33,34] ?_ ?_)
       · exact Kp.rr.drew
       refine iX ?_;intro K2 ag;go_wp2_with fail;refine(di _ _).mono ?_;rintro e w1 ⟨rfl,rfl⟩;obtain⟨q1,Bq⟩:∃q,M.aT x.name=q:=⟨_,rfl⟩;have GR:=Z3 Bq;rw[Bq];clear Bq;cases q1
       · go_wp2_with fail;(refine kk aj ag hD1 ?_);clear ag K2;refine iX ?_;intro K2 ag;go_wp2_with fail;(refine kk aj ag hD1 ?_);clear ag K2;refine iX ?_;intro K2 ag;go_wp2_with fail;(refine kk aj ag hD1 ?_);clear ag K2;refine qa ?_;go_wp2_with fail;go_ret;exact⟨af (QM.o (by rw[EE.o,GR.o];simp)).symm,(bM.o.trans gL.o).trans hD1⟩
       go_wp2_with fail;(refine kk aj ag hD1 ?_);clear ag K2;refine iX ?_;intro K2 ag;go_wp2_with fail;refine(lT _ _ _ _).mono ?_;rintro e w' ⟨rfl,rfl⟩;obtain⟨q2,pY⟩:∃q,(decide ((0:Int)≤x.keeper)&&decide (x.keeper≤many - 1))=q:=⟨_,rfl⟩;have Ed:Zs (M.has p x.keeper=q2):=Z3 (by
        rw[←pY];unfold M.has;congr 1;exact decide_eq_decide.2 (by have:=HMP.o;omega))
       rw[pY];clear pY;cases q2
       · go_wp2_with fail;(refine kk aj ag hD1 ?_);clear ag K2;refine iX ?_;intro K2 ag;go_wp2_with fail;(refine kk aj ag hD1 ?_);clear ag K2;refine qa ?_;go_wp2_with fail;go_ret;exact⟨af (QM.o (by rw[EE.o,Ed.o];simp)).symm,(bM.o.trans gL.o).trans hD1⟩
       go_wp2_with fail;(refine kk aj ag hD1 ?_);clear ag K2;refine iX ?_;intro K2 ag;go_wp2_with fail;refine(Sw _ I (.slice (some ⟨b',off,none⟩) k2 m2) (.slice none 0 0) (c.asks.take k2) (HTK.o.ext eu.stays hD1) x.name).mono ?_;rintro e w3 ⟨⟨n,rfl,hn⟩,dK⟩;have JC:=hD1.trans dK;obtain⟨q,hq⟩:∃q,decide (0≤n)=q:=⟨_,rfl⟩;have HN:Zs (q=(c.asks.take k2).any fun y=>decide (y.name=x.name)):=Z3 (by
        simp only[iV]at hn;rw[←hq];rcases hn with⟨y,hy,he,rfl⟩|⟨he,rfl⟩
        · rw[List.any_eq_true.2 ⟨y,hy,he⟩];have h1:=M.mD HA.o y hy;simp only[Bool.and_eq_true]at h1;exact decide_eq_true (M.rq.1 h1.2).1
        · rw[he];rfl)
       clear hn;cases q
       · go_wp2_with fail;(refine kk aj ag JC ?_);clear ag K2;refine qa ?_;go_wp2_with fail;go_round
         case rel=>exact⟨k2+1,by omega,by go_num,hEq.o.trans JC,Z3 (by rw[EE.o,HA.o,GR.o,Ed.o,←HN.o];rfl)⟩
         case measure=>simp[intOf];omega
       · go_wp2_with fail;(refine kk aj ag JC ?_);clear ag K2;refine qa ?_;go_wp2_with fail;go_ret;exact⟨af (QM.o (by rw[EE.o,←HN.o];simp)).symm,(bM.o.trans gL.o).trans JC⟩
     · have dk2:¬(k2:Int)<c.asks.length:=by omega
       clear bZ;go_wp2_with fail;go_ret;exact⟨af (by have:=HA.o;rw[List.take_of_length_le Wg]at this;rw[WJ.o,this]),bM.o.trans gL.o⟩
theorem Wl(w:World)(I:Nat→Prop)(v:Value)(p:M.ax)(h:SliceOf 2 aB w I v p):
    Calls Tryz.prog 13 #[.agg #[v]] w fun e w'=>e=.returned (.bool (M.dF p))∧Ext w w':=by
 obtain⟨a1,m1,rfl,mR,Bo⟩:=h.form;obtain⟨w0,bI,aU,hb⟩:=nu w #[.slice a1 p.length m1] 25;obtain⟨cz,c2, -⟩:=hb.ca;have⟨HF,bM,dO⟩:=bg h aU bI;clear aU hb bI h;go_enter Tryz.func13,Tryz.ntmps13;go_wp2_with fail;rw[←dO.o];go_wp2_with fail;refine(lT _ _ _ _).mono ?_;rintro e w' ⟨rfl,rfl⟩;obtain⟨q1,Bq⟩:∃q,(decide ((1:Int)≤p.length)&&decide ((p.length:Int)≤3))=q:=⟨_,rfl⟩;have KV:Zs (M.dF p=(q1&&p.all (M.bA p))):=Z3 (by
  unfold M.dF;rw[←Bq];congr 2
  · exact decide_eq_decide.2 Wg
  · exact decide_eq_decide.2 Wg)
 rw[Bq];cases q1
 · go_wp2_with fail;go_ret;exact⟨af (by rw[KV.o];rfl),bM.o⟩
 have hp3:(p.length:Int)≤3:=by simp at Bq;omega
 clear Bq;go_wp2_with fail;go_loopw [3] (fun i wr=>∃k:Nat,k≤p.length∧i=.int .i64 k∧Ext w0 wr∧Zs ((p.take k).all (M.bA p)=true)) (fun i _=>p.length - (intOf i).toNat)
 case atStart=>exact⟨0,Nat.zero_le _,rfl,Kp.rr,Z3 Wf⟩
 case round =>
  obtain⟨k,hk,rfl,hE,HA⟩:=hrel;have HE:=Z3 hE;have d2:=hE.aD c2;have dz:=aF d2;clear c2 cz;by_cases bY:k<p.length
  · have dk:(k:Int)<p.length:=by omega
    obtain⟨x,hx⟩:∃x,p[k]?=some x:=⟨p[k]'bY,List.getElem?_eq_getElem bY⟩;obtain⟨b',off,cs,rfl,hI,hM, -,hc⟩:=HF.o.get hx;obtain⟨ma,mu,mb,mv,rfl⟩:=hM.form;have UQ:=aB.stays _ _ _ _ _ _ (Ext.same (bM.o.trans HE.o)) (fun _ h=>h) hM;obtain⟨g0,g1⟩:=(hc.ext (bM.o.trans hE)).two;obtain⟨T,f,dA,HT⟩:=iN.ex (fun W'=>Ext wr W') wr Kp.rr;have y0:=fun z=>(HT.aW z).aD g0;have y1:=fun z=>(HT.aW z).aD g1;have ye:=fun z=>(HT.aW z).aD d2;have aj:=Z3 HT;have Jk:=Z3 UQ;have HX:=Z3 hx;clear HT hE hc hx g0 g1 dz hM UQ;go_wp2_with fail;have hD1:Ext wr wr.drew:=Kp.rr.drew;(refine eO aj 10 [([0,1,2,3,4,5,6,7],8)] [9] ?_ ?_)
    · exact Kp.rr.drew
    refine iX ?_;intro K2 ag;go_wp2_with fail;refine(M0 _ I _ x (aB.stays _ _ _ _ _ _ (Ext.same hD1) (fun _ h=>h) Jk.o) p p.length rfl Wg Wg).mono ?_;rintro e w2 ⟨rfl,cZ⟩;obtain⟨q2,pY⟩:∃q,M.bA p x=q:=⟨_,rfl⟩;have Ed:=Z3 pY;rw[pY];clear pY;have hD2:=hD1.trans cZ;cases q2
    · go_wp2_with fail;(refine kk aj ag hD2 ?_);clear ag K2;refine qa ?_;go_wp2_with fail;go_ret;exact⟨af (by rw[KV.o,M.Eg HX.o Ed.o];rfl),(bM.o.trans HE.o).trans hD2⟩
    · go_wp2_with fail;(refine kk aj ag hD2 ?_);clear ag K2;refine qa ?_;go_wp2_with fail;go_round
      case rel=>exact⟨k+1,by omega,by go_num,HE.o.trans hD2,Z3 (M.EU HX.o Ed.o HA.o)⟩
      case measure=>simp[intOf];omega
  · have dk:¬(k:Int)<p.length:=by omega
    clear hE;go_wp2_with fail;go_ret;exact⟨af (by have:=HA.o;rw[List.take_of_length_le Wg]at this;rw[KV.o,this];rfl),bM.o.trans HE.o⟩
def TW(w w':World)(e:Ending):Prop:=∃p v n,e=.returned (.tuple #[.agg #[v],.int .i64 n])∧SliceOf 2 aB w' (fun b=>w.heap.size≤b∧b<w'.heap.size) v p∧0≤n∧(p=[]∨M.dF p=true)
theorem uO{w wc:World}(p:M.ax){v:Value}(hK:Ext w wc)(hs:SliceOf 2 aB wc (fun b=>w.heap.size+1≤b) v p)(n:Int)(hn:0≤n)(jM:p=[]∨M.dF p=true)(v0:Value):
    TW w (wc.setCell ⟨w.heap.size,0,none⟩ v0) (.returned (.tuple #[.agg #[v],.int .i64 n]))∧Ext w (wc.setCell ⟨w.heap.size,0,none⟩ v0):=by
 have hP:Kp (·=w.heap.size) wc (wc.setCell ⟨w.heap.size,0,none⟩ v0):=(Kp.refl (·=w.heap.size) wc).setCell (p:=⟨w.heap.size,0,none⟩) (fun _=>rfl) _;have L8:=hs.keep (J:=fun b=>w.heap.size+1≤b) aB.stays (hP.same fun b hb e=>by omega) (fun b hb=>hb);have JO:=L8.inside (fun _ _ _ _ h=>aB.inside h) Wg;exact⟨⟨p,v,n,rfl,JO.keep aB.stays (fun _ _ _ _ h=>h) (fun b hb=>⟨by omega,hb.2⟩),hn,jM⟩,hK.own hP fun b e=>by omega⟩
theorem xH(w:World)(I:Nat→Prop)(v:Value)(lines:List ByteArray)(hv:SliceOf 1 dP w I v lines)(kv:∀u∈lines,u.size≤1000000):
    Calls Tryz.prog 33 #[v] w fun e w'=>TW w w' e∧Ext w w':=by
 obtain⟨a,c,rfl,mE,yQ⟩:=hv.form;by_cases hl:400<lines.length
 · have hl':(400:Int)<lines.length:=by omega
   have FIN:=Z3 (fun(n:Int) (hn:0≤n) v0=>uO (w:=w) (wc:=w.alloc (.cells #[.slice none 0 0] 25)) [] (Kp.rr.alloc _) (SliceOf.nil _ _ _ _) n hn (.inl rfl) v0);clear hv;go_enter Tryz.func33,Tryz.ntmps33;go_wp2_with fail;refine bodyPost_ret (au lV rfl _ _ w.heap.size rfl [.slice none 0 0] (ae.fB _ _ rfl) rfl) rfl ?_;exact⟨⟨[],_,_,rfl,SliceOf.nil _ _ _ _,by omega,.inl rfl⟩,Z2⟩
 have hl':¬(400:Int)<lines.length:=by omega
 obtain⟨w1,jX⟩:∃w1,w1=(w.alloc (.cells #[.slice none 0 0] 25)).alloc (.cells #[.slice none 0 0] 25):=⟨_,rfl⟩;have bH:Ext w w1:=by rw[jX];exact Z2
 have b2:ay w1 w.heap.size 25 #[.slice none 0 0]:=by rw[jX];exact(ay.new _ _ _).ext Z2
 have b4:ay w1 (w.heap.size+1) 25 #[.slice none 0 0]:=by rw[jX];exact ay.zI _ _ Wf
 have Db:w1.heap.size=w.heap.size+2:=by rw[jX];simp
 have⟨BB,vY,mQ,kP,eQ,HV,HVI,Lc⟩:=JI jX Db b2 b4 bH (hv.ext dP.stays bH) hv kv;clear jX Db b2 b4 bH hv kv;go_enter Tryz.func33,Tryz.ntmps33;go_upto_region 4 with(fail);rw[←BB.o];go_wp2_with fail;go_loopw [5] (fun i wr=>∃(k:Nat) (p:M.ax) (a6:Option Addr) (n6 m6:Nat),k≤lines.length∧i=.int .i64 k∧ay wr (w.heap.size+1) 25 #[.slice a6 n6 m6]∧SliceOf 2 aB wr (fun b=>w.heap.size+2≤b) (.slice a6 n6 m6) p∧oZ k p∧Kp (·=w.heap.size+1) w1 wr) (fun i _=>lines.length - (intOf i).toNat)
 case atStart=>exact⟨0,[],_,_,_,Nat.zero_le _,rfl,kP.o,SliceOf.nil _ _ _ _,⟨by simp,by simp⟩,Kp.rr⟩
 case round =>
  obtain⟨k,p,a6,n6,m6,hk,rfl,hb,hs,vS,hK⟩:=hrel;have⟨HB,HS,zl,HK⟩:=gD hb hs vS hK;have HZR:Zs (w.heap.size+2≤wr.heap.size):=Z3 (by have:=hK.size;have:=vY.o;omega);have HEw:Zs (Ext w wr):=Z3 (eQ.o.own hK fun b e=>by omega);have Dx:=Z3 (mQ.o.kp hK Wg);by_cases bY:k<lines.length
  · have dk:(k:Int)<lines.length:=by omega
    obtain⟨x,hx⟩:∃x,lines[k]?=some x:=⟨lines[k]'bY,List.getElem?_eq_getElem bY⟩;have hxz:=Lc.o x (List.mem_of_getElem? hx);obtain⟨bl,ol,rfl,gl⟩:=dP.at_ HVI.o hx;have glr:=HEw.o.aD gl;obtain⟨T,f,dA,HT⟩:=iN.ex (fun W'=>Ext wr W') wr Kp.rr;have y0:=fun z=>(HT.aW z).aD glr;have y1:=fun z=>(hb.ext (HT.aW z)).c 0 (.slice a6 n6 m6) rfl;have aj:=Z3 HT;obtain⟨cz,c1, -⟩:=Dx.o.ca;have c1f:=Dx.o.frozen 0;obtain⟨c4z,c4, -⟩:=hb.ca;have c4f:=hb.frozen 0;have HPI:Zs (SliceOf 2 aB wr (fun b=>w.heap.size+2≤b∧b<wr.heap.size) (.slice a6 n6 m6) p):=Z3 (hs.inside (fun _ _ _ _ h=>aB.inside h) Wg);clear hb hs vS hK HT hx gl glr;go_upto_region 7 with(fail);go_cut [6,7] (fun s6 s7 wx=>∃b6 ok p' a7 n7 m7,s6=.pointer (some ⟨b6,0,none⟩)∧s7=.bool ok∧ay wx b6 25 #[.slice a7 n7 m7]∧SliceOf 2 aB wx (fun b=>w.heap.size+2≤b) (.slice a7 n7 m7) p'∧oZ (k+1) p'∧Ext wr wx)
    case first=>
     (refine lN aj 11 (.two [0,1,2,3,4] 5 9 (.one [6,7,8] 9 (.one [] 10 (.fin []))) (.one [] 5 (.one [6,7,8] 10 (.fin [])))) ?_ ?_)
     · exact Kp.rr.drew
     (refine two [_,_,_,_,_] rfl rfl rfl fun K hK=>?_);(repeat (go_big_quiet_step (fail)));((refine Gj hK (fun K2 ag=>?_) fun K2 ag=>?_)<;>clear hK K)
     · have ed:Ext wr wr.drew:=Kp.rr.drew;go_wp2_with fail;refine(Jc _ _ (fun _ h=>Nat.lt_of_lt_of_le h.2 ed.size) _ p (HPI.o.ext aB.stays ed) x hxz k Wg zl.o).mono ?_;rintro e w4 ⟨⟨p',v',ok,rfl,L6,Ro⟩,dI⟩;obtain⟨a7,m7,rfl, -, -⟩:=L6.form;obtain⟨n7,YC⟩:∃n7,List.length p'=n7:=⟨_,rfl⟩;rw[YC]at L6;simp only[YC];clear YC;have e4:=ed.trans dI;go_wp2_with fail;(refine kk aj ag e4 ?_);clear ag K2;refine Ey ?_;intro K2 ag;go_wp2_with fail;obtain⟨w5,iA,cZ,b5⟩:=nu w4 #[.slice none 0 0] 25;rw[←iA];have e5:=e4.trans cZ;have⟨gy,ZB⟩:=aJ e5 ((L6.inside (fun _ _ _ _ h=>aB.inside h) Wg).ext aB.stays cZ);have DJ:=Z3 e4.size;have lC:=Z3 b5;obtain⟨zz,z0, -⟩:=b5.ca;have zf:=b5.frozen 0;clear cZ b5 iA L6;(refine kk aj ag gy.o ?_);clear ag K2;(refine aX rfl fun K2 ag=>?_);go_wp2_with fail;have hP:Kp (·=w4.heap.size) w5 (w5.setCell ⟨w4.heap.size,0,none⟩ (.slice a7 n7 m7)):=(Kp.refl (·=w4.heap.size) w5).setCell (p:=⟨w4.heap.size,0,none⟩) (fun _=>rfl) _;have dC:=gy.o.own hP (fun b e=>by have:=DJ.o;omega);(refine kk aj ag dC ?_);clear ag K2;(refine bU ?_);go_wp2_with fail;go_meet;exact⟨_,_,p',_,_,_,rfl,rfl,lC.o.bE 0 _,ZB.o.keep aB.stays (hP.same fun b hb e=>by have:=hb.2;omega) (fun b hb=>hb.1.elim (fun h=>h.1) (fun h=>by have:=ed.size;have:=HZR.o;omega)),Ro,dC⟩
     · have ed:Ext wr wr.drew:=Kp.rr.drew;generalize wr.drew=wd at ed ⊢;go_wp2_with fail;obtain⟨w5,iA,cZ,b5⟩:=nu wd #[.slice none 0 0] 25;rw[←iA];have DJ:Zs (w5.heap.size=wd.heap.size+1):=Z3 (by rw[iA];simp);have e5:=ed.trans cZ;clear iA cZ;(refine kk aj ag e5 ?_);clear ag K2;(refine aX rfl fun K2 ag=>?_);go_wp2_with fail;refine(Jc _ _ (fun _ h=>Nat.lt_of_lt_of_le h.2 e5.size) _ p (HPI.o.ext aB.stays e5) x hxz k Wg zl.o).mono ?_;rintro e w4 ⟨⟨p',v',ok,rfl,L6,Ro⟩,dI⟩;obtain⟨a7,m7,rfl, -, -⟩:=L6.form;obtain⟨n7,YC⟩:∃n7,List.length p'=n7:=⟨_,rfl⟩;rw[YC]at L6;simp only[YC];clear YC;have b54:=b5.ext dI;have⟨lC,iG⟩:=aJ b54 (e5.trans dI);have ZB:=Z3 L6;have HDZ:=Z3 ed.size;obtain⟨zz,z0, -⟩:=b54.ca;have zf:=b54.frozen 0;clear b5 b54 L6 dI e5;go_wp2_with fail;(refine kk aj ag iG.o ?_);clear ag K2;refine Ey ?_;intro K2 ag;go_wp2_with fail;have hP:Kp (·=wd.heap.size) w4 (w4.setCell ⟨wd.heap.size,0,none⟩ (.slice a7 n7 m7)):=(Kp.refl (·=wd.heap.size) w4).setCell (p:=⟨wd.heap.size,0,none⟩) (fun _=>rfl) _;have dC:=iG.o.own hP (fun b e=>by have:=HDZ.o;omega);(refine kk aj ag dC ?_);clear ag K2;(refine bU ?_);go_wp2_with fail;go_meet;exact⟨_,_,p',_,_,_,rfl,rfl,lC.o.bE 0 _,ZB.o.keep aB.stays (hP.same fun b hb e=>hb.elim (fun h=>by have:=HDZ.o;omega) (fun h=>by have:=DJ.o;omega)) (fun b hb=>hb.elim (fun h=>h.1) (fun h=>by have:=DJ.o;have:=HDZ.o;have:=HZR.o;omega)),Ro,dC⟩
    obtain⟨b6,ok,p',a7,n7,m7,rfl,rfl,pQ,L6,Ro,Re⟩:=hcut;have d1:=Re.aD c1;have d1f:=(Dx.o.ext Re).frozen 0;have dz:=(Dx.o.ext Re).lt;have d4:=Re.aD c4;have d4f:=(HB.o.ext Re).frozen 0;have d4z:=(HB.o.ext Re).lt;obtain⟨x6z,x6, -⟩:=pQ.ca;have⟨afp,HBx⟩:=aJ (Dx.o.ext Re) (HB.o.ext Re);have HSx:=Z3 L6;have agd:=Z3 Ro;have Zn:=Z3 Re;have adX:b6≠w.heap.size+1∨b6=w.heap.size+1:=by omega
    clear c1 c1f cz c4 c4f c4z pQ L6 Ro Re aj y0 y1;cases ok
    · have FIN:=Z3 (fun(n:Int) (hn:0≤n) v0=>uO (w:=w) [] (HEw.o.trans Zn.o) (SliceOf.nil _ _ _ _) n hn (.inl rfl) v0);clear adX;go_wp2_with fail;refine bodyPost_ret (au lV rfl _ _ w.heap.size rfl [.slice none 0 0] (ae.gM (afp.o.bE 0 _)) rfl) rfl ?_;exact FIN.o _ Wg _
    · clear adX;go_wp2_with fail;have hP:Kp (·=w.heap.size+1) wc (wc.setCell ⟨w.heap.size+1,0,none⟩ (.slice a7 n7 m7)):=(Kp.refl (·=w.heap.size+1) wc).setCell (p:=⟨w.heap.size+1,0,none⟩) (fun _=>rfl) _;go_round
      case rel=>exact⟨k+1,p',_,_,_,by omega,by go_num,HBx.o.bE 0 _,HSx.o.keep aB.stays (hP.same fun b hb e=>by omega) (fun _ h=>h),agd.o,(HK.o.trans Zn.o.any).trans hP⟩
      case measure=>simp[intOf];omega
  · have dk:¬(k:Int)<lines.length:=by omega
    obtain⟨cz,c1, -⟩:=Dx.o.ca;have c1f:=Dx.o.frozen 0;obtain⟨c4z,c4, -⟩:=hb.ca;clear hb hs vS hK;obtain⟨p6,hp6⟩:∃p6:Nat,p6=n6:=⟨_,rfl⟩;go_wp2_with fail;refine(Wl _ _ _ p HS.o).mono ?_;rintro e w4 ⟨rfl,dI⟩;obtain⟨ok,jM⟩:∃ok,M.dF p=ok:=⟨_,rfl⟩;have Ny:=Z3 jM;rw[jM];clear jM;have d1:=dI.aD c1;have d1f:=(Dx.o.ext dI).frozen 0;have dz:=(Dx.o.ext dI).lt;have d4:=dI.aD c4;have d4z:=(HB.o.ext dI).lt;have⟨acC,iG,HS4⟩:=bg (Dx.o.ext dI) (HEw.o.trans dI) ((HS.o.ext aB.stays dI).keep (J:=fun b=>w.heap.size+1≤b) aB.stays (fun _ _ _ _ h=>h) (fun b hb=>by omega));clear dI c1 c1f cz c4 c4z hp6;cases ok
    · have FIN:=Z3 (fun(n:Int) (hn:0≤n) v0=>uO (w:=w) [] iG.o (SliceOf.nil _ _ _ _) n hn (.inl rfl) v0);go_wp2_with fail;refine bodyPost_ret (au lV rfl _ _ w.heap.size rfl [.slice none 0 0] (ae.gM (acC.o.bE 0 _)) rfl) rfl ?_;exact FIN.o _ Wg _
    · have FIN:=Z3 (fun(n:Int) (hn:0≤n) v0=>uO (w:=w) p iG.o HS4.o n hn (.inr Ny.o) v0);go_wp2_with fail;refine bodyPost_ret (au lV rfl _ _ w.heap.size rfl [.slice a6 n6 m6] (ae.gM (acC.o.bE 0 _)) rfl) rfl ?_;exact FIN.o _ Wg _
def ZG(w w':World)(e:Ending):Prop:=∃(pl:M.ax) (v:Value),e=.returned (.agg #[v])∧SliceOf 2 aB w' (fun b=>w.heap.size≤b∧b<w'.heap.size) v pl∧(pl=[]∨M.dF pl=true)
theorem Co{w W:World}{rb q:Nat}{v vp:Value}{zs:List Int}{pl:M.ax}(jM:pl=[]∨M.dF pl=true)(hK:Kp (·=rb) w W)(hs:SliceOf 2 aB W (fun b=>w.heap.size+1≤b) vp pl)(hR:kJ W rb v zs q)(hl:rb<w.heap.size∧(zs.length≠0→∀ad l c,v=.slice (some ad) l c→ad.block<w.heap.size))
    (w':World) (hE:Ext (W.setCell ⟨w.heap.size,0,none⟩ vp) w'):ZG w w' (.returned (.agg #[vp]))∧kJ w' rb v zs q∧Kp (·=rb) w w':=by
 have hP:Kp (·=w.heap.size) W (W.setCell ⟨w.heap.size,0,none⟩ vp):=(Kp.refl (·=w.heap.size) W).setCell (p:=⟨w.heap.size,0,none⟩) (fun _=>rfl) _;have L8:=((hs.keep (J:=fun b=>w.heap.size+1≤b) aB.stays (hP.same fun b hb e=>by omega) (fun b hb=>hb)).ext aB.stays hE).inside (fun _ _ _ _ h=>aB.inside h) Wg;exact⟨⟨pl,vp,rfl,L8.keep aB.stays (fun _ _ _ _ h=>h) (fun b hb=>⟨by omega,hb.2⟩),jM⟩,(hR.turn hP Wg (fun h0 ad l c e=>by have:=hl.2 h0 ad l c e;omega)).ext hE,(hK.own hP fun b e=>by omega).trans hE.any⟩
theorem Pt(w:World)(rb p:Nat)(v:Value)(zs:List Int)(n:Int)(h:kJ w rb v zs p)(hp:p≤600000)(hn:n≤1000000)(IV: -1000000≤n):
    Calls Tryz.prog 15 #[.pointer (some ⟨rb,0,none⟩),.int .i64 n] w fun e w'=>ZG w w' e∧(∃q,q≤p+60∧kJ w' rb v zs q)∧Kp (·=rb) w w':=by
 have dZ:=Z3 h.below;obtain⟨w1,jX,bH,b1⟩:=nu w #[.slice none 0 0] 25;have vY:Zs (w1.heap.size=w.heap.size+1):=Z3 (by rw[jX];simp);have⟨HLN,tL,BB⟩:=bg (MW w1 rb p v zs (h.ext bH) Wg) b1 jX;have eQ:Zs (Kp (·=rb) w w1):=Z3 bH.any;clear h jX bH b1;go_enter Tryz.func15,Tryz.ntmps15;go_wp2_with fail;rw[←BB.o];refine HLN.o.mono ?_;rintro e w2 ⟨⟨vl,xs,rfl,hS,Er,Me,YJ⟩,⟨q2,pY,DR⟩,ag⟩;obtain⟨la,lc,rfl, -, -⟩:=hS.form;have⟨HS2,HX,mQ,gL⟩:=gD hS YJ (tL.o.kp ag (by have:=dZ.o.1;omega)) (eQ.o.trans ag);have KL:Zs (rb<w1.heap.size):=Z3 (by have:=dZ.o.1;have:=vY.o;omega);have HOD:=Z3 (Wd w2 rb q2 v zs n DR Wg Wg Wg);obtain⟨ln,yB⟩:∃ln,xs.length=ln:=⟨_,rfl⟩;have aa4:=Z3 yB;rw[yB]at Er Me ⊢;clear hS DR ag YJ HLN yB;go_wp2_with fail;refine HOD.o.mono ?_;rintro e w3 ⟨⟨od,rfl⟩,Yq,nL⟩;have NV:Zs (SliceOf 1 dP w3 (fun b=>w1.heap.size≤b) (.slice la ln lc) xs):=Z3 (by
  have:=HS2.o.keep (J:=fun b=>w1.heap.size≤b) dP.stays (nL.same fun b hb e=>by have:=KL.o;omega) (fun _ h=>h);rwa[aa4.o]at this)
 have⟨gN,jc,ZA⟩:=bg (mQ.o.kp nL (by have:=dZ.o.1;omega)) (gL.o.trans nL) Yq;clear Yq nL HOD;cases od
 · have HPL:=Z3 (xH w3 _ (.slice la ln lc) xs NV.o (fun u hu=>by have:=HX.o u hu;omega));go_wp2_with fail;refine HPL.o.mono ?_;rintro e w8 ⟨⟨pl,vp,nn,rfl,Tm,hn8⟩,lK⟩;obtain⟨pa,pc,rfl, -, -⟩:=Tm.form;obtain⟨pn,hpn⟩:∃pn,pl.length=pn:=⟨_,rfl⟩;rw[hpn]at Tm ⊢;clear hpn;have b8:=gN.o.ext lK;obtain⟨cz,c0, -⟩:=b8.ca;have cf:=b8.frozen 0;have⟨FIN,zR⟩:=aJ (Co (w:=w) (W:=w8) (pl:=pl) hn8.2 (jc.o.trans lK.any) (Tm.keep (J:=fun b=>w.heap.size+1≤b) aB.stays (fun _ _ _ _ h=>h) (fun b hb=>by have:=jc.o.size;have:=vY.o;have:=gN.o.lt;omega)) (ZA.o.ext lK) dZ.o _ (Kp.rr.alloc (.cells #[.slice pa pn pc] 25))) b8;clear Tm lK b8 HPL;go_wp2_with fail;refine bodyPost_ret (aY lV rfl _ _ w.heap.size rfl [.slice pa pn pc] (ae.gM ((zR.o.bE 0 _).ext (Kp.rr.alloc _))) rfl) rfl ?_;exact⟨FIN.o.1,⟨_,by omega,FIN.o.2.1⟩,FIN.o.2.2⟩
 · have HTN:=Z3 (Pj w3 rb (q2+1) v zs ZA.o _ (.slice la ln lc) xs NV.o (fun b hb=>by have:=KL.o;omega) ⟨by have:=aa4.o;omega,by have:=aa4.o;omega⟩ HX.o Wg);go_wp2_with fail;refine HTN.o.mono ?_;rintro e w4 ⟨⟨v4,xs4,I4,rfl,hs4,Xi⟩,⟨q4,hq4,UU⟩,nQ⟩;have⟨HS4,kP,iG,zi,HPA⟩:=kL (NV.o.keep (J:=fun b=>w1.heap.size≤b) dP.stays (nQ.same fun b hb e=>by have:=KL.o;omega) (fun _ h=>h)) (gN.o.kp nQ (by have:=dZ.o.1;omega)) (jc.o.trans nQ) UU (xH w4 I4 v4 xs4 hs4 (fun u hu=>by have:=Xi u hu;omega));clear UU nQ hs4 Xi HTN;go_wp2_with fail;refine HPA.o.mono ?_;rintro e w5 ⟨⟨pl5,vp5,n5,rfl,hs5,hn5⟩,cZ⟩;obtain⟨pa5,pc5,rfl, -, -⟩:=hs5.form;obtain⟨pn5,aey⟩:∃pn,pl5.length=pn:=⟨_,rfl⟩;rw[aey]at hs5 ⊢;clear aey;obtain⟨w6,nS,dC,b6⟩:=nu w5 #[.slice pa5 pn5 pc5] 25;have UF:=cZ.trans dC;have⟨HS6,dL,kH,Ee,CK,af8,WN⟩:=pX (HS4.o.ext dP.stays UF) (kP.o.ext UF) (iG.o.trans UF.any) (zi.o.ext UF) nS ((hs5.keep (J:=fun b=>w.heap.size+1≤b) aB.stays (fun _ _ _ _ h=>h) (fun b hb=>by have:=iG.o.size;have:=kP.o.lt;omega)).ext aB.stays dC) b6;have af4:=Z3 hn5.2;clear hs5 cZ dC UF nS b6 HPA;by_cases h5:n5=0
   · have h5b:(n5==0)=true:=beq_iff_eq.2 h5;go_upto_region 4 with(fail);rw[←CK.o];obtain⟨cz,c0, -⟩:=dL.o.ca;have cf:=dL.o.frozen 0;obtain⟨yz,y0, -⟩:=WN.o.ca;have FIN:=Z3 (Co (w:=w) (W:=w6) (pl:=pl5) af4.o kH.o af8.o Ee.o dZ.o _ Kp.rr);clear h5;go_wp2_with fail;refine bodyPost_ret (aY lV rfl _ _ w.heap.size rfl [.slice pa5 pn5 pc5] (ae.gM (dL.o.bE 0 _)) rfl) rfl ?_;exact⟨FIN.o.1,⟨_,by omega,FIN.o.2.1⟩,FIN.o.2.2⟩
   · have h5b:(n5==0)=false:=beq_eq_false_iff_ne.2 h5;go_upto_region 4 with(fail);rw[←CK.o];clear h5;have HPL:=Z3 (xH w6 _ (.slice la ln lc) xs HS6.o (fun u hu=>by have:=HX.o u hu;omega));go_wp2_with fail;refine HPL.o.mono ?_;rintro e w8 ⟨⟨pl,vp,nn,rfl,Tm,hn8⟩,lK⟩;obtain⟨pa,pc,rfl, -, -⟩:=Tm.form;obtain⟨pn,hpn⟩:∃pn,pl.length=pn:=⟨_,rfl⟩;rw[hpn]at Tm ⊢;clear hpn;have b8:=dL.o.ext lK;obtain⟨cz,c0, -⟩:=b8.ca;have cf:=b8.frozen 0;have⟨FIN,zR⟩:=aJ (Co (w:=w) (W:=w8) (pl:=pl) hn8.2 (kH.o.trans lK.any) (Tm.keep (J:=fun b=>w.heap.size+1≤b) aB.stays (fun _ _ _ _ h=>h) (fun b hb=>by have:=kH.o.size;have:=vY.o;have:=dL.o.lt;omega)) (Ee.o.ext lK) dZ.o _ (Kp.rr.alloc (.cells #[.slice pa pn pc] 25))) b8;clear Tm lK b8 HPL;go_wp2_with fail;refine bodyPost_ret (aY lV rfl _ _ w.heap.size rfl [.slice pa pn pc] (ae.gM ((zR.o.bE 0 _).ext (Kp.rr.alloc _))) rfl) rfl ?_;exact⟨FIN.o.1,⟨_,by omega,FIN.o.2.1⟩,FIN.o.2.2⟩
theorem Km{t k:Nat}(h:Ea t k){fn:Func}{p q r s:Tmp}(hf:fn.results=#[.cell p t,.tmp q,.tmp r,.tmp s])(tmps:Array Value)(w:World)(b:Nat)(hp:tmps.getD p undef=.pointer (some ⟨b,0,none⟩))(cs:List Value)(hc:ae w b 0 cs)(hl:cs.length=k):
    (results fn tmps).run Tryz.prog w=.ok (.tuple #[.agg cs.toArray,tmps.getD q undef,tmps.getD r undef,tmps.getD s undef]) w:=by
 have hp':tmps[p]?.getD undef=.pointer (some ⟨b,0,none⟩):=by simpa using hp
 simp[results,hf,hp',asAddr,pI h hc hl]
def aaE(w w':World)(e:Ending):Prop:=∃(pl:M.ax) (pa:Option Addr) (pc:Nat) (n m:ByteArray) (a:Option Addr) (c:Nat) (args:List Int),e=.returned (.tuple #[.agg #[.slice pa pl.length pc],.string n,.string m,.slice a args.length c])∧
 SliceOf 2 aB w' (fun b=>w.heap.size≤b∧b<w'.heap.size) (.slice pa pl.length pc) pl∧SliceOf 1 jQ w' (fun b=>w.heap.size≤b) (.slice a args.length c) args∧(pl=[]∨M.dF pl=true)
theorem Pn(w:World)(v:Value)(zs:List Int)(h:BytesAt w v zs):
    Calls Tryz.prog 5 #[v] w fun e w'=>aaE w w' e∧Ext w w':=by
 obtain⟨va,vc,rfl⟩:=h.form;obtain⟨w1,jX,bH,b1⟩:=nu w #[.slice none 0 0] 25;have vY:Zs (w1.heap.size=w.heap.size+1):=Z3 (by rw[jX];simp);have⟨PU,tL,BB,eQ⟩:=gD (Y2 w1 _ zs (h.ext bH)) b1 jX bH;clear h jX bH b1;go_enter Tryz.func5,Tryz.ntmps5;go_wp2_with fail;rw[←BB.o];refine PU.o.mono ?_;rintro e w2 ⟨⟨rb,v',zs',rfl,hrb,DR⟩,bZ⟩;have HRB:=Z3 hrb;have HRL:Zs (rb<w2.heap.size):=Z3 DR.below.1;have⟨mQ,gL,HPN⟩:=bg (tL.o.ext bZ) (eQ.o.trans bZ) (Pt w2 rb 0 v' zs' 2 DR Wg Wg Wg);clear hrb DR bZ PU;go_wp2_with fail;refine HPN.o.mono ?_;rintro e w3 ⟨⟨pl,vp,rfl,hp,jM⟩,⟨q,hq,Yq⟩,nL⟩;obtain⟨pa,pc,rfl, -, -⟩:=hp.form;have Ny:=Z3 jM;clear jM;have dK:Ext w w3:=gL.o.own nL fun b e=>by have:=HRB.o;have:=vY.o;omega
 obtain⟨w4,vT,dI,b4⟩:=nu w3 #[.slice pa pl.length pc] 25;have⟨kP,Ji,EN,iG,HP4,zi⟩:=qU b4 ((mQ.o.kp nL (by have:=HRB.o;have:=vY.o;omega)).ext dI) vT (dK.trans dI) ((hp.keep (J:=fun b=>w2.heap.size≤b) aB.stays (fun _ _ _ _ h=>h) (fun b hb=>hb.1)).ext aB.stays dI) (Yq.ext dI);have HZ4:Zs (w3.heap.size<w4.heap.size∧rb<w3.heap.size∧w2.heap.size≤w3.heap.size∧rb<w2.heap.size):=Z3 ⟨by rw[vT];simp,Yq.below.1,nL.size,HRL.o⟩;clear hp Yq nL dK dI vT b4 HPN;go_wp2_with fail;rw[←EN.o];refine(Sk w4 rb q v' zs' zi.o Wg).mono ?_;rintro e w5 ⟨⟨n,m,a,c,args,rfl,ha, -, -, -⟩, -,gU⟩;have cZ:Ext w w5:=iG.o.own gU fun b e=>by have:=HRB.o;have:=vY.o;omega
 have b5:=kP.o.kp gU (by have:=HZ4.o;omega);have br:=Ji.o.kp gU (by have:=HRB.o;have:=vY.o;omega);have HP5:Zs (SliceOf 2 aB w5 (fun b=>w2.heap.size≤b) (.slice pa pl.length pc) pl):=Z3 (HP4.o.keep aB.stays (gU.same fun b hb e=>by have:=HZ4.o;omega) (fun _ h=>h));have⟨Hd,gy,afA⟩:=bg ha cZ br;obtain⟨yz,y0, -⟩:=b5.ca;obtain⟨cz,c0, -⟩:=br.ca;have cf:=br.frozen 0;clear ha gU cZ b5 br;go_wp2_with fail;refine bodyPost_ret (Km lV rfl _ _ w.heap.size rfl [.slice pa pl.length pc] (ae.gM (afA.o.bE 0 _)) rfl) rfl ?_;have hP:Kp (·=w.heap.size) w5 (w5.setCell ⟨w.heap.size,0,none⟩ (.slice pa pl.length pc)):=(Kp.refl (·=w.heap.size) w5).setCell (p:=⟨w.heap.size,0,none⟩) (fun _=>rfl) _;have hz:w.heap.size<w2.heap.size:=mQ.o.lt;have hp5:=(HP5.o.keep (J:=fun b=>w.heap.size≤b) aB.stays (hP.same fun b hb e=>by omega) (fun b hb=>by omega)).inside (fun _ _ _ _ h=>aB.inside h) Wg;have ha5:SliceOf 1 jQ (w5.setCell ⟨w.heap.size,0,none⟩ (.slice pa pl.length pc)) (fun b=>w.heap.size≤b) (.slice a args.length c) args:=Hd.o.keep jQ.stays (hP.same fun b hb e=>by have:=iG.o.size;have:=kP.o.lt;have:=HZ4.o;omega) (fun b hb=>by have:=iG.o.size;omega);exact⟨⟨pl,pa,pc,n,m,a,c,args,rfl,hp5,ha5,Ny.o⟩,gy.o.own hP fun b e=>by omega⟩
abbrev Key:=Int×ByteArray
def lH(r:Key):Value:=.agg #[.int .i64 r.1,.string r.2]
def Aj(x:Key×Int):Value×Value:=(lH x.1,.int .i64 x.2)
def jk(w:World)(b:Nat)(m:List (Key×Int)):Prop:=
 ∃es clock,w.heap[b]?=some (.map es clock)∧es.toList.map (fun e=>(e.key,e.val))=m.map Aj
def look(m:List (Key×Int))(k:Key):Option Int:=(m.find? fun x=>decide (k=x.1)).map Prod.snd
theorem xu{m:List (Key×Int)}{k:Key}{v:Int}(h:look m k=none):look (m++[(k,v)]) k=some v:=by
 unfold look at*;rw[List.find?_append];cases hf:m.find? fun x=>decide (k=x.1)
 · simp
 · rw[hf]at h;simp at h
theorem vG{m:List (Key×Int)}{k k':Key}{v:Int}(h:k'≠k):look (m++[(k,v)]) k'=look m k':=by
 unfold look;rw[List.find?_append];cases hf:m.find? fun x=>decide (k'=x.1)
 · simp[h]
 · rfl
theorem jk.lt{w:World}{b:Nat}{m:List (Key×Int)}(h:jk w b m):b<w.heap.size:=by
 obtain⟨es,c,hb,_⟩:=h;exact(Array.getElem?_eq_some_iff.1 hb).1
theorem jk.keep{w w':World}{b:Nat}{m:List (Key×Int)}(h:jk w b m)(hk:w'.heap[b]?=w.heap[b]?):jk w' b m:=by
 obtain⟨es,c,hb,e⟩:=h;exact⟨es,c,hk.trans hb,e⟩
theorem jk.kp{D:Nat→Prop}{w w':World}{b:Nat}{m:List (Key×Int)}(h:jk w b m)(hk:Kp D w w')(hd:¬D b):jk w' b m:=h.keep (hk.block b h.lt hd)
theorem jk.new(w:World):jk (w.alloc (.map #[] 0)) w.heap.size []:=⟨#[],0,heap_alloc_new w _,rfl⟩
theorem Ih(a b:Key)(w:World):(Op.equal 70 (lH a) (lH b)).run Tryz.prog w=.ok (decide (a=b)) w:=by
 unfold Op.equal lH;show(Op.equalIn 10000 _ _ _).run _ w=_
 go_simp;obtain⟨a1,a2⟩:=a;obtain⟨b1,b2⟩:=b;have e:(a2.toList=b2.toList)↔a2=b2:=by
  rw[ByteArray.toList_eq,ByteArray.toList_eq];obtain⟨⟨x⟩⟩:=a2;obtain⟨⟨y⟩⟩:=b2;simp
 simp only[e,Prod.mk.injEq];by_cases h1:a1=b1<;>by_cases h2:a2=b2<;>simp[h1,h2]
theorem lQ(em:Bool)(k:Int)(s:ByteArray)(w:World):(Instr.checkKey em 10000 70 (.agg #[.int .i64 k,.string s])).run Tryz.prog w=.ok () w:=by
 cases em<;>kernel_rfl
theorem F7:Tryz.prog.underlying 88=some (.map 70 3):=Tryz.underlying88
theorem VC:∃fs,Tryz.prog.underlying 70=some (.struct fs):=⟨_,Tryz.underlying70⟩
theorem DY(k:Key)(w:World):∀(es:List MapEntry) (m:List (Key×Int)) (i:Nat),es.map (fun e=>(e.key,e.val))=m.map Aj→
    (look m k=none∧(Instr.findAsking 70 (lH k) es i).run Tryz.prog w=.ok none w)∨
    ∃v j,look m k=some v∧(Instr.findAsking 70 (lH k) es i).run Tryz.prog w=.ok (some (j,.int .i64 v)) w:=by
 intro es;induction es with
 |nil=>
  intro m i h;cases m with
  |nil=>exact .inl ⟨rfl,rfl⟩
  |cons x r=>simp at h
 | cons e es ih =>
  intro m i h;cases m with
  |nil=>simp at h
  |cons x r=>
   simp only[List.map_cons,List.cons.injEq]at h;obtain⟨h1,h2⟩:=h;have hk:e.key=lH x.1:=congrArg Prod.fst h1;have hv:e.val=.int .i64 x.2:=congrArg Prod.snd h1;unfold Instr.findAsking;rw[hk];simp only[Sem.run_bind,Ih,Result.andThen_ok];by_cases hkx:k=x.1
   · refine .inr ⟨x.2,i,by unfold look;rw[List.find?_cons_of_pos (by simp[hkx])];rfl,?_⟩;simp[hkx,hv]
   · have hl:look (x::r) k=look r k:=by unfold look;rw[List.find?_cons_of_neg (by simp[hkx])]
     rw[hl,decide_eq_false hkx];simpa using ih r (i+1) h2
theorem uS(k:Key)(w:World)(es:List MapEntry)(m:List (Key×Int))(h:es.map (fun e=>(e.key,e.val))=m.map Aj):
    (look m k=none∧(Instr.findKey 70 (lH k) es).run Tryz.prog w=.ok none w)∨
    ∃v j,look m k=some v∧(Instr.findKey 70 (lH k) es).run Tryz.prog w=.ok (some (j,.int .i64 v)) w:=by
 obtain⟨fs,Yu⟩:=VC;unfold Instr.findKey;simp only[Sem.run_bind,run_underlying Yu,Result.andThen_ok];cases es with
 |nil=>
  cases m with
  |nil=>exact .inl ⟨rfl,rfl⟩
  |cons x r=>simp at h
 |cons e es=>
  have hn:Instr.findNow (.struct fs) (lH k) (e::es) 0=none:=by simp[Instr.findNow,Instr.sameNow]
  rw[hn];exact DY k w (e::es) m 0 h
theorem oJ{w:World}{b:Nat}{m:List (Key×Int)}(h:jk w b m)(k:Int)(s:ByteArray):
    (Instr.lookup 88 (.map (some b)) (.agg #[.int .i64 k,.string s]) true).run Tryz.prog w=.ok (.tuple #[.int .i64 ((look m (k,s)).getD 0),.bool (look m (k,s)).isSome]) w:=by
 obtain⟨es,clock,hb,he⟩:=h;unfold Instr.lookup;simp only[Sem.run_bind,run_underlying F7,Result.andThen_ok];rcases uS (k,s) w es.toList m he with⟨h1,h2⟩|⟨v,j,h1,h2⟩
 · simp only[lH]at h2;simp[getObj,Sem.run,hb,lQ,h2,h1,go_sem]
 · simp only[lH]at h2;simp[getObj,Sem.run,hb,lQ,h2,h1,go_sem]
theorem zK{w:World}{b:Nat}{m:List (Key×Int)}(h:jk w b m)(k:Int)(s:ByteArray):
    (Instr.lookup 88 (.map (some b)) (.agg #[.int .i64 k,.string s]) false).run Tryz.prog w=.ok (.int .i64 ((look m (k,s)).getD 0)) w:=by
 obtain⟨es,clock,hb,he⟩:=h;unfold Instr.lookup;simp only[Sem.run_bind,run_underlying F7,Result.andThen_ok];rcases uS (k,s) w es.toList m he with⟨h1,h2⟩|⟨v,j,h1,h2⟩
 · simp only[lH]at h2;simp[getObj,Sem.run,hb,lQ,h2,h1,go_sem]
 · simp only[lH]at h2;simp[getObj,Sem.run,hb,lQ,h2,h1,go_sem]
theorem Ph{w:World}{b:Nat}{m:List (Key×Int)}(h:jk w b m)(k:Int)(s:ByteArray)(v:Int)(hn:look m (k,s)=none):
    ∃w',(Instr.mapUpdate 88 (.map (some b)) (.agg #[.int .i64 k,.string s]) (.int .i64 v)).run Tryz.prog w=.ok () w'∧jk w' b (m++[((k,s),v)])∧Kp (·=b) w w'∧w'.heap.size=w.heap.size:=by
 obtain⟨es,clock,hb,he⟩:=h;refine⟨{w with heap:=w.heap.setIfInBounds b (.map (es.push {key:=.agg #[.int .i64 k,.string s],val:=.int .i64 v,born:=clock}) (clock+1))},?_,?_,?_,by simp⟩
 · unfold Instr.mapUpdate;simp only[Sem.run_bind,run_underlying F7,Result.andThen_ok];rcases uS (k,s) w es.toList m he with⟨h1,h2⟩|⟨v,j,h1,h2⟩
   · simp only[lH]at h2;simp[getObj,setObj,Sem.run,hb,lQ,h2,go_sem]
   · rw[h1]at hn;cases hn
 · have bY:=(Array.getElem?_eq_some_iff.1 hb).1;refine⟨_,_,by simp[bY];exact⟨rfl,rfl⟩,?_⟩;simp[he,Aj,lH]
 · refine⟨rfl,rfl,rfl,by simp,fun i hi oV=>?_⟩;simp only[Array.getElem?_setIfInBounds];rw[if_neg (fun e=>oV e.symm)]
theorem iE(w:World){ops:Array Oper}{rest:List Oper}{o:Oper}{a:Act}{Q:Exit→Act→World→Prop}
    (hg:o.guard=none) (mo x y:Operand) (fF:o.op=Op.mapUpdate 88 mo x y) (b:Nat) (m:List (Key×Int)) (k:Int) (s:ByteArray) (v:Int)
    (hm:a.eval mo=.map (some b)) (hx:a.eval x=.agg #[.int .i64 k,.string s]) (hv:a.eval y=.int .i64 v) (h:jk w b m) (hn:look m (k,s)=none)
    (hK:∀w',jk w' b (m++[((k,s),v)])→Kp (·=b) w w'→w'.heap.size=w.heap.size→wpList Tryz.prog ops Q rest (a.put o.dst undef) w'):
    wpList Tryz.prog ops Q (o::rest) a w:=by
 refine wpList_plain hg fun K' hK'=>?_;obtain⟨w',OP,r1,r2,r3⟩:=Ph h k s v hn;unfold Oper.wp;simp[execOp,fF,hm,hx,hv,OP,Result.andThen];exact hK' _ _ (hK w' r1 r2 r3)
structure aH where
 L:Nat
 O:Nat
 A:Nat
 D:Nat
structure aC(w:World)(l:aH)(p:M.ax):Prop where
 ok:M.dF p=true
 ord:l.O<l.A∧l.A<l.D∧l.D<l.L
 blk:∃a cap,ay w l.L 90 #[.slice a p.length cap,.map (some l.O),.map (some l.A),.map (some l.D)]∧SliceOf 2 aB w (· <l.O) (.slice a p.length cap) p
 own:∃m,jk w l.O m∧∀k s,look m (k,s)=(M.tu p ⟨k,s⟩).map Int.ofNat
 ask:∃m,jk w l.A m∧∀k s,look m (k,s)=M.ug p k s
 laid:∃m,jk w l.D m∧∀k s v,look m (k,s)=some v→v=if M.bu p ⟨k,s⟩then 1 else 2
theorem aC.lt{w:World}{l:aH}{p:M.ax}(h:aC w l p):l.L<w.heap.size:=by
 obtain⟨a,cap,hb,_⟩:=h.blk;exact hb.lt
theorem aC.keep{w w':World}{l:aH}{p:M.ax}(h:aC w l p)(hk:∀k,k≤l.L→w'.heap[k]?=w.heap[k]?):aC w' l p:=by
 obtain⟨o1,o2,o3⟩:=h.ord;refine⟨h.ok,h.ord,?_,?_,?_,?_⟩
 · obtain⟨a,cap,hb,hs⟩:=h.blk;exact⟨a,cap,hb.keep (hk _ (Nat.le_refl _)),hs.keep aB.stays (fun b o v hI hc=>(World.cell?_of_block (hk b Wg)).trans hc) fun _ h=>h⟩
 · obtain⟨m,hm,e⟩:=h.own;exact⟨m,hm.keep (hk _ Wg),e⟩
 · obtain⟨m,hm,e⟩:=h.ask;exact⟨m,hm.keep (hk _ Wg),e⟩
 · obtain⟨m,hm,e⟩:=h.laid;exact⟨m,hm.keep (hk _ Wg),e⟩
theorem aC.kp{D:Nat→Prop}{w w':World}{l:aH}{p:M.ax}(h:aC w l p)(hk:Kp D w w')(hD:∀k,k≤l.L→¬D k):aC w' l p:=
 h.keep fun k Bn=>hk.block k (by have:=h.lt;omega) (hD k Bn)
theorem aC.ext{w w':World}{l:aH}{p:M.ax}(h:aC w l p)(hk:Ext w w'):aC w' l p:=h.kp hk fun _ _ x=>x
theorem aC.Ka{w:World}{l:aH}{p:M.ax}(h:aC w l p):∀W,Ext w W→∀k s,
    (Instr.lookup 88 (.map (some l.O)) (.agg #[.int .i64 k,.string s]) true).run Tryz.prog W=
     .ok (.tuple #[.int .i64 (((M.tu p ⟨k,s⟩).map Int.ofNat).getD 0),.bool (M.tu p ⟨k,s⟩).isSome]) W:=by
 intro W hW k s;obtain⟨m,hm,e⟩:=h.own;rw[oJ (hm.kp hW fun x=>x),e];simp
theorem aC.VH{w:World}{l:aH}{p:M.ax}(h:aC w l p):∀W,Ext w W→∀k s,
    (Instr.lookup 88 (.map (some l.O)) (.agg #[.int .i64 k,.string s]) false).run Tryz.prog W=
     .ok (.int .i64 (((M.tu p ⟨k,s⟩).map Int.ofNat).getD 0)) W:=by
 intro W hW k s;obtain⟨m,hm,e⟩:=h.own;rw[zK (hm.kp hW fun x=>x),e]
theorem aC.J9{w:World}{l:aH}{p:M.ax}(h:aC w l p):∀W,Ext w W→∀k s,
    (Instr.lookup 88 (.map (some l.A)) (.agg #[.int .i64 k,.string s]) true).run Tryz.prog W=
     .ok (.tuple #[.int .i64 ((M.ug p k s).getD 0),.bool (M.ug p k s).isSome]) W:=by
 intro W hW k s;obtain⟨m,hm,e⟩:=h.ask;rw[oJ (hm.kp hW fun x=>x),e]
theorem aC.cells{w:World}{l:aH}{p:M.ax}(h:aC w l p):∃a cap,SliceOf 2 aB w (· <l.O) (.slice a p.length cap) p∧(∀W,Ext w W→W.cell? ⟨l.L,0,none⟩=some (.slice a p.length cap))∧
    (∀W,Ext w W→W.cell? ⟨l.L,1,none⟩=some (.map (some l.O)))∧(∀W,Ext w W→W.cell? ⟨l.L,2,none⟩=some (.map (some l.A)))∧(∀W,Ext w W→W.cell? ⟨l.L,3,none⟩=some (.map (some l.D))):=by
 obtain⟨a,cap,hb,hs⟩:=h.blk;exact⟨a,cap,hs,fun W hW=>Kp.aD hW (hb.c 0 _ rfl),fun W hW=>Kp.aD hW (hb.c 1 _ rfl),fun W hW=>Kp.aD hW (hb.c 2 _ rfl),fun W hW=>Kp.aD hW (hb.c 3 _ rfl)⟩
theorem all_succ{α:Type}{p:α→Bool}{l:List α}{k:Nat}{x:α}(h:(l.take k).all p=true)(hx:l[k]?=some x)(hp:p x=true):(l.take (k+1)).all p=true:=by
 rw[List.take_add_one,hx,List.all_append,h];simp[hp]
theorem l6{α:Type}{p:α→Bool}{l:List α}{k:Nat}{x:α}(hx:l[k]?=some x)(hp:p x=false):l.all p=false:=
 List.all_eq_false.2 ⟨x,List.mem_of_getElem? hx,by simp[hp]⟩
theorem kD{α:Type}{p:α→Bool}{l:List α}{k:Nat}(h:(l.take k).all p=true)(hk:l.length≤k):l.all p=true:=by
 rw[List.take_of_length_le hk]at h;exact h
theorem get_some{α:Type}{l:List α}{k:Nat}(h:k<l.length):∃x,l[k]?=some x:=⟨_,List.getElem?_eq_getElem h⟩
theorem KA(w:World)(I:Nat→Prop)(v:Value)(l:List M.Tag)(h:SliceOf 2 eB w I v l):
    Calls Tryz.prog 172 #[v] w fun e w'=>e=.returned (.bool (M.rU l))∧Ext w w':=by
 obtain⟨a,cap,rfl,hn,dm⟩:=h.form;go_enter Tryz.func172,Tryz.ntmps172;go_wp2;go_loopw [7] (fun i wr=>∃k:Nat,k≤l.length∧i=.int .i64 k∧Ext w wr∧Zs ((l.take k).all M.nI=true)) (fun i _=>l.length - (intOf i).toNat)
 case atStart=>exact⟨0,Nat.zero_le _,rfl,Kp.rr,Z3 Wf⟩
 case round =>
  obtain⟨k,hk,rfl,hE,HA⟩:=hrel;by_cases bY:k<l.length
  · obtain⟨x,hx⟩:=get_some bY;obtain⟨b,off,cs,rfl,hI,rfl, -,hc⟩:=h.get hx;obtain⟨g0,g1⟩:=(hc.ext hE).two;have HX:=Z3 hx;clear hx hc;cases ht:M.nI x
    all_goals
     have HT:=Z3 ht;clear ht;go_wp2_with (go_at_call 189;refine(aca x _).mono ?_;rintro e w1 ⟨rfl,hB⟩;rw[HT.o])
    · go_ret;exact⟨af (l6 HX.o HT.o).symm,ZS⟩
    · go_roundw
      case rel=>exact⟨k+1,by omega,by go_num,ZS,Z3 (all_succ HA.o HX.o HT.o)⟩
      case measure=>simp[intOf];omega
  · go_wp2;go_ret;exact⟨af (kD HA.o Wg).symm,kx⟩
theorem XU (w : World) (I : Nat → Prop) (cs : List Value) (m : M.Method) (h : aG w I m cs) :
    Calls Tryz.prog 142 #[.agg cs.toArray] w fun e w'=>e=.returned (.bool (M.codeOk m))∧Ext w w':=by
 obtain⟨va,vc,vm,rfl,h1,h2,h3⟩:=h;obtain⟨a,cap,rfl,hn,dm⟩:=h2.form;by_cases Bo:m.code.length<1
 · go_enter Tryz.func142,Tryz.ntmps142;go_wp2;go_ret;exact⟨af (by unfold M.codeOk;rw[decide_eq_false Wg];rfl),kx⟩
 by_cases Hw:16<m.code.length
 · go_enter Tryz.func142,Tryz.ntmps142;go_wp2;go_ret;exact⟨af (by unfold M.codeOk;rw[decide_eq_false (p:=m.code.length≤16) Wg];simp),kx⟩
 have HL:Zs (M.codeOk m=m.code.all (M.iZ m)):=Z3 (by
  unfold M.codeOk;rw[decide_eq_true Wg,decide_eq_true Wg];rfl)
 go_enter Tryz.func142,Tryz.ntmps142;go_wp2;have aU:Ext w (w.alloc (.cells #[.string m.name,va,.int .i64 m.ret.kind,.string m.ret.name,.int .i64 m.locals,.int .i64 m.stack,.slice a m.code.length cap,vm] 106)):=(Kp.rr.alloc _);have b0:=ay.new w 106 #[.string m.name,va,.int .i64 m.ret.kind,.string m.ret.name,.int .i64 m.locals,.int .i64 m.stack,.slice a m.code.length cap,vm];obtain⟨-, -, -, -, -,p4, -,p6, -⟩:=b0.ca;go_loopw [18] (fun i wr=>∃k:Nat,k≤m.code.length∧i=.int .i64 k∧Ext (w.alloc (.cells #[.string m.name,va,.int .i64 m.ret.kind,.string m.ret.name,.int .i64 m.locals,.int .i64 m.stack,.slice a m.code.length cap,vm] 106)) wr∧Zs ((m.code.take k).all (M.iZ m)=true)) (fun i _=>m.code.length - (intOf i).toNat)
 case atStart=>exact⟨0,Nat.zero_le _,rfl,Kp.rr,Z3 Wf⟩
 case round =>
  obtain⟨k,hk,rfl,hE,HA⟩:=hrel;by_cases bY:k<m.code.length
  · obtain ⟨x, hx⟩ := get_some bY; obtain ⟨b, off, cs, rfl, hI, rfl, -, hc⟩ := h2.get hx; obtain ⟨g0, g1, g2, g3⟩ := ((hc.ext aU).ext hE).four; have q4 := hE.aD p4; have q6 := hE.aD p6; have HX := Z3 hx; clear hx hc p4 p6; cases ht : M.eH x
    · have HT:=Z3 ht;clear ht;go_wp2_with (go_at_call 171;refine(Vv x _).mono ?_;rintro e w1 ⟨rfl,hB⟩;rw[HT.o]);go_ret;exact⟨af (by rw[HL.o];exact(l6 HX.o (by unfold M.iZ;rw[HT.o];rfl)).symm),ZS⟩
    · have HT := Z3 ht; clear ht; go_wp2_with (go_at_call 171; refine (Vv x _).mono ?_; rintro e w1 ⟨rfl, hB⟩; rw [HT.o]; have r4 := hB.P5 q4; have r6 := hB.P5 q6; obtain ⟨mE, hf1⟩ := Lp hB)
      all_goals first
       | (go_ret
          exact⟨af (by
           rw[HL.o];exact(l6 HX.o (by unfold M.iZ;rw[HT.o];(repeat' split)<;>simp<;>simp_all<;>omega)).symm),ZS⟩)
       | (go_roundw
          case rel=>
           exact⟨k+1,by omega,by go_num,ZS,Z3 (all_succ HA.o HX.o (by
            unfold M.iZ;rw[HT.o];(repeat' split)<;>simp<;>simp_all<;>omega))⟩
          case measure=>simp[intOf];omega)
  · go_wp2;go_ret;exact⟨af (by rw[HL.o];exact(kD HA.o Wg).symm),ZS⟩
theorem drop_at{α:Type}{l:List α}{k:Nat}{x:α}(h:l[k]?=some x):l.drop k=x::l.drop (k+1):=by
 obtain⟨hk,e⟩:=List.getElem?_eq_some_iff.1 h;rw[List.drop_eq_getElem_cons hk,e]
theorem Ic{m:M.Method}{last:Int}{k:Nat}{x:M.SMap}(h:m.maps[k]?=some x):
    M.dH m last (m.maps.drop k)=(decide (last<x.at_)&&M.rE m x&&M.dH m x.at_ (m.maps.drop (k+1))):=by
 rw[drop_at h];rfl
theorem AQ(m:M.Method)(f:M.SMap):M.rE m f=(decide (f.at_ <m.code.length)&&decide ((f.locals.length:Int)=m.locals)&&decide ((f.stack.length:Int)≤m.stack)&&M.rU f.locals&&M.rU f.stack):=rfl
theorem YU (w : World) (I : Nat → Prop) (cs : List Value) (m : M.Method) (h : aG w I m cs) :
    Calls Tryz.prog 143 #[.agg cs.toArray] w fun e w'=>e=.returned (.bool (M.nG m))∧Ext w w':=by
 obtain⟨va,vc,vm,rfl,h1,h2,h3⟩:=h;obtain⟨a,cap,rfl,hn,dm⟩:=h3.form;obtain⟨a2,cap2,rfl,yD,LQ⟩:=h2.form;by_cases Bo:5<m.maps.length
 · go_enter Tryz.func143,Tryz.ntmps143;go_wp2;go_ret;exact⟨af (by unfold M.nG;rw[decide_eq_false Wg];rfl),kx⟩
 have HL:Zs (M.nG m=M.dH m 0 m.maps):=Z3 (by
  unfold M.nG;rw[decide_eq_true Wg];rfl)
 go_enter Tryz.func143,Tryz.ntmps143;go_wp2;have b0:=ay.new w 106 #[.string m.name,va,.int .i64 m.ret.kind,.string m.ret.name,.int .i64 m.locals,.int .i64 m.stack,.slice a2 m.code.length cap2,.slice a m.maps.length cap];obtain⟨-, -, -, -, -,p4,p5,p6, -⟩:=b0.ca;have aU:Ext w (w.alloc (.cells #[.string m.name,va,.int .i64 m.ret.kind,.string m.ret.name,.int .i64 m.locals,.int .i64 m.stack,.slice a2 m.code.length cap2,.slice a m.maps.length cap] 106)):=(Kp.rr.alloc _);generalize (w.alloc (.cells #[.string m.name,va,.int .i64 m.ret.kind,.string m.ret.name,.int .i64 m.locals,.int .i64 m.stack,.slice a2 m.code.length cap2,.slice a m.maps.length cap] 106))=w0 at*;go_loopw [13,3] (fun i la wr=>∃k:Nat,∃last:Int,k≤m.maps.length∧i=.int .i64 k∧la=.int .i64 last∧Ext w0 wr∧Zs (M.dH m 0 m.maps=M.dH m last (m.maps.drop k))) (fun i _ _=>m.maps.length - (intOf i).toNat)
 case atStart=>exact⟨0,0,Nat.zero_le _,rfl,rfl,Kp.rr,Z3 Wf⟩
 case round =>
  obtain⟨k,last,hk,rfl,rfl,hE,HA⟩:=hrel;by_cases bY:k<m.maps.length
  · obtain⟨x,hx⟩:=get_some bY;obtain⟨b,off,cs,rfl,hI,⟨vl,vs,rfl,s1,s2⟩, -,hc⟩:=h3.get hx;obtain⟨a3,ahT,rfl,U8,ahE⟩:=s1.form;obtain⟨a4,cap4,rfl,U9,ahF⟩:=s2.form;obtain⟨g0,g1,g2⟩:=((hc.ext aU).ext hE).three;have q4:=hE.aD p4;have q5:=hE.aD p5;have q6:=hE.aD p6;have hz:=aF q6;have⟨S1,S2,HC⟩:=bg ((s1.ext eB.stays aU).ext eB.stays hE) ((s2.ext eB.stays aU).ext eB.stays hE) (Ic (last:=last) hx);clear hx hc p4 p5 p6 s1 s2;by_cases t1:x.at_≤last
    · go_wp2;go_ret;exact⟨af (by rw[HL.o,HA.o,HC.o,decide_eq_false Wg];rfl),ZS⟩
    by_cases t2:(m.code.length:Int)≤x.at_
    · go_wp2;go_ret;exact⟨af (by rw[HL.o,HA.o,HC.o,AQ,decide_eq_false (p:=x.at_ <m.code.length) Wg];simp),ZS⟩
    by_cases t3:(x.locals.length:Int)=m.locals
    case neg=>
     have t3':((x.locals.length:Int)==m.locals)=false:=beq_eq_false_iff_ne.2 t3;go_wp2;go_ret;exact⟨af (by rw[HL.o,HA.o,HC.o,AQ,decide_eq_false (p:=(x.locals.length:Int)=m.locals) t3];simp),ZS⟩
    have T3:=Z3 t3;have t3':((x.locals.length:Int)==m.locals)=true:=beq_iff_eq.2 t3;clear t3;by_cases t4:m.stack<(x.stack.length:Int)
    · go_wp2;go_ret;exact⟨af (by rw[HL.o,HA.o,HC.o,AQ,decide_eq_false (p:=(x.stack.length:Int)≤m.stack) Wg];simp),ZS⟩
    have HM:Zs (M.rE m x=(M.rU x.locals&&M.rU x.stack)):=Z3 (by
     rw[AQ,decide_eq_true (p:=x.at_ <m.code.length) Wg,decide_eq_true (p:=(x.locals.length:Int)=m.locals) T3.o,decide_eq_true (p:=(x.stack.length:Int)≤m.stack) Wg];rfl)
    have HT:Zs (decide (last<x.at_)=true):=Z3 (decide_eq_true Wg);cases ht1:M.rU x.locals
    · have HT1:=Z3 ht1;clear ht1;go_wp2_with fail;refine(KA _ _ _ _ (S1.o.ext eB.stays (Kp.rr.alloc _))).mono ?_;rintro e w1 ⟨rfl,hB⟩;rw[HT1.o];go_wp2;go_ret;exact⟨af (by rw[HL.o,HA.o,HC.o,HM.o,HT1.o];simp),ZS⟩
    · have HT1:=Z3 ht1;clear ht1;go_wp2_with fail;refine(KA _ _ _ _ (S1.o.ext eB.stays (Kp.rr.alloc _))).mono ?_;rintro e w1 ⟨rfl,hB⟩;rw[HT1.o];obtain⟨mE,hf1⟩:=Lp hB;cases NH:M.rU x.stack
      all_goals
       have wI:=Z3 NH;clear NH;go_wp2_with fail;refine(KA _ _ _ _ ((S2.o.ext eB.stays (Kp.rr.alloc _)).ext eB.stays hB)).mono ?_;rintro e w2 ⟨rfl,hB2⟩;rw[wI.o];go_wp2
      · go_ret;exact⟨af (by rw[HL.o,HA.o,HC.o,HM.o,HT1.o,wI.o];simp),ZS⟩
      · go_roundw
        case rel=>exact⟨k+1,x.at_,by omega,by go_num,rfl,ZS,Z3 (by rw[HA.o,HC.o,HM.o,HT.o,HT1.o,wI.o];rfl)⟩
        case measure=>simp[intOf];omega
  · go_wp2;go_ret;exact⟨af (by rw[HL.o,HA.o,List.drop_of_length_le Wg];rfl),ZS⟩
theorem ae.Gb{w:World}{g:Nat}{t:TypeId}{cs:Array Value}(h:ay w g t cs)(l:List Value)(e:cs.toList=l):ae w g 0 l:=by
 intro j v hj;subst e;rw[Nat.zero_add];exact h.c j v (by simpa using hj)
theorem VV(m:M.Method):M.jA m=(M.aT m.name&&decide (m.args.length≤3)&&M.fe m.ret&&m.args.all M.fe&&
 decide ((m.args.length:Int)+1≤m.locals)&&decide (m.locals≤6)&&decide (1≤m.stack)&&decide (m.stack≤5)&&M.codeOk m&&M.nG m):=rfl
theorem ab4(w:World)(I:Nat→Prop)(cs:List Value)(m:M.Method)(h:aG w I m cs):
    Calls Tryz.prog 119 #[.agg cs.toArray] w fun e w'=>e=.returned (.bool (M.jA m))∧Ext w w':=by
 have HM:=Z3 h;obtain⟨va,vc,vm,rfl,h1,h2,h3⟩:=h;obtain⟨a,cap,rfl,hn,dm⟩:=h1.form;have aU:Ext w (w.alloc (.cells #[.string m.name,.slice a m.args.length cap,.int .i64 m.ret.kind,.string m.ret.name,.int .i64 m.locals,.int .i64 m.stack,vc,vm] 106)):=(Kp.rr.alloc _);have b0:=ay.new w 106 #[.string m.name,.slice a m.args.length cap,.int .i64 m.ret.kind,.string m.ret.name,.int .i64 m.locals,.int .i64 m.stack,vc,vm];have P0:=Z3 (ae.Gb b0 _ rfl);clear b0;have HE:=Z3 (VV m);cases yF:M.aT m.name
 · have HN:=Z3 yF;clear yF;go_enter Tryz.func119,Tryz.ntmps119;go_wp2_with (go_at_call 17;refine(iK _ _).mono ?_;rintro e w1 ⟨rfl,rfl⟩;rw[HN.o]);go_ret;exact⟨af (by rw[HE.o,HN.o];rfl),kx⟩
 have HN:=Z3 yF;clear yF;by_cases hl:3<m.args.length
 · go_enter Tryz.func119,Tryz.ntmps119;go_wp2_with (go_at_call 17;refine(iK _ _).mono ?_;rintro e w1 ⟨rfl,rfl⟩;rw[HN.o]);go_ret;exact⟨af (by rw[HE.o,decide_eq_false (p:=m.args.length≤3) Wg];simp),kx⟩
 cases hr:M.fe m.ret
 · have HR:=Z3 hr;clear hr;go_enter Tryz.func119,Tryz.ntmps119;go_wp2_with (first|(go_at_call 17;refine(iK _ _).mono ?_;rintro e w1 ⟨rfl,rfl⟩;rw[HN.o])|(go_at_call 118;refine(Ca m.ret _).mono ?_;rintro e w1 ⟨rfl,hB⟩;rw[HR.o]));go_ret;exact⟨af (by rw[HE.o,HR.o];simp),ZS⟩
 have HR:=Z3 hr;clear hr;go_enter Tryz.func119,Tryz.ntmps119;go_wp2_with fail;refine(iK _ _).mono ?_;rintro e w1 ⟨rfl,rfl⟩;rw[HN.o];go_wp2_with fail;refine(Ca m.ret _).mono ?_;rintro e w1 ⟨rfl,hB⟩;rw[HR.o];generalize (w.alloc (.cells #[.string m.name,.slice a m.args.length cap,.int .i64 m.ret.kind,.string m.ret.name,.int .i64 m.locals,.int .i64 m.stack,vc,vm] 106))=w0 at*;have P1:=Z3 (P0.o.ext hB);have bH:=aU.trans hB;clear aU hB P0;obtain⟨p0,p1,p2,p3,p4,p5,p6,p7⟩:=P1.o.eight;simp only[Nat.zero_add]at p1 p2 p3 p4 p5 p6 p7;go_wp2;clear p0 p1 p2 p3 p4 p5 p6 p7;go_loopw [24] (fun i wr=>∃k:Nat,k≤m.args.length∧i=.int .i64 k∧Ext w1 wr∧Zs ((m.args.take k).all M.fe=true)) (fun i _=>m.args.length - (intOf i).toNat)
 case atStart=>exact⟨0,Nat.zero_le _,rfl,Kp.rr,Z3 Wf⟩
 case round =>
  obtain⟨k,hk,rfl,hE,HA⟩:=hrel;by_cases bY:k<m.args.length
  · obtain⟨x,hx⟩:=get_some bY;obtain⟨b,off,cs,rfl,hI,rfl, -,hc⟩:=h1.get hx;obtain⟨g0,g1⟩:=((hc.ext bH).ext hE).two;have HX:=Z3 hx;clear hx hc;cases ht:M.fe x
    all_goals
     have HT:=Z3 ht;clear ht;go_wp2_with (go_at_call 118;refine(Ca x _).mono ?_;rintro e w2 ⟨rfl,hB⟩;rw[HT.o])
    · go_ret;exact⟨af (by rw[HE.o,l6 HX.o HT.o];simp),ZS⟩
    · go_roundw
      case rel=>exact⟨k+1,by omega,by go_num,ZS,Z3 (all_succ HA.o HX.o HT.o)⟩
      case measure=>simp[intOf];omega
  · have zQ:Zs (m.args.all M.fe=true):=Z3 (kD HA.o Wg);clear HA;obtain⟨p0,p1,p2,p3,p4,p5,p6,p7⟩:=(P1.o.ext hE).eight;simp only[Nat.zero_add]at p1 p2 p3 p4 p5 p6 p7;by_cases t1:m.locals<(m.args.length:Int)+1
    · go_wp2;go_ret;exact⟨af (by rw[HE.o,decide_eq_false (p:=(m.args.length:Int)+1≤m.locals) Wg];simp),ZS⟩
    by_cases t2:6<m.locals
    · go_wp2;go_ret;exact⟨af (by rw[HE.o,decide_eq_false (p:=m.locals≤6) Wg];simp),ZS⟩
    by_cases t3:m.stack<1
    · go_wp2;go_ret;exact⟨af (by rw[HE.o,decide_eq_false (p:=1≤m.stack) Wg];simp),ZS⟩
    by_cases t4:5<m.stack
    · go_wp2;go_ret;exact⟨af (by rw[HE.o,decide_eq_false (p:=m.stack≤5) Wg];simp),ZS⟩
    have HF:Zs (M.jA m=(M.codeOk m&&M.nG m)):=Z3 (by
     rw[HE.o,HN.o,HR.o,zQ.o,decide_eq_true (p:=m.args.length≤3) Wg,decide_eq_true (p:=(m.args.length:Int)+1≤m.locals) Wg,decide_eq_true (p:=m.locals≤6) Wg,decide_eq_true (p:=1≤m.stack) Wg,decide_eq_true (p:=m.stack≤5) Wg];rfl)
    have UI:=bH.trans hE;have Jk:=Z3 (aG.stays _ _ _ _ _ _ (Ext.same UI) (fun _ h=>h) HM.o);go_wp2_with fail;refine(XU _ _ _ _ Jk.o).mono ?_;rintro e w2 ⟨rfl,hB⟩;cases ht:M.codeOk m
    · have HT:=Z3 ht;clear ht;go_wp2;go_ret;exact⟨af (by rw[HF.o,HT.o];rfl),ZS⟩
    · have HT:=Z3 ht;clear ht;clear p0 p1 p2 p3 p4 p5 p6 p7;obtain⟨p0,p1,p2,p3,p4,p5,p6,p7⟩:=((P1.o.ext hE).ext hB).eight;simp only[Nat.zero_add]at p1 p2 p3 p4 p5 p6 p7;go_wp2_with fail;refine(YU _ _ _ _ (aG.stays _ _ _ _ _ _ (Ext.same hB) (fun _ h=>h) Jk.o)).mono ?_;rintro e w3 ⟨rfl,Hp⟩;go_wp2;go_ret;exact⟨af (by rw[HF.o,HT.o];rfl),ZS⟩
end Go.Proofs.YtkmclfpjpajjeaaGreat
