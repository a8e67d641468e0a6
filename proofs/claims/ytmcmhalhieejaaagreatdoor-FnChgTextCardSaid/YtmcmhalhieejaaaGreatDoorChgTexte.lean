/- Walks. -/
import Derived.Test.YtmcmhalhieejaaaGreatDoorChgTextd
set_option maxRecDepth 100000
set_option maxHeartbeats 4000000
set_option linter.unusedSimpArgs false
set_option linter.unusedVariables false
namespace Go.Proofs.YtmcmhalhieejaaaGreatDoor
open Go Go.RowKit
theorem jq:rZ 81 8:=⟨_,Tryz.underlying81,by kernel_rfl⟩
theorem yY:Elem 77 73 2:=fT (z:=.agg #[.int .i64 0,.string ⟨#[]⟩]) (bytes:=24) Tryz.underlying77 (by kernel_rfl) rfl (by decide) (by decide)
def wH(x:M.Kind):List Value:=[.int .i64 x.kind,.string x.name]
def lU(m:Nat)(w w':World)(e:Ending):Prop:=∃n va rk rn l2 l3 b,e=.returned (.tuple #[.agg #[.string n,va,.int .i64 rk,.string rn,.int .i64 l2,.int .i64 l3,.slice none 0 0,.slice none 0 0],.bool b])∧n.size≤m∧∃ks,SliceOf 2 jo w' (fun b=>w.heap.size≤b∧b<w'.heap.size) va ks
theorem lU.zero(m:Nat)(w w':World)(b:Bool):lU m w w' (.returned (.tuple #[.agg #[.string ⟨#[]⟩,.slice none 0 0,.int .i64 0,.string ⟨#[]⟩,.int .i64 0,.int .i64 0,.slice none 0 0,.slice none 0 0],.bool b])):=
 ⟨_,_,_,_,_,_,b,rfl,Nat.zero_le _,[],SliceOf.nil _ _ _ _⟩
theorem rM(xs:List ByteArray)(v:Value)(m:Nat)(hm:m≤4000000000)(I:Nat→Prop)(w:World)(hv:SliceOf 1 aY w I v xs)(gL:∀x∈xs,x.size≤m):
    Calls Tryz.prog 87 #[v] w fun e w'=>lU m w w' e∧Ext w w':=by
 obtain⟨a,cap,rfl,bK, -⟩:=hv.form;obtain⟨n,hn⟩:∃n,xs.length=n:=⟨_,rfl⟩;rw[hn]at bK hv ⊢;by_cases h5:n<5
 · have d5:(n:Int)<5:=by omega
   clear hn hv;go_enter Tryz.func87,Tryz.ntmps87;go_wp2_with fail
   all_goals
    refine bodyPost_ret (ae jq rfl _ _ w.heap.size rfl [.string ⟨#[]⟩,.slice none 0 0,.int .i64 0,.string ⟨#[]⟩,.int .i64 0,.int .i64 0,.slice none 0 0,.slice none 0 0] (af.bN _ _ rfl) rfl) rfl ?_;exact⟨lU.zero _ _ _ _,kx⟩
 by_cases h8:8<n
 · have d5:¬(n:Int)<5:=by omega
   have d8:(8:Int)<n:=by omega
   clear hn hv;go_enter Tryz.func87,Tryz.ntmps87;go_wp2_with fail
   all_goals
    refine bodyPost_ret (ae jq rfl _ _ w.heap.size rfl [.string ⟨#[]⟩,.slice none 0 0,.int .i64 0,.string ⟨#[]⟩,.int .i64 0,.int .i64 0,.slice none 0 0,.slice none 0 0] (af.bN _ _ rfl) rfl) rfl ?_;exact⟨lU.zero _ _ _ _,kx⟩
 have d5:¬(n:Int)<5:=by omega
 have d8:¬(8:Int)<n:=by omega
 obtain⟨x1,o8⟩:∃x,xs[1]?=some x:=⟨xs[1]'(by omega),List.getElem?_eq_getElem (by omega)⟩;obtain⟨x2,zL⟩:∃x,xs[2]?=some x:=⟨xs[2]'(by omega),List.getElem?_eq_getElem (by omega)⟩;obtain⟨x3,J5⟩:∃x,xs[3]?=some x:=⟨xs[3]'(by omega),List.getElem?_eq_getElem (by omega)⟩;obtain⟨x4,J6⟩:∃x,xs[4]?=some x:=⟨xs[4]'(by omega),List.getElem?_eq_getElem (by omega)⟩;obtain⟨b,off,rfl,g1⟩:=aY.at_ hv o8;obtain⟨_,_,e1,g2⟩:=aY.at_ hv zL;cases e1;obtain⟨_,_,e1,g3⟩:=aY.at_ hv J5;cases e1;obtain⟨_,_,e1,g4⟩:=aY.at_ hv J6;cases e1;have s1:=gL x1 (List.mem_of_getElem? o8);have s2:=gL x2 (List.mem_of_getElem? zL);have s3:=gL x3 (List.mem_of_getElem? J5);have s4:=gL x4 (List.mem_of_getElem? J6);have gz:=ax g1;have HV:=Zy hv;have HN:=Zy hn;have ik:=fun W=>Zy (aJ x1 W);clear hv hn o8 zL J5 J6;obtain⟨w0,bB⟩:∃w0,w0=w.alloc (.cells #[.string ⟨#[]⟩,.slice none 0 0,.int .i64 0,.string ⟨#[]⟩,.int .i64 0,.int .i64 0,.slice none 0 0,.slice none 0 0] 81):=⟨_,rfl⟩;have bH:Ext w w0:=by rw[bB];exact kx
 have HB:Zz (az w0 w.heap.size 81 #[.string ⟨#[]⟩,.slice none 0 0,.int .i64 0,.string ⟨#[]⟩,.int .i64 0,.int .i64 0,.slice none 0 0,.slice none 0 0]):=Zy (by rw[bB];exact az.new _ _ _);have p1:=bH.aj g1;have p2:=bH.aj g2;have p3:=bH.aj g3;have p4:=bH.aj g4;have pz:=ax p1;have aZ:=Zy bH;have O1:=Zy g1;clear bH;cases qZ:M.aB x1<;>simp only[qZ]at ik
 · go_enter Tryz.func87,Tryz.ntmps87;subst bB;go_wp2_with fail;refine(ik _).o.mono ?_;rintro e w5 ⟨rfl,rfl⟩;go_wp2_with fail;refine bodyPost_ret (ae jq rfl _ _ w.heap.size rfl [.string ⟨#[]⟩,.slice none 0 0,.int .i64 0,.string ⟨#[]⟩,.int .i64 0,.int .i64 0,.slice none 0 0,.slice none 0 0] (af.bN _ _ rfl) rfl) rfl ?_;exact⟨lU.zero _ _ _ _,kx⟩
 have bZ:=Zy bB;clear bB;go_enter Tryz.func87,Tryz.ntmps87;go_wp2_with fail;rw[←bZ.o];go_wp2_with fail;refine(ik _).o.mono ?_;rintro e w5 ⟨rfl,rfl⟩;go_wp2_with fail;refine(dW x2 _ (by omega)).mono ?_;rintro e w1 ⟨⟨l2,Kg,rfl, -, -, -⟩,aQ⟩;have t3:=aQ.aj p3;have t4:=aQ.aj p4;have t1:=aQ.aj p1;have tz:=ax t1;have gJ:=Zy (HB.o.ext aQ);have bM:=Zy (aZ.o.trans aQ);clear aQ p1 p2 p3 p4 pz;go_wp2_with fail;refine(dW x3 _ (by omega)).mono ?_;rintro e w2 ⟨⟨l3,wM,rfl, -, -, -⟩,dm⟩;have r4:=dm.aj t4;have r1:=dm.aj t1;have rz:=ax r1;have iK:=Zy (gJ.o.ext dm);have bX:=Zy (bM.o.trans dm);clear dm t1 t3 t4 tz;go_wp2_with fail;refine(jG x4 _).mono ?_;rintro e w3 ⟨⟨rk,rn,OE,rfl,PM⟩,dX⟩;obtain⟨w4,wE,dw,F3⟩:=nu w3 #[.int .i64 rk,.string rn] 73;have Bh:=dX.trans dw;have q1:=Bh.aj r1;have iq:=Zy (iK.o.ext Bh);have pq:=Zy (bX.o.trans Bh);have Nh:=Zy wE;obtain⟨T,f,fZ,HT⟩:=jS.ex (fun W'=>Ext w4 W') w4 (Kp.refl _ _);have y1:=fun z=>(HT.aK z).aj q1;have y2:=fun z=>(HT.aK z).aj (F3.c 0 (.int .i64 rk) rfl);have y3:=fun z=>(HT.aK z).aj (F3.c 1 (.string rn) rfl);have ay:=Zy HT;clear HT dX dw Bh wE r1 r4 rz q1 F3;go_wp2_with fail;rw[←Nh.o];(refine ji ay 8 [([0,1,2,3,4,5,6],7)] [] ?_ ?_)
 · exact(Kp.refl _ _).drew
 (refine dR [_,_,_,_,_,_,_] rfl rfl fun K hK=>?_);(repeat (go_big_quiet_step (fail)));(refine qn hK fun K2 au=>?_);clear hK K;go_wp2_with fail;(refine kk ay au kx ?_);clear au K2;(refine jC ?_);go_wp2_with fail;obtain⟨w5,dA⟩:∃w5,w5=(w4.alloc (.cells #[.string x1,.slice none 0 0,.int .i64 rk,.string rn,.int .i64 l2,.int .i64 l3,.slice none 0 0,.slice none 0 0] 81)).drew:=⟨_,rfl⟩;have bg:Ext w4 w5:=by rw[dA];exact kx
 have jl:Zz (az w5 w4.heap.size 81 #[.string x1,.slice none 0 0,.int .i64 rk,.string rn,.int .i64 l2,.int .i64 l3,.slice none 0 0,.slice none 0 0]):=Zy (by rw[dA];exact(az.new _ _ _).ext ((Kp.refl _ _).drew));have eQ:=Zy (iq.o.ext bg);have fF:=Zy (pq.o.trans bg);have IY:=Zy (HV.o.ext aY.stays fF.o);have yM:Zz (w5.heap.size=w4.heap.size+1):=Zy (by rw[dA];simp);have dI:b<w4.heap.size:=by have:=pq.o.size;omega
 have hle:w.heap.size<w4.heap.size:=iq.o.lt;have kV:=Zy dA;clear bg dA y1 y2 y3 g1 g2 g3 g4 gz ay;rw[←kV.o];go_loopw [11] (fun i wr=>∃(k:Nat) (vl:Value) (ls:List M.Kind),5≤k∧k≤n∧i=.int .i64 k∧ls.length≤k∧az wr w4.heap.size 81 #[.string x1,vl,.int .i64 rk,.string rn,.int .i64 l2,.int .i64 l3,.slice none 0 0,.slice none 0 0]∧
     wr.ownsRow (w4.heap.size+1) 73 2 vl ls.length (ls.flatMap wH)∧Kp (·=w4.heap.size) w5 wr) (fun i _=>n - (intOf i).toNat)
 case atStart=>
  exact⟨5,_,[],Nat.le_refl _,by omega,rfl,by simp,jl.o,⟨rfl,.inl ⟨rfl,rfl⟩⟩,Kp.refl _ _⟩
 case round =>
  obtain⟨k,vl,ls,k2,kn,rfl,F7,hC,Dy,Dv⟩:=hrel;obtain⟨la,lc,rfl⟩:=jD Dy;have jT:=Zy (eQ.o.kp Dv (by omega));have qN:=Zy hC;have vU:=Zy Dy;have vT:=Zy Dv;clear hC Dy Dv;by_cases Ob:k<n
  · have dk:(k:Int)<n:=by omega
    obtain⟨x,hx⟩:∃x,xs[k]?=some x:=⟨xs[k]'(by have:=HN.o;omega),List.getElem?_eq_getElem (by have:=HN.o;omega)⟩;obtain⟨_,_,e1,g1⟩:=aY.at_ IY.o hx;cases e1;have gk:=vT.o.gH g1 (by omega);have gz:=ax gk;clear g1 hx;go_wp2_with fail;refine(jG x _).mono ?_;rintro e w6 ⟨⟨t,s,fine,rfl,hs⟩,bu⟩;obtain⟨w7,ib⟩:∃w7,w7=w6.alloc (.cells #[.int .i64 t,.string s] 73):=⟨_,rfl⟩;have Fy:Ext w6 w7:=by rw[ib];exact kx
    have IV:Zz (az w7 w6.heap.size 73 #[.int .i64 t,.string s]):=Zy (by rw[ib];exact az.new _ _ _);have mE:=bu.trans Fy;have eF:=Zy (jT.o.ext mE);have eG:=Zy (qN.o.ext mE);have Kt:=Zy (vT.o.trans mE.any);have iO:Zz (Ext w w7):=Zy (fF.o.own Kt.o (fun _ e=>by omega));have Az:Zz (wr.heap.size≤w6.heap.size):=Zy bu.size;clear bu Fy;have z0:=eF.o.c 0 (.string ⟨#[]⟩) rfl;have z1:=eF.o.c 1 (.slice none 0 0) rfl;have z2:=eF.o.c 2 (.int .i64 0) rfl;have z3:=eF.o.c 3 (.string ⟨#[]⟩) rfl;have z4:=eF.o.c 4 (.int .i64 0) rfl;have z5:=eF.o.c 5 (.int .i64 0) rfl;have z6:=eF.o.c 6 (.slice none 0 0) rfl;have z7:=eF.o.c 7 (.slice none 0 0) rfl;have f0:=eF.o.frozen 0;have f1:=eF.o.frozen 1;have f2:=eF.o.frozen 2;have f3:=eF.o.frozen 3;have f4:=eF.o.frozen 4;have f5:=eF.o.frozen 5;have f6:=eF.o.frozen 6;have f7:=eF.o.frozen 7;have c0:=eG.o.c 0 (.string x1) rfl;have c1:=eG.o.c 1 (.slice la ls.length lc) rfl;have c2:=eG.o.c 2 (.int .i64 rk) rfl;have c3:=eG.o.c 3 (.string rn) rfl;have c4:=eG.o.c 4 (.int .i64 l2) rfl;have c5:=eG.o.c 5 (.int .i64 l3) rfl;have c6:=eG.o.c 6 (.slice none 0 0) rfl;have c7:=eG.o.c 7 (.slice none 0 0) rfl;have g0:=eG.o.frozen 0;have g1:=eG.o.frozen 1;have g2:=eG.o.frozen 2;have g3:=eG.o.frozen 3;have g4:=eG.o.frozen 4;have g5:=eG.o.frozen 5;have g6:=eG.o.frozen 6;have g7:=eG.o.frozen 7;have y0:=IV.o.c 0 (.int .i64 t) rfl;have y1:=IV.o.c 1 (.string s) rfl;have z7:=eF.o.lt;have c7:=eG.o.lt;have y7:=IV.o.lt;cases fine
    · clear mE;subst ib;go_wp2_with fail;refine bodyPost_ret (ae jq rfl _ _ w.heap.size rfl [.string ⟨#[]⟩,.slice none 0 0,.int .i64 0,.string ⟨#[]⟩,.int .i64 0,.int .i64 0,.slice none 0 0,.slice none 0 0] (af.cO (az.aI eF.o _ _ _ _ _ _ _ _)) rfl) rfl ?_;exact⟨lU.zero _ _ _ _,iO.o.own (Kp.aI (D:=(·=w.heap.size)) rfl _ _ _ _ _ _ _ _) (fun _ e=>by omega)⟩
    · have HG:Zz (Ext wr ((w6.alloc (.cells #[.int .i64 t,.string s] 73)).alloc (.cells #[.int .i64 t,.string s] 73))):=Zy ((ib▸mE).alloc _);clear mE;subst ib;have uV:ls.length+1≤4294967296:=by omega
      have iC:w4.heap.size+1≤(w6.alloc (.cells #[.int .i64 t,.string s] 73)).heap.size:=by have:=vT.o.size;have:=yM.o;have:=Az.o;simp;omega
      go_wp2_with (refine ah yY rfl (.tmp 76) (.tmp 78) rfl (w4.heap.size+1) (.slice la ls.length lc) ls.length (ls.flatMap wH) rfl (aD (D:=fun _=>False) vU.o HG.o fun _ _ _ x=>x) (w6.heap.size+1) 1 [.int .i64 t,.string s] rfl rfl (af.bN _ _ (by simp)) (by simp[Value.oneCell']) uV (by simp at iC ⊢;omega) ?_;rintro g9 c9 w9 nN j6 Ct;have qX:=(eG.o.ext ((Kp.refl _ _).alloc _)).kp j6 (fun e=>by have:=(dZ vU.o e).1;omega);have d0:=qX.frozen 1;have d1:=qX.c 1 (.slice la ls.length lc) rfl;have dz:=qX.lt);have mF:Kp (·=w4.heap.size) w5 w9:=Kp.own (Kt.o.alloc _) j6 (fun b hb=>by have:=(dZ vU.o hb).1;have:=yM.o;omega);have q9:Kp (·=w4.heap.size) w9 (w9.setCell ⟨w4.heap.size,1,none⟩ (.slice (some ⟨g9,0,none⟩) (ls.length+1) c9)):=(Kp.refl (·=w4.heap.size) w9).setCell (p:=⟨w4.heap.size,1,none⟩) (fun _=>rfl) _;have uT:=aD nN q9 (fun g _ e2 e3=>by omega);go_round
      case rel=>
       refine⟨k+1,_,ls++[⟨t,s⟩],by omega,by omega,by go_num,by simp;omega,qX.bn 1 _,?_,mF.trans q9⟩;simpa [wH]using uT
      case measure=>simp[intOf];omega
  · have dk:¬(k:Int)<n:=by omega
    have c0:=qN.o.c 0 (.string x1) rfl;have c1:=qN.o.c 1 (.slice la ls.length lc) rfl;have c2:=qN.o.c 2 (.int .i64 rk) rfl;have c3:=qN.o.c 3 (.string rn) rfl;have c4:=qN.o.c 4 (.int .i64 l2) rfl;have c5:=qN.o.c 5 (.int .i64 l3) rfl;have c6:=qN.o.c 6 (.slice none 0 0) rfl;have c7:=qN.o.c 7 (.slice none 0 0) rfl;have z0:=jT.o.c 0 (.string ⟨#[]⟩) rfl;have z1:=jT.o.c 1 (.slice none 0 0) rfl;have z2:=jT.o.c 2 (.int .i64 0) rfl;have z3:=jT.o.c 3 (.string ⟨#[]⟩) rfl;have z4:=jT.o.c 4 (.int .i64 0) rfl;have z5:=jT.o.c 5 (.int .i64 0) rfl;have z6:=jT.o.c 6 (.slice none 0 0) rfl;have z7:=jT.o.c 7 (.slice none 0 0) rfl;have f0:=jT.o.frozen 0;have f1:=jT.o.frozen 1;have f2:=jT.o.frozen 2;have f3:=jT.o.frozen 3;have f4:=jT.o.frozen 4;have f5:=jT.o.frozen 5;have f6:=jT.o.frozen 6;have f7:=jT.o.frozen 7;have zz:=jT.o.lt;have cz:=qN.o.lt;have tC:Kp (·=w.heap.size) wr ((((((((wr.setCell ⟨w.heap.size,0,none⟩ (.string x1)).setCell ⟨w.heap.size,1,none⟩ (.slice la ls.length lc)).setCell ⟨w.heap.size,2,none⟩ (.int .i64 rk)).setCell ⟨w.heap.size,3,none⟩ (.string rn)).setCell ⟨w.heap.size,4,none⟩ (.int .i64 l2)).setCell ⟨w.heap.size,5,none⟩ (.int .i64 l3)).setCell ⟨w.heap.size,6,none⟩ (.slice none 0 0)).setCell ⟨w.heap.size,7,none⟩ (.slice none 0 0)):=Kp.aI (D:=(·=w.heap.size)) rfl _ _ _ _ _ _ _ _;have hL:=aD vU.o tC (fun g _ e2 e3=>by omega);have FIN:Zz (∀b,lU m w _ (.returned (.tuple #[.agg #[.string x1,.slice la ls.length lc,.int .i64 rk,.string rn,.int .i64 l2,.int .i64 l3,.slice none 0 0,.slice none 0 0],.bool b]))∧Ext w ((((((((wr.setCell ⟨w.heap.size,0,none⟩ (.string x1)).setCell ⟨w.heap.size,1,none⟩ (.slice la ls.length lc)).setCell ⟨w.heap.size,2,none⟩ (.int .i64 rk)).setCell ⟨w.heap.size,3,none⟩ (.string rn)).setCell ⟨w.heap.size,4,none⟩ (.int .i64 l2)).setCell ⟨w.heap.size,5,none⟩ (.int .i64 l3)).setCell ⟨w.heap.size,6,none⟩ (.slice none 0 0)).setCell ⟨w.heap.size,7,none⟩ (.slice none 0 0))):=Zy (fun b=>⟨⟨_,_,_,_,_,_,b,rfl,s1,ls,
     SliceOf.kP wH hL rfl rfl (fun _ _=>rfl) (fun _ _=>rfl) (fun b h1 h2=>⟨by omega,h2⟩) (by omega)⟩,
     (fF.o.own vT.o (fun _ e=>by omega)).own tC (fun _ e=>by omega)⟩)
    clear tC hL;cases Kg<;>cases wM<;>cases OE<;>by_cases h2:0≤l2
    all_goals
     go_wp2_with fail;refine bodyPost_ret (ae jq rfl _ _ w.heap.size rfl [.string x1,.slice la ls.length lc,.int .i64 rk,.string rn,.int .i64 l2,.int .i64 l3,.slice none 0 0,.slice none 0 0] (af.cO (az.aI jT.o _ _ _ _ _ _ _ _)) rfl) rfl ?_;exact FIN.o _
def H2{α:Type}(l:List α)(q:α→Bool)(e:Ending):Prop:=∃n:Int,e=.returned (.int .i64 n)∧decide (0≤n)=l.any q
theorem qU{α:Type}{l:List α}{q:α→Bool}{k:Nat}{x:α}(hx:l[k]?=some x)(h:q x=true):l.any q=true:=List.any_eq_true.2 ⟨x,List.mem_of_getElem? hx,h⟩
theorem jr{α:Type}{l:List α}{q:α→Bool}{k:Nat}{x:α}(hx:l[k]?=some x)(h:q x=false)(h0:(l.take k).any q=false):(l.take (k+1)).any q=false:=by
 rw[List.take_add_one,hx,List.any_append,h0];simp[h]
theorem vL(w:World)(I:Nat→Prop)(v:Value)(l:List M.Field)(h:SliceOf 3 bD w I v l)(nm:ByteArray):
    Calls Tryz.prog 42 #[v,.string nm] w fun e w'=>H2 l (fun f=>f.name.toList==nm.toList) e∧Ext w w':=by
 obtain⟨a,cap,rfl,hn,bK⟩:=h.form;go_enter Tryz.func42,Tryz.ntmps42;go_wp2_with fail;go_loopw [5] (fun i wr=>∃k:Nat,k≤l.length∧i=.int .i64 k∧wr=w∧Zz ((l.take k).any (fun f=>f.name.toList==nm.toList)=false)) (fun i _=>l.length - (intOf i).toNat)
 case atStart=>exact⟨0,Nat.zero_le _,rfl,rfl,Zy (by simp)⟩
 case round =>
  obtain⟨k,hk,rfl,rfl,HA⟩:=hrel;by_cases dI:k<l.length
  · have dk:(k:Int)<l.length:=by omega
    obtain⟨x,hx⟩:∃x,l[k]?=some x:=⟨l[k]'dI,List.getElem?_eq_getElem dI⟩;obtain⟨b',off,cs,rfl,hI,rfl, -,hc⟩:=h.get hx;obtain⟨g0, -⟩:=hc.three;have gz:=ax g0;have HX:=Zy hx;clear hx hc;cases ht:(x.name.toList==nm.toList)
    · go_wp2_with fail;go_round
      case rel=>exact⟨k+1,by omega,by go_num,trivial,Zy (jr HX.o ht HA.o)⟩
      case measure=>simp[intOf];omega
    · go_wp2_with fail;go_ret;exact⟨⟨_,rfl,by rw[qU HX.o ht];simp⟩,Kp.refl _ _⟩
  · have dk:¬(k:Int)<l.length:=by omega
    go_wp2_with fail;go_ret;exact⟨⟨_,rfl,by have:=HA.o;rw[List.take_of_length_le (by omega)]at this;rw[this];decide⟩,Kp.refl _ _⟩
theorem tZ(w:World)(I:Nat→Prop)(v:Value)(l:List M.Method)(h:SliceOf 8 aC w I v l)(nm:ByteArray):
    Calls Tryz.prog 44 #[v,.string nm] w fun e w'=>H2 l (fun f=>f.name.toList==nm.toList) e∧Ext w w':=by
 obtain⟨a,cap,rfl,hn,bK⟩:=h.form;go_enter Tryz.func44,Tryz.ntmps44;go_wp2_with fail;go_loopw [5] (fun i wr=>∃k:Nat,k≤l.length∧i=.int .i64 k∧wr=w∧Zz ((l.take k).any (fun f=>f.name.toList==nm.toList)=false)) (fun i _=>l.length - (intOf i).toNat)
 case atStart=>exact⟨0,Nat.zero_le _,rfl,rfl,Zy (by simp)⟩
 case round =>
  obtain⟨k,hk,rfl,rfl,HA⟩:=hrel;by_cases dI:k<l.length
  · have dk:(k:Int)<l.length:=by omega
    obtain⟨x,hx⟩:∃x,l[k]?=some x:=⟨l[k]'dI,List.getElem?_eq_getElem dI⟩;obtain⟨b',off,cs,rfl,hI,⟨_,_,_,rfl, -, -, -⟩, -,hc⟩:=h.get hx;obtain⟨g0, -⟩:=hc.eight;have gz:=ax g0;have HX:=Zy hx;clear hx hc;cases ht:(x.name.toList==nm.toList)
    · go_wp2_with fail;go_round
      case rel=>exact⟨k+1,by omega,by go_num,trivial,Zy (jr HX.o ht HA.o)⟩
      case measure=>simp[intOf];omega
    · go_wp2_with fail;go_ret;exact⟨⟨_,rfl,by rw[qU HX.o ht];simp⟩,Kp.refl _ _⟩
  · have dk:¬(k:Int)<l.length:=by omega
    go_wp2_with fail;go_ret;exact⟨⟨_,rfl,by have:=HA.o;rw[List.take_of_length_le (by omega)]at this;rw[this];decide⟩,Kp.refl _ _⟩
theorem Ai(w:World)(I:Nat→Prop)(v v2:Value)(l:List M.Class)(h:SliceOf 4 ai w I v l)(nm:ByteArray):
    Calls Tryz.prog 90 #[.agg #[v,v2],.string nm] w fun e w'=>H2 l (fun f=>f.name.toList==nm.toList) e∧Ext w w':=by
 obtain⟨a,cap,rfl,hn,bK⟩:=h.form;obtain⟨w0,bB,bH,hb⟩:=nu w #[.slice a l.length cap,v2] 67;have c0:=hb.c 0 (.slice a l.length cap) rfl;have cz:=hb.lt;have H:=Zy h;have aZ:=Zy bH;have bZ:=Zy bB;clear bH hb bB h;go_enter Tryz.func90,Tryz.ntmps90;go_wp2_with fail;rw[←bZ.o];go_loopw [5] (fun i wr=>∃k:Nat,k≤l.length∧i=.int .i64 k∧wr=w0∧Zz ((l.take k).any (fun f=>f.name.toList==nm.toList)=false)) (fun i _=>l.length - (intOf i).toNat)
 case atStart=>exact⟨0,Nat.zero_le _,rfl,rfl,Zy (by simp)⟩
 case round =>
  obtain⟨k,hk,rfl,rfl,HA⟩:=hrel;by_cases dI:k<l.length
  · have dk:(k:Int)<l.length:=by omega
    obtain⟨x,hx⟩:∃x,l[k]?=some x:=⟨l[k]'dI,List.getElem?_eq_getElem dI⟩;obtain⟨b',off,cs,rfl,hI,⟨_,_,rfl, -, -⟩, -,hc⟩:=H.o.get hx;obtain⟨g0, -⟩:=(hc.ext aZ.o).four;have gz:=ax g0;have HX:=Zy hx;clear hx hc;cases ht:(x.name.toList==nm.toList)
    · go_wp2_with fail;go_round
      case rel=>exact⟨k+1,by omega,by go_num,trivial,Zy (jr HX.o ht HA.o)⟩
      case measure=>simp[intOf];omega
    · go_wp2_with fail;go_ret;exact⟨⟨_,rfl,by rw[qU HX.o ht];simp⟩,aZ.o⟩
  · have dk:¬(k:Int)<l.length:=by omega
    go_wp2_with fail;go_ret;exact⟨⟨_,rfl,by have:=HA.o;rw[List.take_of_length_le (by omega)]at this;rw[this];decide⟩,aZ.o⟩
def CB(l:List M.Ask)(nm:ByteArray)(e:Ending):Prop:=∃n:Int,e=.returned (.int .i64 n)∧((∃x∈l,(x.name.toList==nm.toList)=true∧n=x.keeper)∨(l.any (fun f=>f.name.toList==nm.toList)=false∧n= -1))
theorem yh(w:World)(I:Nat→Prop)(v v2:Value)(l:List M.Ask)(h:SliceOf 2 eH w I v l)(nm:ByteArray):
    Calls Tryz.prog 91 #[.agg #[v2,v],.string nm] w fun e w'=>CB l nm e∧Ext w w':=by
 obtain⟨a,cap,rfl,hn,bK⟩:=h.form;obtain⟨w0,bB,bH,hb⟩:=nu w #[v2,.slice a l.length cap] 67;have c0:=hb.c 1 (.slice a l.length cap) rfl;have cz:=hb.lt;have H:=Zy h;have aZ:=Zy bH;have bZ:=Zy bB;clear bH hb bB h;go_enter Tryz.func91,Tryz.ntmps91;go_wp2_with fail;rw[←bZ.o];go_loopw [5] (fun i wr=>∃k:Nat,k≤l.length∧i=.int .i64 k∧wr=w0∧Zz ((l.take k).any (fun f=>f.name.toList==nm.toList)=false)) (fun i _=>l.length - (intOf i).toNat)
 case atStart=>exact⟨0,Nat.zero_le _,rfl,rfl,Zy (by simp)⟩
 case round =>
  obtain⟨k,hk,rfl,rfl,HA⟩:=hrel;by_cases dI:k<l.length
  · have dk:(k:Int)<l.length:=by omega
    obtain⟨x,hx⟩:∃x,l[k]?=some x:=⟨l[k]'dI,List.getElem?_eq_getElem dI⟩;obtain⟨b',off,cs,rfl,hI,rfl, -,hc⟩:=H.o.get hx;obtain⟨g0,g1⟩:=(hc.ext aZ.o).two;have gz:=ax g0;have HX:=Zy hx;clear hx hc;cases ht:(x.name.toList==nm.toList)
    · go_wp2_with fail;go_round
      case rel=>exact⟨k+1,by omega,by go_num,trivial,Zy (jr HX.o ht HA.o)⟩
      case measure=>simp[intOf];omega
    · go_wp2_with fail;go_ret;exact⟨⟨_,rfl,.inl ⟨x,List.mem_of_getElem? HX.o,ht,rfl⟩⟩,aZ.o⟩
  · have dk:¬(k:Int)<l.length:=by omega
    go_wp2_with fail;go_ret;exact⟨⟨_,rfl,.inr ⟨by have:=HA.o;rwa[List.take_of_length_le (by omega)]at this,rfl⟩⟩,aZ.o⟩
theorem dU{s:ByteArray}:decide (s=M.none_)=(s.toList==[]):=by
 rw[←aX];cases s.toList<;>rfl
theorem yl(k:Int)(s:ByteArray)(w:World):Calls Tryz.prog 110 #[.agg #[.int .i64 k,.string s]] w fun e w'=>e=.returned (.bool (M.fE ⟨k,s⟩))∧Ext w w':=by
 have hv:M.fE ⟨k,s⟩=if k=0∨k=1∨k=3 then(s.toList==[])else if k=2 then M.aB s else false:=by
  unfold M.fE;simp only[dU]
 by_cases h2:k=2
 · subst h2;rw[if_neg (by decide),if_pos rfl]at hv;rw[hv];clear hv;go_enter Tryz.func110,Tryz.ntmps110;go_wp2_with (go_at_call 27;refine(aJ _ _).mono ?_;rintro e w' ⟨rfl,rfl⟩)
   all_goals
    go_ret;exact⟨rfl,kx⟩
 have rY:(k==2)=false:=beq_eq_false_iff_ne.2 h2;obtain⟨q,hq⟩:∃q,(s.toList==[])=q:=⟨_,rfl⟩;by_cases h0:k=0
 · subst h0;rw[if_pos (.inl rfl),hq]at hv;rw[hv];clear hv rY;cases q
   all_goals
    go_enter Tryz.func110,Tryz.ntmps110;go_wp2_with fail
    all_goals
     go_ret;exact⟨rfl,kx⟩
 by_cases h1:k=1
 · subst h1;rw[if_pos (.inr (.inl rfl)),hq]at hv;rw[hv];clear hv rY;cases q
   all_goals
    go_enter Tryz.func110,Tryz.ntmps110;go_wp2_with fail
    all_goals
     go_ret;exact⟨rfl,kx⟩
 by_cases h3:k=3
 · subst h3;rw[if_pos (.inr (.inr rfl)),hq]at hv;rw[hv];clear hv rY;cases q
   all_goals
    go_enter Tryz.func110,Tryz.ntmps110;go_wp2_with fail
    all_goals
     go_ret;exact⟨rfl,kx⟩
 rw[if_neg (by omega),if_neg h2]at hv;rw[hv];clear hv;have Fv:(k==0)=false:=beq_eq_false_iff_ne.2 h0;have Ck:(k==1)=false:=beq_eq_false_iff_ne.2 h1;have Jp:(k==3)=false:=beq_eq_false_iff_ne.2 h3;go_enter Tryz.func110,Tryz.ntmps110;go_wp2_with fail
 all_goals
  go_ret;exact⟨rfl,kx⟩
theorem aO(w:World)(I:Nat→Prop)(v:Value)(l:List M.Tag)(h:SliceOf 2 dx w I v l):
    Calls Tryz.prog 85 #[v] w fun e w'=>e=.returned (.bool (l.all M.fE))∧Ext w w':=by
 obtain⟨a,cap,rfl,hn,bK⟩:=h.form;go_enter Tryz.func85,Tryz.ntmps85;go_wp2_with fail;go_loopw [3] (fun i wr=>∃k:Nat,k≤l.length∧i=.int .i64 k∧Ext w wr∧Zz ((l.take k).any (fun x=> !M.fE x)=false)) (fun i _=>l.length - (intOf i).toNat)
 case atStart=>exact⟨0,Nat.zero_le _,rfl,Kp.refl _ _,Zy (by simp)⟩
 case round =>
  obtain⟨k,hk,rfl,hE,HA⟩:=hrel;have HE:=Zy hE;by_cases dI:k<l.length
  · have dk:(k:Int)<l.length:=by omega
    obtain⟨x,hx⟩:∃x,l[k]?=some x:=⟨l[k]'dI,List.getElem?_eq_getElem dI⟩;obtain⟨b',off,cs,rfl,hI,rfl, -,hc⟩:=h.get hx;obtain⟨g0,g1⟩:=(hc.ext hE).two;have gz:=ax g0;have HX:=Zy hx;clear hx hc hE;go_wp2_with fail;refine(yl x.kind x.name _).mono ?_;rintro e w2 ⟨rfl,dm⟩;have bX:=Zy (HE.o.trans dm);clear dm;cases ht:M.fE x
    · go_wp2_with fail;go_ret;exact⟨ag (by
       rw[Bool.eq_iff_iff,List.all_eq_true];exact⟨fun e=>(by cases e),fun e=>by rw[e x (List.mem_of_getElem? HX.o)]at ht;cases ht⟩),bX.o⟩
    · go_wp2_with fail;go_round
      case rel=>exact⟨k+1,by omega,by go_num,bX.o,Zy (jr HX.o (by rw[ht];rfl) HA.o)⟩
      case measure=>simp[intOf];omega
  · have dk:¬(k:Int)<l.length:=by omega
    go_wp2_with fail;go_ret;exact⟨ag (by
     have:=HA.o;rw[List.take_of_length_le (by omega),List.any_eq_false]at this;symm;rw[List.all_eq_true];intro x hx;simpa using this x hx),HE.o⟩
end Go.Proofs.YtmcmhalhieejaaaGreatDoor
namespace Go.Proofs.YtmcmhalhieejaaaGreatDoor.M
theorem lX{α:Type}{name:α→ByteArray}{ok:α→Bool}:∀{l:List α} {seen:List ByteArray},aG name ok l seen=true→∀x∈l,ok x=true
 |[],_,_=>by simp
 |y::r,seen,h=>by
  unfold aG at h;simp only[Bool.and_eq_true]at h;intro x hx;rcases List.mem_cons.1 hx with rfl|hx
  · exact h.1.1
  · exact lX h.2 x hx
theorem Bn{p:aP}{k:Int}:has p k=true↔0≤k∧k<p.length:=by
 unfold has;simp
end Go.Proofs.YtmcmhalhieejaaaGreatDoor.M
namespace Go.Proofs.YtmcmhalhieejaaaGreatDoor.M
theorem gD{α:Type}{name:α→ByteArray}{ok:α→Bool}:∀{l r:List α} {seen:List ByteArray},aG name ok (l++r) seen=(aG name ok l seen&&aG name ok r (seen++l.map name))
 |[],r,seen=>by simp[aG]
 |x::l,r,seen=>by
  simp only[List.cons_append,aG,gD (l:=l),Bool.and_assoc,List.map_cons,List.append_assoc,List.nil_append]
theorem iQ{α:Type}{name:α→ByteArray}{ok:α→Bool}{l:List α}{k:Nat}{x:α}(hx:l[k]?=some x):
    aG name ok (l.take (k+1)) []=(aG name ok (l.take k) []&&(ok x&& !((l.take k).any fun y=>decide (name y=name x)))):=by
 rw[List.take_add_one,hx,gD,List.nil_append];simp only[Option.toList_some,aG,List.any_map,Function.comp_def,Bool.and_true]
theorem jO{α:Type}{name:α→ByteArray}{ok:α→Bool}{l:List α}{k:Nat}(h:aG name ok (l.take k) []=false):aG name ok l []=false:=by
 rw[←List.take_append_drop k l,gD,h];rfl
theorem mO{α:Type}{f:α→Bool}{l:List α}{k:Nat}{x:α}(hx:l[k]?=some x)(h:f x=false):l.all f=false:=by
 refine Bool.eq_false_iff.2 fun e=>?_;rw[List.all_eq_true.1 e x (List.mem_of_getElem? hx)]at h;cases h
theorem nk{α:Type}{f:α→Bool}{l:List α}{k:Nat}{x:α}(hx:l[k]?=some x)(h:f x=true)(h0:(l.take k).all f=true):(l.take (k+1)).all f=true:=by
 rw[List.take_add_one,hx,List.all_append,h0];simp[h]
def lI(l:List SMap):Int:=(l.getLast?.map SMap.at_).getD 0
theorem gG{m:Method}:∀{l r:List SMap} {a:Int},aT m a (l++r)=(aT m a l&&aT m ((l.getLast?.map SMap.at_).getD a) r)
 |[],r,a=>by simp[aT]
 |x::l,r,a=>by
  simp only[List.cons_append,aT,gG (l:=l),List.getLast?_cons];cases l.getLast?<;>simp[Bool.and_assoc]
theorem xQ{m:Method}{l:List SMap}{k:Nat}{x:SMap}(hx:l[k]?=some x):aT m 0 (l.take (k+1))=(aT m 0 (l.take k)&&(decide (lI (l.take k)<x.at_)&&qx m x)):=by
 rw[List.take_add_one,hx,gG];simp only[Option.toList_some,aT,lI,Bool.and_true];rfl
theorem zT{m:Method}{l:List SMap}{k:Nat}(h:aT m 0 (l.take k)=false):aT m 0 l=false:=by
 rw[←List.take_append_drop k l,gG,h];rfl
theorem tK{m:Method}:∀{l:List SMap} {a:Int},0≤a→aT m a l=true→∀f∈l,1≤f.at_
 |[],_,_,_=>by simp
 |x::l,a,ha,h=>by
  unfold aT at h;simp only[Bool.and_eq_true,decide_eq_true_eq]at h;intro f hf;rcases List.mem_cons.1 hf with rfl|hf
  · omega
  · exact tK (by omega) h.2 f hf
theorem xO{l:List SMap}{j:Nat}{y:SMap}(hy:l[j]?=some y):lI (l.take (j+1))=y.at_:=by
 unfold lI;rw[List.take_add_one,hy];simp
theorem xI{i:Ins}(h:bJ i=true):1≤i.op∧i.op≤15:=by
 unfold bJ isNum dQ eD fB at h;simp only[Bool.or_eq_true,beq_iff_eq]at h;repeat' split at h
 all_goals first|omega|cases h
theorem qy{c:Method}{k:Nat}{x:SMap}{q2:Bool}(hx:c.maps[k]?=some x)(hp:aT c 0 (c.maps.take k)=true)
    (h2:(k=0∧q2=false)∨∃j y,k=j+1∧c.maps[j]?=some y∧q2=decide (x.at_≤y.at_)):
    aT c 0 (c.maps.take (k+1))=((decide (1≤x.at_)&&decide (x.at_≤(c.code.length:Int) - 1))&& !q2&& !((x.locals.length:Int) !=c.locals)&& !decide (c.stack<(x.stack.length:Int))&&x.locals.all fE&&x.stack.all fE):=by
 rw[xQ hx,hp,Bool.true_and];unfold qx ig;have e1:(!((x.locals.length:Int) !=c.locals))=decide ((x.locals.length:Int)=c.locals):=by
  by_cases h:(x.locals.length:Int)=c.locals<;>simp[h]
 have e2:(!decide (c.stack<(x.stack.length:Int)))=decide ((x.stack.length:Int)≤c.stack):=by
  by_cases h:c.stack<(x.stack.length:Int)
  · rw[decide_eq_true h,decide_eq_false (by omega)];rfl
  · rw[decide_eq_false h,decide_eq_true (by omega)];rfl
 have e3:(decide (lI (c.maps.take k)<x.at_)&&decide (x.at_ <(c.code.length:Int)))=((decide (1≤x.at_)&&decide (x.at_≤(c.code.length:Int) - 1))&& !q2):=by
  rcases h2 with⟨rfl,rfl⟩|⟨j,y,rfl,hy,rfl⟩
  · rw[show lI (c.maps.take 0)=0 from rfl,Bool.not_false,Bool.and_true];refine Bool.eq_iff_iff.2 ?_;simp only[Bool.and_eq_true,decide_eq_true_eq];omega
  · rw[xO hy];have:=tK (by omega) hp y (List.mem_of_getElem? (i:=j) (by rw[List.getElem?_take,if_pos (by omega),hy]));refine Bool.eq_iff_iff.2 ?_;simp only[Bool.and_eq_true,decide_eq_true_eq,Bool.not_eq_true',decide_eq_false_iff_not];omega
 rw[e1,e2,←e3];simp only[Bool.and_assoc]
end Go.Proofs.YtmcmhalhieejaaaGreatDoor.M
namespace Go.Proofs.YtmcmhalhieejaaaGreatDoor
open Go Go.RowKit
theorem xR{op:Int}(h:M.isNum op=true):op=1∨op=2∨op=3∨op=11∨op=12∨op=13:=by
 simpa [M.isNum,or_assoc]using h
theorem qg{op:Int}(h:M.dQ op=true):op=6∨op=15:=by
 simpa [M.dQ,or_assoc]using h
theorem qA{op:Int}(h:M.eD op=true):op=7∨op=8∨op=9:=by
 simpa [M.eD,or_assoc]using h
theorem qD{op:Int}(h:M.fB op=true):op=4∨op=5∨op=10∨op=14:=by
 simpa [M.fB,or_assoc]using h
theorem zY{op:Int}(h1:M.isNum op=false)(h2:M.dQ op=false)(h3:M.eD op=false)(h4:M.fB op=false):
    (¬op=1∧¬op=2∧¬op=3∧¬op=4∧¬op=5∧¬op=6∧¬op=7∧¬op=8)∧¬op=9∧¬op=10∧¬op=11∧¬op=12∧¬op=13∧¬op=14∧¬op=15:=by
 simp[M.isNum,M.dQ,M.eD,M.fB]at h1 h2 h3 h4;omega
theorem ze(op a:Int)(s m:ByteArray)(w:World)(h:M.isNum op=true):
    Calls Tryz.prog 122 #[.agg #[.int .i64 op,.int .i64 a,.string s,.string m]] w fun e w'=>e=.returned (.iface 197 (.agg #[.int .i64 op,.int .i64 a]))∧Ext w w':=by
 rcases xR h with rfl|rfl|rfl|rfl|rfl|rfl
 all_goals
  clear h;go_enter Tryz.func122,Tryz.ntmps122;go_wp2;go_ret;exact⟨rfl,((Kp.refl _ _).alloc _)⟩
theorem za(op a:Int)(s m:ByteArray)(w:World)(h:M.dQ op=true):
    Calls Tryz.prog 122 #[.agg #[.int .i64 op,.int .i64 a,.string s,.string m]] w fun e w'=>e=.returned (.iface 199 (.agg #[.int .i64 op,.string s]))∧Ext w w':=by
 rcases qg h with rfl|rfl
 all_goals
  clear h;go_enter Tryz.func122,Tryz.ntmps122;go_wp2;go_ret;exact⟨rfl,((Kp.refl _ _).alloc _)⟩
theorem zb(op a:Int)(s m:ByteArray)(w:World)(h:M.eD op=true):
    Calls Tryz.prog 122 #[.agg #[.int .i64 op,.int .i64 a,.string s,.string m]] w fun e w'=>e=.returned (.iface 201 (.agg #[.int .i64 op,.string s,.string m]))∧Ext w w':=by
 rcases qA h with rfl|rfl|rfl
 all_goals
  clear h;go_enter Tryz.func122,Tryz.ntmps122;go_wp2;go_ret;exact⟨rfl,((Kp.refl _ _).alloc _)⟩
theorem zg(op a:Int)(s m:ByteArray)(w:World)(h:M.fB op=true):
    Calls Tryz.prog 122 #[.agg #[.int .i64 op,.int .i64 a,.string s,.string m]] w fun e w'=>e=.returned (.iface 203 (.agg #[.int .i64 op]))∧Ext w w':=by
 rcases qD h with rfl|rfl|rfl|rfl
 all_goals
  clear h;go_enter Tryz.func122,Tryz.ntmps122;go_wp2;go_ret;exact⟨rfl,((Kp.refl _ _).alloc _)⟩
theorem Bf(op a:Int)(s m:ByteArray)(w:World)(h1:M.isNum op=false)(h2:M.dQ op=false)(h3:M.eD op=false)(h4:M.fB op=false):
    Calls Tryz.prog 122 #[.agg #[.int .i64 op,.int .i64 a,.string s,.string m]] w fun e w'=>e=.returned .nilIface∧Ext w w':=by
 obtain⟨⟨a1,a2,a3,a4,a5,a6,a7,a8⟩,b1,b2,b3,b4,b5,b6,b7⟩:=zY h1 h2 h3 h4;clear h1 h2 h3 h4;go_enter Tryz.func122,Tryz.ntmps122;go_wp2;go_ret;exact⟨rfl,((Kp.refl _ _).alloc _)⟩
theorem oU(x:Value)(w:World):(Instr.typeAssert (.iface 197 x) 20 203 true).run Tryz.prog w=.ok (.tuple #[.agg #[.int .i64 0],.bool false]) w:=by kernel_rfl
theorem oL(x:Value)(w:World):(Instr.typeAssert (.iface 199 x) 20 203 true).run Tryz.prog w=.ok (.tuple #[.agg #[.int .i64 0],.bool false]) w:=by kernel_rfl
theorem oP(x:Value)(w:World):(Instr.typeAssert (.iface 201 x) 20 203 true).run Tryz.prog w=.ok (.tuple #[.agg #[.int .i64 0],.bool false]) w:=by kernel_rfl
theorem oV(x:Value)(w:World):(Instr.typeAssert (.iface 203 x) 20 203 true).run Tryz.prog w=.ok (.tuple #[x,.bool true]) w:=by kernel_rfl
theorem oQ(x:Value)(w:World):(Instr.typeAssert (.iface 197 x) 20 197 true).run Tryz.prog w=.ok (.tuple #[x,.bool true]) w:=by kernel_rfl
theorem oK(x:Value)(w:World):(Instr.typeAssert (.iface 199 x) 20 197 true).run Tryz.prog w=.ok (.tuple #[.agg #[.int .i64 0,.int .i64 0],.bool false]) w:=by kernel_rfl
theorem oO(x:Value)(w:World):(Instr.typeAssert (.iface 201 x) 20 197 true).run Tryz.prog w=.ok (.tuple #[.agg #[.int .i64 0,.int .i64 0],.bool false]) w:=by kernel_rfl
theorem oJ(x:Value)(w:World):(Instr.typeAssert (.iface 199 x) 20 199 true).run Tryz.prog w=.ok (.tuple #[x,.bool true]) w:=by kernel_rfl
theorem oM(x:Value)(w:World):(Instr.typeAssert (.iface 201 x) 20 199 true).run Tryz.prog w=.ok (.tuple #[.agg #[.int .i64 0,.string M.none_],.bool false]) w:=by kernel_rfl
theorem oN(x:Value)(w:World):(Instr.typeAssert (.iface 201 x) 20 201 true).run Tryz.prog w=.ok (.tuple #[x,.bool true]) w:=by kernel_rfl
theorem ru(op a:Int)(w:World):
    Calls Tryz.prog 123 #[.iface 197 (.agg #[.int .i64 op,.int .i64 a])] w fun e w'=>e=.returned (.agg #[.int .i64 op,.int .i64 a,.string M.none_,.string M.none_])∧Ext w w':=by
 have t1:=oU (.agg #[.int .i64 op,.int .i64 a]);have t2:=oQ (.agg #[.int .i64 op,.int .i64 a]);go_enter Tryz.func123,Tryz.ntmps123;go_wp2;refine bodyPost_ret (v:=.agg #[.int .i64 op,.int .i64 a,.string M.none_,.string M.none_]) (by simp[results,Tryz.results123,go_sem]) rfl ?_;exact⟨rfl,kx⟩
theorem rq(op:Int)(s:ByteArray)(w:World):
    Calls Tryz.prog 123 #[.iface 199 (.agg #[.int .i64 op,.string s])] w fun e w'=>e=.returned (.agg #[.int .i64 op,.int .i64 0,.string s,.string M.none_])∧Ext w w':=by
 have t1:=oL (.agg #[.int .i64 op,.string s]);have t2:=oK (.agg #[.int .i64 op,.string s]);have t3:=oJ (.agg #[.int .i64 op,.string s]);go_enter Tryz.func123,Tryz.ntmps123;go_wp2;refine bodyPost_ret (v:=.agg #[.int .i64 op,.int .i64 0,.string s,.string M.none_]) (by simp[results,Tryz.results123,go_sem]) rfl ?_;exact⟨rfl,kx⟩
theorem wF(op:Int)(s m:ByteArray)(w:World):
    Calls Tryz.prog 123 #[.iface 201 (.agg #[.int .i64 op,.string s,.string m])] w fun e w'=>e=.returned (.agg #[.int .i64 op,.int .i64 0,.string s,.string m])∧Ext w w':=by
 have t1:=oP (.agg #[.int .i64 op,.string s,.string m]);have t2:=oO (.agg #[.int .i64 op,.string s,.string m]);have t3:=oM (.agg #[.int .i64 op,.string s,.string m]);have t4:=oN (.agg #[.int .i64 op,.string s,.string m]);go_enter Tryz.func123,Tryz.ntmps123;go_wp2;refine bodyPost_ret (v:=.agg #[.int .i64 op,.int .i64 0,.string s,.string m]) (by simp[results,Tryz.results123,go_sem]) rfl ?_;exact⟨rfl,kx⟩
theorem mQ(op:Int)(w:World):
    Calls Tryz.prog 123 #[.iface 203 (.agg #[.int .i64 op])] w fun e w'=>e=.returned (.agg #[.int .i64 op,.int .i64 0,.string M.none_,.string M.none_])∧Ext w w':=by
 have t1:=oV (.agg #[.int .i64 op]);go_enter Tryz.func123,Tryz.ntmps123;go_wp2;refine bodyPost_ret (v:=.agg #[.int .i64 op,.int .i64 0,.string M.none_,.string M.none_]) (by simp[results,Tryz.results123,go_sem]) rfl ?_;exact⟨rfl,kx⟩
theorem xS(op:Int)(w:World):
    Calls Tryz.prog 128 #[.int .i64 op] w fun e w'=>e=.returned (.tuple #[.int .i64 (M.gp op),.int .i64 (M.gM op)])∧w=w':=by
 by_cases h1:op=1
 · subst h1;go_enter Tryz.func128,Tryz.ntmps128;go_wp2;go_ret2;exact⟨rfl,rfl⟩
 by_cases h2:op=2
 · subst h2;go_enter Tryz.func128,Tryz.ntmps128;go_wp2;go_ret2;exact⟨rfl,rfl⟩
 by_cases h3:op=3
 · subst h3;go_enter Tryz.func128,Tryz.ntmps128;go_wp2;go_ret2;exact⟨rfl,rfl⟩
 · have e1:M.gp op=0:=if_neg h1;have e2:M.gM op=15:=by unfold M.gM;rw[if_neg h1,if_neg (by omega)]
   rw[e1,e2];clear e1 e2;go_enter Tryz.func128,Tryz.ntmps128;go_wp2;go_ret2;exact⟨rfl,rfl⟩
theorem j5(op a:Int)(w:World):
    Calls Tryz.prog 124 #[.iface 197 (.agg #[.int .i64 op,.int .i64 a])] w fun e w'=>e=.returned (.bool (decide (M.gp op≤a)&&decide (a≤M.gM op)))∧Ext w w':=by
 have t1:=oU (.agg #[.int .i64 op,.int .i64 a]);have t2:=oQ (.agg #[.int .i64 op,.int .i64 a]);generalize hl:M.gp op=l;generalize hm:M.gM op=m;have hr:=xS op;rw[hl,hm]at hr;have HR:=Zy hr;clear hr hl hm;by_cases h1:l≤a
 · go_enter Tryz.func124,Tryz.ntmps124;go_wp2_with (go_at_call 128;refine(HR.o _).mono ?_;rintro e w' ⟨rfl,rfl⟩);go_ret;exact⟨ag (by rw[decide_eq_true h1];simp),kx⟩
 · go_enter Tryz.func124,Tryz.ntmps124;go_wp2_with (go_at_call 128;refine(HR.o _).mono ?_;rintro e w' ⟨rfl,rfl⟩);go_ret;exact⟨ag (by rw[decide_eq_false (p:=l≤a) (by omega)];simp),kx⟩
theorem j4(op:Int)(s:ByteArray)(w:World):
    Calls Tryz.prog 124 #[.iface 199 (.agg #[.int .i64 op,.string s])] w fun e w'=>e=.returned (.bool (M.aB s))∧Ext w w':=by
 have t1:=oL (.agg #[.int .i64 op,.string s]);have t2:=oK (.agg #[.int .i64 op,.string s]);have t3:=oJ (.agg #[.int .i64 op,.string s]);go_enter Tryz.func124,Tryz.ntmps124;go_wp2_with (go_at_call 45;refine(kT _ _).mono ?_;rintro e w' ⟨rfl,rfl⟩);go_ret;exact⟨rfl,kx⟩
theorem nI(op:Int)(s m:ByteArray)(w:World):
    Calls Tryz.prog 124 #[.iface 201 (.agg #[.int .i64 op,.string s,.string m])] w fun e w'=>e=.returned (.bool (M.aB s&&M.aB m))∧Ext w w':=by
 have t1:=oP (.agg #[.int .i64 op,.string s,.string m]);have t2:=oO (.agg #[.int .i64 op,.string s,.string m]);have t3:=oM (.agg #[.int .i64 op,.string s,.string m]);have t4:=oN (.agg #[.int .i64 op,.string s,.string m]);cases hs:M.aB s
 all_goals
  have HS:=Zy hs;clear hs;go_enter Tryz.func124,Tryz.ntmps124;go_wp2_with fail;refine(kT _ _).mono ?_;rintro e w' ⟨rfl,rfl⟩;rw[HS.o]
 · go_wp2;go_ret;exact⟨rfl,kx⟩
 · go_wp2_with (go_at_call 45;refine(kT _ _).mono ?_;rintro e w' ⟨rfl,rfl⟩);go_ret;exact⟨rfl,kx⟩
theorem iP(op:Int)(w:World):
    Calls Tryz.prog 124 #[.iface 203 (.agg #[.int .i64 op])] w fun e w'=>e=.returned (.bool true)∧Ext w w':=by
 have t1:=oV (.agg #[.int .i64 op]);go_enter Tryz.func124,Tryz.ntmps124;go_wp2;go_ret;exact⟨rfl,kx⟩
theorem eX(a b:ByteArray):(a.toList==b.toList)=decide (a=b):=by
 rw[ByteArray.toList_eq,ByteArray.toList_eq,Bool.eq_iff_iff,decide_eq_true_iff,beq_iff_eq];constructor
 · intro h;obtain⟨⟨x⟩⟩:=a;obtain⟨⟨y⟩⟩:=b;simp at h;subst h;rfl
 · intro h;rw[h]
theorem toList_nil(s:ByteArray):s.toList=[]↔s=M.none_:=by
 rw[ByteArray.toList_eq];obtain⟨⟨l⟩⟩:=s;simp[M.none_]
theorem xG{op a:Int}{s m:ByteArray}(h:M.isNum op=true):M.bJ ⟨op,a,s,m⟩=(decide (s=M.none_)&&decide (m=M.none_)&&decide (M.gp op≤a)&&decide (a≤M.gM op)):=by
 unfold M.bJ;rw[if_pos h]
theorem xD{op a:Int}{s m:ByteArray}(h0:M.isNum op=false)(h:M.dQ op=true):M.bJ ⟨op,a,s,m⟩=(decide (a=0)&&decide (m=M.none_)&&M.aB s):=by
 unfold M.bJ;rw[if_neg (by simp[h0]),if_pos h]
theorem xE{op a:Int}{s m:ByteArray}(h0:M.isNum op=false)(h1:M.dQ op=false)(h:M.eD op=true):M.bJ ⟨op,a,s,m⟩=(decide (a=0)&&M.aB s&&M.aB m):=by
 unfold M.bJ;rw[if_neg (by simp[h0]),if_neg (by simp[h1]),if_pos h]
theorem xH{op a:Int}{s m:ByteArray}(h0:M.isNum op=false)(h1:M.dQ op=false)(h2:M.eD op=false)(h:M.fB op=true):M.bJ ⟨op,a,s,m⟩=(decide (a=0)&&decide (s=M.none_)&&decide (m=M.none_)):=by
 unfold M.bJ;rw[if_neg (by simp[h0]),if_neg (by simp[h1]),if_neg (by simp[h2]),if_pos h]
theorem zM{op a:Int}{s m:ByteArray}(h0:M.isNum op=false)(h1:M.dQ op=false)(h2:M.eD op=false)(h:M.fB op=false):M.bJ ⟨op,a,s,m⟩=false:=by
 unfold M.bJ;rw[if_neg (by simp[h0]),if_neg (by simp[h1]),if_neg (by simp[h2]),if_neg (by simp[h])]
theorem zP{op:Int}(h:M.dQ op=true):M.isNum op=false:=by rcases qg h with rfl|rfl<;>rfl
theorem tH{op:Int}(h:M.eD op=true):M.isNum op=false∧M.dQ op=false:=by rcases qA h with rfl|rfl|rfl<;>exact⟨rfl,rfl⟩
theorem nQ{op:Int}(h:M.fB op=true):M.isNum op=false∧M.dQ op=false∧M.eD op=false:=by
 rcases qD h with rfl|rfl|rfl|rfl<;>exact⟨rfl,rfl,rfl⟩
theorem xL(op a:Int)(s m:ByteArray)(w:World)(h:M.isNum op=true):
    Calls Tryz.prog 107 #[.agg #[.int .i64 op,.int .i64 a,.string s,.string m]] w fun e w'=>e=.returned (.bool (M.bJ ⟨op,a,s,m⟩))∧Ext w w':=by
 have HE:=Zy (xG (op:=op) (a:=a) (s:=s) (m:=m) h);have HK:=Zy h;clear h;go_enter Tryz.func107,Tryz.ntmps107;go_wp2_with (go_at_call 122;refine(ze _ _ _ _ _ HK.o).mono ?_;rintro e w1 ⟨rfl,hB⟩);have b1:=(az.new w 108 #[.int .i64 op,.int .i64 a,.string s,.string m]).ext hB;have c0:=b1.c 0 _ rfl;have c1:=b1.c 1 _ rfl;have c2:=b1.c 2 _ rfl;have c3:=b1.c 3 _ rfl;have hz:=b1.lt;have HB:=Zy hB;clear hB b1;by_cases hs:s.toList=[]
 · by_cases hm:m.toList=[]
   · first|(go_region_with (first|(go_at_call 123;refine(ru _ _ _).mono ?_;rintro e w2 ⟨rfl,fe⟩;have d0:=fe.aj c0;have d1:=fe.aj c1;have d2:=fe.aj c2;have d3:=fe.aj c3)|(go_at_call 124;refine(j5 _ _ _).mono ?_;rintro e w3 ⟨rfl,yw⟩)))|fail
     all_goals
      go_wp2;go_ret;have hB:=HB.o;exact⟨ag (by rw[HE.o];rw[toList_nil]at hs hm;simp[hs,hm]),(by repeat (first|assumption|exact Kp.refl _ _|apply Kp.alloc|apply Kp.drew|apply Kp.drewN|refine Kp.trans ?_ (by assumption)))⟩
   · first|(go_region_with (first|(go_at_call 123;refine(ru _ _ _).mono ?_;rintro e w2 ⟨rfl,fe⟩;have d0:=fe.aj c0;have d1:=fe.aj c1;have d2:=fe.aj c2;have d3:=fe.aj c3)|(go_at_call 124;refine(j5 _ _ _).mono ?_;rintro e w3 ⟨rfl,yw⟩)))|fail
     all_goals
      go_wp2;go_ret;have hB:=HB.o;exact⟨ag (by rw[HE.o];rw[toList_nil]at hm;simp[hm]),(by repeat (first|assumption|exact Kp.refl _ _|apply Kp.alloc|apply Kp.drew|apply Kp.drewN|refine Kp.trans ?_ (by assumption)))⟩
 · first|(go_region_with (first|(go_at_call 123;refine(ru _ _ _).mono ?_;rintro e w2 ⟨rfl,fe⟩;have d0:=fe.aj c0;have d1:=fe.aj c1;have d2:=fe.aj c2;have d3:=fe.aj c3)|(go_at_call 124;refine(j5 _ _ _).mono ?_;rintro e w3 ⟨rfl,yw⟩)))|fail
   all_goals
    go_wp2;go_ret;have hB:=HB.o;exact⟨ag (by rw[HE.o];rw[toList_nil]at hs;simp[hs]),(by repeat (first|assumption|exact Kp.refl _ _|apply Kp.alloc|apply Kp.drew|apply Kp.drewN|refine Kp.trans ?_ (by assumption)))⟩
theorem xJ(op a:Int)(s m:ByteArray)(w:World)(h:M.dQ op=true):
    Calls Tryz.prog 107 #[.agg #[.int .i64 op,.int .i64 a,.string s,.string m]] w fun e w'=>e=.returned (.bool (M.bJ ⟨op,a,s,m⟩))∧Ext w w':=by
 have HE:=Zy (xD (op:=op) (a:=a) (s:=s) (m:=m) (zP h) h);have HK:=Zy h;clear h;go_enter Tryz.func107,Tryz.ntmps107;go_wp2_with (go_at_call 122;refine(za _ _ _ _ _ HK.o).mono ?_;rintro e w1 ⟨rfl,hB⟩);have b1:=(az.new w 108 #[.int .i64 op,.int .i64 a,.string s,.string m]).ext hB;have c0:=b1.c 0 _ rfl;have c1:=b1.c 1 _ rfl;have c2:=b1.c 2 _ rfl;have c3:=b1.c 3 _ rfl;have hz:=b1.lt;have HB:=Zy hB;clear hB b1;by_cases ha:0=a
 · by_cases hm:m.toList=[]
   · first|(go_region_with (first|(go_at_call 123;refine(rq _ _ _).mono ?_;rintro e w2 ⟨rfl,fe⟩;have d0:=fe.aj c0;have d1:=fe.aj c1;have d2:=fe.aj c2;have d3:=fe.aj c3)|(go_at_call 124;refine(j4 _ _ _).mono ?_;rintro e w3 ⟨rfl,yw⟩)))|fail
     all_goals
      go_wp2;go_ret;have hB:=HB.o;exact⟨ag (by rw[HE.o];rw[toList_nil]at hm;simp[←ha,hm]),(by repeat (first|assumption|exact Kp.refl _ _|apply Kp.alloc|apply Kp.drew|apply Kp.drewN|refine Kp.trans ?_ (by assumption)))⟩
   · first|(go_region_with (first|(go_at_call 123;refine(rq _ _ _).mono ?_;rintro e w2 ⟨rfl,fe⟩;have d0:=fe.aj c0;have d1:=fe.aj c1;have d2:=fe.aj c2;have d3:=fe.aj c3)|(go_at_call 124;refine(j4 _ _ _).mono ?_;rintro e w3 ⟨rfl,yw⟩)))|fail
     all_goals
      go_wp2;go_ret;have hB:=HB.o;exact⟨ag (by rw[HE.o];rw[toList_nil]at hm;simp[hm]),(by repeat (first|assumption|exact Kp.refl _ _|apply Kp.alloc|apply Kp.drew|apply Kp.drewN|refine Kp.trans ?_ (by assumption)))⟩
 · first|(go_region_with (first|(go_at_call 123;refine(rq _ _ _).mono ?_;rintro e w2 ⟨rfl,fe⟩;have d0:=fe.aj c0;have d1:=fe.aj c1;have d2:=fe.aj c2;have d3:=fe.aj c3)|(go_at_call 124;refine(j4 _ _ _).mono ?_;rintro e w3 ⟨rfl,yw⟩)))|fail
   all_goals
    go_wp2;go_ret;have hB:=HB.o;exact⟨ag (by rw[HE.o];simp[Ne.symm ha]),(by repeat (first|assumption|exact Kp.refl _ _|apply Kp.alloc|apply Kp.drew|apply Kp.drewN|refine Kp.trans ?_ (by assumption)))⟩
theorem xK(op a:Int)(s m:ByteArray)(w:World)(h:M.eD op=true):
    Calls Tryz.prog 107 #[.agg #[.int .i64 op,.int .i64 a,.string s,.string m]] w fun e w'=>e=.returned (.bool (M.bJ ⟨op,a,s,m⟩))∧Ext w w':=by
 have HE:=Zy (xE (op:=op) (a:=a) (s:=s) (m:=m) (tH h).1 (tH h).2 h);have HK:=Zy h;clear h;go_enter Tryz.func107,Tryz.ntmps107;go_wp2_with (go_at_call 122;refine(zb _ _ _ _ _ HK.o).mono ?_;rintro e w1 ⟨rfl,hB⟩);have b1:=(az.new w 108 #[.int .i64 op,.int .i64 a,.string s,.string m]).ext hB;have c0:=b1.c 0 _ rfl;have c1:=b1.c 1 _ rfl;have c2:=b1.c 2 _ rfl;have c3:=b1.c 3 _ rfl;have hz:=b1.lt;have HB:=Zy hB;clear hB b1;by_cases ha:0=a
 · first|(go_region_with (first|(go_at_call 123;refine(wF _ _ _ _).mono ?_;rintro e w2 ⟨rfl,fe⟩;have d0:=fe.aj c0;have d1:=fe.aj c1;have d2:=fe.aj c2;have d3:=fe.aj c3)|(go_at_call 124;refine(nI _ _ _ _).mono ?_;rintro e w3 ⟨rfl,yw⟩)))|fail
   all_goals
    go_wp2;go_ret;have hB:=HB.o;exact⟨ag (by rw[HE.o];simp[←ha]),(by repeat (first|assumption|exact Kp.refl _ _|apply Kp.alloc|apply Kp.drew|apply Kp.drewN|refine Kp.trans ?_ (by assumption)))⟩
 · first|(go_region_with (first|(go_at_call 123;refine(wF _ _ _ _).mono ?_;rintro e w2 ⟨rfl,fe⟩;have d0:=fe.aj c0;have d1:=fe.aj c1;have d2:=fe.aj c2;have d3:=fe.aj c3)|(go_at_call 124;refine(nI _ _ _ _).mono ?_;rintro e w3 ⟨rfl,yw⟩)))|fail
   all_goals
    go_wp2;go_ret;have hB:=HB.o;exact⟨ag (by rw[HE.o];simp[Ne.symm ha]),(by repeat (first|assumption|exact Kp.refl _ _|apply Kp.alloc|apply Kp.drew|apply Kp.drewN|refine Kp.trans ?_ (by assumption)))⟩
theorem xM (op a : Int) (s m : ByteArray) (w : World) (h : M.fB op = true) :
    Calls Tryz.prog 107 #[.agg #[.int .i64 op,.int .i64 a,.string s,.string m]] w fun e w'=>e=.returned (.bool (M.bJ ⟨op,a,s,m⟩))∧Ext w w':=by
 have HE:=Zy (xH (op:=op) (a:=a) (s:=s) (m:=m) (nQ h).1 (nQ h).2.1 (nQ h).2.2 h);have HK:=Zy h;clear h;go_enter Tryz.func107,Tryz.ntmps107;go_wp2_with (go_at_call 122;refine(zg _ _ _ _ _ HK.o).mono ?_;rintro e w1 ⟨rfl,hB⟩);have b1:=(az.new w 108 #[.int .i64 op,.int .i64 a,.string s,.string m]).ext hB;have c0:=b1.c 0 _ rfl;have c1:=b1.c 1 _ rfl;have c2:=b1.c 2 _ rfl;have c3:=b1.c 3 _ rfl;have hz:=b1.lt;have HB:=Zy hB;clear hB b1;by_cases ha:0=a
 · by_cases hs:s.toList=[]
   · by_cases hm:m.toList=[]
     · first|(go_region_with (first|(go_at_call 123;refine(mQ _ _).mono ?_;rintro e w2 ⟨rfl,fe⟩;have d0:=fe.aj c0;have d1:=fe.aj c1;have d2:=fe.aj c2;have d3:=fe.aj c3)|(go_at_call 124;refine(iP _ _).mono ?_;rintro e w3 ⟨rfl,yw⟩)))|fail
       all_goals
        go_wp2;go_ret;have hB:=HB.o;exact⟨ag (by rw[HE.o];rw[toList_nil]at hs hm;simp[←ha,hs,hm]),(by repeat (first|assumption|exact Kp.refl _ _|apply Kp.alloc|apply Kp.drew|apply Kp.drewN|refine Kp.trans ?_ (by assumption)))⟩
     · first|(go_region_with (first|(go_at_call 123;refine(mQ _ _).mono ?_;rintro e w2 ⟨rfl,fe⟩;have d0:=fe.aj c0;have d1:=fe.aj c1;have d2:=fe.aj c2;have d3:=fe.aj c3)|(go_at_call 124;refine(iP _ _).mono ?_;rintro e w3 ⟨rfl,yw⟩)))|fail
       all_goals
        go_wp2;go_ret;have hB:=HB.o;exact⟨ag (by rw[HE.o];rw[toList_nil]at hm;simp[hm]),(by repeat (first|assumption|exact Kp.refl _ _|apply Kp.alloc|apply Kp.drew|apply Kp.drewN|refine Kp.trans ?_ (by assumption)))⟩
   · first|(go_region_with (first|(go_at_call 123;refine(mQ _ _).mono ?_;rintro e w2 ⟨rfl,fe⟩;have d0:=fe.aj c0;have d1:=fe.aj c1;have d2:=fe.aj c2;have d3:=fe.aj c3)|(go_at_call 124;refine(iP _ _).mono ?_;rintro e w3 ⟨rfl,yw⟩)))|fail
     all_goals
      go_wp2;go_ret;have hB:=HB.o;exact⟨ag (by rw[HE.o];rw[toList_nil]at hs;simp[hs]),(by repeat (first|assumption|exact Kp.refl _ _|apply Kp.alloc|apply Kp.drew|apply Kp.drewN|refine Kp.trans ?_ (by assumption)))⟩
 · first|(go_region_with (first|(go_at_call 123;refine(mQ _ _).mono ?_;rintro e w2 ⟨rfl,fe⟩;have d0:=fe.aj c0;have d1:=fe.aj c1;have d2:=fe.aj c2;have d3:=fe.aj c3)|(go_at_call 124;refine(iP _ _).mono ?_;rintro e w3 ⟨rfl,yw⟩)))|fail
   all_goals
    go_wp2;go_ret;have hB:=HB.o;exact⟨ag (by rw[HE.o];simp[Ne.symm ha]),(by repeat (first|assumption|exact Kp.refl _ _|apply Kp.alloc|apply Kp.drew|apply Kp.drewN|refine Kp.trans ?_ (by assumption)))⟩
theorem zO(op a:Int)(s m:ByteArray)(w:World)(h1:M.isNum op=false)(h2:M.dQ op=false)(h3:M.eD op=false)(h4:M.fB op=false):
    Calls Tryz.prog 107 #[.agg #[.int .i64 op,.int .i64 a,.string s,.string m]] w fun e w'=>e=.returned (.bool (M.bJ ⟨op,a,s,m⟩))∧Ext w w':=by
 have HE:=Zy (zM (op:=op) (a:=a) (s:=s) (m:=m) h1 h2 h3 h4);have H:=Zy (And.intro (And.intro h1 h2) (And.intro h3 h4));clear h1 h2 h3 h4;go_enter Tryz.func107,Tryz.ntmps107;go_wp2_with (go_at_call 122;refine(Bf _ _ _ _ _ H.o.1.1 H.o.1.2 H.o.2.1 H.o.2.2).mono ?_;rintro e w1 ⟨rfl,hB⟩);go_quiet (fail);go_wp2;go_ret;exact⟨ag (by rw[HE.o]),(by repeat (first|assumption|exact Kp.refl _ _|apply Kp.alloc|apply Kp.drew|apply Kp.drewN|refine Kp.trans ?_ (by assumption)))⟩
theorem zN(i:M.Ins)(w:World):
    Calls Tryz.prog 107 #[.agg #[.int .i64 i.op,.int .i64 i.a,.string i.name,.string i.member]] w fun e w'=>e=.returned (.bool (M.bJ i))∧Ext w w':=by
 cases h1:M.isNum i.op
 · cases h2:M.dQ i.op
   · cases h3:M.eD i.op
     · cases h4:M.fB i.op
       · exact zO _ _ _ _ _ h1 h2 h3 h4
       · exact xM _ _ _ _ _ h4
     · exact xK _ _ _ _ _ h3
   · exact xJ _ _ _ _ _ h2
 · exact xL _ _ _ _ _ h1
theorem lM(k:Int)(s:ByteArray)(w:World):Calls Tryz.prog 41 #[.agg #[.int .i64 k,.string s]] w fun e w'=>e=.returned (.bool (M.bF ⟨k,s⟩))∧Ext w w':=by
 have hv:M.bF ⟨k,s⟩=((k==1)&&(s.toList==[])|| (k==2)&&M.aB s):=by unfold M.bF;simp only[dU]
 rw[hv];clear hv;obtain⟨q,hq⟩:∃q,(s.toList==[])=q:=⟨_,rfl⟩;have HN:=fun W=>Zy (aJ s W);obtain⟨r,hr⟩:∃r,M.aB s=r:=⟨_,rfl⟩;rw[hq,hr];simp only[hr]at HN;clear hr;by_cases h1:k=1
 · subst h1;cases q<;>cases r
   all_goals
    go_enter Tryz.func41,Tryz.ntmps41;go_wp2_with (go_at_call 27;refine(HN _).o.mono ?_;rintro e w' ⟨rfl,rfl⟩)
    all_goals
     go_ret;exact⟨rfl,(by repeat (first|with_reducible exact Kp.refl _ _|with_reducible assumption|with_reducible refine Kp.alloc ?_ _|with_reducible refine Kp.drew ?_|with_reducible refine Kp.drewN ?_ _|with_reducible refine Kp.setCell ?_ (fun h=>absurd h (by simp<;>omega)) _|with_reducible refine Kp.trans ?_ (by with_reducible assumption)|exact Kp.refl _ _|assumption|refine Kp.alloc ?_ _|refine Kp.drew ?_|refine Kp.drewN ?_ _|(refine Kp.setCell ?_ (fun h=>absurd h (by simp;done)) _)|(refine Kp.setCell ?_ (fun h=>absurd h (by simp;omega)) _)|refine Kp.trans ?_ (by assumption)))⟩
 have Ck:(k==1)=false:=beq_eq_false_iff_ne.2 h1;by_cases h2:k=2
 · subst h2;cases r
   all_goals
    go_enter Tryz.func41,Tryz.ntmps41;go_wp2_with (go_at_call 27;refine(HN _).o.mono ?_;rintro e w' ⟨rfl,rfl⟩)
    all_goals
     go_ret;exact⟨rfl,(by repeat (first|with_reducible exact Kp.refl _ _|with_reducible assumption|with_reducible refine Kp.alloc ?_ _|with_reducible refine Kp.drew ?_|with_reducible refine Kp.drewN ?_ _|with_reducible refine Kp.setCell ?_ (fun h=>absurd h (by simp<;>omega)) _|with_reducible refine Kp.trans ?_ (by with_reducible assumption)|exact Kp.refl _ _|assumption|refine Kp.alloc ?_ _|refine Kp.drew ?_|refine Kp.drewN ?_ _|(refine Kp.setCell ?_ (fun h=>absurd h (by simp;done)) _)|(refine Kp.setCell ?_ (fun h=>absurd h (by simp;omega)) _)|refine Kp.trans ?_ (by assumption)))⟩
 have rY:(k==2)=false:=beq_eq_false_iff_ne.2 h2;rw[Ck,rY];go_enter Tryz.func41,Tryz.ntmps41;go_wp2_with fail
 all_goals
  go_ret;exact⟨rfl,(by repeat (first|with_reducible exact Kp.refl _ _|with_reducible assumption|with_reducible refine Kp.alloc ?_ _|with_reducible refine Kp.drew ?_|with_reducible refine Kp.drewN ?_ _|with_reducible refine Kp.setCell ?_ (fun h=>absurd h (by simp<;>omega)) _|with_reducible refine Kp.trans ?_ (by with_reducible assumption)|exact Kp.refl _ _|assumption|refine Kp.alloc ?_ _|refine Kp.drew ?_|refine Kp.drewN ?_ _|(refine Kp.setCell ?_ (fun h=>absurd h (by simp;done)) _)|(refine Kp.setCell ?_ (fun h=>absurd h (by simp;omega)) _)|refine Kp.trans ?_ (by assumption)))⟩
theorem vJ(op a:Int)(n m:ByteArray)(w:World)(ho:op=1∨op=2∨op=3∨op=11∨op=12∨op=13):Calls Tryz.prog 84 #[.agg #[.int .i64 op,.int .i64 a,.string n,.string m]] w fun e w'=>e=.returned (.bool (M.bJ ⟨op,a,n,m⟩))∧Ext w w':=by
 have hv:M.bJ ⟨op,a,n,m⟩=((decide (M.gp op≤a)&&decide (a≤M.gM op))&&(n.toList==[])&&(m.toList==[])):=by
  unfold M.bJ;simp only[dU];rcases ho with rfl|rfl|rfl|rfl|rfl|rfl<;>simp[M.isNum,M.dQ,M.eD,M.fB,Bool.and_assoc,Bool.and_comm,Bool.and_left_comm]
 rw[hv];clear hv;obtain⟨q,hq⟩:∃q,(n.toList==[])=q:=⟨_,rfl⟩;obtain⟨q',wC⟩:∃q,(m.toList==[])=q:=⟨_,rfl⟩;have HN:=fun W=>Zy (aJ n W);have HM:=fun W=>Zy (aJ m W);obtain⟨r,hr⟩:∃r,M.aB n=r:=⟨_,rfl⟩;obtain⟨r',uA⟩:∃r,M.aB m=r:=⟨_,rfl⟩;simp only[hr]at HN;simp only[uA]at HM;rw[hq,wC];clear hr uA;rcases ho with rfl|rfl|rfl|rfl|rfl|rfl
 all_goals
  simp only[M.gp,M.gM,Int.reduceEq,if_true,if_false,or_true,true_or,or_false,or_self];generalize hb:(decide (_≤a)&&decide (a≤_))=b;cases b
  · simp only[Bool.false_and];go_enter Tryz.func84,Tryz.ntmps84;go_wp2_with (go_at_call 26;refine(dO _ _ _ _).mono ?_;rintro e w' ⟨rfl,rfl⟩;rw[hb])
    all_goals
     go_ret;exact⟨rfl,(by repeat (first|with_reducible exact Kp.refl _ _|with_reducible assumption|with_reducible refine Kp.alloc ?_ _|with_reducible refine Kp.drew ?_|with_reducible refine Kp.drewN ?_ _|with_reducible refine Kp.setCell ?_ (fun h=>absurd h (by simp<;>omega)) _|with_reducible refine Kp.trans ?_ (by with_reducible assumption)|exact Kp.refl _ _|assumption|refine Kp.alloc ?_ _|refine Kp.drew ?_|refine Kp.drewN ?_ _|(refine Kp.setCell ?_ (fun h=>absurd h (by simp;done)) _)|(refine Kp.setCell ?_ (fun h=>absurd h (by simp;omega)) _)|refine Kp.trans ?_ (by assumption)))⟩
  cases q
  · simp only[Bool.true_and,Bool.false_and];go_enter Tryz.func84,Tryz.ntmps84;go_wp2_with (go_at_call 26;refine(dO _ _ _ _).mono ?_;rintro e w' ⟨rfl,rfl⟩;rw[hb])
    all_goals
     go_ret;exact⟨rfl,(by repeat (first|with_reducible exact Kp.refl _ _|with_reducible assumption|with_reducible refine Kp.alloc ?_ _|with_reducible refine Kp.drew ?_|with_reducible refine Kp.drewN ?_ _|with_reducible refine Kp.setCell ?_ (fun h=>absurd h (by simp<;>omega)) _|with_reducible refine Kp.trans ?_ (by with_reducible assumption)|exact Kp.refl _ _|assumption|refine Kp.alloc ?_ _|refine Kp.drew ?_|refine Kp.drewN ?_ _|(refine Kp.setCell ?_ (fun h=>absurd h (by simp;done)) _)|(refine Kp.setCell ?_ (fun h=>absurd h (by simp;omega)) _)|refine Kp.trans ?_ (by assumption)))⟩
  simp only[Bool.true_and];cases q'
  all_goals
   go_enter Tryz.func84,Tryz.ntmps84;go_wp2_with (go_at_call 26;refine(dO _ _ _ _).mono ?_;rintro e w' ⟨rfl,rfl⟩;rw[hb])
   all_goals
    go_ret;exact⟨rfl,(by repeat (first|with_reducible exact Kp.refl _ _|with_reducible assumption|with_reducible refine Kp.alloc ?_ _|with_reducible refine Kp.drew ?_|with_reducible refine Kp.drewN ?_ _|with_reducible refine Kp.setCell ?_ (fun h=>absurd h (by simp<;>omega)) _|with_reducible refine Kp.trans ?_ (by with_reducible assumption)|exact Kp.refl _ _|assumption|refine Kp.alloc ?_ _|refine Kp.drew ?_|refine Kp.drewN ?_ _|(refine Kp.setCell ?_ (fun h=>absurd h (by simp;done)) _)|(refine Kp.setCell ?_ (fun h=>absurd h (by simp;omega)) _)|refine Kp.trans ?_ (by assumption)))⟩
theorem vK(op a:Int)(n m:ByteArray)(w:World)(ho:op=4∨op=5∨op=10∨op=14):Calls Tryz.prog 84 #[.agg #[.int .i64 op,.int .i64 a,.string n,.string m]] w fun e w'=>e=.returned (.bool (M.bJ ⟨op,a,n,m⟩))∧Ext w w':=by
 have hv:M.bJ ⟨op,a,n,m⟩=(decide (a=0)&&(n.toList==[])&&(m.toList==[])):=by
  unfold M.bJ;simp only[dU];rcases ho with rfl|rfl|rfl|rfl<;>simp[M.isNum,M.dQ,M.eD,M.fB,Bool.and_assoc,Bool.and_comm,Bool.and_left_comm]
 rw[hv];clear hv;obtain⟨q,hq⟩:∃q,(n.toList==[])=q:=⟨_,rfl⟩;obtain⟨q',wC⟩:∃q,(m.toList==[])=q:=⟨_,rfl⟩;have HN:=fun W=>Zy (aJ n W);have HM:=fun W=>Zy (aJ m W);obtain⟨r,hr⟩:∃r,M.aB n=r:=⟨_,rfl⟩;obtain⟨r',uA⟩:∃r,M.aB m=r:=⟨_,rfl⟩;simp only[hr]at HN;simp only[uA]at HM;rw[hq,wC];clear hr uA;rcases ho with rfl|rfl|rfl|rfl
 all_goals
  by_cases ha:a=0
  · subst ha;simp only[decide_true,Bool.true_and];cases q
    · simp only[Bool.true_and,Bool.false_and];go_enter Tryz.func84,Tryz.ntmps84;go_wp2_with (fail)
      all_goals
       go_ret;exact⟨rfl,(by repeat (first|with_reducible exact Kp.refl _ _|with_reducible assumption|with_reducible refine Kp.alloc ?_ _|with_reducible refine Kp.drew ?_|with_reducible refine Kp.drewN ?_ _|with_reducible refine Kp.setCell ?_ (fun h=>absurd h (by simp<;>omega)) _|with_reducible refine Kp.trans ?_ (by with_reducible assumption)|exact Kp.refl _ _|assumption|refine Kp.alloc ?_ _|refine Kp.drew ?_|refine Kp.drewN ?_ _|(refine Kp.setCell ?_ (fun h=>absurd h (by simp;done)) _)|(refine Kp.setCell ?_ (fun h=>absurd h (by simp;omega)) _)|refine Kp.trans ?_ (by assumption)))⟩
    simp only[Bool.true_and];cases q'
    all_goals
     go_enter Tryz.func84,Tryz.ntmps84;go_wp2_with (fail)
     all_goals
      go_ret;exact⟨rfl,(by repeat (first|with_reducible exact Kp.refl _ _|with_reducible assumption|with_reducible refine Kp.alloc ?_ _|with_reducible refine Kp.drew ?_|with_reducible refine Kp.drewN ?_ _|with_reducible refine Kp.setCell ?_ (fun h=>absurd h (by simp<;>omega)) _|with_reducible refine Kp.trans ?_ (by with_reducible assumption)|exact Kp.refl _ _|assumption|refine Kp.alloc ?_ _|refine Kp.drew ?_|refine Kp.drewN ?_ _|(refine Kp.setCell ?_ (fun h=>absurd h (by simp;done)) _)|(refine Kp.setCell ?_ (fun h=>absurd h (by simp;omega)) _)|refine Kp.trans ?_ (by assumption)))⟩
  · have Ls:(a==0)=false:=beq_eq_false_iff_ne.2 ha;rw[decide_eq_false ha];simp only[Bool.false_and];go_enter Tryz.func84,Tryz.ntmps84;go_wp2_with (fail)
    all_goals
     go_ret;exact⟨rfl,(by repeat (first|with_reducible exact Kp.refl _ _|with_reducible assumption|with_reducible refine Kp.alloc ?_ _|with_reducible refine Kp.drew ?_|with_reducible refine Kp.drewN ?_ _|with_reducible refine Kp.setCell ?_ (fun h=>absurd h (by simp<;>omega)) _|with_reducible refine Kp.trans ?_ (by with_reducible assumption)|exact Kp.refl _ _|assumption|refine Kp.alloc ?_ _|refine Kp.drew ?_|refine Kp.drewN ?_ _|(refine Kp.setCell ?_ (fun h=>absurd h (by simp;done)) _)|(refine Kp.setCell ?_ (fun h=>absurd h (by simp;omega)) _)|refine Kp.trans ?_ (by assumption)))⟩
theorem vH(op a:Int)(n m:ByteArray)(w:World)(ho:op=6∨op=15):Calls Tryz.prog 84 #[.agg #[.int .i64 op,.int .i64 a,.string n,.string m]] w fun e w'=>e=.returned (.bool (M.bJ ⟨op,a,n,m⟩))∧Ext w w':=by
 have hv:M.bJ ⟨op,a,n,m⟩=(decide (a=0)&&M.aB n&&(m.toList==[])):=by
  unfold M.bJ;simp only[dU];rcases ho with rfl|rfl<;>simp[M.isNum,M.dQ,M.eD,M.fB,Bool.and_assoc,Bool.and_comm,Bool.and_left_comm]
 rw[hv];clear hv;obtain⟨q,hq⟩:∃q,(n.toList==[])=q:=⟨_,rfl⟩;obtain⟨q',wC⟩:∃q,(m.toList==[])=q:=⟨_,rfl⟩;have HN:=fun W=>Zy (aJ n W);have HM:=fun W=>Zy (aJ m W);obtain⟨r,hr⟩:∃r,M.aB n=r:=⟨_,rfl⟩;obtain⟨r',uA⟩:∃r,M.aB m=r:=⟨_,rfl⟩;simp only[hr]at HN;simp only[uA]at HM;rw[wC,hr];clear hr uA;rcases ho with rfl|rfl
 all_goals
  by_cases ha:a=0
  · subst ha;simp only[decide_true,Bool.true_and];cases r
    · simp only[Bool.true_and,Bool.false_and];go_enter Tryz.func84,Tryz.ntmps84;go_wp2_with (go_at_call 27;refine(HN _).o.mono ?_;rintro e w' ⟨rfl,rfl⟩)
      all_goals
       go_ret;exact⟨rfl,(by repeat (first|with_reducible exact Kp.refl _ _|with_reducible assumption|with_reducible refine Kp.alloc ?_ _|with_reducible refine Kp.drew ?_|with_reducible refine Kp.drewN ?_ _|with_reducible refine Kp.setCell ?_ (fun h=>absurd h (by simp<;>omega)) _|with_reducible refine Kp.trans ?_ (by with_reducible assumption)|exact Kp.refl _ _|assumption|refine Kp.alloc ?_ _|refine Kp.drew ?_|refine Kp.drewN ?_ _|(refine Kp.setCell ?_ (fun h=>absurd h (by simp;done)) _)|(refine Kp.setCell ?_ (fun h=>absurd h (by simp;omega)) _)|refine Kp.trans ?_ (by assumption)))⟩
    simp only[Bool.true_and];cases q'
    all_goals
     go_enter Tryz.func84,Tryz.ntmps84;go_wp2_with (go_at_call 27;refine(HN _).o.mono ?_;rintro e w' ⟨rfl,rfl⟩)
     all_goals
      go_ret;exact⟨rfl,(by repeat (first|with_reducible exact Kp.refl _ _|with_reducible assumption|with_reducible refine Kp.alloc ?_ _|with_reducible refine Kp.drew ?_|with_reducible refine Kp.drewN ?_ _|with_reducible refine Kp.setCell ?_ (fun h=>absurd h (by simp<;>omega)) _|with_reducible refine Kp.trans ?_ (by with_reducible assumption)|exact Kp.refl _ _|assumption|refine Kp.alloc ?_ _|refine Kp.drew ?_|refine Kp.drewN ?_ _|(refine Kp.setCell ?_ (fun h=>absurd h (by simp;done)) _)|(refine Kp.setCell ?_ (fun h=>absurd h (by simp;omega)) _)|refine Kp.trans ?_ (by assumption)))⟩
  · have Ls:(a==0)=false:=beq_eq_false_iff_ne.2 ha;rw[decide_eq_false ha];simp only[Bool.false_and];go_enter Tryz.func84,Tryz.ntmps84;go_wp2_with (fail)
    all_goals
     go_ret;exact⟨rfl,(by repeat (first|with_reducible exact Kp.refl _ _|with_reducible assumption|with_reducible refine Kp.alloc ?_ _|with_reducible refine Kp.drew ?_|with_reducible refine Kp.drewN ?_ _|with_reducible refine Kp.setCell ?_ (fun h=>absurd h (by simp<;>omega)) _|with_reducible refine Kp.trans ?_ (by with_reducible assumption)|exact Kp.refl _ _|assumption|refine Kp.alloc ?_ _|refine Kp.drew ?_|refine Kp.drewN ?_ _|(refine Kp.setCell ?_ (fun h=>absurd h (by simp;done)) _)|(refine Kp.setCell ?_ (fun h=>absurd h (by simp;omega)) _)|refine Kp.trans ?_ (by assumption)))⟩
theorem vI(op a:Int)(n m:ByteArray)(w:World)(ho:op=7∨op=8∨op=9):Calls Tryz.prog 84 #[.agg #[.int .i64 op,.int .i64 a,.string n,.string m]] w fun e w'=>e=.returned (.bool (M.bJ ⟨op,a,n,m⟩))∧Ext w w':=by
 have hv:M.bJ ⟨op,a,n,m⟩=(decide (a=0)&&M.aB n&&M.aB m):=by
  unfold M.bJ;simp only[dU];rcases ho with rfl|rfl|rfl<;>simp[M.isNum,M.dQ,M.eD,M.fB,Bool.and_assoc,Bool.and_comm,Bool.and_left_comm]
 rw[hv];clear hv;obtain⟨q,hq⟩:∃q,(n.toList==[])=q:=⟨_,rfl⟩;obtain⟨q',wC⟩:∃q,(m.toList==[])=q:=⟨_,rfl⟩;have HN:=fun W=>Zy (aJ n W);have HM:=fun W=>Zy (aJ m W);obtain⟨r,hr⟩:∃r,M.aB n=r:=⟨_,rfl⟩;obtain⟨r',uA⟩:∃r,M.aB m=r:=⟨_,rfl⟩;simp only[hr]at HN;simp only[uA]at HM;rw[hr,uA];clear hr uA;rcases ho with rfl|rfl|rfl
 all_goals
  by_cases ha:a=0
  · subst ha;simp only[decide_true,Bool.true_and];cases r
    · simp only[Bool.true_and,Bool.false_and];go_enter Tryz.func84,Tryz.ntmps84;go_wp2_with (go_at_call 27;first|(with_reducible refine(HN _).o.mono ?_;rintro e w' ⟨rfl,rfl⟩)|(with_reducible refine(HM _).o.mono ?_;rintro e w' ⟨rfl,rfl⟩))
      all_goals
       go_ret;exact⟨rfl,(by repeat (first|with_reducible exact Kp.refl _ _|with_reducible assumption|with_reducible refine Kp.alloc ?_ _|with_reducible refine Kp.drew ?_|with_reducible refine Kp.drewN ?_ _|with_reducible refine Kp.setCell ?_ (fun h=>absurd h (by simp<;>omega)) _|with_reducible refine Kp.trans ?_ (by with_reducible assumption)|exact Kp.refl _ _|assumption|refine Kp.alloc ?_ _|refine Kp.drew ?_|refine Kp.drewN ?_ _|(refine Kp.setCell ?_ (fun h=>absurd h (by simp;done)) _)|(refine Kp.setCell ?_ (fun h=>absurd h (by simp;omega)) _)|refine Kp.trans ?_ (by assumption)))⟩
    simp only[Bool.true_and];cases r'
    all_goals
     go_enter Tryz.func84,Tryz.ntmps84;go_wp2_with (go_at_call 27;first|(with_reducible refine(HN _).o.mono ?_;rintro e w' ⟨rfl,rfl⟩)|(with_reducible refine(HM _).o.mono ?_;rintro e w' ⟨rfl,rfl⟩))
     all_goals
      go_ret;exact⟨rfl,(by repeat (first|with_reducible exact Kp.refl _ _|with_reducible assumption|with_reducible refine Kp.alloc ?_ _|with_reducible refine Kp.drew ?_|with_reducible refine Kp.drewN ?_ _|with_reducible refine Kp.setCell ?_ (fun h=>absurd h (by simp<;>omega)) _|with_reducible refine Kp.trans ?_ (by with_reducible assumption)|exact Kp.refl _ _|assumption|refine Kp.alloc ?_ _|refine Kp.drew ?_|refine Kp.drewN ?_ _|(refine Kp.setCell ?_ (fun h=>absurd h (by simp;done)) _)|(refine Kp.setCell ?_ (fun h=>absurd h (by simp;omega)) _)|refine Kp.trans ?_ (by assumption)))⟩
  · have Ls:(a==0)=false:=beq_eq_false_iff_ne.2 ha;rw[decide_eq_false ha];simp only[Bool.false_and];go_enter Tryz.func84,Tryz.ntmps84;go_wp2_with (fail)
    all_goals
     go_ret;exact⟨rfl,(by repeat (first|with_reducible exact Kp.refl _ _|with_reducible assumption|with_reducible refine Kp.alloc ?_ _|with_reducible refine Kp.drew ?_|with_reducible refine Kp.drewN ?_ _|with_reducible refine Kp.setCell ?_ (fun h=>absurd h (by simp<;>omega)) _|with_reducible refine Kp.trans ?_ (by with_reducible assumption)|exact Kp.refl _ _|assumption|refine Kp.alloc ?_ _|refine Kp.drew ?_|refine Kp.drewN ?_ _|(refine Kp.setCell ?_ (fun h=>absurd h (by simp;done)) _)|(refine Kp.setCell ?_ (fun h=>absurd h (by simp;omega)) _)|refine Kp.trans ?_ (by assumption)))⟩
theorem x8(op a:Int)(n m:ByteArray)(w:World)(h:¬(1≤op∧op≤15)):Calls Tryz.prog 84 #[.agg #[.int .i64 op,.int .i64 a,.string n,.string m]] w fun e w'=>e=.returned (.bool (M.bJ ⟨op,a,n,m⟩))∧Ext w w':=by
 have hk:∀k:Int,1≤k→k≤15→(op==k)=false:=fun k h1 h2=>beq_eq_false_iff_ne.2 (by omega);have k1:=hk 1 (by omega) (by omega);have k2:=hk 2 (by omega) (by omega);have k3:=hk 3 (by omega) (by omega);have k4:=hk 4 (by omega) (by omega);have k5:=hk 5 (by omega) (by omega);have k6:=hk 6 (by omega) (by omega);have k7:=hk 7 (by omega) (by omega);have k8:=hk 8 (by omega) (by omega);have k9:=hk 9 (by omega) (by omega);have k10:=hk 10 (by omega) (by omega);have k11:=hk 11 (by omega) (by omega);have k12:=hk 12 (by omega) (by omega);have k13:=hk 13 (by omega) (by omega);have k14:=hk 14 (by omega) (by omega);have k15:=hk 15 (by omega) (by omega);clear hk;simp only[M.bJ,M.isNum,M.dQ,M.eD,M.fB,k1,k2,k3,k4,k5,k6,k7,k8,k9,k10,k11,k12,k13,k14,k15,Bool.or_false,Bool.false_eq_true,if_false];go_enter Tryz.func84,Tryz.ntmps84;go_wp2_with fail
 all_goals
  go_ret;exact⟨rfl,(by repeat (first|with_reducible exact Kp.refl _ _|with_reducible assumption|with_reducible refine Kp.alloc ?_ _|with_reducible refine Kp.drew ?_|with_reducible refine Kp.drewN ?_ _|with_reducible refine Kp.setCell ?_ (fun h=>absurd h (by simp<;>omega)) _|with_reducible refine Kp.trans ?_ (by with_reducible assumption)|exact Kp.refl _ _|assumption|refine Kp.alloc ?_ _|refine Kp.drew ?_|refine Kp.drewN ?_ _|(refine Kp.setCell ?_ (fun h=>absurd h (by simp;done)) _)|(refine Kp.setCell ?_ (fun h=>absurd h (by simp;omega)) _)|refine Kp.trans ?_ (by assumption)))⟩
theorem x9(op a:Int)(n m:ByteArray)(w:World):Calls Tryz.prog 84 #[.agg #[.int .i64 op,.int .i64 a,.string n,.string m]] w fun e w'=>e=.returned (.bool (M.bJ ⟨op,a,n,m⟩))∧Ext w w':=by
 by_cases h:1≤op∧op≤15
 · have Ep:(op=1∨op=2∨op=3∨op=11∨op=12∨op=13)∨(op=4∨op=5∨op=10∨op=14)∨(op=6∨op=15)∨(op=7∨op=8∨op=9):=by omega
   rcases Ep with h|h|h|h
   · exact vJ op a n m w h
   · exact vK op a n m w h
   · exact vH op a n m w h
   · exact vI op a n m w h
 · exact x8 op a n m w h
end Go.Proofs.YtmcmhalhieejaaaGreatDoor
