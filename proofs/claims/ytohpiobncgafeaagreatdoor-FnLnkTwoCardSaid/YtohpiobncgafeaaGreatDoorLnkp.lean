/- Walks. -/
import Derived.Test.YtohpiobncgafeaaGreatDoorLnko
import Derived.KernelRfl
set_option maxRecDepth 100000
set_option maxHeartbeats 4000000
set_option linter.unusedSimpArgs false
set_option linter.unusedVariables false
namespace Go.Proofs.YtohpiobncgafeaaGreatDoor
open Go Go.RowKit
theorem o6(w:World)(I:Nat→Prop):cO w I M.DF [.int .i64 0,.slice none 0 0,.slice none 0 0,.slice none 0 0,.int .i64 0,.int .i64 0]:=
 ⟨_,_,_,rfl,SliceOf.nil _ _ _ _,SliceOf.nil _ _ _ _,SliceOf.nil _ _ _ _⟩
theorem QZ(w:World)(I:Nat→Prop)(v:Value)(p:M.ai)(hp:SliceOf 2 aH w I v p)(hI:∀b,I b→b<w.heap.size)(lk:Bool)(Ic:Zs (lk=true→qd))(k:Int)(n m:ByteArray)(args:List Int)(va:Option Addr)(ac:Nat)(o8:SliceOf 1 kL w I (.slice va args.length ac) args):
    Calls Tryz.prog 12 #[.agg #[v],.bool lk,.int .i64 k,.string n,.string m,.slice va args.length ac] w fun e w'=>
     (∃cs,e=.returned (.agg cs.toArray)∧cO w' (fun b=>w.heap.size≤b) (M.jO p lk k n m args) cs)∧Ext w w':=by
 obtain⟨a,cap,rfl,hn,dx⟩:=hp.form;obtain⟨w2,jS⟩:∃w2,w2=(w.alloc (.cells #[.slice a p.length cap] 41)).alloc (.cells #[.int .i64 0,.slice none 0 0,.slice none 0 0,.slice none 0 0,.int .i64 0,.int .i64 0] 65):=⟨_,rfl⟩;have bY:Ext w w2:=by rw[jS];exact kx
 have b12:az w2 (w.heap.size+1) 65 #[.int .i64 0,.slice none 0 0,.slice none 0 0,.slice none 0 0,.int .i64 0,.int .i64 0]:=by rw[jS];exact az.newAt _ _ (by simp)
 have EA:w2.heap.size=w.heap.size+2:=by rw[jS];simp
 have GQ:=qY w2 I (.slice a p.length cap) p (hp.ext aH.stays bY) (fun b hb=>by have:=hI b hb;omega);have hla:args.length≤4294967296:=by obtain⟨_,_,e,_,h4⟩:=o8.form;exact h4
 have HV:Zs (M.jO p lk k n m args=if M.dM p&&M.has p k&&M.aY n&&M.aY m&&args.all M.dw then M.start p lk k n m args else M.DF):=Ys rfl;have Lr:=Ys GQ;have jC:=Ys bY;have uF:=Ys b12;have xX:=Ys jS;have Ou:=Ys o8;have HI:=Ys hI;clear bY b12 jS GQ hp o8 hI;go_enter Tryz.func12,Tryz.ntmps12;go_wp2_with fail;rw[←xX.o];refine Lr.o.mono ?_;rintro e w3 ⟨dA,bE⟩;have aN:=uF.o.ext dA;have wQ:=Ys aN;have iL:=Ys (jC.o.trans dA);have AO:=dA.size;clear dA Lr;rcases bE with⟨rC,rfl⟩|⟨rC,l,rfl,hL,hlO⟩
 · replace HV:Zs (M.jO p lk k n m args=M.DF):=Ys (by rw[HV.o,rC];rfl);clear rC;have y0:=aN.c 0 (.int .i64 0) rfl;have f0:=aN.frozen 0;have y1:=aN.c 1 (.slice none 0 0) rfl;have f1:=aN.frozen 1;have y2:=aN.c 2 (.slice none 0 0) rfl;have f2:=aN.frozen 2;have y3:=aN.c 3 (.slice none 0 0) rfl;have f3:=aN.frozen 3;have y4:=aN.c 4 (.int .i64 0) rfl;have f4:=aN.frozen 4;have y5:=aN.c 5 (.int .i64 0) rfl;have f5:=aN.frozen 5;have yz:=aN.lt;clear aN;go_wp2_with fail;obtain⟨w9,fT⟩:∃w9,w9=(((((w3.setCell ⟨w.heap.size+1,0,none⟩ (.int .i64 0)).setCell ⟨w.heap.size+1,1,none⟩ (.slice none 0 0)).setCell ⟨w.heap.size+1,2,none⟩ (.slice none 0 0)).setCell ⟨w.heap.size+1,3,none⟩ (.slice none 0 0)).setCell ⟨w.heap.size+1,4,none⟩ (.int .i64 0)).setCell ⟨w.heap.size+1,5,none⟩ (.int .i64 0):=⟨_,rfl⟩;have kH:Kp (·=w.heap.size+1) w3 w9:=by rw[fT];exact Kp.gq (D:=(·=w.heap.size+1)) rfl _ _ _ _ _ _
   have nD:az w9 (w.heap.size+1) 65 #[.int .i64 0,.slice none 0 0,.slice none 0 0,.slice none 0 0,.int .i64 0,.int .i64 0]:=by rw[fT];exact wQ.o.gq _ _ _ _ _ _
   rw[←fT];refine bodyPost_ret (aP dB rfl _ _ (w.heap.size+1) rfl [.int .i64 0,.slice none 0 0,.slice none 0 0,.slice none 0 0,.int .i64 0,.int .i64 0] (af.iV nD) rfl) rfl ?_;rw[HV.o];exact⟨⟨_,rfl,o6 _ _⟩,iL.o.own kH (fun b e=>by omega)⟩
 have rX:=hL.ord;have HL:=Ys hL;replace HV:Zs (M.jO p lk k n m args=if M.has p k&&M.aY n&&M.aY m&&args.all M.dw then M.start p lk k n m args else M.DF):=Ys (by rw[HV.o,rC];rfl);clear hL rC;go_wp2_with fail;refine(ku _ _ _ HL.o k).mono ?_;rintro e w1 ⟨rfl,rfl⟩;cases hh:M.has p k
 · replace HV:Zs (M.jO p lk k n m args=M.DF):=Ys (by rw[HV.o,hh];rfl);clear hh;have y0:=aN.c 0 (.int .i64 0) rfl;have f0:=aN.frozen 0;have y1:=aN.c 1 (.slice none 0 0) rfl;have f1:=aN.frozen 1;have y2:=aN.c 2 (.slice none 0 0) rfl;have f2:=aN.frozen 2;have y3:=aN.c 3 (.slice none 0 0) rfl;have f3:=aN.frozen 3;have y4:=aN.c 4 (.int .i64 0) rfl;have f4:=aN.frozen 4;have y5:=aN.c 5 (.int .i64 0) rfl;have f5:=aN.frozen 5;have yz:=aN.lt;clear aN;go_wp2_with fail;obtain⟨w9,fT⟩:∃w9,w9=(((((w3.setCell ⟨w.heap.size+1,0,none⟩ (.int .i64 0)).setCell ⟨w.heap.size+1,1,none⟩ (.slice none 0 0)).setCell ⟨w.heap.size+1,2,none⟩ (.slice none 0 0)).setCell ⟨w.heap.size+1,3,none⟩ (.slice none 0 0)).setCell ⟨w.heap.size+1,4,none⟩ (.int .i64 0)).setCell ⟨w.heap.size+1,5,none⟩ (.int .i64 0):=⟨_,rfl⟩;have kH:Kp (·=w.heap.size+1) w3 w9:=by rw[fT];exact Kp.gq (D:=(·=w.heap.size+1)) rfl _ _ _ _ _ _
   have nD:az w9 (w.heap.size+1) 65 #[.int .i64 0,.slice none 0 0,.slice none 0 0,.slice none 0 0,.int .i64 0,.int .i64 0]:=by rw[fT];exact wQ.o.gq _ _ _ _ _ _
   rw[←fT];refine bodyPost_ret (aP dB rfl _ _ (w.heap.size+1) rfl [.int .i64 0,.slice none 0 0,.slice none 0 0,.slice none 0 0,.int .i64 0,.int .i64 0] (af.iV nD) rfl) rfl ?_;rw[HV.o];exact⟨⟨_,rfl,o6 _ _⟩,iL.o.own kH (fun b e=>by omega)⟩
 replace HV:Zs (M.jO p lk k n m args=if M.aY n&&M.aY m&&args.all M.dw then M.start p lk k n m args else M.DF):=Ys (by rw[HV.o,hh];rfl);clear hh;go_wp2_with fail;refine(eY n _).mono ?_;rintro e w1 ⟨rfl,rfl⟩;cases hh:M.aY n
 · replace HV:Zs (M.jO p lk k n m args=M.DF):=Ys (by rw[HV.o,hh];rfl);clear hh;have y0:=aN.c 0 (.int .i64 0) rfl;have f0:=aN.frozen 0;have y1:=aN.c 1 (.slice none 0 0) rfl;have f1:=aN.frozen 1;have y2:=aN.c 2 (.slice none 0 0) rfl;have f2:=aN.frozen 2;have y3:=aN.c 3 (.slice none 0 0) rfl;have f3:=aN.frozen 3;have y4:=aN.c 4 (.int .i64 0) rfl;have f4:=aN.frozen 4;have y5:=aN.c 5 (.int .i64 0) rfl;have f5:=aN.frozen 5;have yz:=aN.lt;clear aN;go_wp2_with fail;obtain⟨w9,fT⟩:∃w9,w9=(((((w3.setCell ⟨w.heap.size+1,0,none⟩ (.int .i64 0)).setCell ⟨w.heap.size+1,1,none⟩ (.slice none 0 0)).setCell ⟨w.heap.size+1,2,none⟩ (.slice none 0 0)).setCell ⟨w.heap.size+1,3,none⟩ (.slice none 0 0)).setCell ⟨w.heap.size+1,4,none⟩ (.int .i64 0)).setCell ⟨w.heap.size+1,5,none⟩ (.int .i64 0):=⟨_,rfl⟩;have kH:Kp (·=w.heap.size+1) w3 w9:=by rw[fT];exact Kp.gq (D:=(·=w.heap.size+1)) rfl _ _ _ _ _ _
   have nD:az w9 (w.heap.size+1) 65 #[.int .i64 0,.slice none 0 0,.slice none 0 0,.slice none 0 0,.int .i64 0,.int .i64 0]:=by rw[fT];exact wQ.o.gq _ _ _ _ _ _
   rw[←fT];refine bodyPost_ret (aP dB rfl _ _ (w.heap.size+1) rfl [.int .i64 0,.slice none 0 0,.slice none 0 0,.slice none 0 0,.int .i64 0,.int .i64 0] (af.iV nD) rfl) rfl ?_;rw[HV.o];exact⟨⟨_,rfl,o6 _ _⟩,iL.o.own kH (fun b e=>by omega)⟩
 replace HV:Zs (M.jO p lk k n m args=if M.aY m&&args.all M.dw then M.start p lk k n m args else M.DF):=Ys (by rw[HV.o,hh];rfl);clear hh;go_wp2_with fail;refine(eY m _).mono ?_;rintro e w1 ⟨rfl,rfl⟩;cases hh:M.aY m
 · replace HV:Zs (M.jO p lk k n m args=M.DF):=Ys (by rw[HV.o,hh];rfl);clear hh;have y0:=aN.c 0 (.int .i64 0) rfl;have f0:=aN.frozen 0;have y1:=aN.c 1 (.slice none 0 0) rfl;have f1:=aN.frozen 1;have y2:=aN.c 2 (.slice none 0 0) rfl;have f2:=aN.frozen 2;have y3:=aN.c 3 (.slice none 0 0) rfl;have f3:=aN.frozen 3;have y4:=aN.c 4 (.int .i64 0) rfl;have f4:=aN.frozen 4;have y5:=aN.c 5 (.int .i64 0) rfl;have f5:=aN.frozen 5;have yz:=aN.lt;clear aN;go_wp2_with fail;obtain⟨w9,fT⟩:∃w9,w9=(((((w3.setCell ⟨w.heap.size+1,0,none⟩ (.int .i64 0)).setCell ⟨w.heap.size+1,1,none⟩ (.slice none 0 0)).setCell ⟨w.heap.size+1,2,none⟩ (.slice none 0 0)).setCell ⟨w.heap.size+1,3,none⟩ (.slice none 0 0)).setCell ⟨w.heap.size+1,4,none⟩ (.int .i64 0)).setCell ⟨w.heap.size+1,5,none⟩ (.int .i64 0):=⟨_,rfl⟩;have kH:Kp (·=w.heap.size+1) w3 w9:=by rw[fT];exact Kp.gq (D:=(·=w.heap.size+1)) rfl _ _ _ _ _ _
   have nD:az w9 (w.heap.size+1) 65 #[.int .i64 0,.slice none 0 0,.slice none 0 0,.slice none 0 0,.int .i64 0,.int .i64 0]:=by rw[fT];exact wQ.o.gq _ _ _ _ _ _
   rw[←fT];refine bodyPost_ret (aP dB rfl _ _ (w.heap.size+1) rfl [.int .i64 0,.slice none 0 0,.slice none 0 0,.slice none 0 0,.int .i64 0,.int .i64 0] (af.iV nD) rfl) rfl ?_;rw[HV.o];exact⟨⟨_,rfl,o6 _ _⟩,iL.o.own kH (fun b e=>by omega)⟩
 replace HV:Zs (M.jO p lk k n m args=if args.all M.dw then M.start p lk k n m args else M.DF):=Ys (by rw[HV.o,hh];rfl);clear hh aN;have WX:Zs (SliceOf 1 kL w3 (· <l.O) (.slice va args.length ac) args):=Ys (Ou.o.keep kL.stays (Ext.same iL.o) fun b hb=>by have:=HI.o b hb;omega);go_wp2_with fail;go_loopw [39] (fun i wr=>∃q:Nat,q≤args.length∧i=.int .i64 q∧Ext w3 wr∧Zs ((args.take q).all M.dw=true)) (fun i _=>args.length - (intOf i).toNat)
 case atStart=>exact⟨0,Nat.zero_le _,rfl,Kp.refl _ _,Ys (by simp)⟩
 case round =>
  obtain⟨q,hq,rfl,hE,HQ⟩:=hrel;have HE:=Ys hE;have Nb:=hE.size;have aN:=wQ.o.ext hE;replace wQ:=Ys aN;by_cases cK:q<args.length
  · obtain⟨x,hx⟩:=gH args q cK;obtain⟨b,off,cs,rfl,hI,rfl, -,hc⟩:=(WX.o.ext kL.stays hE).get hx;rw[Nat.mul_one]at hc;have g0:=hc.one;have gz:=aS g0;have HX:=Ys hx;clear hx hc hE;go_wp2_with fail;refine(Df x _).mono ?_;rintro e w4 ⟨rfl,rfl⟩;cases nT:(decide (-9999≤x)&&decide (x≤9999))
    · replace HV:Zs (M.jO p lk k n m args=M.DF):=Ys (by rw[HV.o,jD HX.o (show M.dw x=false from nT)];rfl);clear nT g0;have y0:=aN.c 0 (.int .i64 0) rfl;have f0:=aN.frozen 0;have y1:=aN.c 1 (.slice none 0 0) rfl;have f1:=aN.frozen 1;have y2:=aN.c 2 (.slice none 0 0) rfl;have f2:=aN.frozen 2;have y3:=aN.c 3 (.slice none 0 0) rfl;have f3:=aN.frozen 3;have y4:=aN.c 4 (.int .i64 0) rfl;have f4:=aN.frozen 4;have y5:=aN.c 5 (.int .i64 0) rfl;have f5:=aN.frozen 5;have yz:=aN.lt;clear aN;go_wp2_with fail;obtain⟨w9,fT⟩:∃w9,w9=(((((wr.setCell ⟨w.heap.size+1,0,none⟩ (.int .i64 0)).setCell ⟨w.heap.size+1,1,none⟩ (.slice none 0 0)).setCell ⟨w.heap.size+1,2,none⟩ (.slice none 0 0)).setCell ⟨w.heap.size+1,3,none⟩ (.slice none 0 0)).setCell ⟨w.heap.size+1,4,none⟩ (.int .i64 0)).setCell ⟨w.heap.size+1,5,none⟩ (.int .i64 0):=⟨_,rfl⟩;have kH:Kp (·=w.heap.size+1) wr w9:=by rw[fT];exact Kp.gq (D:=(·=w.heap.size+1)) rfl _ _ _ _ _ _
      have nD:az w9 (w.heap.size+1) 65 #[.int .i64 0,.slice none 0 0,.slice none 0 0,.slice none 0 0,.int .i64 0,.int .i64 0]:=by rw[fT];exact wQ.o.gq _ _ _ _ _ _
      rw[←fT];refine bodyPost_ret (aP dB rfl _ _ (w.heap.size+1) rfl [.int .i64 0,.slice none 0 0,.slice none 0 0,.slice none 0 0,.int .i64 0,.int .i64 0] (af.iV nD) rfl) rfl ?_;rw[HV.o];exact⟨⟨_,rfl,o6 _ _⟩,(iL.o.trans HE.o).own kH (fun b e=>by omega)⟩
    · have HN:Zs (M.dw x=true):=Ys nT;clear nT aN;go_wp2_with fail;exact⟨⟨q+1,by omega,by go_num,HE.o,Ys (all_succ HQ.o HX.o HN.o)⟩,by simp[intOf];omega⟩
  · have HN:Zs (args.all M.dw=true):=Ys (iH HQ.o (by omega));replace HV:Zs (M.jO p lk k n m args=M.start p lk k n m args):=Ys (by rw[HV.o,HN.o];rfl);clear hE aN;go_wp2_with fail;refine(EJ _ _ _ (HL.o.ext HE.o) lk Ic k n m args va ac (WX.o.ext kL.stays HE.o) HN.o).mono ?_;rintro e w4 ⟨⟨cs,rfl,hS⟩,ni⟩;rw[←HV.o]at hS;obtain⟨s,hs⟩:∃s,M.jO p lk k n m args=s:=⟨_,rfl⟩;rw[hs]at hS;have HSS:=Ys hs;have HS:=Ys hS;obtain⟨a1,c1,a2,c2,a3,c3,rfl, -, -, -⟩:=hS.form;have aN:=wQ.o.kp ni (by omega);have OX:=ni.size;obtain⟨uI,oH⟩:∃uI,uI=(((((w4.setCell ⟨w.heap.size+1,0,none⟩ (.int .i64 s.status)).setCell ⟨w.heap.size+1,1,none⟩ (.slice a1 s.frames.length c1)).setCell ⟨w.heap.size+1,2,none⟩ (.slice a2 s.heap.length c2)).setCell ⟨w.heap.size+1,3,none⟩ (.slice a3 s.outs.length c3)).setCell ⟨w.heap.size+1,4,none⟩ (.int .i64 s.back.kind)).setCell ⟨w.heap.size+1,5,none⟩ (.int .i64 s.back.n):=⟨_,rfl⟩;have mf:Kp (·=w.heap.size+1) w4 uI:=by rw[oH];exact Kp.gq (D:=(·=w.heap.size+1)) rfl _ _ _ _ _ _
    have yB:az uI (w.heap.size+1) 65 #[.int .i64 s.status,.slice a1 s.frames.length c1,.slice a2 s.heap.length c2,.slice a3 s.outs.length c3,.int .i64 s.back.kind,.int .i64 s.back.n]:=by rw[oH];exact aN.gq _ _ _ _ _ _
    have Mv:Ext w uI:=((iL.o.trans HE.o).own ni (fun b e=>by omega)).own mf (fun b e=>by omega);have MB:=cO.stays _ _ _ (fun b=>w.heap.size≤b) _ _ (mf.same fun b (hb:wr.heap.size≤b) e=>by omega) (fun b (hb:wr.heap.size≤b)=>by omega) HS.o;have y0:=aN.c 0 (.int .i64 0) rfl;have f0:=aN.frozen 0;have y1:=aN.c 1 (.slice none 0 0) rfl;have f1:=aN.frozen 1;have y2:=aN.c 2 (.slice none 0 0) rfl;have f2:=aN.frozen 2;have y3:=aN.c 3 (.slice none 0 0) rfl;have f3:=aN.frozen 3;have y4:=aN.c 4 (.int .i64 0) rfl;have f4:=aN.frozen 4;have y5:=aN.c 5 (.int .i64 0) rfl;have f5:=aN.frozen 5;have yz:=aN.lt;have TC:=Ys Mv;have Lu:=Ys MB;have xQ:=Ys yB;have FZ:=Ys oH;clear aN oH mf yB Mv MB hS ni hs;go_wp2_with fail;rw[←FZ.o];refine bodyPost_ret (aP dB rfl _ _ (w.heap.size+1) rfl [.int .i64 s.status,.slice a1 s.frames.length c1,.slice a2 s.heap.length c2,.slice a3 s.outs.length c3,.int .i64 s.back.kind,.int .i64 s.back.n] (af.iV xQ.o) rfl) rfl ?_;rw[HSS.o];exact⟨⟨_,rfl,Lu.o⟩,TC.o⟩
theorem M.Kz{p:M.ai}{lk:Bool}{s:M.St}(h:s.status≠1)(f:Nat):M.steps p lk f s=s:=by
 cases f with
 |zero=>rfl
 |succ f=>unfold M.steps;rw[if_neg h]
theorem Q0(w:World)(I:Nat→Prop)(v:Value)(p:M.ai)(hp:SliceOf 2 aH w I v p)(hI:∀b,I b→b<w.heap.size)(lk:Bool)(Ic:Zs (lk=true→qd))(s:M.St)(cs:List Value)(hs:cO w I s cs)(fuel:Int):
    Calls Tryz.prog 11 #[.agg #[v],.bool lk,.agg cs.toArray,.int .i64 fuel] w fun e w'=>
     (∃cs',e=.returned (.agg cs'.toArray)∧cO w' (fun b=>w.heap.size≤b) (M.mR p lk s fuel) cs')∧Ext w w':=by
 obtain⟨a,cap,rfl,hn,dx⟩:=hp.form;obtain⟨a1,c1,a2,c2,a3,c3,rfl, -, -, -⟩:=hs.form;obtain⟨w2,jS⟩:∃w2,w2=((w.alloc (.cells #[.slice a p.length cap] 41)).alloc (.cells #[.int .i64 s.status,.slice a1 s.frames.length c1,.slice a2 s.heap.length c2,.slice a3 s.outs.length c3,.int .i64 s.back.kind,.int .i64 s.back.n] 65)).alloc (.cells #[.int .i64 0,.slice none 0 0,.slice none 0 0,.slice none 0 0,.int .i64 0,.int .i64 0] 65):=⟨_,rfl⟩;have bY:Ext w w2:=by rw[jS];exact kx
 have b8:az w2 (w.heap.size+2) 65 #[.int .i64 0,.slice none 0 0,.slice none 0 0,.slice none 0 0,.int .i64 0,.int .i64 0]:=by rw[jS];exact az.newAt _ _ (by simp)
 have b6:az w2 (w.heap.size+1) 65 #[.int .i64 s.status,.slice a1 s.frames.length c1,.slice a2 s.heap.length c2,.slice a3 s.outs.length c3,.int .i64 s.back.kind,.int .i64 s.back.n]:=by rw[jS];exact az.ext (w:=(w.alloc (.cells #[.slice a p.length cap] 41)).alloc (.cells #[.int .i64 s.status,.slice a1 s.frames.length c1,.slice a2 s.heap.length c2,.slice a3 s.outs.length c3,.int .i64 s.back.kind,.int .i64 s.back.n] 65)) (az.newAt _ _ (by simp)) ((Kp.refl _ _).alloc _)
 have EA:w2.heap.size=w.heap.size+3:=by rw[jS];simp
 have GQ:=qY w2 I (.slice a p.length cap) p (hp.ext aH.stays bY) (fun b hb=>by have:=hI b hb;omega);have HV:Zs (M.mR p lk s fuel=if decide (fuel≤400)&&M.dM p&&M.zL p s then M.steps p lk fuel.toNat s else M.DF):=Ys rfl;have Lr:=Ys GQ;have jC:=Ys bY;have zQ:=Ys b8;have bV:=Ys b6;have xX:=Ys jS;have HS:=Ys hs;have HI:=Ys hI;clear bY b8 b6 jS GQ hp hs hI;go_enter Tryz.func11,Tryz.ntmps11;go_wp2_with fail;rw[←xX.o];refine Lr.o.mono ?_;rintro e w3 ⟨dA,bE⟩;have aN:=zQ.o.ext dA;have wQ:=Ys aN;have abh:=Ys dA;have iL:=Ys (jC.o.trans dA);have AO:=dA.size;clear dA Lr;by_cases hf:400<fuel
 · replace HV:Zs (M.mR p lk s fuel=M.DF):=Ys (by rw[HV.o,decide_eq_false (by omega)];rfl);have hf':decide (400<fuel)=true:=decide_eq_true hf;clear hf;rcases bE with⟨rC,rfl⟩|⟨rC,l,rfl,hL,hlO⟩
   · clear rC;have y0:=aN.c 0 (.int .i64 0) rfl;have f0:=aN.frozen 0;have y1:=aN.c 1 (.slice none 0 0) rfl;have f1:=aN.frozen 1;have y2:=aN.c 2 (.slice none 0 0) rfl;have f2:=aN.frozen 2;have y3:=aN.c 3 (.slice none 0 0) rfl;have f3:=aN.frozen 3;have y4:=aN.c 4 (.int .i64 0) rfl;have f4:=aN.frozen 4;have y5:=aN.c 5 (.int .i64 0) rfl;have f5:=aN.frozen 5;have yz:=aN.lt;clear aN;go_wp2_with fail;obtain⟨w9,fT⟩:∃w9,w9=(((((w3.setCell ⟨w.heap.size+2,0,none⟩ (.int .i64 0)).setCell ⟨w.heap.size+2,1,none⟩ (.slice none 0 0)).setCell ⟨w.heap.size+2,2,none⟩ (.slice none 0 0)).setCell ⟨w.heap.size+2,3,none⟩ (.slice none 0 0)).setCell ⟨w.heap.size+2,4,none⟩ (.int .i64 0)).setCell ⟨w.heap.size+2,5,none⟩ (.int .i64 0):=⟨_,rfl⟩;have kH:Kp (·=w.heap.size+2) w3 w9:=by rw[fT];exact Kp.gq (D:=(·=w.heap.size+2)) rfl _ _ _ _ _ _
     have nD:az w9 (w.heap.size+2) 65 #[.int .i64 0,.slice none 0 0,.slice none 0 0,.slice none 0 0,.int .i64 0,.int .i64 0]:=by rw[fT];exact wQ.o.gq _ _ _ _ _ _
     rw[←fT];refine bodyPost_ret (aP dB rfl _ _ (w.heap.size+2) rfl [.int .i64 0,.slice none 0 0,.slice none 0 0,.slice none 0 0,.int .i64 0,.int .i64 0] (af.iV nD) rfl) rfl ?_;rw[HV.o];exact⟨⟨_,rfl,o6 _ _⟩,iL.o.own kH (fun b e=>by omega)⟩
   · clear rC hL;have y0:=aN.c 0 (.int .i64 0) rfl;have f0:=aN.frozen 0;have y1:=aN.c 1 (.slice none 0 0) rfl;have f1:=aN.frozen 1;have y2:=aN.c 2 (.slice none 0 0) rfl;have f2:=aN.frozen 2;have y3:=aN.c 3 (.slice none 0 0) rfl;have f3:=aN.frozen 3;have y4:=aN.c 4 (.int .i64 0) rfl;have f4:=aN.frozen 4;have y5:=aN.c 5 (.int .i64 0) rfl;have f5:=aN.frozen 5;have yz:=aN.lt;clear aN;go_wp2_with fail;obtain⟨w9,fT⟩:∃w9,w9=(((((w3.setCell ⟨w.heap.size+2,0,none⟩ (.int .i64 0)).setCell ⟨w.heap.size+2,1,none⟩ (.slice none 0 0)).setCell ⟨w.heap.size+2,2,none⟩ (.slice none 0 0)).setCell ⟨w.heap.size+2,3,none⟩ (.slice none 0 0)).setCell ⟨w.heap.size+2,4,none⟩ (.int .i64 0)).setCell ⟨w.heap.size+2,5,none⟩ (.int .i64 0):=⟨_,rfl⟩;have kH:Kp (·=w.heap.size+2) w3 w9:=by rw[fT];exact Kp.gq (D:=(·=w.heap.size+2)) rfl _ _ _ _ _ _
     have nD:az w9 (w.heap.size+2) 65 #[.int .i64 0,.slice none 0 0,.slice none 0 0,.slice none 0 0,.int .i64 0,.int .i64 0]:=by rw[fT];exact wQ.o.gq _ _ _ _ _ _
     rw[←fT];refine bodyPost_ret (aP dB rfl _ _ (w.heap.size+2) rfl [.int .i64 0,.slice none 0 0,.slice none 0 0,.slice none 0 0,.int .i64 0,.int .i64 0] (af.iV nD) rfl) rfl ?_;rw[HV.o];exact⟨⟨_,rfl,o6 _ _⟩,iL.o.own kH (fun b e=>by omega)⟩
 have hf':decide (400<fuel)=false:=decide_eq_false hf;rcases bE with⟨rC,rfl⟩|⟨rC,l,rfl,hL,hlO⟩
 · replace HV:Zs (M.mR p lk s fuel=M.DF):=Ys (by rw[HV.o,rC,Bool.and_false];rfl);clear rC hf;have y0:=aN.c 0 (.int .i64 0) rfl;have f0:=aN.frozen 0;have y1:=aN.c 1 (.slice none 0 0) rfl;have f1:=aN.frozen 1;have y2:=aN.c 2 (.slice none 0 0) rfl;have f2:=aN.frozen 2;have y3:=aN.c 3 (.slice none 0 0) rfl;have f3:=aN.frozen 3;have y4:=aN.c 4 (.int .i64 0) rfl;have f4:=aN.frozen 4;have y5:=aN.c 5 (.int .i64 0) rfl;have f5:=aN.frozen 5;have yz:=aN.lt;clear aN;go_wp2_with fail;obtain⟨w9,fT⟩:∃w9,w9=(((((w3.setCell ⟨w.heap.size+2,0,none⟩ (.int .i64 0)).setCell ⟨w.heap.size+2,1,none⟩ (.slice none 0 0)).setCell ⟨w.heap.size+2,2,none⟩ (.slice none 0 0)).setCell ⟨w.heap.size+2,3,none⟩ (.slice none 0 0)).setCell ⟨w.heap.size+2,4,none⟩ (.int .i64 0)).setCell ⟨w.heap.size+2,5,none⟩ (.int .i64 0):=⟨_,rfl⟩;have kH:Kp (·=w.heap.size+2) w3 w9:=by rw[fT];exact Kp.gq (D:=(·=w.heap.size+2)) rfl _ _ _ _ _ _
   have nD:az w9 (w.heap.size+2) 65 #[.int .i64 0,.slice none 0 0,.slice none 0 0,.slice none 0 0,.int .i64 0,.int .i64 0]:=by rw[fT];exact wQ.o.gq _ _ _ _ _ _
   rw[←fT];refine bodyPost_ret (aP dB rfl _ _ (w.heap.size+2) rfl [.int .i64 0,.slice none 0 0,.slice none 0 0,.slice none 0 0,.int .i64 0,.int .i64 0] (af.iV nD) rfl) rfl ?_;rw[HV.o];exact⟨⟨_,rfl,o6 _ _⟩,iL.o.own kH (fun b e=>by omega)⟩
 have rX:=hL.ord;have HL:=Ys hL;replace HV:Zs (M.mR p lk s fuel=if M.zL p s then M.steps p lk fuel.toNat s else M.DF):=Ys (by rw[HV.o,decide_eq_true (by omega),rC];rfl);have PG:=bV.o.ext abh.o;have Dx:Zs (cO w3 (· <l.O) s [.int .i64 s.status,.slice a1 s.frames.length c1,.slice a2 s.heap.length c2,.slice a3 s.outs.length c3,.int .i64 s.back.kind,.int .i64 s.back.n]):=Ys (cO.stays _ _ _ _ _ _ (Ext.same iL.o) (fun b hb=>by have:=HI.o b hb;omega) HS.o);have O6:=Ys PG;have HF:=Ys hf;have x0:=PG.c 0 (.int .i64 s.status) rfl;have x1:=PG.c 1 (.slice a1 s.frames.length c1) rfl;have x2:=PG.c 2 (.slice a2 s.heap.length c2) rfl;have x3:=PG.c 3 (.slice a3 s.outs.length c3) rfl;have x4:=PG.c 4 (.int .i64 s.back.kind) rfl;have x5:=PG.c 5 (.int .i64 s.back.n) rfl;have xz:=PG.lt;clear hL rC PG hf aN;go_wp2_with fail;refine(Hh _ _ _ HL.o s _ Dx.o).mono ?_;rintro e w4 ⟨rfl,P7⟩;have Li:=Ys P7;have OX:=P7.kp.size;clear P7 x0 x1 x2 x3 x4 x5 xz;have aN:=wQ.o.kp Li.o.kp (by omega);replace wQ:=Ys aN;have iM:Zs (Ext w w4):=Ys (iL.o.own Li.o.kp (fun b e=>by omega));cases hv:M.zL p s
 · replace HV:Zs (M.mR p lk s fuel=M.DF):=Ys (by rw[HV.o,hv];rfl);clear hv;have y0:=aN.c 0 (.int .i64 0) rfl;have f0:=aN.frozen 0;have y1:=aN.c 1 (.slice none 0 0) rfl;have f1:=aN.frozen 1;have y2:=aN.c 2 (.slice none 0 0) rfl;have f2:=aN.frozen 2;have y3:=aN.c 3 (.slice none 0 0) rfl;have f3:=aN.frozen 3;have y4:=aN.c 4 (.int .i64 0) rfl;have f4:=aN.frozen 4;have y5:=aN.c 5 (.int .i64 0) rfl;have f5:=aN.frozen 5;have yz:=aN.lt;clear aN;go_wp2_with fail;obtain⟨w9,fT⟩:∃w9,w9=(((((w4.setCell ⟨w.heap.size+2,0,none⟩ (.int .i64 0)).setCell ⟨w.heap.size+2,1,none⟩ (.slice none 0 0)).setCell ⟨w.heap.size+2,2,none⟩ (.slice none 0 0)).setCell ⟨w.heap.size+2,3,none⟩ (.slice none 0 0)).setCell ⟨w.heap.size+2,4,none⟩ (.int .i64 0)).setCell ⟨w.heap.size+2,5,none⟩ (.int .i64 0):=⟨_,rfl⟩;have kH:Kp (·=w.heap.size+2) w4 w9:=by rw[fT];exact Kp.gq (D:=(·=w.heap.size+2)) rfl _ _ _ _ _ _
   have nD:az w9 (w.heap.size+2) 65 #[.int .i64 0,.slice none 0 0,.slice none 0 0,.slice none 0 0,.int .i64 0,.int .i64 0]:=by rw[fT];exact wQ.o.gq _ _ _ _ _ _
   rw[←fT];refine bodyPost_ret (aP dB rfl _ _ (w.heap.size+2) rfl [.int .i64 0,.slice none 0 0,.slice none 0 0,.slice none 0 0,.int .i64 0,.int .i64 0] (af.iV nD) rfl) rfl ?_;rw[HV.o];exact⟨⟨_,rfl,o6 _ _⟩,iM.o.own kH (fun b e=>by omega)⟩
 replace HV:Zs (M.mR p lk s fuel=M.steps p lk fuel.toNat s):=Ys (by rw[HV.o,hv];rfl);have b64:=O6.o.kp Li.o.kp (by omega);have x0:=b64.c 0 (.int .i64 s.status) rfl;have x1:=b64.c 1 (.slice a1 s.frames.length c1) rfl;have x2:=b64.c 2 (.slice a2 s.heap.length c2) rfl;have x3:=b64.c 3 (.slice a3 s.outs.length c3) rfl;have x4:=b64.c 4 (.int .i64 s.back.kind) rfl;have x5:=b64.c 5 (.int .i64 s.back.n) rfl;have xz:=b64.lt;have Lx:=Ys hv;clear hv b64 aN;go_wp2_with fail;refine(EW _ _ _ Li.o.at_ lk s _ (cO.stays _ _ _ _ _ _ (Li.o.same (by omega)) (fun _ h=>h) Dx.o) Lx.o).mono ?_;rintro e w5 ⟨⟨mb,own,g,rfl,hM,hg⟩,ed⟩;have HM:=Ys hM;have HG:=Ys hg;have iG:=Ys ed;have G6:=ed.size;clear hM hg ed x0 x1 x2 x3 x4 x5 xz;go_wp2_with fail;go_loopw [11] (fun i wr=>∃(q:Nat) (own':Own) (g':Gh),i=.int .i64 q∧Ext w wr∧Kp (fun b=>w4.heap.size≤b∨b=l.D) w5 wr∧ay wr l p own' w4.heap.size mb lk g'∧M.wS p g'.st∧M.steps p lk fuel.toNat s=M.steps p lk (fuel.toNat - q) g'.st) (fun i _=>fuel.toNat - (intOf i).toNat)
 case atStart=>exact⟨0,own,g,rfl,iM.o.trans iG.o,Kp.refl _ _,HM.o,by rw[HG.o];exact M.zq.1 Lx.o,by rw[HG.o];rfl⟩
 case round =>
  obtain⟨q,own',g',rfl,hE,IE,hM,hR,bU⟩:=hrel;have HE:=Ys hE;have HKR:=Ys IE;have Aj:=Ys hM;have HR:=Ys hR;have qN:=Ys bU;have e2:=hM.blk.c 2 (.int .i64 g'.status) rfl;have ez:=hM.blk.lt;have Nb:=IE.size;by_cases tQ:(q:Int)<fuel∧g'.status=1
  · obtain⟨hq,xJ⟩:=tQ;have Vh:decide ((q:Int)<fuel)=true:=decide_eq_true hq;have e3:((g'.status:Int)==1)=true:=beq_iff_eq.2 xJ;obtain⟨r,c,bE⟩:∃r c,g'.cs=r++[c]:=by
     have jy:g'.cs≠[]:=fun e=>by
      have:=hR.goes.1 xJ;simp[Gh.st,e]at this
     exact⟨g'.cs.dropLast,g'.cs.getLast jy,(List.dropLast_concat_getLast jy).symm⟩
    have Ey:=Kb wr l p own' w4.heap.size mb lk Ic g' hM r c bE xJ;have XJ:=Ys Ey;have HQ:=Ys hq;have HS1:=Ys xJ;have Sk:IntKind.i64.wrap ((q:Int)+1)=q+1:=IntWalk.i64_in _ (by have:=HF.o;omega);clear hE IE hM hR bU bE Ey xJ;go_wp2_with fail;refine XJ.o.mono ?_;rintro e w6 ⟨rfl,xD,acV,g6,acd,hM6,hg6⟩;have HX:=Ys (And.intro xD (And.intro hM6 hg6));have hd:∀b,MO l own' b→w4.heap.size≤b∨b=l.D:=fun b hb=>by
     rcases hb with hb|hb
     · exact .inr hb
     · exact .inl (Aj.o.dom b hb).1
    have HD:=Ys hd;clear xD acd hM6 hg6 hd e2 ez;go_wp2_with fail;refine⟨⟨q+1,acV,g6,by go_num,HE.o.own HX.o.1 (fun b hb=>by rcases HD.o b hb with h|h<;>omega),HKR.o.trans (HX.o.1.weak fun b _ hb=>HD.o b hb),HX.o.2.1,?_,?_⟩,by simp[intOf];omega⟩
    · rw[HX.o.2.2];exact M.Ky Aj.o.cu.ok HR.o lk
    · rw[HX.o.2.2,qN.o];have e1:fuel.toNat - q=(fuel.toNat - (q+1))+1:=by omega
      rw[e1];show(if g'.st.status=1 then _ else _)=_
      rw[if_pos (show g'.st.status=1 from HS1.o)]
  · have tL:M.steps p lk fuel.toNat s=g'.st:=by
     rw[bU];by_cases xJ:g'.status=1
     · have:fuel.toNat - q=0:=by omega
       rw[this];rfl
     · exact M.Kz xJ _
    have gF:=Ys tL;have Z4:=ze wr l p own' w4.heap.size mb lk g' hM;have abR:=Ys Z4;have aN:=(wQ.o.ext iG.o).kp IE (fun e=>by omega);replace wQ:=Ys aN;have Vh:∃b1,decide ((q:Int)<fuel)=b1:=⟨_,rfl⟩;obtain⟨b1,p8⟩:=Vh;have e3:∃b2,((g'.status:Int)==1)=b2:=⟨_,rfl⟩;obtain⟨b2,iA⟩:=e3;have hand:(b1&&b2)=false:=by
     rw[←p8,←iA];cases hx:decide ((q:Int)<fuel)
     · rfl
     · have h1:=of_decide_eq_true hx;have h2:¬g'.status=1:=fun e=>tQ ⟨h1,e⟩;simp[h2]
    have adm:=wQ;clear tQ hE IE hM hR bU tL Z4 aN;have tail:True:=trivial;have Bo:(b1=false)∨(b1=true∧b2=false):=by cases b1<;>cases b2<;>simp_all
    clear hand;rcases Bo with rfl|⟨rfl,rfl⟩
    all_goals
     go_wp2_with fail;refine abR.o.mono ?_;rintro e w6 ⟨⟨cs,rfl,hS⟩,iZ⟩;rw[←gF.o,←HV.o]at hS;obtain⟨s2,JL⟩:∃s2,M.mR p lk s fuel=s2:=⟨_,rfl⟩;rw[JL]at hS;have XH:=Ys JL;have HSX:=Ys hS;obtain⟨a1',c1',XR,c2',a3',c3',rfl, -, -, -⟩:=hS.form;have aN:=wQ.o.ext iZ;have OY:=iZ.size;obtain⟨uI,oH⟩:∃uI,uI=(((((w6.setCell ⟨w.heap.size+2,0,none⟩ (.int .i64 s2.status)).setCell ⟨w.heap.size+2,1,none⟩ (.slice a1' s2.frames.length c1')).setCell ⟨w.heap.size+2,2,none⟩ (.slice XR s2.heap.length c2')).setCell ⟨w.heap.size+2,3,none⟩ (.slice a3' s2.outs.length c3')).setCell ⟨w.heap.size+2,4,none⟩ (.int .i64 s2.back.kind)).setCell ⟨w.heap.size+2,5,none⟩ (.int .i64 s2.back.n):=⟨_,rfl⟩;have mf:Kp (·=w.heap.size+2) w6 uI:=by rw[oH];exact Kp.gq (D:=(·=w.heap.size+2)) rfl _ _ _ _ _ _
     have yB:az uI (w.heap.size+2) 65 #[.int .i64 s2.status,.slice a1' s2.frames.length c1',.slice XR s2.heap.length c2',.slice a3' s2.outs.length c3',.int .i64 s2.back.kind,.int .i64 s2.back.n]:=by rw[oH];exact aN.gq _ _ _ _ _ _
     have Mv:Ext w uI:=(HE.o.trans iZ).own mf (fun b e=>by omega);have MB:=cO.stays _ _ _ (fun b=>w.heap.size≤b) _ _ (mf.same fun b (hb:wr.heap.size≤b) e=>by omega) (fun b (hb:wr.heap.size≤b)=>by omega) HSX.o;have y0:=aN.c 0 (.int .i64 0) rfl;have f0:=aN.frozen 0;have y1:=aN.c 1 (.slice none 0 0) rfl;have f1:=aN.frozen 1;have y2:=aN.c 2 (.slice none 0 0) rfl;have f2:=aN.frozen 2;have y3:=aN.c 3 (.slice none 0 0) rfl;have f3:=aN.frozen 3;have y4:=aN.c 4 (.int .i64 0) rfl;have f4:=aN.frozen 4;have y5:=aN.c 5 (.int .i64 0) rfl;have f5:=aN.frozen 5;have yz:=aN.lt;have TC:=Ys Mv;have Lu:=Ys MB;have xQ:=Ys yB;have FZ:=Ys oH;clear aN oH mf yB Mv MB hS iZ JL;go_wp2_with fail;rw[←FZ.o];refine bodyPost_ret (aP dB rfl _ _ (w.heap.size+2) rfl [.int .i64 s2.status,.slice a1' s2.frames.length c1',.slice XR s2.heap.length c2',.slice a3' s2.outs.length c3',.int .i64 s2.back.kind,.int .i64 s2.back.n] (af.iV xQ.o) rfl) rfl ?_;rw[XH.o];exact⟨⟨_,rfl,Lu.o⟩,TC.o⟩
def BytesAt(W:World)(v:Value)(zs:List Int):Prop:=
 (v=.slice none 0 0∧zs=[])∨∃a cap,v=.slice (some a) zs.length cap∧zs.length≤cap∧(∀i,i<zs.length→W.cell? (a.add i)=some (.int .u8 (zs.getD i 0)))∧∀n∈zs,0≤n∧n<256
theorem BytesAt.form{W:World}{v:Value}{zs:List Int}(h:BytesAt W v zs):∃a cap,v=.slice a zs.length cap:=by
 rcases h with⟨rfl,rfl⟩|⟨a,cap,rfl,_⟩
 · exact⟨none,0,rfl⟩
 · exact⟨_,_,rfl⟩
theorem Pz{W:World}{a:Addr}{v:Value}(h:W.cell? a=some v):a.block<W.heap.size:=by
 rcases Nat.lt_or_ge a.block W.heap.size with h1|h1
 · exact h1
 · simp[World.cell?,Array.getElem?_eq_none h1]at h
theorem BytesAt.ext{W W':World}{v:Value}{zs:List Int}(h:BytesAt W v zs)(hE:Ext W W'):BytesAt W' v zs:=by
 rcases h with h|⟨a,cap,h1,h2,h3,h4⟩
 · exact .inl h
 · exact .inr ⟨a,cap,h1,h2,fun i hi=>(World.cell?_of_block (hE.block _ (Pz (h3 i hi)) fun x=>x)).trans (h3 i hi),h4⟩
theorem Bi{zs:List Int}(h:∀n∈zs,0≤n∧n<256){i:Nat}(hi:i<zs.length):0≤zs.getD i 0∧zs.getD i 0<256:=by
 have e:zs.getD i 0=zs[i]:=by simp[List.getD,List.getElem?_eq_getElem hi]
 rw[e];exact h _ (List.getElem_mem _)
end Go.Proofs.YtohpiobncgafeaaGreatDoor
namespace Go.Proofs.YtohpiobncgafeaaGreatDoor
open Go Go.RowKit
namespace M
def uh(zs:List Int)(k:Nat):Int:=if zs.length=0 then k else(zs.getD (k % zs.length) 0*40+zs.getD ((k*7+1)% zs.length) 0)% 19999 - 9999
theorem Nt(zs:List Int)(k:Nat)(hk:k≤1000): -9999≤uh zs k∧uh zs k≤9999:=by
 unfold uh;split<;>omega
end M
theorem Vu(w:World)(v:Value)(zs:List Int)(h:BytesAt w v zs)(hz:zs.length≤1048576)(k:Nat)(hk:k≤1000):
    Calls Tryz.prog 4 #[v,.int .i64 k] w fun e w'=>e=.returned (.int .i64 (M.uh zs k))∧w=w':=by
 rcases h with⟨rfl,rfl⟩|⟨a,cap,rfl,dx,hc,hb⟩
 · go_enter Tryz.func4,Tryz.ntmps4;go_wp2_with fail;go_ret;exact⟨rfl,rfl⟩
 · by_cases h0:zs.length=0
   · have HV:Zs (M.uh zs k=k):=Ys (by unfold M.uh;rw[if_pos h0]);have Yk:((zs.length:Int)==0)=true:=by simp[h0]
     clear h0 hc;go_enter Tryz.func4,Tryz.ntmps4;go_wp2_with fail;go_ret;exact⟨by rw[HV.o];rfl,rfl⟩
   · obtain⟨i,hi⟩:∃i,k % zs.length=i:=⟨_,rfl⟩;obtain⟨j,hj⟩:∃j,(k*7+1)% zs.length=j:=⟨_,rfl⟩;have Zx:i<zs.length:=by rw[←hi];exact Nat.mod_lt _ (by omega)
     have hjl:j<zs.length:=by rw[←hj];exact Nat.mod_lt _ (by omega)
     have HV:Zs (M.uh zs k=(zs.getD i 0*40+zs.getD j 0)% 19999 - 9999):=Ys (by unfold M.uh;rw[if_neg h0,hi,hj]);have Yk:((zs.length:Int)==0)=false:=beq_eq_false_iff_ne.2 (by omega);have hbi:=Bi hb Zx;have hbj:=Bi hb hjl;have ci:=hc i Zx;have cj:=hc j hjl;obtain⟨x,hx⟩:∃x,zs.getD i 0=x:=⟨_,rfl⟩;obtain⟨y,hy⟩:∃y,zs.getD j 0=y:=⟨_,rfl⟩;rw[hx]at hbi ci HV;rw[hy]at hbj cj HV;have e1:(k:Int)% (zs.length:Int)=i:=by omega
     have e2:((k:Int)*7+1)% (zs.length:Int)=j:=by
      have:(((k*7+1)% zs.length:Nat):Int)=((k:Int)*7+1)% (zs.length:Int):=by simp
      rw[←this,hj]
     obtain⟨hx0,hx1⟩:=hbi;obtain⟨hy0,hy1⟩:=hbj;have hln:0<zs.length:=by omega
     clear hc hb hx hy hi hj h0;go_enter Tryz.func4,Tryz.ntmps4;go_wp2_with fail;go_ret;exact⟨by rw[HV.o];rfl,rfl⟩
theorem oJ(w:World):Calls Tryz.prog 6 #[] w fun e w'=>e=.returned (.agg #[.int .i64 1,.string ⟨#[]⟩])∧Ext w w':=by
 go_enter Tryz.func6,Tryz.ntmps6;go_wp2_with fail;refine bodyPost_ret (v:=.agg #[.int .i64 1,.string ⟨#[]⟩]) (by simp[results,Tryz.results6,go_sem]) rfl ?_;exact⟨rfl,kx⟩
theorem Nu(w:World)(st:Int)(a1:Option Addr)(n1 c1:Nat)(a2:Option Addr)(n2 c2:Nat)(a3:Option Addr)(n3 c3:Nat)(bk bn n:Int):
    Calls Tryz.prog 13 #[.agg #[.int .i64 st,.slice a1 n1 c1,.slice a2 n2 c2,.slice a3 n3 c3,.int .i64 bk,.int .i64 bn],.int .i64 n] w fun e w'=>e=.returned (.bool (decide (st=2)&&decide (M.Val.mk bk bn=⟨1,n⟩)))∧Ext w w':=by
 by_cases h1:st=2
 · subst h1;by_cases h2:bk=1
   · subst h2;by_cases h3:bn=n
     · subst h3;go_enter Tryz.func13,Tryz.ntmps13;go_wp2_with fail;go_ret;exact⟨ae (by simp),kx⟩
     · have e3:((bn:Int)==n)=false:=beq_eq_false_iff_ne.2 h3;have H3:=Ys h3;clear h3;go_enter Tryz.func13,Tryz.ntmps13;go_wp2_with fail;go_ret;exact⟨ae (by simp[H3.o]),kx⟩
   · have e2:((bk:Int)==1)=false:=beq_eq_false_iff_ne.2 h2;have H2:=Ys h2;clear h2;go_enter Tryz.func13,Tryz.ntmps13;go_wp2_with fail;go_ret;exact⟨ae (by simp[H2.o]),kx⟩
 · have e1:((st:Int)==2)=false:=beq_eq_false_iff_ne.2 h1;have H1:=Ys h1;clear h1;go_enter Tryz.func13,Tryz.ntmps13;go_wp2_with fail;go_ret;exact⟨ae (by simp[H1.o]),kx⟩
end Go.Proofs.YtohpiobncgafeaaGreatDoor
namespace Go.Proofs.YtohpiobncgafeaaGreatDoor
open Go Go.RowKit
theorem I5:qd:=fun w l p h x hx=>EI w l p h x hx
theorem Dp(w:World)(I:Nat→Prop)(v:Value)(p:M.ai)(hp:SliceOf 2 aH w I v p)(hI:∀b,I b→b<w.heap.size)(lk:Bool)(k:Int)(n m:ByteArray)(args:List Int)(va:Option Addr)(ac:Nat)(o8:SliceOf 1 kL w I (.slice va args.length ac) args):
    Calls Tryz.prog 12 #[.agg #[v],.bool lk,.int .i64 k,.string n,.string m,.slice va args.length ac] w fun e w'=>
     (∃cs,e=.returned (.agg cs.toArray)∧cO w' (fun b=>w.heap.size≤b) (M.jO p lk k n m args) cs)∧Ext w w':=QZ w I v p hp hI lk (Ys fun _=>I5) k n m args va ac o8
theorem zM(w:World)(I:Nat→Prop)(v:Value)(p:M.ai)(hp:SliceOf 2 aH w I v p)(hI:∀b,I b→b<w.heap.size)(lk:Bool)(s:M.St)(cs:List Value)(hs:cO w I s cs)(fuel:Int):
    Calls Tryz.prog 11 #[.agg #[v],.bool lk,.agg cs.toArray,.int .i64 fuel] w fun e w'=>
     (∃cs',e=.returned (.agg cs'.toArray)∧cO w' (fun b=>w.heap.size≤b) (M.mR p lk s fuel) cs')∧Ext w w':=Q0 w I v p hp hI lk (Ys fun _=>I5) s cs hs fuel
def bO{α:Type}(R:fD α)(w:World)(I:Nat→Prop):List α→List (List Value)→Prop
 |[],[]=>True
 |x::xs,c::cs=>R w I x c∧bO R w I xs cs
 |_,_=>False
theorem bO.get{α:Type}{R:fD α}{w:World}{I:Nat→Prop}:∀{xs:List α} {css:List (List Value)},bO R w I xs css→∀(i:Nat) (x:α),xs[i]?=some x→∃c,css[i]?=some c∧R w I x c
 |[],[],_,i,x,h=>by simp at h
 |y::xs,c::cs,h,0,x,hx=>by
  simp at hx;subst hx;exact⟨c,rfl,h.1⟩
 |y::xs,c::cs,h,i+1,x,hx=>by
  obtain⟨c',h1,h2⟩:=bO.get h.2 i x (by simpa using hx);exact⟨c',by simpa using h1,h2⟩
 |[],_::_,h,_,_,_=>h.elim
 |_::_,[],h,_,_,_=>h.elim
theorem yt{k:Nat}:∀{css:List (List Value)},(∀c∈css,c.length=k)→∀(i:Nat) (c:List Value),css[i]?=some c→∀(j:Nat) (u:Value),c[j]?=some u→css.flatten[i*k+j]?=some u
 |[],_,i,c,h,_,_,_=>by simp at h
 |d::r,hk,0,c,h,j,u,hu=>by
  simp at h;subst h;rw[List.flatten_cons,List.getElem?_append_left (by have:=(List.getElem?_eq_some_iff.1 hu).1;omega)];simpa using hu
 |d::r,hk,i+1,c,h,j,u,hu=>by
  have hd:=hk d (by simp);rw[List.flatten_cons,List.getElem?_append_right (by rw[hd,Nat.succ_mul];omega)];have:=yt (fun c hc=>hk c (List.mem_cons_of_mem _ hc)) i c (by simpa using h) j u hu;rw[hd,show(i+1)*k+j - k=i*k+j by rw[Nat.succ_mul];omega];exact this
theorem SliceOf.row{α:Type}{k:Nat}{R:fD α}{w:World}{I:Nat→Prop}{g:Nat}{xs:List α}(css:List (List Value)){cells:List Value}(hc:af w g 0 cells)(he:cells=css.flatten)(hk:∀c∈css,c.length=k)
    (hR:bO R w I xs css) (hI:I g) {cap:Nat} (dx:xs.length≤cap) (hn:xs.length≤4294967296):SliceOf k R w I (.slice (some ⟨g,0,none⟩) xs.length cap) xs:=
 ⟨_,cap,rfl,dx,hn,fun i x hx=>by
  obtain⟨c,hci,hr⟩:=hR.get i x hx;refine⟨g,0,c,rfl,hI,hr,hk c (List.mem_of_getElem? hci),fun j u hj=>?_⟩;have:=hc _ _ (by rw[he];exact yt hk i c hci j u hj);simpa [Nat.add_assoc]using this⟩
theorem SliceOf.css{α:Type}{k:Nat}{R:fD α}{w:World}{I:Nat→Prop}{v:Value}:∀{xs:List α},SliceOf k R w I v xs→∃css:List (List Value),css.length=xs.length∧(∀c∈css,c.length=k)∧bO R w I xs css∧
    ∀(ad:Addr) (n c:Nat),v=.slice (some ad) n c→∀(i:Nat) (c:List Value),css[i]?=some c→∃b off,ad=⟨b,off,none⟩∧I b∧af w b (off+i*k) c:=by
 intro xs h;obtain⟨a,cap,rfl,h1,h2,h3⟩:=h;have main:∀(ys:List α) (s:Nat),(∀(i:Nat) (x:α),ys[i]?=some x→∃b off cs,a=some ⟨b,off,none⟩∧I b∧R w I x cs∧cs.length=k∧af w b (off+(s+i)*k) cs)→
     ∃css:List (List Value),css.length=ys.length∧(∀c∈css,c.length=k)∧bO R w I ys css∧∀(i:Nat) (c:List Value),css[i]?=some c→∃b off,a=some ⟨b,off,none⟩∧I b∧af w b (off+(s+i)*k) c:=by
  intro ys;induction ys with
  |nil=>exact fun s _=>⟨[],rfl,by simp,trivial,fun i c h=>by simp at h⟩
  | cons y r ih =>
   intro s h;obtain⟨css,e1,e2,e3,e4⟩:=ih (s+1) (fun i x hx=>by
    obtain⟨b,off,cs,ea,hI,hr,hl,hc⟩:=h (i+1) x (by simpa using hx);exact⟨b,off,cs,ea,hI,hr,hl,by rw[show s+1+i=s+(i+1) by omega];exact hc⟩)
   obtain⟨b,off,cs,ea,hI,hr,hl,hc⟩:=h 0 y rfl;refine⟨cs::css,by simp[e1],fun c sH=>(List.mem_cons.1 sH).elim (fun e=>by rw[e];exact hl) (e2 c),⟨hr,e3⟩,fun i c hi=>?_⟩;cases i with
   |zero=>simp at hi;subst hi;exact⟨b,off,ea,hI,hc⟩
   |succ i=>
    obtain⟨b',off',ea',Qe,sH⟩:=e4 i c (by simpa using hi);exact⟨b',off',ea',Qe,by rw[show s+(i+1)=s+1+i by omega];exact sH⟩
 obtain⟨css,e1,e2,e3,e4⟩:=main xs 0 (fun i x hx=>by simpa using h3 i x hx);refine⟨css,e1,e2,e3,fun ad n c hv i d hd=>?_⟩;cases hv;obtain⟨b,off,ea,hI,hc⟩:=e4 i d hd;cases ea;exact⟨b,off,rfl,hI,by simpa using hc⟩
theorem bO.snoc{α:Type}{R:fD α}{w:World}{I:Nat→Prop}{x:α}{c:List Value}:∀{xs:List α} {css:List (List Value)},bO R w I xs css→R w I x c→bO R w I (xs++[x]) (css++[c])
 |[],[],_,h=>⟨h,trivial⟩
 |_::_,_::_,h,hx=>⟨h.1,bO.snoc h.2 hx⟩
 |[],_::_,h,_=>h.elim
 |_::_,[],h,_=>h.elim
theorem bO.keep{α:Type}{R:fD α}(hR:bD R){w w':World}{I J:Nat→Prop}(hs:Same I w w')(KU:∀b,I b→J b):∀{xs:List α} {css:List (List Value)},bO R w I xs css→bO R w' J xs css
 |[],[],_=>trivial
 |_::_,_::_,h=>⟨hR _ _ _ _ _ _ hs KU h.1,bO.keep hR hs KU h.2⟩
 |[],_::_,h=>h.elim
 |_::_,[],h=>h.elim
theorem SliceOf.inside{α:Type}{k:Nat}{R:fD α}(hR:∀w I x cs,R w I x cs→R w (fun b=>I b∧b<w.heap.size) x cs)(hk:0<k){w:World}{I:Nat→Prop}{v:Value}{xs:List α}(h:SliceOf k R w I v xs):SliceOf k R w (fun b=>I b∧b<w.heap.size) v xs:=by
 obtain⟨a,cap,e,h1,h2,h3⟩:=h;refine⟨a,cap,e,h1,h2,fun i x hx=>?_⟩;obtain⟨b,off,cs,ea,hI,hr,hl,hc⟩:=h3 i x hx;have cK:b<w.heap.size:=by
  cases cs with
  |nil=>simp at hl;omega
  |cons u r=>exact aS (hc 0 u rfl)
 exact⟨b,off,cs,ea,⟨hI,cK⟩,hR _ _ _ _ hr,hl,hc⟩
theorem sU{k:Nat}:∀{css:List (List Value)},(∀c∈css,c.length=k)→css.flatten.length=css.length*k
 |[],_=>by simp
 |c::r,h=>by
  rw[List.flatten_cons,List.length_append,sU (fun c hc=>h c (List.mem_cons_of_mem _ hc)),h c (by simp),List.length_cons,Nat.succ_mul];omega
theorem uP{k:Nat}(hk:0<k):∀{css:List (List Value)},(∀c∈css,c.length=k)→∀j u,css.flatten[j]?=some u→∃i r c,css[i]?=some c∧c[r]?=some u∧j=i*k+r
 |[],_,j,u,h=>by simp at h
 |c::t,h,j,u,hu=>by
  have hc:=h c (by simp);rw[List.flatten_cons]at hu;rcases Nat.lt_or_ge j c.length with hj|hj
  · rw[List.getElem?_append_left hj]at hu;exact⟨0,j,c,rfl,hu,by omega⟩
  · rw[List.getElem?_append_right hj]at hu;obtain⟨i,r,d,h1,h2,h3⟩:=uP hk (fun c hc=>h c (List.mem_cons_of_mem _ hc)) _ _ hu;exact⟨i+1,r,d,by simpa using h1,h2,by rw[Nat.succ_mul];omega⟩
def One{α:Type}(R:fD α):Prop:=∀w I x cs,R w I x cs→∀u∈cs,u.oneCell'=true
theorem One.ins:One lD:=fun _ _ _ _ h u hu=>by subst h;simp at hu;rcases hu with rfl|rfl|rfl|rfl<;>rfl
theorem One.ask:One Ja:=fun _ _ _ _ h u hu=>by subst h;simp at hu;rcases hu with rfl|rfl<;>rfl
theorem One.field:One lN:=fun _ _ _ _ h u hu=>by subst h;simp at hu;rcases hu with rfl|rfl|rfl<;>rfl
theorem One.cls:One aL:=fun _ _ _ _ h u hu=>by obtain⟨_,_,_,_,rfl⟩:=h.form;simp at hu;rcases hu with rfl|rfl|rfl|rfl<;>rfl
theorem One.keep:One aH:=fun _ _ _ _ h u hu=>by obtain⟨_,_,_,_,rfl⟩:=h.form;simp at hu;rcases hu with rfl|rfl<;>rfl
theorem bO.one{α:Type}{R:fD α}(o:One R){w:World}{I:Nat→Prop}:∀{xs:List α} {css:List (List Value)},bO R w I xs css→∀u∈css.flatten,u.oneCell'=true
 |[],[],_=>by simp
 |_::_,c::css,h=>by
  intro u hu;rw[List.flatten_cons,List.mem_append]at hu;rcases hu with hu|hu
  · exact o _ _ _ _ h.1 u hu
  · exact bO.one o h.2 u hu
 |[],_::_,h=>h.elim
 |_::_,[],h=>h.elim
theorem bO.len{α:Type}{R:fD α}{w:World}{I:Nat→Prop}:∀{xs:List α} {css:List (List Value)},bO R w I xs css→css.length=xs.length
 |[],[],_=>rfl
 |_::_,_::_,h=>by rw[List.length_cons,List.length_cons,bO.len h.2]
 |[],_::_,h=>h.elim
 |_::_,[],h=>h.elim
theorem bO.app{α:Type}{R:fD α}{w:World}{I:Nat→Prop}{ys:List α}{dss:List (List Value)}:∀{xs:List α} {css:List (List Value)},bO R w I xs css→bO R w I ys dss→bO R w I (xs++ys) (css++dss)
 |[],[],_,h=>h
 |_::_,_::_,h,hx=>⟨h.1,bO.app h.2 hx⟩
 |[],_::_,h,_=>h.elim
 |_::_,[],h,_=>h.elim
theorem SliceOf.cells{α:Type}{k:Nat}{R:fD α}(o:One R)(hk:0<k){w:World}{I:Nat→Prop}{a:Option Addr}{n c:Nat}{xs:List α}(h:SliceOf k R w I (.slice a n c) xs):
    ∃css,(∀c∈css,c.length=k)∧bO R w I xs css∧Flat w k (.slice a n c) n css.flatten:=by
 obtain⟨css,h1,h2,h3,h4⟩:=h.css;have hh:=h;obtain⟨a',cap,e, -, -,h5⟩:=hh;cases e;refine⟨css,h2,h3,by rw[sU h2,h1],⟨_,_,rfl,fun e=>?_,fun ad' e j u hu=>?_⟩,h3.one o⟩
 · cases xs with
   |nil=>rfl
   |cons x r=>obtain⟨_,_,_,e2,_⟩:=h5 0 x rfl;rw[e]at e2;cases e2
 · subst e;obtain⟨i,r,d,e1,e2,rfl⟩:=uP hk h2 j u hu;obtain⟨b,off,rfl, -,hc⟩:=h4 ad' _ _ rfl i d e1;have:=hc r u e2;unfold Addr.add;split
   · rename_i h0;have e3:i*k=0:=by omega
     have e4:r=0:=by omega
     rw[e3,e4]at this;exact this
   · simpa [Nat.add_assoc]using this
theorem bO.at_{α:Type}{R:fD α}{w:World}{I:Nat→Prop}{xs:List α}{css:List (List Value)}(h:bO R w I xs css){J:Nat→Prop}{w':World}(hR:bD R)(hs:Same I w w')(KU:∀b,I b→J b):bO R w' J xs css:=h.keep hR hs KU
theorem SliceOf.owned{α:Type}{k:Nat}{R:fD α}{w:World}{I:Nat→Prop}{base e n:Nat}{v:Value}{css:List (List Value)}{xs:List α}(dI:w.ownsRow base e k v n css.flatten)(hk:∀c∈css,c.length=k)(uG:0<k)
    (hR:bO R w I xs css) (hI:∀b,base≤b→b<w.heap.size→I b) (hlen:xs.length≤4294967296):SliceOf k R w I v xs:=by
 have hn:n=xs.length:=by
  have:=dI.1;rw[sU hk,hR.len]at this;exact(Nat.eq_of_mul_eq_mul_right uG this).symm
 subst hn;rcases dI.2 with⟨rfl,h0⟩|⟨g,cap,cur,rfl,hg,hb,hle,_,qx,OW⟩
 · have:xs=[]:=List.length_eq_zero_iff.1 h0;subst this;exact SliceOf.nil _ _ _ _
 · refine SliceOf.row css (g:=g) (cells:=css.flatten) (fun j u hj=>?_) rfl hk hR (hI g hg (Array.getElem?_eq_some_iff.1 hb).1) hle hlen;rw[←OW,List.getElem?_take]at hj;split at hj
   · simp only[World.cell?,hb];simpa [Nat.zero_add]using hj
   · cases hj
end Go.Proofs.YtohpiobncgafeaaGreatDoor
namespace Go.Proofs.YtohpiobncgafeaaGreatDoor
open Go Go.RowKit
theorem cO.inside{w:World}{I:Nat→Prop}{s:M.St}{cs:List Value}(h:cO w I s cs):cO w (fun b=>b<w.heap.size) s cs:=by
 obtain⟨vf,vh,vo,e,h1,h2,h3⟩:=h;have hI:∀b,I b∧b<w.heap.size→b<w.heap.size:=fun b h=>h.2;have keep:∀{α:Type} {k:Nat} {R:fD α} (hS:bD R) {v:Value} {xs:List α},SliceOf k R w (fun b=>I b∧b<w.heap.size) v xs→SliceOf k R w (fun b=>b<w.heap.size) v xs:=fun hS _ _ h=>h.keep hS (fun _ _ _ _ h=>h) hI;refine⟨vf,vh,vo,e,keep KE.stays (h1.inside (fun w I x cs h=>?_) (by omega)),keep rQ.stays (h2.inside (fun w I x cs h=>?_) (by omega)),keep kL.stays (h3.inside (fun _ _ _ _ h=>h) (by omega))⟩
 · obtain⟨vl,vs,e,a,b⟩:=h;exact⟨vl,vs,e,a.inside (fun _ _ _ _ h=>h) (by omega),b.inside (fun _ _ _ _ h=>h) (by omega)⟩
 · obtain⟨vf,e,a⟩:=h;exact⟨vf,e,a.inside (fun _ _ _ _ h=>h) (by omega)⟩
namespace M
def iT:ByteArray:=⟨#[109,97,105,110]⟩
def runN:ByteArray:=⟨#[114,117,110]⟩
def Hf(p:ai)(n:Int):St:=mR p true (jO p true 0 iT runN [n]) 400
end M
theorem SA(w:World)(I:Nat→Prop)(v:Value)(p:M.ai)(hp:SliceOf 2 aH w I v p)(hI:∀b,I b→b<w.heap.size)(n:Int):
    Calls Tryz.prog 14 #[.agg #[v],.int .i64 n] w fun e w'=>(∃cs,e=.returned (.agg cs.toArray)∧cO w' (fun b=>w.heap.size≤b) (M.Hf p n) cs)∧Ext w w':=by
 obtain⟨a,cap,rfl,hn,dx⟩:=hp.form;obtain⟨w2,jS⟩:∃w2,w2=(w.alloc (.cells #[.slice a p.length cap] 41)).alloc (.cells #[.int .i64 0,.slice none 0 0,.slice none 0 0,.slice none 0 0,.int .i64 0,.int .i64 0] 65):=⟨_,rfl⟩;have bY:Ext w w2:=by rw[jS];exact kx
 have b2:az w2 w.heap.size 41 #[.slice a p.length cap]:=by rw[jS];exact(az.new _ _ _).ext kx
 have b4:az w2 (w.heap.size+1) 65 #[.int .i64 0,.slice none 0 0,.slice none 0 0,.slice none 0 0,.int .i64 0,.int .i64 0]:=by rw[jS];exact az.newAt _ _ (by simp)
 have EA:w2.heap.size=w.heap.size+2:=by rw[jS];simp
 obtain⟨T,f,dm,HT⟩:=gy.ex (fun W'=>Ext w2 W') _ (Kp.refl _ _);have r0:=fun z=>(b2.ext (HT.aK z)).c 0 (.slice a p.length cap) rfl;have ax:=Ys HT;have jC:=Ys bY;have nQ:=Ys b4;have xX:=Ys jS;have HP:=Ys hp;have HI:=Ys hI;clear HT bY b2 b4 jS hp hI;go_enter Tryz.func14,Tryz.ntmps14;go_wp2_with fail;rw[←xX.o];(refine dQ ax 6 [([0,1,2],3),([],4),([],5)] [] ?_ ?_)
 · exact(Kp.refl _ _).drew
 (refine dn [_,_,_] rfl rfl fun K hK=>?_);(repeat (go_big_quiet_step (fail)));(refine qn hK fun K2 ag=>?_);clear hK K;go_wp2_with fail;obtain⟨w3,hZ⟩:∃w3,w3=(w2.alloc (.cells #[.int .i64 n] 3)).drew:=⟨_,rfl⟩;have dA:Ext w2 w3:=by rw[hZ];exact kx
 have oD:SliceOf 1 kL w3 (fun b=>b<w3.heap.size) (.slice (some ⟨w.heap.size+2,0,none⟩) 1 1) [n]:=by
  rw[hZ];exact SliceOf.row (R:=kL) (xs:=[n]) [[.int .i64 n]] (af.EU (W:=w2) 3 #[.int .i64 n] EA) rfl (by simp) ⟨rfl,trivial⟩ (by show w.heap.size+2<(w2.alloc _).heap.size;simp;omega) (by simp) (by simp)
 have iL:=Ys dA;have Dx:=Ys oD;have kK:=Ys hZ;have AO:=dA.size;clear dA oD hZ;rw[←kK.o];(refine kk ax ag iL.o ?_);clear ag K2;(refine fG rfl fun K2 ag=>?_);go_wp2_with fail;have JO:Calls Tryz.prog 12 #[.agg #[.slice a p.length cap],.bool true,.int .i64 0,.string ⟨#[109,97,105,110]⟩,.string ⟨#[114,117,110]⟩,.slice (some ⟨w.heap.size+2,0,none⟩) 1 1] w3 _:=Dp w3 (fun b=>b<w3.heap.size) _ p (HP.o.keep aH.stays (Ext.same (jC.o.trans iL.o)) fun b hb=>by have:=HI.o b hb;omega) (fun _ h=>h) true 0 M.iT M.runN [n] _ _ Dx.o;have HVN:=Ys JO;clear JO;refine HVN.o.mono ?_;rintro e w4 ⟨⟨cs,rfl,hS⟩,dN⟩;have iM:=Ys dN;have HS:=Ys hS;have OX:=dN.size;obtain⟨a1,c1,a2,c2,a3,c3,rfl, -, -, -⟩:=hS.form;clear dN hS;go_wp2_with fail;(refine kk ax ag (iL.o.trans iM.o) ?_);clear ag K2;(refine fG rfl fun K2 ag=>?_);go_wp2_with fail;have AA:=zM w4 (fun b=>b<w4.heap.size) _ p (HP.o.keep aH.stays (Ext.same ((jC.o.trans iL.o).trans iM.o)) fun b hb=>by have:=HI.o b hb;omega) (fun _ h=>h) true _ _ (cO.inside HS.o) 400;have HVR:=Ys AA;clear AA;with_reducible refine HVR.o.mono ?_
 rintro e w5 ⟨⟨cs,rfl,hS⟩,ed⟩;obtain⟨s,hs⟩:∃s,M.Hf p n=s:=⟨_,rfl⟩;have Sc:=hs;unfold M.Hf at Sc;rw[Sc]at hS;clear Sc;have HSS:=Ys hs;have HS5:=Ys hS;obtain⟨a1,c1,a2,c2,a3,c3,rfl, -, -, -⟩:=hS.form;have aN:=((nQ.o.ext iL.o).ext iM.o).ext ed;have G6:=ed.size;obtain⟨uI,oH⟩:∃uI,uI=(((((w5.setCell ⟨w.heap.size+1,0,none⟩ (.int .i64 s.status)).setCell ⟨w.heap.size+1,1,none⟩ (.slice a1 s.frames.length c1)).setCell ⟨w.heap.size+1,2,none⟩ (.slice a2 s.heap.length c2)).setCell ⟨w.heap.size+1,3,none⟩ (.slice a3 s.outs.length c3)).setCell ⟨w.heap.size+1,4,none⟩ (.int .i64 s.back.kind)).setCell ⟨w.heap.size+1,5,none⟩ (.int .i64 s.back.n):=⟨_,rfl⟩;have mf:Kp (·=w.heap.size+1) w5 uI:=by rw[oH];exact Kp.gq (D:=(·=w.heap.size+1)) rfl _ _ _ _ _ _
 have yB:az uI (w.heap.size+1) 65 #[.int .i64 s.status,.slice a1 s.frames.length c1,.slice a2 s.heap.length c2,.slice a3 s.outs.length c3,.int .i64 s.back.kind,.int .i64 s.back.n]:=by rw[oH];exact aN.gq _ _ _ _ _ _
 have Mv:Ext w uI:=(((jC.o.trans iL.o).trans iM.o).trans ed).own mf (fun b e=>by omega);have MB:=cO.stays _ _ _ (fun b=>w.heap.size≤b) _ _ (mf.same fun b (hb:w4.heap.size≤b) e=>by omega) (fun b (hb:w4.heap.size≤b)=>by omega) HS5.o;have y0:=aN.c 0 (.int .i64 0) rfl;have f0:=aN.frozen 0;have y1:=aN.c 1 (.slice none 0 0) rfl;have f1:=aN.frozen 1;have y2:=aN.c 2 (.slice none 0 0) rfl;have f2:=aN.frozen 2;have y3:=aN.c 3 (.slice none 0 0) rfl;have f3:=aN.frozen 3;have y4:=aN.c 4 (.int .i64 0) rfl;have f4:=aN.frozen 4;have y5:=aN.c 5 (.int .i64 0) rfl;have f5:=aN.frozen 5;have yz:=aN.lt;have iG:=Ys ed;have TC:=Ys Mv;have Lu:=Ys MB;have xQ:=Ys yB;have FZ:=Ys oH;clear aN oH mf yB Mv MB hS ed hs;go_wp2_with fail;(refine kk ax ag (iL.o.trans (iM.o.trans iG.o)) ?_);clear ag K2;clear ax r0;(refine dD ?_);go_wp2_with fail;rw[←FZ.o];refine bodyPost_ret (aP dB rfl _ _ (w.heap.size+1) rfl [.int .i64 s.status,.slice a1 s.frames.length c1,.slice a2 s.heap.length c2,.slice a3 s.outs.length c3,.int .i64 s.back.kind,.int .i64 s.back.n] (af.iV xQ.o) rfl) rfl ?_;rw[HSS.o];exact⟨⟨_,rfl,Lu.o⟩,TC.o⟩
end Go.Proofs.YtohpiobncgafeaaGreatDoor
namespace Go.Proofs.YtohpiobncgafeaaGreatDoor
open Go Go.RowKit
namespace M
def kI(code:List Ins)(maps:List SMap):Class:=⟨iT,none_,[],[⟨runN,[⟨1,none_⟩],⟨1,none_⟩,3,3,code,maps⟩]⟩
def ui(more:List Class)(code:List Ins)(maps:List SMap):ai:=[⟨more++[kI code maps],[]⟩]
end M
theorem LB:FN 41 1:=⟨_,Tryz.underlying41,by kernel_rfl⟩
theorem jZ:Elem 44 38 4:=iJ (z:=.agg #[.string ⟨#[]⟩,.string ⟨#[]⟩,.slice none 0 0,.slice none 0 0]) (bytes:=80) Tryz.underlying44 (by kernel_rfl) rfl (by decide) (by decide)
theorem IZ{w:World}{I:Nat→Prop}:∀{more:List M.Class} {css:List (List Value)},bO aL w I more css→∀u∈css.flatten,u.oneCell'=true
 |[],[],_=>by simp
 |_::_,c::css,h=>by
  obtain⟨a1,c1,a2,c2,rfl⟩:=aL.form h.1;have ih:=IZ h.2;intro u hu;rw[List.flatten_cons,List.mem_append]at hu;rcases hu with hu|hu
  · simp at hu;rcases hu with rfl|rfl|rfl|rfl<;>rfl
  · exact ih u hu
 |[],_::_,h=>h.elim
 |_::_,[],h=>h.elim
theorem SliceOf.classes{w:World}{I:Nat→Prop}{ad:Addr}{n c:Nat}{more:List M.Class}(h:SliceOf 4 aL w I (.slice (some ad) n c) more)(jy:more≠[]):∃css,(∀c∈css,c.length=4)∧bO aL w I more css∧css.length=more.length∧n=more.length∧Flat w 4 (.slice (some ad) n c) n css.flatten:=by
 obtain⟨css,h1,h2,h3,h4⟩:=h.css;obtain⟨a,cap,e, -⟩:=h.form;cases e;refine⟨css,h2,h3,h1,rfl,by rw[sU h2,h1],⟨_,_,rfl,(fun e=>by cases e),fun ad' e j u hu=>?_⟩,IZ h3⟩;cases e;obtain⟨i,r,d,e1,e2,rfl⟩:=uP (by omega) h2 j u hu;obtain⟨b,off,rfl, -,hc⟩:=h4 ad _ _ rfl i d e1;have:=hc r u e2;unfold Addr.add;split
 · rename_i h0;have e3:i*4=0:=by omega
   have e4:r=0:=by omega
   rw[e3,e4]at this;exact this
 · simpa [Nat.add_assoc]using this
theorem C8{W:World}{J:Nat→Prop}{B g9 c9 XQ a16 Cf Du:Nat}{Ce Dt:Option Addr}{more:List M.Class}{code:List M.Ins}{maps:List M.SMap}{css:List (List Value)}(hO:W.ownsRow B 38 4 (.slice (some ⟨g9,0,none⟩) (more.length+1) c9) (more.length+1) (css.flatten++[.string ⟨#[109,97,105,110]⟩,.string ⟨#[]⟩,.slice none 0 0,.slice (some ⟨a16,0,none⟩) 1 1]))
    (hk:∀c∈css,c.length=4) (hR:bO aL W J more css) (b10:az W XQ 25 #[.int .i64 1,.string ⟨#[]⟩]) (b16:az W a16 34 #[.string ⟨#[114,117,110]⟩,.slice (some ⟨XQ,0,none⟩) 1 1,.int .i64 1,.string ⟨#[]⟩,.int .i64 3,.int .i64 3,.slice Ce code.length Cf,.slice Dt maps.length Du])
    (hc:SliceOf 4 lD W J (.slice Ce code.length Cf) code) (hx:SliceOf 3 iB W J (.slice Dt maps.length Du) maps) (hl:more.length≤10) (j9:J g9) (j10:J XQ) (j16:J a16):
    SliceOf 4 aL (W.alloc (.cells #[.slice (some ⟨g9,0,none⟩) (more.length+1) c9,.slice none 0 0] 49)) J (.slice (some ⟨g9,0,none⟩) (more.length+1) c9) (more++[M.kI code maps]):=by
 have hE:Ext W (W.alloc (.cells #[.slice (some ⟨g9,0,none⟩) (more.length+1) c9,.slice none 0 0] 49)):=(Kp.refl _ _).alloc _;have MM:SliceOf 2 eZ W J (.slice (some ⟨XQ,0,none⟩) 1 1) [⟨1,M.none_⟩]:=SliceOf.row (R:=eZ) (xs:=[⟨1,M.none_⟩]) [[.int .i64 1,.string ⟨#[]⟩]] (af.iV b10) rfl (by simp) ⟨rfl,trivial⟩ j10 (by simp) (by simp);have hmt:SliceOf 8 aC W J (.slice (some ⟨a16,0,none⟩) 1 1) [⟨M.runN,[⟨1,M.none_⟩],⟨1,M.none_⟩,3,3,code,maps⟩]:=
  SliceOf.row (R:=aC) (xs:=[⟨M.runN,[⟨1,M.none_⟩],⟨1,M.none_⟩,3,3,code,maps⟩]) [[.string ⟨#[114,117,110]⟩,.slice (some ⟨XQ,0,none⟩) 1 1,.int .i64 1,.string ⟨#[]⟩,.int .i64 3,.int .i64 3,.slice Ce code.length Cf,.slice Dt maps.length Du]] (af.iV b16) rfl (by simp) ⟨⟨_,_,_,rfl,MM,hc,hx⟩,trivial⟩ j16 (by simp) (by simp)
 have ek:aL W J (M.kI code maps) [.string ⟨#[109,97,105,110]⟩,.string ⟨#[]⟩,.slice none 0 0,.slice (some ⟨a16,0,none⟩) 1 1]:=⟨_,_,rfl,SliceOf.nil _ _ _ _,hmt⟩;have aU:af W g9 0 (css.flatten++[.string ⟨#[109,97,105,110]⟩,.string ⟨#[]⟩,.slice none 0 0,.slice (some ⟨a16,0,none⟩) 1 1]):=fun j u hj=>by
  have:=hO.cells (g:=g9) rfl j u hj;unfold Addr.add at this;split at this
  · rename_i h0;subst h0;exact this
  · simpa using this
 have dx:more.length+1≤c9:=by
  obtain⟨g,c,e, -, -,hc⟩:=aX hO (by omega);cases e;exact hc
 have how:SliceOf 4 aL W J (.slice (some ⟨g9,0,none⟩) (more++[M.kI code maps]).length c9) (more++[M.kI code maps]):=
  SliceOf.row (R:=aL) (css++[[.string ⟨#[109,97,105,110]⟩,.string ⟨#[]⟩,.slice none 0 0,.slice (some ⟨a16,0,none⟩) 1 1]]) aU (by simp) (fun c sH=>by
   rcases List.mem_append.1 sH with h|h
   · exact hk c h
   · simp at h;subst h;rfl) (hR.snoc ek) j9 (by simpa using dx) (by simp;omega)
 rw[List.length_append,List.length_singleton]at how;exact how.ext aL.stays hE
def F9(w w':World)(I:Nat→Prop)(v:Value)(more:List M.Class)(code:List M.Ins)(maps:List M.SMap):Prop:=
 ∃kb a n c,v=.slice (some ⟨kb,0,none⟩) 1 1∧az w' kb 49 #[.slice a n c,.slice none 0 0]∧w.heap.size+1≤kb∧SliceOf 4 aL w' (fun b=>(I b∨w.heap.size+1≤b)∧b<kb) (.slice a n c) (more++[M.kI code maps])
theorem F9.plan{w w':World}{I:Nat→Prop}{v:Value}{more:List M.Class}{code:List M.Ins}{maps:List M.SMap}(h:F9 w w' I v more code maps):SliceOf 2 aH w' (fun b=>I b∨w.heap.size+1≤b) v (M.ui more code maps):=by
 obtain⟨kb,a,n,c,rfl,hb,hk,hs⟩:=h;exact SliceOf.row (R:=aH) (xs:=[⟨more++[M.kI code maps],[]⟩]) [[.slice a n c,.slice none 0 0]] (af.iV hb) rfl (by simp) ⟨⟨_,_,rfl,hs.keep aL.stays (fun _ _ _ _ h=>h) (fun _ h=>h.1),SliceOf.nil _ _ _ _⟩,trivial⟩ (.inr hk) (by simp) (by simp)
theorem yT(w:World)(I:Nat→Prop)(hI:∀b,I b→b<w.heap.size)(NJ:Addr)(NN:Nat)(more:List M.Class)(Ce:Option Addr)(Cf:Nat)(Dt:Option Addr)(Du:Nat)(code:List M.Ins)(maps:List M.SMap)(hm:SliceOf 4 aL w I (.slice (some NJ) more.length NN) more)(hl:more.length≤10)(jy:more≠[])
    (hc:SliceOf 4 lD w I (.slice Ce code.length Cf) code) (hx:SliceOf 3 iB w I (.slice Dt maps.length Du) maps):
    Calls Tryz.prog 7 #[.slice (some NJ) more.length NN,.slice Ce code.length Cf,.slice Dt maps.length Du] w fun e w'=>(∃v,e=.returned (.agg #[v])∧F9 w w' I v more code maps)∧Ext w w':=by
 have Qr:=hm.form;obtain⟨css,hck,ek,hcn, -,FD⟩:=hm.classes jy;obtain⟨w1,jl,aZ,b6⟩:=nu w #[.slice none 0 0] 41;have AL:w1.heap.size=w.heap.size+1:=by rw[jl];simp
 have eP:=Ys aZ;have bV:=Ys b6;have xW:=Ys jl;have HZ1:=Ys AL;have Lj:=Ys hck;have zR:=Ys ek;have HC:=Ys hc;have HX:=Ys hx;have HI:=Ys hI;clear aZ b6 jl AL hck ek hc hx hI;have Pe:=Ys FD;have Ib:=Ys jy;have HCN:=Ys hcn;clear FD hm jy hcn Qr;go_enter Tryz.func7,Tryz.ntmps7;go_wp2_with fail;rw[←xW.o];refine(oJ w1).mono ?_;rintro e w2 ⟨rfl,bY⟩;obtain⟨w3,hZ,dA,b10⟩:=nu w2 #[.int .i64 1,.string ⟨#[]⟩] 25;have iL:=Ys (eP.o.trans (bY.trans dA));have HZ2:=Ys bY.size;have BM:=Ys b10;have O6:=Ys (bV.o.ext (bY.trans dA));have XM:Zs (w3.heap.size=w2.heap.size+1):=Ys (by rw[hZ];simp);have kK:=Ys hZ;clear bY dA b10 hZ bV;go_wp2_with fail;rw[←kK.o];refine(oJ w3).mono ?_;rintro e w4 ⟨rfl,dN⟩;obtain⟨w5,uW⟩:∃w5,w5=((w4.alloc (.cells #[.string ⟨#[114,117,110]⟩,.slice (some ⟨w2.heap.size,0,none⟩) 1 1,.int .i64 1,.string ⟨#[]⟩,.int .i64 3,.int .i64 3,.slice Ce code.length Cf,.slice Dt maps.length Du] 34)).alloc (.cells #[.string ⟨#[114,117,110]⟩,.slice (some ⟨w2.heap.size,0,none⟩) 1 1,.int .i64 1,.string ⟨#[]⟩,.int .i64 3,.int .i64 3,.slice Ce code.length Cf,.slice Dt maps.length Du] 34)).alloc (.cells #[.string ⟨#[109,97,105,110]⟩,.string ⟨#[]⟩,.slice none 0 0,.slice (some ⟨w4.heap.size+1,0,none⟩) 1 1] 38):=⟨_,rfl⟩;have ed:Ext w4 w5:=by rw[uW];exact kx
 have b16:az w5 (w4.heap.size+1) 34 #[.string ⟨#[114,117,110]⟩,.slice (some ⟨w2.heap.size,0,none⟩) 1 1,.int .i64 1,.string ⟨#[]⟩,.int .i64 3,.int .i64 3,.slice Ce code.length Cf,.slice Dt maps.length Du]:=by rw[uW];exact az.ext (w:=(w4.alloc (.cells #[.string ⟨#[114,117,110]⟩,.slice (some ⟨w2.heap.size,0,none⟩) 1 1,.int .i64 1,.string ⟨#[]⟩,.int .i64 3,.int .i64 3,.slice Ce code.length Cf,.slice Dt maps.length Du] 34)).alloc (.cells #[.string ⟨#[114,117,110]⟩,.slice (some ⟨w2.heap.size,0,none⟩) 1 1,.int .i64 1,.string ⟨#[]⟩,.int .i64 3,.int .i64 3,.slice Ce code.length Cf,.slice Dt maps.length Du] 34)) (az.newAt _ _ (by simp)) ((Kp.refl _ _).alloc _)
 have b8:az w5 (w4.heap.size+1+1) 38 #[.string ⟨#[109,97,105,110]⟩,.string ⟨#[]⟩,.slice none 0 0,.slice (some ⟨w4.heap.size+1,0,none⟩) 1 1]:=by rw[uW];exact az.newAt _ _ (by simp)
 have G6:w5.heap.size=w4.heap.size+3:=by rw[uW];simp
 have iG:=Ys (iL.o.trans (dN.trans ed));have HZ4:=Ys dN.size;have HZ5:=Ys G6;have O7:=Ys (O6.o.ext (dN.trans ed));have WY:=Ys (BM.o.ext (dN.trans ed));have aaR:=Ys b16;have OE:=Ys uW;obtain⟨T,f,dm,HT⟩:=gy.ex (fun W'=>Ext w5 W') _ (Kp.refl _ _);have r0:=fun z=>(b8.ext (HT.aK z)).c 0 (.string ⟨#[109,97,105,110]⟩) rfl;have r1:=fun z=>(b8.ext (HT.aK z)).c 1 (.string ⟨#[]⟩) rfl;have r2:=fun z=>(b8.ext (HT.aK z)).c 2 (.slice none 0 0) rfl;have r3:=fun z=>(b8.ext (HT.aK z)).c 3 (.slice (some ⟨w4.heap.size+1,0,none⟩) 1 1) rfl;have ax:=Ys HT;clear dN ed b16 b8 G6 uW HT O6 BM;go_wp2_with fail;rw[←OE.o];rename_i K hK
 have tail : ∀ (a18 a20 a22 : Value) (B g9 c9 : Nat) (W : World), w5.heap.size ≤ B → Ext w5 W → W.ownsRow B 38 4 (.slice (some ⟨g9, 0, none⟩) (more.length + 1) c9) (more.length + 1) (css.flatten ++ [.string ⟨#[109, 97, 105, 110]⟩, .string ⟨#[]⟩, .slice none 0 0, .slice (some ⟨w4.heap.size + 1, 0, none⟩) 1 1]) →
     K {tmps:=#[.slice (some NJ) more.length NN,.slice Ce code.length Cf,.slice Dt maps.length Du,undef,undef,undef,.pointer (some ⟨w.heap.size,0,none⟩),.pointer (some ⟨w4.heap.size,0,none⟩),.pointer (some ⟨w4.heap.size+1+1,0,none⟩),.agg #[.int .i64 1,.string ⟨#[]⟩],.slice (some ⟨w2.heap.size,0,none⟩) 1 1,.agg #[.int .i64 1,.string ⟨#[]⟩],.slice Ce code.length Cf,.slice Dt maps.length Du,
      .agg #[.string ⟨#[114,117,110]⟩,.slice (some ⟨w2.heap.size,0,none⟩) 1 1,.int .i64 1,.string ⟨#[]⟩,.int .i64 3,.int .i64 3,.slice Ce code.length Cf,.slice Dt maps.length Du],.agg #[.string ⟨#[114,117,110]⟩,.slice (some ⟨w2.heap.size,0,none⟩) 1 1,.int .i64 1,.string ⟨#[]⟩,.int .i64 3,.int .i64 3,.slice Ce code.length Cf,.slice Dt maps.length Du],.slice (some ⟨w4.heap.size+1,0,none⟩) 1 1,.agg #[.string ⟨#[109,97,105,110]⟩,.string ⟨#[]⟩,.slice none 0 0,.slice (some ⟨w4.heap.size+1,0,none⟩) 1 1],a18,.slice (some NJ) more.length NN,a20,.agg #[.string ⟨#[109,97,105,110]⟩,.string ⟨#[]⟩,.slice none 0 0,.slice (some ⟨w4.heap.size+1,0,none⟩) 1 1],a22,.slice (some ⟨g9,0,none⟩) (more.length+1) c9,.agg #[.slice (some ⟨g9,0,none⟩) (more.length+1) c9,.slice none 0 0],.slice (some ⟨W.heap.size,0,none⟩) 1 1,.agg #[.slice (some ⟨W.heap.size,0,none⟩) 1 1]],defers:=[]} ((W.setCell ⟨w.heap.size,0,none⟩ (.slice (some ⟨W.heap.size,0,none⟩) 1 1)).alloc (.cells #[.slice (some ⟨g9,0,none⟩) (more.length+1) c9,.slice none 0 0] 49)):=by
  intro a18 a20 a22 B g9 c9 W hB hE hO;refine hK _ _ ?_;clear hK ax r0 r1 r2 r3;have nS:=hO.lt g9 rfl;have s1:=HZ1.o;have s2:=HZ2.o;have s3:=XM.o;have s4:=HZ4.o;have s5:=HZ5.o;obtain⟨WS,YY⟩:∃WS,WS=W.setCell ⟨w.heap.size,0,none⟩ (.slice (some ⟨W.heap.size,0,none⟩) 1 1):=⟨_,rfl⟩;have IC:Kp (·=w.heap.size) W WS:=by rw[YY];exact(Kp.refl (·=w.heap.size) W).setCell (p:=⟨w.heap.size,0,none⟩) (fun _=>rfl) _
  have bS:az WS w.heap.size 41 #[.slice (some ⟨W.heap.size,0,none⟩) 1 1]:=by rw[YY];exact(O7.o.ext hE).bA 0 _
  have hzS:WS.heap.size=W.heap.size:=by rw[YY];simp[World.setCell]
  rw[←YY];have hsW:=hE.size;have Im:Ext w WS:=(iG.o.trans hE).own IC (fun b e=>by omega);have KU:∀b,I b→(I b∨w.heap.size+1≤b)∧b<W.heap.size:=fun b h=>⟨.inl h,by have:=HI.o b h;omega⟩;have xI:=C8 (more:=more) (J:=fun b=>(I b∨w.heap.size+1≤b)∧b<W.heap.size) (aA hO IC (fun q hq _ e=>by cases hq;omega)) Lj.o (bO.keep aL.stays (Ext.same Im) KU zR.o) ((WY.o.ext hE).kp IC (by omega)) ((aaR.o.ext hE).kp IC (by omega)) (HC.o.keep lD.stays (Ext.same Im) KU) (HX.o.keep iB.stays (Ext.same Im) KU)
   (by omega) ⟨.inr (by omega),by omega⟩ ⟨.inr (by omega),by omega⟩ ⟨.inr (by omega),by omega⟩
  have JE:=az.new WS 49 #[.slice (some ⟨g9,0,none⟩) (more.length+1) c9,.slice none 0 0];have FV:Zs (w.heap.size+1≤W.heap.size):=Ys (by omega);rw[hzS]at JE;have hEA:Ext WS (WS.alloc (.cells #[.slice (some ⟨g9,0,none⟩) (more.length+1) c9,.slice none 0 0] 49)):=(Kp.refl _ _).alloc _;have b9:=bS.ext hEA;have Uz:=Im.trans hEA;have DJ:=Ys b9;have HR:=Ys xI;have HBK:=Ys JE;have Xr:=Ys Uz;clear YY IC bS hzS hsW Im KU xI JE hEA b9 Uz hO hE nS s1 s2 s3 s4 s5;go_wp2_with fail;refine bodyPost_ret (aP LB rfl _ _ w.heap.size rfl [.slice (some ⟨W.heap.size,0,none⟩) 1 1] (af.iV DJ.o) rfl) rfl ?_;exact⟨⟨_,rfl,_,_,_,_,rfl,HBK.o,FV.o,HR.o⟩,Xr.o⟩
 have TAIL:=Ys tail;clear tail hK;(refine nM ax 9 (.two [1,3] 0 4 (.two [] 2 4 (.one [] 4 (.one [] 5 (.one [6] 7 (.fin [8])))) (.one [] 2 (.one [] 5 (.one [6] 7 (.fin [8]))))) (.one [] 0 (.one [] 2 (.one [] 5 (.one [6] 7 (.fin [8])))))) ?_ ?_)
 · exact(Kp.refl _ _).drew
 (refine two [_,_] rfl rfl rfl fun K hK=>?_);(repeat (go_big_quiet_step (fail)));((refine Hp hK (fun K2 ag=>?_) fun K2 ag=>?_)<;>clear hK K)
 · go_wp2_with fail;obtain⟨wa,K4⟩:∃wa,wa=(w5.alloc (.cells #[] 38)).drew:=⟨_,rfl⟩;have RD:Ext w5 wa:=by rw[K4];exact kx
   have aU:wa.ownsRow w5.heap.size 38 4 (.slice (some ⟨w5.heap.size,0,none⟩) 0 0) 0 []:=by rw[K4];exact aA (D:=fun _=>False) (l7 w5 38 4 w5.heap.size (by omega) (w5.heap.size) (by omega)) kx fun _ _ _ x=>x
   have hza:wa.heap.size=w5.heap.size+1:=by rw[K4];show(World.alloc _ _).heap.size=_;simp
   rw[←K4];clear K4;(refine kk ax ag RD ?_);clear ag K2;(refine zK rfl rfl (fun K2 ag=>?_) fun K2 ag=>?_)
   · refine dH jZ _ rfl (.tmp 18) (.tmp 19) rfl w5.heap.size (.slice (some ⟨w5.heap.size,0,none⟩) 0 0) 0 [] rfl aU NJ more.length NN css.flatten rfl (Pe.o.ext (iG.o.trans RD)) (by omega) (by omega) ?_;intro v2 wb FC Em;change K2 _ _;rw[Nat.zero_add,List.nil_append]at FC;have KB:Kp (·=w5.heap.size) wa wb:=Em.weak fun b _ e=>by cases e;rfl
     have Eb:Ext w5 wb:=Kp.own RD KB (fun b e=>by omega);have hzb:=KB.size;clear Em;(refine kk ax ag Eb ?_);clear ag K2;(refine bX rfl fun K2 ag=>?_);go_wp2_with fail;obtain⟨wc,AB⟩:∃wc,wc=(wb.alloc (.cells #[.string ⟨#[109,97,105,110]⟩,.string ⟨#[]⟩,.slice none 0 0,.slice (some ⟨w4.heap.size+1,0,none⟩) 1 1] 38)):=⟨_,rfl⟩;have rG:Ext wb wc:=by rw[AB];exact kx
     have ek:af wc (wb.heap.size) 0 [.string ⟨#[109,97,105,110]⟩,.string ⟨#[]⟩,.slice none 0 0,.slice (some ⟨w4.heap.size+1,0,none⟩) 1 1]:=by rw[AB];exact af.zk _ _ (by omega)
     have hzc:wc.heap.size=wb.heap.size+1:=by rw[AB];simp
     rw[←AB];clear AB;(refine kk ax ag (Eb.trans rG) ?_);clear ag K2;(refine bX rfl fun K2 ag=>?_);have hO3:=aA (D:=fun _=>False) FC rG fun _ _ _ x=>x;refine aV jZ rfl (.tmp 20) (.tmp 22) rfl w5.heap.size v2 more.length css.flatten rfl hO3 (wb.heap.size) 1 [.string ⟨#[109,97,105,110]⟩,.string ⟨#[]⟩,.slice none 0 0,.slice (some ⟨w4.heap.size+1,0,none⟩) 1 1] rfl rfl ek (by simp[Value.oneCell']) (by omega) (by omega) ?_;intro g9 c9 wd vX kH nS;change K2 _ _;have Ed:Ext w5 wd:=Kp.own (Eb.trans rG) kH (fun b e=>(World.ownsRow.lt hO3 b e).1);(refine kk ax ag Ed ?_);clear ag K2;go_simp;(refine lu [_] rfl rfl fun K hK=>?_);(repeat (go_big_quiet_step (fail)));(refine qn hK fun K2 ag=>?_);clear hK K;go_wp2_with fail;(refine kk ax ag (Ed.alloc _) ?_);clear ag K2;have kN:=O7.o.ext Ed;have y0:=kN.c 0 (.slice none 0 0) rfl;have f0:=kN.frozen 0;have yz:=kN.lt;clear ax r0 r1 r2 r3 kN;(refine zJ [_] rfl fun K hK=>?_);(repeat (go_big_quiet_step (fail)));(refine qn hK ?_);clear hK K;go_wp2_with fail;exact TAIL.o _ _ _ w5.heap.size g9 c9 wd (Nat.le_refl _) Ed vX
   · go_wp2_with fail;obtain⟨wc,AB⟩:∃wc,wc=(wa.alloc (.cells #[.string ⟨#[109,97,105,110]⟩,.string ⟨#[]⟩,.slice none 0 0,.slice (some ⟨w4.heap.size+1,0,none⟩) 1 1] 38)):=⟨_,rfl⟩;have rG:Ext wa wc:=by rw[AB];exact kx
     have ek:af wc (w5.heap.size+1) 0 [.string ⟨#[109,97,105,110]⟩,.string ⟨#[]⟩,.slice none 0 0,.slice (some ⟨w4.heap.size+1,0,none⟩) 1 1]:=by rw[AB];exact af.zk _ _ (by omega)
     have hzc:wc.heap.size=wa.heap.size+1:=by rw[AB];simp
     rw[←AB];clear AB;(refine kk ax ag (RD.trans rG) ?_);clear ag K2;(refine bX rfl fun K2 ag=>?_);have Br:=aA (D:=fun _=>False) aU rG fun _ _ _ x=>x;have YH:=RD.trans rG;refine dH jZ _ rfl (.tmp 18) (.tmp 19) rfl w5.heap.size (.slice (some ⟨w5.heap.size,0,none⟩) 0 0) 0 [] rfl Br NJ more.length NN css.flatten rfl (Pe.o.ext (iG.o.trans YH)) (by omega) (by omega) ?_;intro v2 wb FC Em;change K2 _ _;rw[Nat.zero_add,List.nil_append]at FC;have KB:Kp (·=w5.heap.size) wc wb:=Em.weak fun b _ e=>by cases e;rfl
     have Eb:Ext w5 wb:=Kp.own YH KB (fun b e=>by omega);have hzb:=KB.size;clear Em;(refine kk ax ag Eb ?_);clear ag K2;(refine bX rfl fun K2 ag=>?_);have UX:=af.kp ek KB (by omega);refine aV jZ rfl (.tmp 20) (.tmp 22) rfl w5.heap.size v2 more.length css.flatten rfl FC (w5.heap.size+1) 1 [.string ⟨#[109,97,105,110]⟩,.string ⟨#[]⟩,.slice none 0 0,.slice (some ⟨w4.heap.size+1,0,none⟩) 1 1] rfl rfl UX (by simp[Value.oneCell']) (by omega) (by omega) ?_;intro g9 c9 wd vX kH nS;change K2 _ _;have Ed:Ext w5 wd:=Kp.own Eb kH (fun b e=>(World.ownsRow.lt FC b e).1);(refine kk ax ag Ed ?_);clear ag K2;go_simp;(refine lu [_] rfl rfl fun K hK=>?_);(repeat (go_big_quiet_step (fail)));(refine qn hK fun K2 ag=>?_);clear hK K;go_wp2_with fail;(refine kk ax ag (Ed.alloc _) ?_);clear ag K2;have kN:=O7.o.ext Ed;have y0:=kN.c 0 (.slice none 0 0) rfl;have f0:=kN.frozen 0;have yz:=kN.lt;clear ax r0 r1 r2 r3 kN;(refine zJ [_] rfl fun K hK=>?_);(repeat (go_big_quiet_step (fail)));(refine qn hK ?_);clear hK K;go_wp2_with fail;exact TAIL.o _ _ _ w5.heap.size g9 c9 wd (Nat.le_refl _) Ed vX
 · go_wp2_with fail;obtain⟨wc,AB⟩:∃wc,wc=(w5.alloc (.cells #[.string ⟨#[109,97,105,110]⟩,.string ⟨#[]⟩,.slice none 0 0,.slice (some ⟨w4.heap.size+1,0,none⟩) 1 1] 38)).drew:=⟨_,rfl⟩;have rG:Ext w5 wc:=by rw[AB];exact kx
   have ek:af wc (w5.heap.size) 0 [.string ⟨#[109,97,105,110]⟩,.string ⟨#[]⟩,.slice none 0 0,.slice (some ⟨w4.heap.size+1,0,none⟩) 1 1]:=by rw[AB];exact af.EU _ _ (by omega)
   have hzc:wc.heap.size=w5.heap.size+1:=by rw[AB];show(World.alloc _ _).heap.size=_;simp
   rw[←AB];clear AB;(refine kk ax ag rG ?_);clear ag K2;(refine bX rfl fun K2 ag=>?_);go_wp2_with fail;obtain⟨wa,K4⟩:∃wa,wa=(wc.alloc (.cells #[] 38)):=⟨_,rfl⟩;have RD:Ext wc wa:=by rw[K4];exact kx
   have aU:wa.ownsRow w5.heap.size 38 4 (.slice (some ⟨w5.heap.size+1,0,none⟩) 0 0) 0 []:=by rw[K4];exact aA (D:=fun _=>False) (l7 wc 38 4 w5.heap.size (by omega) (w5.heap.size+1) (by omega)) kx fun _ _ _ x=>x
   have hza:wa.heap.size=wc.heap.size+1:=by rw[K4];simp
   rw[←K4];clear K4;have Uy:=rG.trans RD;(refine kk ax ag Uy ?_);clear ag K2
   · (refine bX rfl fun K2 ag=>?_);refine dH jZ _ rfl (.tmp 18) (.tmp 19) rfl w5.heap.size (.slice (some ⟨w5.heap.size+1,0,none⟩) 0 0) 0 [] rfl aU NJ more.length NN css.flatten rfl (Pe.o.ext (iG.o.trans Uy)) (by omega) (by omega) ?_;intro v2 wb FC Em;change K2 _ _;rw[Nat.zero_add,List.nil_append]at FC;have KB:Kp (·=w5.heap.size+1) wa wb:=Em.weak fun b _ e=>by cases e;rfl
     have Eb:Ext w5 wb:=Kp.own Uy KB (fun b e=>by omega);have hzb:=KB.size;clear Em;(refine kk ax ag Eb ?_);clear ag K2;(refine bX rfl fun K2 ag=>?_);have UX:=af.kp (ek.ext RD) KB (by omega);refine aV jZ rfl (.tmp 20) (.tmp 22) rfl w5.heap.size v2 more.length css.flatten rfl FC (w5.heap.size) 1 [.string ⟨#[109,97,105,110]⟩,.string ⟨#[]⟩,.slice none 0 0,.slice (some ⟨w4.heap.size+1,0,none⟩) 1 1] rfl rfl UX (by simp[Value.oneCell']) (by omega) (by omega) ?_;intro g9 c9 wd vX kH nS;change K2 _ _;have Ed:Ext w5 wd:=Kp.own Eb kH (fun b e=>(World.ownsRow.lt FC b e).1);(refine kk ax ag Ed ?_);clear ag K2;go_simp;(refine lu [_] rfl rfl fun K hK=>?_);(repeat (go_big_quiet_step (fail)));(refine qn hK fun K2 ag=>?_);clear hK K;go_wp2_with fail;(refine kk ax ag (Ed.alloc _) ?_);clear ag K2;have kN:=O7.o.ext Ed;have y0:=kN.c 0 (.slice none 0 0) rfl;have f0:=kN.frozen 0;have yz:=kN.lt;clear ax r0 r1 r2 r3 kN;(refine zJ [_] rfl fun K hK=>?_);(repeat (go_big_quiet_step (fail)));(refine qn hK ?_);clear hK K;go_wp2_with fail;exact TAIL.o _ _ _ w5.heap.size g9 c9 wd (Nat.le_refl _) Ed vX
theorem QL(w:World)(I:Nat→Prop)(hI:∀b,I b→b<w.heap.size)(NJ:Addr)(NN:Nat)(more:List M.Class)(Ce:Option Addr)(Cf:Nat)(Dt:Option Addr)(Du:Nat)(code:List M.Ins)(maps:List M.SMap)(hm:SliceOf 4 aL w I (.slice (some NJ) more.length NN) more)(hl:more.length≤10)(jy:more≠[])
    (hc:SliceOf 4 lD w I (.slice Ce code.length Cf) code) (hx:SliceOf 3 iB w I (.slice Dt maps.length Du) maps):
    Calls Tryz.prog 7 #[.slice (some NJ) more.length NN,.slice Ce code.length Cf,.slice Dt maps.length Du] w fun e w'=>(∃v,e=.returned (.agg #[v])∧SliceOf 2 aH w' (fun b=>I b∨w.heap.size+1≤b) v (M.ui more code maps))∧Ext w w':=
 (yT w I hI NJ NN more Ce Cf Dt Du code maps hm hl jy hc hx).mono fun _ _ ⟨⟨v,h,hp⟩,hE⟩=>⟨⟨v,h,hp.plan⟩,hE⟩
end Go.Proofs.YtohpiobncgafeaaGreatDoor
namespace Go.Proofs.YtohpiobncgafeaaGreatDoor.M
theorem Bu{a:Int}(h:dw a=true)(m:Method):fM m ⟨1,a,none_,none_⟩=true:=by
 unfold dw at h;simp only[Bool.and_eq_true,decide_eq_true_eq]at h;unfold fM gK;simp[isNum,iU,jM,h.1,h.2]
theorem IW{p:ai}{a:Int}(kX:dM p=true)(ha:dw a=true):Hf p a=steps p true 400 (start p true 0 iT runN [a]):=by
 have hl:=(qV kX).1;have hs:[a].all dw=true:=by simp[ha]
 unfold Hf;rw[Fg (n:=iT) (m:=runN) kX (by unfold has;simp;omega) zi BF hs];exact Fh (f:=400) kX (zt kX hs) (Nat.le_refl _)
end Go.Proofs.YtohpiobncgafeaaGreatDoor.M
