/- Walks. -/
import Derived.Test.YtmcmhalhieejaaaGreatDoorChgTexte
import Derived.Deep.DeepCutAuto
import Derived.Deep.CutRange
set_option maxRecDepth 100000
set_option maxHeartbeats 4000000
set_option linter.unusedSimpArgs false
set_option linter.unusedVariables false
namespace Go.Proofs.YtmcmhalhieejaaaGreatDoor
open Go Go.RowKit
theorem yg (w : World) (I : Nat → Prop) (cs : List Value) (c : M.Method) (h : aC w I c cs) :
    Calls Tryz.prog 61 #[.agg cs.toArray] w fun e w'=>e=.returned (.bool (M.fP c))∧Ext w w':=by
 obtain⟨va,vc,vm,rfl, -,h1,h2⟩:=h;obtain⟨ca,cc,rfl,zD,Lx⟩:=h1.form;obtain⟨a,cap,rfl,hn,bK⟩:=h2.form;obtain⟨w0,bB⟩:∃w0,w0=w.alloc (.cells #[.string c.name,va,.int .i64 c.ret.kind,.string c.ret.name,.int .i64 c.locals,.int .i64 c.stack,.slice ca c.code.length cc,.slice a c.maps.length cap] 81):=⟨_,rfl⟩;have bH:Ext w w0:=by rw[bB];exact(by repeat (first|with_reducible exact Kp.refl _ _|with_reducible assumption|with_reducible refine Kp.alloc ?_ _|with_reducible refine Kp.drew ?_|with_reducible refine Kp.drewN ?_ _|with_reducible refine Kp.setCell ?_ (fun h=>absurd h (by simp<;>omega)) _|with_reducible refine Kp.trans ?_ (by with_reducible assumption)|exact Kp.refl _ _|assumption|refine Kp.alloc ?_ _|refine Kp.drew ?_|refine Kp.drewN ?_ _|(refine Kp.setCell ?_ (fun h=>absurd h (by simp;done)) _)|(refine Kp.setCell ?_ (fun h=>absurd h (by simp;omega)) _)|refine Kp.trans ?_ (by assumption)))
 have hb:az w0 w.heap.size 81 #[.string c.name,va,.int .i64 c.ret.kind,.string c.ret.name,.int .i64 c.locals,.int .i64 c.stack,.slice ca c.code.length cc,.slice a c.maps.length cap]:=by rw[bB];exact az.new _ _ _
 have c7:=hb.c 7 (.slice a c.maps.length cap) rfl;have cz:=hb.lt;have HB:=Zy hb;have H:=Zy (h2.ext dE.stays bH);have aZ:=Zy bH;have bZ:=Zy bB;clear bH hb bB h1 h2;by_cases h5:5<c.maps.length
 · have NB:(5:Int)<c.maps.length:=by omega
   go_enter Tryz.func61,Tryz.ntmps61;go_wp2_with fail;rw[←bZ.o];go_wp2_with fail;go_ret;exact⟨ag (by unfold M.fP;rw[decide_eq_false (by omega)];rfl),aZ.o⟩
 have KD:Zz (M.fP c=M.aT c 0 c.maps):=Zy (by unfold M.fP;rw[decide_eq_true (by omega)];rfl);have NB:¬(5:Int)<c.maps.length:=by omega
 go_enter Tryz.func61,Tryz.ntmps61;go_wp2_with fail;rw[←bZ.o];go_wp2_with fail;go_loopw [3] (fun i wr=>∃k:Nat,k≤c.maps.length∧i=.int .i64 k∧Ext w0 wr∧Zz (M.aT c 0 (c.maps.take k)=true)) (fun i _=>c.maps.length - (intOf i).toNat)
 case atStart=>exact⟨0,Nat.zero_le _,rfl,Kp.refl _ _,Zy rfl⟩
 case round =>
  obtain⟨k,hk,rfl,hE,HA⟩:=hrel;have HE:=Zy hE;have d7:=hE.aj c7;have dz:=ax d7;by_cases dI:k<c.maps.length
  · have dk:(k:Int)<c.maps.length:=by omega
    obtain⟨x,hx⟩:∃x,c.maps[k]?=some x:=⟨c.maps[k]'dI,List.getElem?_eq_getElem dI⟩;obtain⟨b',off,cs,rfl,hI,⟨vl,vs,rfl,sl,ss⟩, -,hc⟩:=H.o.get hx;obtain⟨la,lc,rfl, -,mG⟩:=sl.form;obtain⟨sa,sc,rfl, -,PN⟩:=ss.form;obtain⟨g0,g1,g2⟩:=(hc.ext hE).three;have gz:=ax g0;obtain⟨w5,dA⟩:∃w5,w5=wr.alloc (.cells #[.int .i64 x.at_,.slice la x.locals.length lc,.slice sa x.stack.length sc] 111):=⟨_,rfl⟩;have bg:Ext wr w5:=by rw[dA];exact(by repeat (first|with_reducible exact Kp.refl _ _|with_reducible assumption|with_reducible refine Kp.alloc ?_ _|with_reducible refine Kp.drew ?_|with_reducible refine Kp.drewN ?_ _|with_reducible refine Kp.setCell ?_ (fun h=>absurd h (by simp<;>omega)) _|with_reducible refine Kp.trans ?_ (by with_reducible assumption)|exact Kp.refl _ _|assumption|refine Kp.alloc ?_ _|refine Kp.drew ?_|refine Kp.drewN ?_ _|(refine Kp.setCell ?_ (fun h=>absurd h (by simp;done)) _)|(refine Kp.setCell ?_ (fun h=>absurd h (by simp;omega)) _)|refine Kp.trans ?_ (by assumption)))
    have b5:az w5 wr.heap.size 111 #[.int .i64 x.at_,.slice la x.locals.length lc,.slice sa x.stack.length sc]:=by rw[dA];exact az.new _ _ _
    have dh:Zz (Ext w0 w5):=Zy (HE.o.trans bg);have bm:=HB.o.ext dh.o;have yo:=Zy (sl.ext dx.stays dh.o);have yt:=Zy (ss.ext dx.stays dh.o);have kV:=Zy dA;obtain⟨T,f,fZ,HT⟩:=jS.ex (fun W'=>Ext w5 W') _ (Kp.refl _ _);have x0:=fun s=>(b5.ext (HT.aK s)).c 0 (.int .i64 x.at_) rfl;have x1:=fun s=>(b5.ext (HT.aK s)).c 1 (.slice la x.locals.length lc) rfl;have x2:=fun s=>(b5.ext (HT.aK s)).c 2 (.slice sa x.stack.length sc) rfl;have m4:=fun s=>(bm.ext (HT.aK s)).c 4 (.int .i64 c.locals) rfl;have m5:=fun s=>(bm.ext (HT.aK s)).c 5 (.int .i64 c.stack) rfl;have m6:=fun s=>(bm.ext (HT.aK s)).c 6 (.slice ca c.code.length cc) rfl;have m7:=fun s=>(bm.ext (HT.aK s)).c 7 (.slice (some ⟨b',off,none⟩) c.maps.length cap) rfl;have ay:=Zy HT;have HJ:=Zy (fun(j:Nat) (y:M.SMap) (hy:c.maps[j]?=some y)=>(show∀s,(f s).cell? ⟨b',off+j*3,none⟩=some (.int .i64 y.at_)from fun s=>by
     obtain⟨_,_,cs2,e2,_,⟨_,_,rfl,_,_⟩, -,FP⟩:=H.o.get hy;cases e2;exact((FP.ext dh.o).ext (HT.aK s)).three.1))
    have HX:=Zy hx;clear HT hx hc hE bg dA b5 bm sl ss;obtain⟨q1,q8⟩:∃q,(decide (1≤x.at_)&&decide (x.at_≤(c.code.length:Int) - 1))=q:=⟨_,rfl⟩;have pX:=Zy q8;clear q8;obtain⟨q3,Es⟩:∃q,((x.locals.length:Int) !=c.locals)=q:=⟨_,rfl⟩;obtain⟨q4,Et⟩:∃q,decide (c.stack<(x.stack.length:Int))=q:=⟨_,rfl⟩;obtain⟨q5,Eu⟩:∃q,x.locals.all M.fE=q:=⟨_,rfl⟩;obtain⟨q6,Ev⟩:∃q,x.stack.all M.fE=q:=⟨_,rfl⟩;have qO:=Zy Eu;have sF:=Zy Ev;clear Eu Ev;obtain⟨q2,iV,q9⟩:∃q2,((k=0∧q2=false)∨∃j y,k=j+1∧c.maps[j]?=some y∧q2=decide (x.at_≤y.at_))∧M.aT c 0 (c.maps.take (k+1))=(q1&& !q2&& !q3&& !q4&&q5&&q6):=by
     by_cases h0:k=0
     · exact⟨false,.inl ⟨h0,rfl⟩,by rw[M.qy HX.o HA.o (.inl ⟨h0,rfl⟩),pX.o,Es,Et,qO.o,sF.o]⟩
     · obtain⟨j,hj⟩:∃j,k=j+1:=⟨k - 1,by omega⟩;obtain⟨y,hy⟩:∃y,c.maps[j]?=some y:=⟨c.maps[j]'(by omega),List.getElem?_eq_getElem (by omega)⟩;exact⟨_,.inr ⟨j,y,hj,hy,rfl⟩,by rw[M.qy HX.o HA.o (.inr ⟨j,y,hj,hy,rfl⟩),pX.o,Es,Et,qO.o,sF.o]⟩
    have kY:=Zy q9;have o6:=Zy iV;have jb:Zz (M.aT c 0 (c.maps.take (k+1))=false→M.fP c=false):=Zy fun e=>KD.o.trans (M.zT e);clear q9 iV;go_wp2_with fail;rw[←kV.o];cases q1
    · go_wp2_with fail;(refine xV ay ?_ ?_);rotate_left;(repeat (go_big_quiet_step ((first|(go_at_call 26;refine(dO _ _ _ _).mono ?_;rintro e w6 ⟨rfl,rfl⟩;rw[pX.o];exact⟨rfl,ay.o.o _ (ay.o.aK _)⟩)|(go_at_call 85;with_reducible refine(aO _ I (.slice la x.locals.length lc) x.locals (yo.o.ext dx.stays (ay.o.aK _))).mono ?_;rintro e w6 ⟨rfl,bu⟩;rw[qO.o];exact⟨rfl,ay.o.o w6 ((ay.o.aK _).trans bu)⟩)|(go_at_call 85;with_reducible refine(aO _ I (.slice sa x.stack.length sc) x.stack (yt.o.ext dx.stays (ay.o.aK _))).mono ?_;rintro e w6 ⟨rfl,bu⟩;rw[sF.o];exact⟨rfl,ay.o.o w6 ((ay.o.aK _).trans bu)⟩)))));(refine wpQuiet_nil ?_);(rintro _ ⟨sW,rfl⟩);rotate_left
      · exact(Kp.refl _ _).drew
      go_wp2_with fail;go_ret;exact⟨ag (jb.o (kY.o.trans rfl)).symm,(aZ.o.trans dh.o).trans (ay.o.aK sW)⟩
    by_cases En:0<k
    · have JE:decide ((0:Int)<(k:Int))=true:=decide_eq_true (by omega);obtain⟨j,y,hj,hy,iV⟩:∃j y,k=j+1∧c.maps[j]?=some y∧q2=decide (x.at_≤y.at_):=o6.o.resolve_left (fun h=>by have:=h.1;omega);replace iV:=iV.symm;have DN:IntKind.i64.wrap ((k:Int) - 1)=(j:Int):=by rw[IntWalk.i64_in _ (by omega)];omega
      have N8:(k:Int) - 1=(j:Int):=by omega
      have FW:(0:Int)≤(j:Int):=by omega
      have Ps:(j:Int)<c.maps.length:=by omega
      have yj:=HJ.o j y hy;clear hy hj;clear o6;cases q2;rotate_left
      · go_wp2_with fail;(refine xV ay ?_ ?_);rotate_left;(repeat (go_big_quiet_step ((first|(go_at_call 26;refine(dO _ _ _ _).mono ?_;rintro e w6 ⟨rfl,rfl⟩;rw[pX.o];exact⟨rfl,ay.o.o _ (ay.o.aK _)⟩)|(go_at_call 85;with_reducible refine(aO _ I (.slice la x.locals.length lc) x.locals (yo.o.ext dx.stays (ay.o.aK _))).mono ?_;rintro e w6 ⟨rfl,bu⟩;rw[qO.o];exact⟨rfl,ay.o.o w6 ((ay.o.aK _).trans bu)⟩)|(go_at_call 85;with_reducible refine(aO _ I (.slice sa x.stack.length sc) x.stack (yt.o.ext dx.stays (ay.o.aK _))).mono ?_;rintro e w6 ⟨rfl,bu⟩;rw[sF.o];exact⟨rfl,ay.o.o w6 ((ay.o.aK _).trans bu)⟩)))));(refine wpQuiet_nil ?_);(rintro _ ⟨sW,rfl⟩);rotate_left
        · exact(Kp.refl _ _).drew
        go_wp2_with fail;go_ret;exact⟨ag (jb.o (kY.o.trans rfl)).symm,(aZ.o.trans dh.o).trans (ay.o.aK sW)⟩
      cases q3;rotate_left
      · go_wp2_with fail;(refine xV ay ?_ ?_);rotate_left;(repeat (go_big_quiet_step ((first|(go_at_call 26;refine(dO _ _ _ _).mono ?_;rintro e w6 ⟨rfl,rfl⟩;rw[pX.o];exact⟨rfl,ay.o.o _ (ay.o.aK _)⟩)|(go_at_call 85;with_reducible refine(aO _ I (.slice la x.locals.length lc) x.locals (yo.o.ext dx.stays (ay.o.aK _))).mono ?_;rintro e w6 ⟨rfl,bu⟩;rw[qO.o];exact⟨rfl,ay.o.o w6 ((ay.o.aK _).trans bu)⟩)|(go_at_call 85;with_reducible refine(aO _ I (.slice sa x.stack.length sc) x.stack (yt.o.ext dx.stays (ay.o.aK _))).mono ?_;rintro e w6 ⟨rfl,bu⟩;rw[sF.o];exact⟨rfl,ay.o.o w6 ((ay.o.aK _).trans bu)⟩)))));(refine wpQuiet_nil ?_);(rintro _ ⟨sW,rfl⟩);rotate_left
        · exact(Kp.refl _ _).drew
        go_wp2_with fail;go_ret;exact⟨ag (jb.o (kY.o.trans rfl)).symm,(aZ.o.trans dh.o).trans (ay.o.aK sW)⟩
      cases q4;rotate_left
      · go_wp2_with fail;(refine xV ay ?_ ?_);rotate_left;(repeat (go_big_quiet_step ((first|(go_at_call 26;refine(dO _ _ _ _).mono ?_;rintro e w6 ⟨rfl,rfl⟩;rw[pX.o];exact⟨rfl,ay.o.o _ (ay.o.aK _)⟩)|(go_at_call 85;with_reducible refine(aO _ I (.slice la x.locals.length lc) x.locals (yo.o.ext dx.stays (ay.o.aK _))).mono ?_;rintro e w6 ⟨rfl,bu⟩;rw[qO.o];exact⟨rfl,ay.o.o w6 ((ay.o.aK _).trans bu)⟩)|(go_at_call 85;with_reducible refine(aO _ I (.slice sa x.stack.length sc) x.stack (yt.o.ext dx.stays (ay.o.aK _))).mono ?_;rintro e w6 ⟨rfl,bu⟩;rw[sF.o];exact⟨rfl,ay.o.o w6 ((ay.o.aK _).trans bu)⟩)))));(refine wpQuiet_nil ?_);(rintro _ ⟨sW,rfl⟩);rotate_left
        · exact(Kp.refl _ _).drew
        go_wp2_with fail;go_ret;exact⟨ag (jb.o (kY.o.trans rfl)).symm,(aZ.o.trans dh.o).trans (ay.o.aK sW)⟩
      cases q5
      · go_wp2_with fail;(refine xV ay ?_ ?_);rotate_left;(repeat (go_big_quiet_step ((first|(go_at_call 26;refine(dO _ _ _ _).mono ?_;rintro e w6 ⟨rfl,rfl⟩;rw[pX.o];exact⟨rfl,ay.o.o _ (ay.o.aK _)⟩)|(go_at_call 85;with_reducible refine(aO _ I (.slice la x.locals.length lc) x.locals (yo.o.ext dx.stays (ay.o.aK _))).mono ?_;rintro e w6 ⟨rfl,bu⟩;rw[qO.o];exact⟨rfl,ay.o.o w6 ((ay.o.aK _).trans bu)⟩)|(go_at_call 85;with_reducible refine(aO _ I (.slice sa x.stack.length sc) x.stack (yt.o.ext dx.stays (ay.o.aK _))).mono ?_;rintro e w6 ⟨rfl,bu⟩;rw[sF.o];exact⟨rfl,ay.o.o w6 ((ay.o.aK _).trans bu)⟩)))));(refine wpQuiet_nil ?_);(rintro _ ⟨sW,rfl⟩);rotate_left
        · exact(Kp.refl _ _).drew
        go_wp2_with fail;go_ret;exact⟨ag (jb.o (kY.o.trans rfl)).symm,(aZ.o.trans dh.o).trans (ay.o.aK sW)⟩
      cases q6
      · go_wp2_with fail;(refine xV ay ?_ ?_);rotate_left;(repeat (go_big_quiet_step ((first|(go_at_call 26;refine(dO _ _ _ _).mono ?_;rintro e w6 ⟨rfl,rfl⟩;rw[pX.o];exact⟨rfl,ay.o.o _ (ay.o.aK _)⟩)|(go_at_call 85;with_reducible refine(aO _ I (.slice la x.locals.length lc) x.locals (yo.o.ext dx.stays (ay.o.aK _))).mono ?_;rintro e w6 ⟨rfl,bu⟩;rw[qO.o];exact⟨rfl,ay.o.o w6 ((ay.o.aK _).trans bu)⟩)|(go_at_call 85;with_reducible refine(aO _ I (.slice sa x.stack.length sc) x.stack (yt.o.ext dx.stays (ay.o.aK _))).mono ?_;rintro e w6 ⟨rfl,bu⟩;rw[sF.o];exact⟨rfl,ay.o.o w6 ((ay.o.aK _).trans bu)⟩)))));(refine wpQuiet_nil ?_);(rintro _ ⟨sW,rfl⟩);rotate_left
        · exact(Kp.refl _ _).drew
        go_wp2_with fail;go_ret;exact⟨ag (jb.o (kY.o.trans rfl)).symm,(aZ.o.trans dh.o).trans (ay.o.aK sW)⟩
      go_wp2_with fail;(refine xV ay ?_ ?_);rotate_left;(repeat (go_big_quiet_step ((first|(go_at_call 26;refine(dO _ _ _ _).mono ?_;rintro e w6 ⟨rfl,rfl⟩;rw[pX.o];exact⟨rfl,ay.o.o _ (ay.o.aK _)⟩)|(go_at_call 85;with_reducible refine(aO _ I (.slice la x.locals.length lc) x.locals (yo.o.ext dx.stays (ay.o.aK _))).mono ?_;rintro e w6 ⟨rfl,bu⟩;rw[qO.o];exact⟨rfl,ay.o.o w6 ((ay.o.aK _).trans bu)⟩)|(go_at_call 85;with_reducible refine(aO _ I (.slice sa x.stack.length sc) x.stack (yt.o.ext dx.stays (ay.o.aK _))).mono ?_;rintro e w6 ⟨rfl,bu⟩;rw[sF.o];exact⟨rfl,ay.o.o w6 ((ay.o.aK _).trans bu)⟩)))));(refine wpQuiet_nil ?_);(rintro _ ⟨sW,rfl⟩);rotate_left
      · exact(Kp.refl _ _).drew
      go_wp2_with fail;go_round
      case rel=>exact⟨k+1,by omega,by go_num,dh.o.trans (ay.o.aK sW),Zy (kY.o.trans rfl)⟩
      case measure=>simp[intOf];omega
    · have JE:decide ((0:Int)<(k:Int))=false:=decide_eq_false (by omega);obtain rfl:q2=false:=by rcases o6.o with h|⟨j,y,h, -⟩<;>first|exact h.2|omega
      clear o6;cases q3;rotate_left
      · go_wp2_with fail;(refine xV ay ?_ ?_);rotate_left;(repeat (go_big_quiet_step ((first|(go_at_call 26;refine(dO _ _ _ _).mono ?_;rintro e w6 ⟨rfl,rfl⟩;rw[pX.o];exact⟨rfl,ay.o.o _ (ay.o.aK _)⟩)|(go_at_call 85;with_reducible refine(aO _ I (.slice la x.locals.length lc) x.locals (yo.o.ext dx.stays (ay.o.aK _))).mono ?_;rintro e w6 ⟨rfl,bu⟩;rw[qO.o];exact⟨rfl,ay.o.o w6 ((ay.o.aK _).trans bu)⟩)|(go_at_call 85;with_reducible refine(aO _ I (.slice sa x.stack.length sc) x.stack (yt.o.ext dx.stays (ay.o.aK _))).mono ?_;rintro e w6 ⟨rfl,bu⟩;rw[sF.o];exact⟨rfl,ay.o.o w6 ((ay.o.aK _).trans bu)⟩)))));(refine wpQuiet_nil ?_);(rintro _ ⟨sW,rfl⟩);rotate_left
        · exact(Kp.refl _ _).drew
        go_wp2_with fail;go_ret;exact⟨ag (jb.o (kY.o.trans rfl)).symm,(aZ.o.trans dh.o).trans (ay.o.aK sW)⟩
      cases q4;rotate_left
      · go_wp2_with fail;(refine xV ay ?_ ?_);rotate_left;(repeat (go_big_quiet_step ((first|(go_at_call 26;refine(dO _ _ _ _).mono ?_;rintro e w6 ⟨rfl,rfl⟩;rw[pX.o];exact⟨rfl,ay.o.o _ (ay.o.aK _)⟩)|(go_at_call 85;with_reducible refine(aO _ I (.slice la x.locals.length lc) x.locals (yo.o.ext dx.stays (ay.o.aK _))).mono ?_;rintro e w6 ⟨rfl,bu⟩;rw[qO.o];exact⟨rfl,ay.o.o w6 ((ay.o.aK _).trans bu)⟩)|(go_at_call 85;with_reducible refine(aO _ I (.slice sa x.stack.length sc) x.stack (yt.o.ext dx.stays (ay.o.aK _))).mono ?_;rintro e w6 ⟨rfl,bu⟩;rw[sF.o];exact⟨rfl,ay.o.o w6 ((ay.o.aK _).trans bu)⟩)))));(refine wpQuiet_nil ?_);(rintro _ ⟨sW,rfl⟩);rotate_left
        · exact(Kp.refl _ _).drew
        go_wp2_with fail;go_ret;exact⟨ag (jb.o (kY.o.trans rfl)).symm,(aZ.o.trans dh.o).trans (ay.o.aK sW)⟩
      cases q5
      · go_wp2_with fail;(refine xV ay ?_ ?_);rotate_left;(repeat (go_big_quiet_step ((first|(go_at_call 26;refine(dO _ _ _ _).mono ?_;rintro e w6 ⟨rfl,rfl⟩;rw[pX.o];exact⟨rfl,ay.o.o _ (ay.o.aK _)⟩)|(go_at_call 85;with_reducible refine(aO _ I (.slice la x.locals.length lc) x.locals (yo.o.ext dx.stays (ay.o.aK _))).mono ?_;rintro e w6 ⟨rfl,bu⟩;rw[qO.o];exact⟨rfl,ay.o.o w6 ((ay.o.aK _).trans bu)⟩)|(go_at_call 85;with_reducible refine(aO _ I (.slice sa x.stack.length sc) x.stack (yt.o.ext dx.stays (ay.o.aK _))).mono ?_;rintro e w6 ⟨rfl,bu⟩;rw[sF.o];exact⟨rfl,ay.o.o w6 ((ay.o.aK _).trans bu)⟩)))));(refine wpQuiet_nil ?_);(rintro _ ⟨sW,rfl⟩);rotate_left
        · exact(Kp.refl _ _).drew
        go_wp2_with fail;go_ret;exact⟨ag (jb.o (kY.o.trans rfl)).symm,(aZ.o.trans dh.o).trans (ay.o.aK sW)⟩
      cases q6
      · go_wp2_with fail;(refine xV ay ?_ ?_);rotate_left;(repeat (go_big_quiet_step ((first|(go_at_call 26;refine(dO _ _ _ _).mono ?_;rintro e w6 ⟨rfl,rfl⟩;rw[pX.o];exact⟨rfl,ay.o.o _ (ay.o.aK _)⟩)|(go_at_call 85;with_reducible refine(aO _ I (.slice la x.locals.length lc) x.locals (yo.o.ext dx.stays (ay.o.aK _))).mono ?_;rintro e w6 ⟨rfl,bu⟩;rw[qO.o];exact⟨rfl,ay.o.o w6 ((ay.o.aK _).trans bu)⟩)|(go_at_call 85;with_reducible refine(aO _ I (.slice sa x.stack.length sc) x.stack (yt.o.ext dx.stays (ay.o.aK _))).mono ?_;rintro e w6 ⟨rfl,bu⟩;rw[sF.o];exact⟨rfl,ay.o.o w6 ((ay.o.aK _).trans bu)⟩)))));(refine wpQuiet_nil ?_);(rintro _ ⟨sW,rfl⟩);rotate_left
        · exact(Kp.refl _ _).drew
        go_wp2_with fail;go_ret;exact⟨ag (jb.o (kY.o.trans rfl)).symm,(aZ.o.trans dh.o).trans (ay.o.aK sW)⟩
      go_wp2_with fail;(refine xV ay ?_ ?_);rotate_left;(repeat (go_big_quiet_step ((first|(go_at_call 26;refine(dO _ _ _ _).mono ?_;rintro e w6 ⟨rfl,rfl⟩;rw[pX.o];exact⟨rfl,ay.o.o _ (ay.o.aK _)⟩)|(go_at_call 85;with_reducible refine(aO _ I (.slice la x.locals.length lc) x.locals (yo.o.ext dx.stays (ay.o.aK _))).mono ?_;rintro e w6 ⟨rfl,bu⟩;rw[qO.o];exact⟨rfl,ay.o.o w6 ((ay.o.aK _).trans bu)⟩)|(go_at_call 85;with_reducible refine(aO _ I (.slice sa x.stack.length sc) x.stack (yt.o.ext dx.stays (ay.o.aK _))).mono ?_;rintro e w6 ⟨rfl,bu⟩;rw[sF.o];exact⟨rfl,ay.o.o w6 ((ay.o.aK _).trans bu)⟩)))));(refine wpQuiet_nil ?_);(rintro _ ⟨sW,rfl⟩);rotate_left
      · exact(Kp.refl _ _).drew
      go_wp2_with fail;go_round
      case rel=>exact⟨k+1,by omega,by go_num,dh.o.trans (ay.o.aK sW),Zy (kY.o.trans rfl)⟩
      case measure=>simp[intOf];omega
  · have dk:¬(k:Int)<c.maps.length:=by omega
    clear hE;go_wp2_with fail;go_ret;exact⟨ag (by have:=HA.o;rw[List.take_of_length_le (by omega)]at this;rw[KD.o,this]),aZ.o.trans HE.o⟩
theorem yf(w:World)(I:Nat→Prop)(cs:List Value)(c:M.Method)(h:aC w I c cs):
    Calls Tryz.prog 60 #[.agg cs.toArray] w fun e w'=>e=.returned (.bool (M.codeOk c))∧Ext w w':=by
 obtain⟨va,vc,vm,rfl, -,h1,h2⟩:=h;obtain⟨a,cap,rfl,hn,bK⟩:=h1.form;obtain⟨w0,bB,bH,hb⟩:=nu w #[.string c.name,va,.int .i64 c.ret.kind,.string c.ret.name,.int .i64 c.locals,.int .i64 c.stack,.slice a c.code.length cap,vm] 81;have c3:=hb.c 4 (.int .i64 c.locals) rfl;have c5:=hb.c 6 (.slice a c.code.length cap) rfl;have cz:=hb.lt;have HB:=Zy hb;have H:=Zy (h1.ext (fun _ _ _ _ _ _ _ _ h=>h) bH);have aZ:=Zy bH;have bZ:=Zy bB;clear bH hb bB h1 h2;go_enter Tryz.func60,Tryz.ntmps60;go_wp2_with fail;rw[←bZ.o];go_wp2_with fail;refine(dO _ _ _ _).mono ?_;rintro e w' ⟨rfl,rfl⟩;obtain⟨q,hq⟩:∃q,(decide (1≤(c.code.length:Int))&&decide ((c.code.length:Int)≤16))=q:=⟨_,rfl⟩;have sw:Zz (M.codeOk c=(q&&c.code.all (M.kJ c))):=Zy (by
  unfold M.codeOk;rw[←hq];congr 2
  · exact decide_eq_decide.2 (by omega)
  · exact decide_eq_decide.2 (by omega))
 rw[hq];cases q
 · go_wp2_with fail;go_ret;exact⟨ag (by rw[sw.o];rfl),aZ.o⟩
 clear hq;go_wp2_with fail;go_loopw [3] (fun i wr=>∃k:Nat,k≤c.code.length∧i=.int .i64 k∧Ext w0 wr∧Zz ((c.code.take k).all (M.kJ c)=true)) (fun i _=>c.code.length - (intOf i).toNat)
 case atStart=>exact⟨0,Nat.zero_le _,rfl,Kp.refl _ _,Zy (by simp)⟩
 case round =>
  obtain⟨k,hk,rfl,hE,HA⟩:=hrel;have HE:=Zy hE;have d5:=hE.aj c5;have d3:=hE.aj c3;have dz:=ax d5;by_cases dI:k<c.code.length
  · have dk:(k:Int)<c.code.length:=by omega
    obtain⟨x,hx⟩:∃x,c.code[k]?=some x:=⟨c.code[k]'dI,List.getElem?_eq_getElem dI⟩;obtain⟨b',off,cs,rfl,hI,rfl, -,hc⟩:=H.o.get hx;obtain⟨g0,g1,g2,g3⟩:=(hc.ext hE).four;have gz:=ax g0;obtain⟨w5,dA⟩:∃w5,w5=wr.alloc (.cells #[.int .i64 x.op,.int .i64 x.a,.string x.name,.string x.member] 108):=⟨_,rfl⟩;have bg:Ext wr w5:=by rw[dA];exact(by repeat (first|with_reducible exact Kp.refl _ _|with_reducible assumption|with_reducible refine Kp.alloc ?_ _|with_reducible refine Kp.drew ?_|with_reducible refine Kp.drewN ?_ _|with_reducible refine Kp.setCell ?_ (fun h=>absurd h (by simp<;>omega)) _|with_reducible refine Kp.trans ?_ (by with_reducible assumption)|exact Kp.refl _ _|assumption|refine Kp.alloc ?_ _|refine Kp.drew ?_|refine Kp.drewN ?_ _|(refine Kp.setCell ?_ (fun h=>absurd h (by simp;done)) _)|(refine Kp.setCell ?_ (fun h=>absurd h (by simp;omega)) _)|refine Kp.trans ?_ (by assumption)))
    have cZ:Zz (az w5 wr.heap.size 108 #[.int .i64 x.op,.int .i64 x.a,.string x.name,.string x.member]):=Zy (by rw[dA];exact az.new _ _ _);have MK:=Zy (bg.aj d5);have MJ:=Zy (bg.aj d3);have dh:=Zy (HE.o.trans bg);have kV:=Zy dA;have HX:=Zy hx;clear hx hc hE bg dA;go_wp2_with fail;rw[←kV.o];refine(x9 x.op x.a x.name x.member _).mono ?_;rintro e w2 ⟨rfl,dm⟩;have xx:M.kJ c x=(M.bJ ⟨x.op,x.a,x.name,x.member⟩&&(if x.op=2∨x.op=3 then decide (x.a<c.locals)else if x.op=11∨x.op=12∨x.op=13 then decide (x.a<c.code.length)else true)):=rfl;have DW:M.bJ ⟨x.op,x.a,x.name,x.member⟩=true→1≤x.op∧x.op≤15:=M.xI;obtain⟨t,ht⟩:∃t,M.bJ ⟨x.op,x.a,x.name,x.member⟩=t:=⟨_,rfl⟩;rw[ht]at xx DW ⊢;clear ht;have bX:=Zy (dh.o.trans dm);have e5:=dm.aj MK.o;have e3:=dm.aj MJ.o;have ez:=ax e5;have eu:=cZ.o.ext dm;have y0:=eu.c 0 (.int .i64 x.op) rfl;have y1:=eu.c 1 (.int .i64 x.a) rfl;have yz:=ax y0;clear dm eu g0 g1 g2 g3 gz d5 d3 dz c5 c3 cz;cases t
    · have mI:=Zy xx;clear DW xx;go_wp2_with fail;go_ret;exact⟨ag (by rw[sw.o,M.mO HX.o (by rw[mI.o];rfl)];rfl),aZ.o.trans bX.o⟩
    · obtain⟨o1,o2⟩:=DW rfl;have Ep:x.op=1∨x.op=2∨x.op=3∨x.op=4∨x.op=5∨x.op=6∨x.op=7∨x.op=8∨x.op=9∨x.op=10∨x.op=11∨x.op=12∨x.op=13∨x.op=14∨x.op=15:=by omega
      obtain⟨op,Gd⟩:∃op,x.op=op:=⟨_,rfl⟩;rw[Gd]at Ep y0 xx;obtain⟨xa,Ml⟩:∃xa,x.a=xa:=⟨_,rfl⟩;rw[Ml]at y1 xx;have mI:=Zy xx;clear DW o1 o2 Gd Ml xx;have b1:xa<c.locals∨c.locals≤xa:=by omega
      have b2:xa<c.code.length∨(c.code.length:Int)≤xa:=by omega
      rcases Ep with rfl|rfl|rfl|rfl|rfl|rfl|rfl|rfl|rfl|rfl|rfl|rfl|rfl|rfl|rfl<;>rcases b1 with b1|b1<;>rcases b2 with b2|b2
      all_goals
       have b3:decide (c.locals≤xa)=decide (c.locals≤xa):=rfl;go_wp2_with fail;first
       |(go_ret;exact⟨ag (by rw[sw.o,M.mO HX.o (by rw[mI.o];(first|(simp;done)|(simp;omega)))];rfl),aZ.o.trans bX.o⟩)
       | (go_round
          case rel=>exact⟨k+1,by omega,by go_num,bX.o,Zy (M.nk HX.o (by rw[mI.o];(first|(simp;done)|(simp;omega))) HA.o)⟩
          case measure=>simp[intOf];omega)
  · have dk:¬(k:Int)<c.code.length:=by omega
    clear hE;go_wp2_with fail;go_ret;exact⟨ag (by have:=HA.o;rw[List.take_of_length_le (by omega)]at this;rw[sw.o,this];rfl),aZ.o.trans HE.o⟩
theorem Ah(w:World)(I:Nat→Prop)(cs:List Value)(c:M.Method)(h:aC w I c cs):
    Calls Tryz.prog 43 #[.agg cs.toArray] w fun e w'=>e=.returned (.bool (M.dN c))∧Ext w w':=by
 obtain⟨va,vc,vm,rfl,h0,h1,h2⟩:=h;obtain⟨a1,u1,rfl,zD,Eo⟩:=h0.form;obtain⟨a2,u2,rfl,F9,Hn⟩:=h1.form;obtain⟨a3,u3,rfl,Oe,Px⟩:=h2.form;obtain⟨w0,bB⟩:∃w0,w0=w.alloc (.cells #[.string c.name,.slice a1 c.args.length u1,.int .i64 c.ret.kind,.string c.ret.name,.int .i64 c.locals,.int .i64 c.stack,.slice a2 c.code.length u2,.slice a3 c.maps.length u3] 81):=⟨_,rfl⟩;have bH:Ext w w0:=by rw[bB];exact(by repeat (first|with_reducible exact Kp.refl _ _|with_reducible assumption|with_reducible refine Kp.alloc ?_ _|with_reducible refine Kp.drew ?_|with_reducible refine Kp.drewN ?_ _|with_reducible refine Kp.setCell ?_ (fun h=>absurd h (by simp<;>omega)) _|with_reducible refine Kp.trans ?_ (by with_reducible assumption)|exact Kp.refl _ _|assumption|refine Kp.alloc ?_ _|refine Kp.drew ?_|refine Kp.drewN ?_ _|(refine Kp.setCell ?_ (fun h=>absurd h (by simp;done)) _)|(refine Kp.setCell ?_ (fun h=>absurd h (by simp;omega)) _)|refine Kp.trans ?_ (by assumption)))
 have hb:az w0 w.heap.size 81 #[.string c.name,.slice a1 c.args.length u1,.int .i64 c.ret.kind,.string c.ret.name,.int .i64 c.locals,.int .i64 c.stack,.slice a2 c.code.length u2,.slice a3 c.maps.length u3]:=by rw[bB];exact az.new _ _ _
 have c0:=hb.c 0 (.string c.name) rfl;have c1:=hb.c 1 (.slice a1 c.args.length u1) rfl;have c2:=hb.c 2 (.int .i64 c.ret.kind) rfl;have c3:=hb.c 3 (.string c.ret.name) rfl;have c4:=hb.c 4 (.int .i64 c.locals) rfl;have c5:=hb.c 5 (.int .i64 c.stack) rfl;have c6:=hb.c 6 (.slice a2 c.code.length u2) rfl;have c7:=hb.c 7 (.slice a3 c.maps.length u3) rfl;have cz:=hb.lt;have HB:=Zy hb;have HM:Zz (aC w I c [.string c.name,.slice a1 c.args.length u1,.int .i64 c.ret.kind,.string c.ret.name,.int .i64 c.locals,.int .i64 c.stack,.slice a2 c.code.length u2,.slice a3 c.maps.length u3]):=Zy ⟨_,_,_,rfl,h0,h1,h2⟩;have HK:=Zy h0;have aZ:=Zy bH;have bZ:=Zy bB;have HN:=fun W=>Zy (aJ c.name W);clear bH hb bB h0 h1 h2;cases qZ:M.aB c.name<;>simp only[qZ]at HN
 · go_enter Tryz.func43,Tryz.ntmps43;go_wp2_with fail;rw[←bZ.o];go_wp2_with fail;refine(HN _).o.mono ?_;rintro e w' ⟨rfl,rfl⟩;go_wp2_with fail;go_ret;exact⟨ag (by unfold M.dN;rw[qZ];simp),aZ.o⟩
 by_cases h3:3<c.args.length
 · have Jp:decide ((3:Int)<c.args.length)=true:=decide_eq_true (by omega);go_enter Tryz.func43,Tryz.ntmps43;go_wp2_with fail;rw[←bZ.o];go_wp2_with fail;refine(HN _).o.mono ?_;rintro e w' ⟨rfl,rfl⟩;go_wp2_with fail;go_ret;exact⟨ag (by unfold M.dN;rw[decide_eq_false (show¬c.args.length≤3 by omega)];simp),aZ.o⟩
 have H3:Zz (c.args.length≤3):=Zy (by omega);have ik:=Zy qZ;have Jp:decide ((3:Int)<c.args.length)=false:=decide_eq_false (by omega);go_enter Tryz.func43,Tryz.ntmps43;go_wp2_with fail;rw[←bZ.o];go_wp2_with fail;refine(HN _).o.mono ?_;rintro e w' ⟨rfl,rfl⟩;go_wp2_with fail;refine(lM c.ret.kind c.ret.name _).mono ?_;rintro e w2 ⟨rfl,dm⟩;obtain⟨q2,iV⟩:∃q,M.bF ⟨c.ret.kind,c.ret.name⟩=q:=⟨_,rfl⟩;have o6:Zz (M.bF c.ret=q2):=Zy iV;rw[iV];clear iV;have bX:=Zy (aZ.o.trans dm);have eu:=HB.o.ext dm;have iK:=Zy eu;clear dm c0 c1 c2 c3 c4 c5 c6 c7 cz;have d0:=eu.c 0 (.string c.name) rfl;have d1:=eu.c 1 (.slice a1 c.args.length u1) rfl;have d2:=eu.c 2 (.int .i64 c.ret.kind) rfl;have d3:=eu.c 3 (.string c.ret.name) rfl;have d4:=eu.c 4 (.int .i64 c.locals) rfl;have d5:=eu.c 5 (.int .i64 c.stack) rfl;have d6:=eu.c 6 (.slice a2 c.code.length u2) rfl;have d7:=eu.c 7 (.slice a3 c.maps.length u3) rfl;have dz:=eu.lt;clear eu;cases q2
 · go_wp2_with fail;go_ret;exact⟨ag (by unfold M.dN;rw[o6.o];simp),bX.o⟩
 go_wp2_with fail;refine(dO _ _ _ _).mono ?_;rintro e w' ⟨rfl,rfl⟩;obtain⟨q3,Es⟩:∃q,(decide ((c.args.length:Int)+1≤c.locals)&&decide (c.locals≤6))=q:=⟨_,rfl⟩;have KM:=Zy Es;rw[Es];clear Es;cases q3
 · go_wp2_with fail;go_ret;exact⟨ag (by have:=KM.o;unfold M.dN;cases h1:decide ((c.args.length:Int)+1≤c.locals)<;>cases h2:decide (c.locals≤6)<;>simp_all),bX.o⟩
 go_wp2_with fail;refine(dO _ _ _ _).mono ?_;rintro e w' ⟨rfl,rfl⟩;obtain⟨q4,Et⟩:∃q,(decide ((1:Int)≤c.stack)&&decide (c.stack≤5))=q:=⟨_,rfl⟩;have KN:=Zy Et;rw[Et];clear Et;cases q4
 · go_wp2_with fail;go_ret;exact⟨ag (by have:=KN.o;unfold M.dN;cases h1:decide ((1:Int)≤c.stack)<;>cases h2:decide (c.stack≤5)<;>simp_all),bX.o⟩
 go_wp2_with fail;refine(yf _ I _ c (aC.stays _ _ _ _ _ _ (Ext.same bX.o) (fun _ h=>h) HM.o)).mono ?_;rintro e w3 ⟨rfl,dX⟩;obtain⟨q5,Eu⟩:∃q,M.codeOk c=q:=⟨_,rfl⟩;have qO:=Zy Eu;rw[Eu];clear Eu;have fF:=Zy (bX.o.trans dX);have lF:=iK.o.ext dX;have eQ:=Zy lF;clear dX d0 d1 d2 d3 d4 d5 d6 d7 dz;have e0:=lF.c 0 (.string c.name) rfl;have e1:=lF.c 1 (.slice a1 c.args.length u1) rfl;have e2:=lF.c 2 (.int .i64 c.ret.kind) rfl;have e3:=lF.c 3 (.string c.ret.name) rfl;have e4:=lF.c 4 (.int .i64 c.locals) rfl;have e5:=lF.c 5 (.int .i64 c.stack) rfl;have e6:=lF.c 6 (.slice a2 c.code.length u2) rfl;have e7:=lF.c 7 (.slice a3 c.maps.length u3) rfl;have ez:=lF.lt;clear lF;cases q5
 · go_wp2_with fail;go_ret;exact⟨ag (by unfold M.dN;rw[qO.o];simp),fF.o⟩
 go_wp2_with fail;refine(yg _ I _ c (aC.stays _ _ _ _ _ _ (Ext.same fF.o) (fun _ h=>h) HM.o)).mono ?_;rintro e w4 ⟨rfl,dw⟩;obtain⟨q6,Ev⟩:∃q,M.fP c=q:=⟨_,rfl⟩;have sF:=Zy Ev;rw[Ev];clear Ev;have pq:=Zy (fF.o.trans dw);have uU:=eQ.o.ext dw;clear dw e0 e1 e2 e3 e4 e5 e6 e7 ez;have f1:=uU.c 1 (.slice a1 c.args.length u1) rfl;have fz:=uU.lt;have iq:=Zy uU;clear uU;cases q6
 · go_wp2_with fail;go_ret;exact⟨ag (by unfold M.dN;rw[sF.o];simp),pq.o⟩
 have EA:Zz (M.dN c=c.args.all M.bF):=Zy (by
  have h3:=KM.o;have h4:=KN.o;simp only[Bool.and_eq_true,decide_eq_true_eq]at h3 h4;unfold M.dN;rw[ik.o,o6.o,qO.o,sF.o,decide_eq_true H3.o,decide_eq_true h3.1,decide_eq_true h3.2,decide_eq_true h4.1,decide_eq_true h4.2];simp)
 go_wp2_with fail;go_loopw [3] (fun i wr=>∃k:Nat,k≤c.args.length∧i=.int .i64 k∧Ext w4 wr∧Zz ((c.args.take k).all M.bF=true)) (fun i _=>c.args.length - (intOf i).toNat)
 case atStart=>exact⟨0,Nat.zero_le _,rfl,Kp.refl _ _,Zy (by simp)⟩
 case round =>
  obtain⟨k,hk,rfl,hE,HA⟩:=hrel;have HE:=Zy hE;have g1:=hE.aj f1;have gz:=ax g1;by_cases dI:k<c.args.length
  · have dk:(k:Int)<c.args.length:=by omega
    obtain⟨x,hx⟩:∃x,c.args[k]?=some x:=⟨c.args[k]'dI,List.getElem?_eq_getElem dI⟩;obtain⟨b',off,cs,rfl,hI,rfl, -,hc⟩:=HK.o.get hx;obtain⟨y0,y1⟩:=(hc.ext (pq.o.trans hE)).two;have yz:=ax y0;have HX:=Zy hx;clear hx hc hE;go_wp2_with fail;refine(lM x.kind x.name _).mono ?_;rintro e w5 ⟨rfl,bg⟩;obtain⟨t,ht⟩:∃q,M.bF ⟨x.kind,x.name⟩=q:=⟨_,rfl⟩;have HT:Zz (M.bF x=t):=Zy ht;rw[ht];clear ht;have dh:=Zy (HE.o.trans bg);clear bg;cases t
    · go_wp2_with fail;go_ret;exact⟨ag (by rw[EA.o,M.mO HX.o HT.o]),pq.o.trans dh.o⟩
    · go_wp2_with fail;go_round
      case rel=>exact⟨k+1,by omega,by go_num,dh.o,Zy (M.nk HX.o HT.o HA.o)⟩
      case measure=>simp[intOf];omega
  · have dk:¬(k:Int)<c.args.length:=by omega
    clear hE;go_wp2_with fail;go_ret;exact⟨ag (by have:=HA.o;rw[List.take_of_length_le (by omega)]at this;rw[EA.o,this]),pq.o.trans HE.o⟩
theorem tX(w:World)(I:Nat→Prop)(cs:List Value)(c:M.Class)(h:ai w I c cs):
    Calls Tryz.prog 29 #[.agg cs.toArray] w fun e w'=>e=.returned (.bool (M.eY c))∧Ext w w':=by
 obtain⟨vf,vm,rfl,h0,h1⟩:=h;obtain⟨a1,m1,rfl,zD,Eo⟩:=h0.form;obtain⟨a2,m2,rfl,F9,Hn⟩:=h1.form;obtain⟨w0,bB,bH,hb⟩:=nu w #[.string c.name,.string c.av,.slice a1 c.fields.length m1,.slice a2 c.methods.length m2] 26;have c0:=hb.c 0 (.string c.name) rfl;have c1:=hb.c 1 (.string c.av) rfl;have c2:=hb.c 2 (.slice a1 c.fields.length m1) rfl;have c3:=hb.c 3 (.slice a2 c.methods.length m2) rfl;have cz:=hb.lt;have HF:=Zy h0;have HM:=Zy h1;have aZ:=Zy bH;have bZ:=Zy bB;clear bH hb bB h0 h1;go_enter Tryz.func29,Tryz.ntmps29;go_upto_region 1 with(fail);rw[←bZ.o];go_cut [31] (fun OG wx=>OG=.bool (!(M.aB c.name&&(decide (c.av=M.none_)|| M.aB c.av)&&decide (c.fields.length≤3)&&decide (c.methods.length≤4)))∧wx=w0)
 case first=>
  obtain⟨qn,J2⟩:∃q,M.aB c.name=q:=⟨_,rfl⟩;obtain⟨qs,Hr⟩:∃q,(c.av.toList==[])=q:=⟨_,rfl⟩;obtain⟨qp,Hq⟩:∃q,M.aB c.av=q:=⟨_,rfl⟩;obtain⟨qf,JY⟩:∃q,decide (c.fields.length≤3)=q:=⟨_,rfl⟩;obtain⟨qm,JZ⟩:∃q,decide (c.methods.length≤4)=q:=⟨_,rfl⟩;have sG:Zz ((!(M.aB c.name&&(decide (c.av=M.none_)|| M.aB c.av)&&decide (c.fields.length≤3)&&decide (c.methods.length≤4)))= !(qn&&(qs || qp)&&qf&&qm)):=Zy (by rw[J2,dU,Hr,Hq,JY,JZ]);have HN:=fun W=>Zy (aJ c.name W);have HP:=fun W=>Zy (aJ c.av W);have GM:=Zy JY;have GQ:=Zy JZ;simp only[J2]at HN;simp only[Hq]at HP;clear J2 Hq JY JZ;cases qn
  · go_wp2_with fail;refine(HN _).o.mono ?_;rintro e w' ⟨rfl,rfl⟩;go_wp2_with fail;go_meet;exact⟨by rw[sG.o];rfl,rfl⟩
  cases qs
  · cases qp
    · go_wp2_with fail;refine(HN _).o.mono ?_;rintro e w' ⟨rfl,rfl⟩;go_wp2_with fail;refine(HP _).o.mono ?_;rintro e w' ⟨rfl,rfl⟩;go_wp2_with fail;go_meet;exact⟨by rw[sG.o];rfl,rfl⟩
    cases qf
    · have Jq:decide ((3:Int)<c.fields.length)=true:=decide_eq_true (by have:=of_decide_eq_false GM.o;omega);go_wp2_with fail;refine(HN _).o.mono ?_;rintro e w' ⟨rfl,rfl⟩;go_wp2_with fail;refine(HP _).o.mono ?_;rintro e w' ⟨rfl,rfl⟩;go_wp2_with fail;go_meet;exact⟨by rw[sG.o];rfl,rfl⟩
    have Jq:decide ((3:Int)<c.fields.length)=false:=decide_eq_false (by have:=of_decide_eq_true GM.o;omega);cases qm
    · have Ei:decide ((4:Int)<c.methods.length)=true:=decide_eq_true (by have:=of_decide_eq_false GQ.o;omega);go_wp2_with fail;refine(HN _).o.mono ?_;rintro e w' ⟨rfl,rfl⟩;go_wp2_with fail;refine(HP _).o.mono ?_;rintro e w' ⟨rfl,rfl⟩;go_wp2_with fail;go_meet;exact⟨by rw[sG.o];rfl,rfl⟩
    have Ei:decide ((4:Int)<c.methods.length)=false:=decide_eq_false (by have:=of_decide_eq_true GQ.o;omega);go_wp2_with fail;refine(HN _).o.mono ?_;rintro e w' ⟨rfl,rfl⟩;go_wp2_with fail;refine(HP _).o.mono ?_;rintro e w' ⟨rfl,rfl⟩;go_wp2_with fail;go_meet;exact⟨by rw[sG.o];rfl,rfl⟩
  · clear HP;cases qf
    · have Jq:decide ((3:Int)<c.fields.length)=true:=decide_eq_true (by have:=of_decide_eq_false GM.o;omega);go_wp2_with fail;refine(HN _).o.mono ?_;rintro e w' ⟨rfl,rfl⟩;go_wp2_with fail;go_meet;exact⟨by rw[sG.o];rfl,rfl⟩
    have Jq:decide ((3:Int)<c.fields.length)=false:=decide_eq_false (by have:=of_decide_eq_true GM.o;omega);cases qm
    · have Ei:decide ((4:Int)<c.methods.length)=true:=decide_eq_true (by have:=of_decide_eq_false GQ.o;omega);go_wp2_with fail;refine(HN _).o.mono ?_;rintro e w' ⟨rfl,rfl⟩;go_wp2_with fail;go_meet;exact⟨by rw[sG.o];rfl,rfl⟩
    have Ei:decide ((4:Int)<c.methods.length)=false:=decide_eq_false (by have:=of_decide_eq_true GQ.o;omega);go_wp2_with fail;refine(HN _).o.mono ?_;rintro e w' ⟨rfl,rfl⟩;go_wp2_with fail;go_meet;exact⟨by rw[sG.o];rfl,rfl⟩
 obtain⟨rfl,ek⟩:=hcut;rw[ek];clear ek;obtain⟨b,hb⟩:∃b,(M.aB c.name&&(decide (c.av=M.none_)|| M.aB c.av)&&decide (c.fields.length≤3)&&decide (c.methods.length≤4))=b:=⟨_,rfl⟩;have sw:Zz (M.eY c=(b&&M.aG M.Field.name (fun f=>M.aB f.name&&M.bF f.kind) c.fields []&&M.aG M.Method.name M.dN c.methods [])):=Zy (by unfold M.eY;rw[hb]);rw[hb];clear hb;cases b
 · simp only[Bool.not_false];go_wp2_with fail;go_ret;exact⟨ag (by rw[sw.o];rfl),aZ.o⟩
 simp only[Bool.not_true];go_wp2_with fail;go_loopw [3] (fun i wr=>∃k:Nat,k≤c.fields.length∧i=.int .i64 k∧Ext w0 wr∧Zz (M.aG M.Field.name (fun f=>M.aB f.name&&M.bF f.kind) (c.fields.take k) []=true)) (fun i _=>c.fields.length - (intOf i).toNat)
 case atStart=>exact⟨0,Nat.zero_le _,rfl,Kp.refl _ _,Zy rfl⟩
 case round =>
  obtain⟨k,hk,rfl,hE,HA⟩:=hrel;have HE:=Zy hE;have d2:=hE.aj c2;have d3:=hE.aj c3;have dz:=ax d2;clear c0 c1 c2 c3 cz;by_cases dI:k<c.fields.length
  · have dk:(k:Int)<c.fields.length:=by omega
    obtain⟨x,hx⟩:∃x,c.fields[k]?=some x:=⟨c.fields[k]'dI,List.getElem?_eq_getElem dI⟩;obtain⟨b',off,cs,rfl,hI,rfl, -,hc⟩:=HF.o.get hx;obtain⟨g0,g1,g2⟩:=(hc.ext (aZ.o.trans hE)).three;have Dc:=Zy ((HF.o.take (i:=k) (by omega)).ext bD.stays (aZ.o.trans hE));have uy:(c.fields.take k).length=k:=by rw[List.length_take];omega
    obtain⟨T,f,fZ,HT⟩:=jS.ex (fun W'=>Ext wr W') wr (Kp.refl _ _);have y0:=fun z=>(HT.aK z).aj g0;have y1:=fun z=>(HT.aK z).aj g1;have y2:=fun z=>(HT.aK z).aj g2;have y3:=fun z=>(HT.aK z).aj d2;have ay:=Zy HT;have Iz:=Zy uy;have sD:=Zy (M.iQ (name:=M.Field.name) (ok:=fun f=>M.aB f.name&&M.bF f.kind) hx);have wU:Zz (M.aG M.Field.name (fun f=>M.aB f.name&&M.bF f.kind) (c.fields.take (k+1)) []=false→M.eY c=false):=Zy fun e=>by rw[sw.o,M.jO e];rfl
    clear HT hE hc hx g0 g1 g2 dz uy;have lD:Ext wr wr.drew:=(Kp.refl _ _).drew;go_wp2_with fail;(refine ji ay 32 [([0,1,2,3,4,5],6),([7,8,9,10,11,12,13,14],15),([16,17,18,19,20,21,22,23,24,25,26,27,28],29)] [30,31] ?_ ?_)
    · exact(Kp.refl _ _).drew
    (refine dR [_,_,_,_,_,_] rfl rfl fun K hK=>?_);(repeat (go_big_quiet_step (fail)));(refine qn hK fun K2 au=>?_);clear hK K;go_wp2_with fail;refine(aJ _ _).mono ?_;rintro e w1 ⟨rfl,rfl⟩;obtain⟨q1,q8⟩:∃q,M.aB x.name=q:=⟨_,rfl⟩;have pX:=Zy q8;rw[q8];clear q8;cases q1
    · go_wp2_with fail;(refine kk ay au lD ?_);clear au K2;(refine dR [_,_,_,_,_,_,_,_] rfl rfl fun K hK=>?_);(repeat (go_big_quiet_step (fail)));(refine qn hK fun K2 au=>?_);clear hK K;go_wp2_with fail;(refine kk ay au lD ?_);clear au K2;(refine dR [_,_,_,_,_,_,_,_,_,_,_,_,_] rfl rfl fun K hK=>?_);(repeat (go_big_quiet_step (fail)));(refine qn hK fun K2 au=>?_);clear hK K;go_wp2_with fail;(refine kk ay au lD ?_);clear au K2;(refine fG [_,_] rfl rfl fun K hK=>?_);(repeat (go_big_quiet_step (fail)));(refine qn hK ?_);clear hK K;go_wp2_with fail;go_ret;exact⟨ag (wU.o (by rw[sD.o,pX.o];simp)).symm,(aZ.o.trans HE.o).trans lD⟩
    go_wp2_with fail;(refine kk ay au lD ?_);clear au K2;(refine dR [_,_,_,_,_,_,_,_] rfl rfl fun K hK=>?_);(repeat (go_big_quiet_step (fail)));(refine qn hK fun K2 au=>?_);clear hK K;go_wp2_with fail;refine(lM x.kind.kind x.kind.name _).mono ?_;rintro e w2 ⟨rfl,dm⟩;obtain⟨q2,iV⟩:∃q,M.bF ⟨x.kind.kind,x.kind.name⟩=q:=⟨_,rfl⟩;have o6:Zz (M.bF x.kind=q2):=Zy iV;rw[iV];clear iV;have mr:=lD.trans dm;cases q2
    · go_wp2_with fail;(refine kk ay au mr ?_);clear au K2;(refine dR [_,_,_,_,_,_,_,_,_,_,_,_,_] rfl rfl fun K hK=>?_);(repeat (go_big_quiet_step (fail)));(refine qn hK fun K2 au=>?_);clear hK K;go_wp2_with fail;(refine kk ay au mr ?_);clear au K2;(refine fG [_,_] rfl rfl fun K hK=>?_);(repeat (go_big_quiet_step (fail)));(refine qn hK ?_);clear hK K;go_wp2_with fail;go_ret;exact⟨ag (wU.o (by rw[sD.o,o6.o];simp)).symm,(aZ.o.trans HE.o).trans mr⟩
    go_wp2_with fail;(refine kk ay au mr ?_);clear au K2;(refine dR [_,_,_,_,_,_,_,_,_,_,_,_,_] rfl rfl fun K hK=>?_);(repeat (go_big_quiet_step (fail)));(refine qn hK fun K2 au=>?_);clear hK K;go_wp2_with fail;refine(vL _ I (.slice (some ⟨b',off,none⟩) k m1) (c.fields.take k) (Dc.o.ext bD.stays mr) x.name).mono ?_;rintro e w3 ⟨⟨n,rfl,hn⟩,dX⟩;have qY:=mr.trans dX;obtain⟨q,hq⟩:∃q,decide (0≤n)=q:=⟨_,rfl⟩;simp only[eX]at hn;rw[hq]at hn;have HN:=Zy hn;clear hn;cases q
    · go_wp2_with fail;(refine kk ay au qY ?_);clear au K2;(refine fG [_,_] rfl rfl fun K hK=>?_);(repeat (go_big_quiet_step (fail)));(refine qn hK ?_);clear hK K;go_wp2_with fail;go_round
      case rel=>exact⟨k+1,by omega,by go_num,HE.o.trans qY,Zy (by rw[sD.o,HA.o,pX.o,o6.o,←HN.o];rfl)⟩
      case measure=>simp[intOf];omega
    · go_wp2_with fail;(refine kk ay au qY ?_);clear au K2;(refine fG [_,_] rfl rfl fun K hK=>?_);(repeat (go_big_quiet_step (fail)));(refine qn hK ?_);clear hK K;go_wp2_with fail;go_ret;exact⟨ag (wU.o (by rw[sD.o,←HN.o];simp)).symm,(aZ.o.trans HE.o).trans qY⟩
  · have dk : ¬ (k : Int) < c.fields.length := by omega
    obtain⟨wo,rfl⟩:∃wo:World,wo=wr:=⟨_,rfl⟩;have EK:Zz (M.eY c=M.aG M.Method.name M.dN c.methods []):=Zy (by have:=HA.o;rw[List.take_of_length_le (by omega)]at this;rw[sw.o,this];rfl);clear hE HA;go_wp2_with fail;go_loopw [4] (fun i wr=>∃k:Nat,k≤c.methods.length∧i=.int .i64 k∧Ext wo wr∧Zz (M.aG M.Method.name M.dN (c.methods.take k) []=true)) (fun i _=>c.methods.length - (intOf i).toNat)
    case atStart=>exact⟨0,Nat.zero_le _,rfl,Kp.refl _ _,Zy rfl⟩
    case round =>
     obtain⟨k2,Bo,rfl,dm,HA⟩:=hrel;have bX:=Zy (HE.o.trans dm);have Ju:=Zy dm;have e3:=dm.aj d3;have ez:=ax e3;clear d2 d3 dz;by_cases zC:k2<c.methods.length
     · have dk2:(k2:Int)<c.methods.length:=by omega
       obtain⟨x,hx⟩:∃x,c.methods[k2]?=some x:=⟨c.methods[k2]'zC,List.getElem?_eq_getElem zC⟩;obtain⟨b',off,cs,rfl,hI,hM, -,hc⟩:=HM.o.get hx;obtain⟨ma,mu,mb,mv,md,mw,rfl⟩:=hM.form;have Co:=aC.stays _ _ _ _ _ _ (Ext.same (aZ.o.trans bX.o)) (fun _ h=>h) hM;obtain⟨g0,g1,g2,g3,g4,g5,g6,g7⟩:=(hc.ext (aZ.o.trans bX.o)).eight;have Dc:=Zy ((HM.o.take (i:=k2) (by omega)).ext aC.stays (aZ.o.trans bX.o));have uy:(c.methods.take k2).length=k2:=by rw[List.length_take];omega
       obtain⟨T,f,fZ,HT⟩:=jS.ex (fun W'=>Ext wr W') wr (Kp.refl _ _);have y0:=fun z=>(HT.aK z).aj g0;have y1:=fun z=>(HT.aK z).aj g1;have y2:=fun z=>(HT.aK z).aj g2;have y3:=fun z=>(HT.aK z).aj g3;have y4:=fun z=>(HT.aK z).aj g4;have y5:=fun z=>(HT.aK z).aj g5;have y6:=fun z=>(HT.aK z).aj g6;have y7:=fun z=>(HT.aK z).aj g7;have ye:=fun z=>(HT.aK z).aj e3;have ay:=Zy HT;have Ce:=Zy Co;have Iz:=Zy uy;have sD:=Zy (M.iQ (name:=M.Method.name) (ok:=M.dN) hx);have wU:Zz (M.aG M.Method.name M.dN (c.methods.take (k2+1)) []=false→M.eY c=false):=Zy fun e=>by rw[EK.o,M.jO e]
       clear HT dm hc hx g0 g1 g2 g3 g4 g5 g6 g7 ez uy hM Co;have lD:Ext wr wr.drew:=(Kp.refl _ _).drew;go_wp2_with fail;(refine ji ay 21 [([0,1,2,3,4],5),([6,7,8,9,10,11,12,13,14,15,16,17],18)] [19,20] ?_ ?_)
       · exact(Kp.refl _ _).drew
       (refine dR [_,_,_,_,_] rfl rfl fun K hK=>?_);(repeat (go_big_quiet_step (fail)));(refine qn hK fun K2 au=>?_);clear hK K;go_wp2_with fail;refine(Ah _ I _ x (aC.stays _ _ _ _ _ _ (Ext.same lD) (fun _ h=>h) Ce.o)).mono ?_;rintro e w2 ⟨rfl,bg⟩;obtain⟨q2,iV⟩:∃q,M.dN x=q:=⟨_,rfl⟩;have o6:=Zy iV;rw[iV];clear iV;have mr:=lD.trans bg;cases q2
       · go_wp2_with fail;(refine kk ay au mr ?_);clear au K2;(refine dR [_,_,_,_,_,_,_,_,_,_,_,_] rfl rfl fun K hK=>?_);(repeat (go_big_quiet_step (fail)));(refine qn hK fun K2 au=>?_);clear hK K;go_wp2_with fail;(refine kk ay au mr ?_);clear au K2;(refine fG [_,_] rfl rfl fun K hK=>?_);(repeat (go_big_quiet_step (fail)));(refine qn hK ?_);clear hK K;go_wp2_with fail;go_ret;exact⟨ag (wU.o (by rw[sD.o,o6.o];simp)).symm,(aZ.o.trans bX.o).trans mr⟩
       go_wp2_with fail;(refine kk ay au mr ?_);clear au K2;(refine dR [_,_,_,_,_,_,_,_,_,_,_,_] rfl rfl fun K hK=>?_);(repeat (go_big_quiet_step (fail)));(refine qn hK fun K2 au=>?_);clear hK K;go_wp2_with fail;refine(tZ _ I (.slice (some ⟨b',off,none⟩) k2 m2) (c.methods.take k2) (Dc.o.ext aC.stays mr) x.name).mono ?_;rintro e w3 ⟨⟨n,rfl,hn⟩,dX⟩;have qY:=mr.trans dX;obtain⟨q,hq⟩:∃q,decide (0≤n)=q:=⟨_,rfl⟩;simp only[eX]at hn;rw[hq]at hn;have HN:=Zy hn;clear hn;cases q
       · go_wp2_with fail;(refine kk ay au qY ?_);clear au K2;(refine fG [_,_] rfl rfl fun K hK=>?_);(repeat (go_big_quiet_step (fail)));(refine qn hK ?_);clear hK K;go_wp2_with fail;go_round
         case rel=>exact⟨k2+1,by omega,by go_num,(Ju.o).trans qY,Zy (by rw[sD.o,HA.o,o6.o,←HN.o];rfl)⟩
         case measure=>simp[intOf];omega
       · go_wp2_with fail;(refine kk ay au qY ?_);clear au K2;(refine fG [_,_] rfl rfl fun K hK=>?_);(repeat (go_big_quiet_step (fail)));(refine qn hK ?_);clear hK K;go_wp2_with fail;go_ret;exact⟨ag (wU.o (by rw[sD.o,←HN.o];simp)).symm,(aZ.o.trans bX.o).trans qY⟩
     · have dk2:¬(k2:Int)<c.methods.length:=by omega
       clear dm;go_wp2_with fail;go_ret;exact⟨ag (by have:=HA.o;rw[List.take_of_length_le (by omega)]at this;rw[EK.o,this]),aZ.o.trans bX.o⟩
theorem all_succ{α:Type}{p:α→Bool}{l:List α}{k:Nat}{x:α}(h:(l.take k).all p=true)(hx:l[k]?=some x)(hp:p x=true):(l.take (k+1)).all p=true:=by
 rw[List.take_add_one,hx,List.all_append,h];simp[hp]
theorem qR{α:Type}{p:α→Bool}{l:List α}{k:Nat}{x:α}(hx:l[k]?=some x)(hp:p x=false):l.all p=false:=
 List.all_eq_false.2 ⟨x,List.mem_of_getElem? hx,by simp[hp]⟩
theorem qQ{α:Type}{p:α→Bool}{l:List α}{k:Nat}(h:(l.take k).all p=true)(hk:l.length≤k):l.all p=true:=by
 rw[List.take_of_length_le hk]at h;exact h
theorem get_some{α:Type}{l:List α}{k:Nat}(h:k<l.length):∃x,l[k]?=some x:=⟨_,List.getElem?_eq_getElem h⟩
theorem rU(w:World)(I:Nat→Prop)(v:Value)(l:List M.Tag)(h:SliceOf 2 dx w I v l):
    Calls Tryz.prog 108 #[v] w fun e w'=>e=.returned (.bool (M.ig l))∧Ext w w':=by
 obtain⟨a,cap,rfl,hn,bK⟩:=h.form;go_enter Tryz.func108,Tryz.ntmps108;go_wp2;go_loopw [7] (fun i wr=>∃k:Nat,k≤l.length∧i=.int .i64 k∧Ext w wr∧Zz ((l.take k).all M.fE=true)) (fun i _=>l.length - (intOf i).toNat)
 case atStart=>exact⟨0,Nat.zero_le _,rfl,Kp.refl _ _,Zy (by simp)⟩
 case round =>
  obtain⟨k,hk,rfl,hE,HA⟩:=hrel;by_cases dI:k<l.length
  · obtain⟨x,hx⟩:=get_some dI;obtain⟨b,off,cs,rfl,hI,rfl, -,hc⟩:=h.get hx;obtain⟨g0,g1⟩:=(hc.ext hE).two;have HX:=Zy hx;clear hx hc;cases ht:M.fE x
    all_goals
     have HT:=Zy ht;clear ht;go_wp2_with (go_at_call 125;refine(D8 x _).mono ?_;rintro e w1 ⟨rfl,hB⟩;rw[HT.o])
    · go_ret;exact⟨ag (qR HX.o HT.o).symm,(by repeat (first|assumption|exact Kp.refl _ _|apply Kp.alloc|apply Kp.drew|apply Kp.drewN|refine Kp.trans ?_ (by assumption)))⟩
    · go_roundw
      case rel=>exact⟨k+1,by omega,by go_num,(by repeat (first|assumption|exact Kp.refl _ _|apply Kp.alloc|apply Kp.drew|apply Kp.drewN|refine Kp.trans ?_ (by assumption))),Zy (all_succ HA.o HX.o HT.o)⟩
      case measure=>simp[intOf];omega
  · go_wp2;go_ret;exact⟨ag (qQ HA.o (by omega)).symm,kx⟩
theorem Bc (w : World) (I : Nat → Prop) (cs : List Value) (m : M.Method) (h : aC w I m cs) :
    Calls Tryz.prog 78 #[.agg cs.toArray] w fun e w'=>e=.returned (.bool (M.codeOk m))∧Ext w w':=by
 obtain⟨va,vc,vm,rfl,h1,h2,h3⟩:=h;obtain⟨a,cap,rfl,hn,bK⟩:=h2.form;by_cases Eo:m.code.length<1
 · go_enter Tryz.func78,Tryz.ntmps78;go_wp2;go_ret;exact⟨ag (by unfold M.codeOk;rw[decide_eq_false (by omega)];rfl),kx⟩
 by_cases Hn:16<m.code.length
 · go_enter Tryz.func78,Tryz.ntmps78;go_wp2;go_ret;exact⟨ag (by unfold M.codeOk;rw[decide_eq_false (p:=m.code.length≤16) (by omega)];simp),kx⟩
 have HL:Zz (M.codeOk m=m.code.all (M.kJ m)):=Zy (by
  unfold M.codeOk;rw[decide_eq_true (by omega),decide_eq_true (by omega)];rfl)
 go_enter Tryz.func78,Tryz.ntmps78;go_wp2;have bH:Ext w (w.alloc (.cells #[.string m.name,va,.int .i64 m.ret.kind,.string m.ret.name,.int .i64 m.locals,.int .i64 m.stack,.slice a m.code.length cap,vm] 81)):=((Kp.refl _ _).alloc _);have b0:=az.new w 81 #[.string m.name,va,.int .i64 m.ret.kind,.string m.ret.name,.int .i64 m.locals,.int .i64 m.stack,.slice a m.code.length cap,vm];have p4:=b0.c 4 _ rfl;have p6:=b0.c 6 _ rfl;go_loopw [18] (fun i wr=>∃k:Nat,k≤m.code.length∧i=.int .i64 k∧Ext (w.alloc (.cells #[.string m.name,va,.int .i64 m.ret.kind,.string m.ret.name,.int .i64 m.locals,.int .i64 m.stack,.slice a m.code.length cap,vm] 81)) wr∧Zz ((m.code.take k).all (M.kJ m)=true)) (fun i _=>m.code.length - (intOf i).toNat)
 case atStart=>exact⟨0,Nat.zero_le _,rfl,Kp.refl _ _,Zy (by simp)⟩
 case round =>
  obtain⟨k,hk,rfl,hE,HA⟩:=hrel;by_cases dI:k<m.code.length
  · obtain ⟨x, hx⟩ := get_some dI; obtain ⟨b, off, cs, rfl, hI, rfl, -, hc⟩ := h2.get hx; obtain ⟨g0, g1, g2, g3⟩ := ((hc.ext bH).ext hE).four; have q4 := hE.aj p4; have q6 := hE.aj p6; have HX := Zy hx; clear hx hc p4 p6; cases ht : M.bJ x
    · have HT:=Zy ht;clear ht;go_wp2_with (go_at_call 107;refine(zN x _).mono ?_;rintro e w1 ⟨rfl,hB⟩;rw[HT.o]);go_ret;exact⟨ag (by rw[HL.o];exact(qR HX.o (by unfold M.kJ;rw[HT.o];rfl)).symm),(by repeat (first|assumption|exact Kp.refl _ _|apply Kp.alloc|apply Kp.drew|apply Kp.drewN|refine Kp.trans ?_ (by assumption)))⟩
    · have HT := Zy ht; clear ht; go_wp2_with (go_at_call 107; refine (zN x _).mono ?_; rintro e w1 ⟨rfl, hB⟩; rw [HT.o]; have r4 := hB.vY q4; have r6 := hB.vY q6; obtain ⟨FN, NW⟩ := Ch hB)
      all_goals first
       | (go_ret
          exact⟨ag (by
           rw[HL.o];exact(qR HX.o (by unfold M.kJ;rw[HT.o];(repeat' split)<;>simp<;>simp_all<;>omega)).symm),(by repeat (first|assumption|exact Kp.refl _ _|apply Kp.alloc|apply Kp.drew|apply Kp.drewN|refine Kp.trans ?_ (by assumption)))⟩)
       | (go_roundw
          case rel=>
           exact⟨k+1,by omega,by go_num,(by repeat (first|assumption|exact Kp.refl _ _|apply Kp.alloc|apply Kp.drew|apply Kp.drewN|refine Kp.trans ?_ (by assumption))),Zy (all_succ HA.o HX.o (by
            unfold M.kJ;rw[HT.o];(repeat' split)<;>simp<;>simp_all<;>omega))⟩
          case measure=>simp[intOf];omega)
  · go_wp2;go_ret;exact⟨ag (by rw[HL.o];exact(qQ HA.o (by omega)).symm),(by repeat (first|assumption|exact Kp.refl _ _|apply Kp.alloc|apply Kp.drew|apply Kp.drewN|refine Kp.trans ?_ (by assumption)))⟩
theorem drop_at{α:Type}{l:List α}{k:Nat}{x:α}(h:l[k]?=some x):l.drop k=x::l.drop (k+1):=by
 obtain⟨hk,e⟩:=List.getElem?_eq_some_iff.1 h;rw[List.drop_eq_getElem_cons hk,e]
theorem pO{m:M.Method}{last:Int}{k:Nat}{x:M.SMap}(h:m.maps[k]?=some x):
    M.aT m last (m.maps.drop k)=(decide (last<x.at_)&&M.qx m x&&M.aT m x.at_ (m.maps.drop (k+1))):=by
 rw[drop_at h];rfl
theorem kM(m:M.Method)(f:M.SMap):M.qx m f=(decide (f.at_ <m.code.length)&&decide ((f.locals.length:Int)=m.locals)&&decide ((f.stack.length:Int)≤m.stack)&&M.ig f.locals&&M.ig f.stack):=rfl
theorem BB (w : World) (I : Nat → Prop) (cs : List Value) (m : M.Method) (h : aC w I m cs) :
    Calls Tryz.prog 79 #[.agg cs.toArray] w fun e w'=>e=.returned (.bool (M.fP m))∧Ext w w':=by
 obtain⟨va,vc,vm,rfl,h1,h2,h3⟩:=h;obtain⟨a,cap,rfl,hn,bK⟩:=h3.form;obtain⟨a2,cap2,rfl,F9,FR⟩:=h2.form;by_cases Eo:5<m.maps.length
 · go_enter Tryz.func79,Tryz.ntmps79;go_wp2;go_ret;exact⟨ag (by unfold M.fP;rw[decide_eq_false (by omega)];rfl),kx⟩
 have HL:Zz (M.fP m=M.aT m 0 m.maps):=Zy (by
  unfold M.fP;rw[decide_eq_true (by omega)];rfl)
 go_enter Tryz.func79,Tryz.ntmps79;go_wp2;have b0:=az.new w 81 #[.string m.name,va,.int .i64 m.ret.kind,.string m.ret.name,.int .i64 m.locals,.int .i64 m.stack,.slice a2 m.code.length cap2,.slice a m.maps.length cap];have p4:=b0.c 4 _ rfl;have p5:=b0.c 5 _ rfl;have p6:=b0.c 6 _ rfl;have bH:Ext w (w.alloc (.cells #[.string m.name,va,.int .i64 m.ret.kind,.string m.ret.name,.int .i64 m.locals,.int .i64 m.stack,.slice a2 m.code.length cap2,.slice a m.maps.length cap] 81)):=((Kp.refl _ _).alloc _);generalize (w.alloc (.cells #[.string m.name,va,.int .i64 m.ret.kind,.string m.ret.name,.int .i64 m.locals,.int .i64 m.stack,.slice a2 m.code.length cap2,.slice a m.maps.length cap] 81))=w0 at*;go_loopw [13,3] (fun i la wr=>∃k:Nat,∃last:Int,k≤m.maps.length∧i=.int .i64 k∧la=.int .i64 last∧Ext w0 wr∧Zz (M.aT m 0 m.maps=M.aT m last (m.maps.drop k))) (fun i _ _=>m.maps.length - (intOf i).toNat)
 case atStart=>exact⟨0,0,Nat.zero_le _,rfl,rfl,Kp.refl _ _,Zy (by simp)⟩
 case round =>
  obtain⟨k,last,hk,rfl,rfl,hE,HA⟩:=hrel;by_cases dI:k<m.maps.length
  · obtain⟨x,hx⟩:=get_some dI;obtain⟨b,off,cs,rfl,hI,⟨vl,vs,rfl,s1,s2⟩, -,hc⟩:=h3.get hx;obtain⟨a3,Nu,rfl,Oe,LA⟩:=s1.form;obtain⟨a4,cap4,rfl,Pz,LB⟩:=s2.form;obtain⟨g0,g1,g2⟩:=((hc.ext bH).ext hE).three;have q4:=hE.aj p4;have q5:=hE.aj p5;have q6:=hE.aj p6;have hz:=ax q6;have S1:=Zy ((s1.ext dx.stays bH).ext dx.stays hE);have S2:=Zy ((s2.ext dx.stays bH).ext dx.stays hE);have HC:=Zy (pO (last:=last) hx);clear hx hc p4 p5 p6 s1 s2;by_cases t1:x.at_≤last
    · go_wp2;go_ret;exact⟨ag (by rw[HL.o,HA.o,HC.o,decide_eq_false (by omega)];rfl),(by repeat (first|assumption|exact Kp.refl _ _|apply Kp.alloc|apply Kp.drew|apply Kp.drewN|refine Kp.trans ?_ (by assumption)))⟩
    by_cases t2:(m.code.length:Int)≤x.at_
    · go_wp2;go_ret;exact⟨ag (by rw[HL.o,HA.o,HC.o,kM,decide_eq_false (p:=x.at_ <m.code.length) (by omega)];simp),(by repeat (first|assumption|exact Kp.refl _ _|apply Kp.alloc|apply Kp.drew|apply Kp.drewN|refine Kp.trans ?_ (by assumption)))⟩
    by_cases t3:(x.locals.length:Int)=m.locals
    case neg=>
     have OJ:((x.locals.length:Int)==m.locals)=false:=beq_eq_false_iff_ne.2 t3;go_wp2;go_ret;exact⟨ag (by rw[HL.o,HA.o,HC.o,kM,decide_eq_false (p:=(x.locals.length:Int)=m.locals) t3];simp),(by repeat (first|assumption|exact Kp.refl _ _|apply Kp.alloc|apply Kp.drew|apply Kp.drewN|refine Kp.trans ?_ (by assumption)))⟩
    have T3:=Zy t3;have OJ:((x.locals.length:Int)==m.locals)=true:=beq_iff_eq.2 t3;clear t3;by_cases t4:m.stack<(x.stack.length:Int)
    · go_wp2;go_ret;exact⟨ag (by rw[HL.o,HA.o,HC.o,kM,decide_eq_false (p:=(x.stack.length:Int)≤m.stack) (by omega)];simp),(by repeat (first|assumption|exact Kp.refl _ _|apply Kp.alloc|apply Kp.drew|apply Kp.drewN|refine Kp.trans ?_ (by assumption)))⟩
    have HM:Zz (M.qx m x=(M.ig x.locals&&M.ig x.stack)):=Zy (by
     rw[kM,decide_eq_true (p:=x.at_ <m.code.length) (by omega),decide_eq_true (p:=(x.locals.length:Int)=m.locals) T3.o,decide_eq_true (p:=(x.stack.length:Int)≤m.stack) (by omega)];rfl)
    have HT:Zz (decide (last<x.at_)=true):=Zy (decide_eq_true (by omega));cases Ht:M.ig x.locals
    · have Eg:=Zy Ht;clear Ht;go_wp2_with fail;refine(rU _ _ _ _ (S1.o.ext dx.stays ((Kp.refl _ _).alloc _))).mono ?_;rintro e w1 ⟨rfl,hB⟩;rw[Eg.o];go_wp2;go_ret;exact⟨ag (by rw[HL.o,HA.o,HC.o,HM.o,Eg.o];simp),(by repeat (first|assumption|exact Kp.refl _ _|apply Kp.alloc|apply Kp.drew|apply Kp.drewN|refine Kp.trans ?_ (by assumption)))⟩
    · have Eg:=Zy Ht;clear Ht;go_wp2_with fail;refine(rU _ _ _ _ (S1.o.ext dx.stays ((Kp.refl _ _).alloc _))).mono ?_;rintro e w1 ⟨rfl,hB⟩;rw[Eg.o];obtain⟨FN,NW⟩:=Ch hB;cases Mi:M.ig x.stack
      all_goals
       have IU:=Zy Mi;clear Mi;go_wp2_with fail;refine(rU _ _ _ _ ((S2.o.ext dx.stays ((Kp.refl _ _).alloc _)).ext dx.stays hB)).mono ?_;rintro e w2 ⟨rfl,fe⟩;rw[IU.o];go_wp2
      · go_ret;exact⟨ag (by rw[HL.o,HA.o,HC.o,HM.o,Eg.o,IU.o];simp),(by repeat (first|assumption|exact Kp.refl _ _|apply Kp.alloc|apply Kp.drew|apply Kp.drewN|refine Kp.trans ?_ (by assumption)))⟩
      · go_roundw
        case rel=>exact⟨k+1,x.at_,by omega,by go_num,rfl,(by repeat (first|assumption|exact Kp.refl _ _|apply Kp.alloc|apply Kp.drew|apply Kp.drewN|refine Kp.trans ?_ (by assumption))),Zy (by rw[HA.o,HC.o,HM.o,HT.o,Eg.o,IU.o];rfl)⟩
        case measure=>simp[intOf];omega
  · go_wp2;go_ret;exact⟨ag (by rw[HL.o,HA.o,List.drop_of_length_le (by omega)];rfl),(by repeat (first|assumption|exact Kp.refl _ _|apply Kp.alloc|apply Kp.drew|apply Kp.drewN|refine Kp.trans ?_ (by assumption)))⟩
theorem af.zZ{w:World}{g:Nat}{t:TypeId}{cs:Array Value}(h:az w g t cs)(l:List Value)(e:cs.toList=l):af w g 0 l:=by
 intro j v hj;subst e;rw[Nat.zero_add];exact h.c j v (by simpa using hj)
theorem zW(m:M.Method):M.dN m=(M.aB m.name&&decide (m.args.length≤3)&&M.bF m.ret&&m.args.all M.bF&&
 decide ((m.args.length:Int)+1≤m.locals)&&decide (m.locals≤6)&&decide (1≤m.stack)&&decide (m.stack≤5)&&M.codeOk m&&M.fP m):=rfl
theorem D5(w:World)(I:Nat→Prop)(cs:List Value)(m:M.Method)(h:aC w I m cs):
    Calls Tryz.prog 56 #[.agg cs.toArray] w fun e w'=>e=.returned (.bool (M.dN m))∧Ext w w':=by
 have HM:=Zy h;obtain⟨va,vc,vm,rfl,h1,h2,h3⟩:=h;obtain⟨a,cap,rfl,hn,bK⟩:=h1.form;have bH:Ext w (w.alloc (.cells #[.string m.name,.slice a m.args.length cap,.int .i64 m.ret.kind,.string m.ret.name,.int .i64 m.locals,.int .i64 m.stack,vc,vm] 81)):=((Kp.refl _ _).alloc _);have b0:=az.new w 81 #[.string m.name,.slice a m.args.length cap,.int .i64 m.ret.kind,.string m.ret.name,.int .i64 m.locals,.int .i64 m.stack,vc,vm];have P0:=Zy (af.zZ b0 _ rfl);clear b0;have HE:=Zy (zW m);cases qZ:M.aB m.name
 · have HN:=Zy qZ;clear qZ;go_enter Tryz.func56,Tryz.ntmps56;go_wp2_with (go_at_call 30;refine(dS _ _).mono ?_;rintro e w1 ⟨rfl,rfl⟩;rw[HN.o]);go_ret;exact⟨ag (by rw[HE.o,HN.o];rfl),kx⟩
 have HN:=Zy qZ;clear qZ;by_cases hl:3<m.args.length
 · go_enter Tryz.func56,Tryz.ntmps56;go_wp2_with (go_at_call 30;refine(dS _ _).mono ?_;rintro e w1 ⟨rfl,rfl⟩;rw[HN.o]);go_ret;exact⟨ag (by rw[HE.o,decide_eq_false (p:=m.args.length≤3) (by omega)];simp),kx⟩
 cases hr:M.bF m.ret
 · have HR:=Zy hr;clear hr;go_enter Tryz.func56,Tryz.ntmps56;go_wp2_with (first|(go_at_call 30;refine(dS _ _).mono ?_;rintro e w1 ⟨rfl,rfl⟩;rw[HN.o])|(go_at_call 55;refine(rA m.ret _).mono ?_;rintro e w1 ⟨rfl,hB⟩;rw[HR.o]));go_ret;exact⟨ag (by rw[HE.o,HR.o];simp),(by repeat (first|assumption|exact Kp.refl _ _|apply Kp.alloc|apply Kp.drew|apply Kp.drewN|refine Kp.trans ?_ (by assumption)))⟩
 have HR:=Zy hr;clear hr;go_enter Tryz.func56,Tryz.ntmps56;go_wp2_with fail;refine(dS _ _).mono ?_;rintro e w1 ⟨rfl,rfl⟩;rw[HN.o];go_wp2_with fail;refine(rA m.ret _).mono ?_;rintro e w1 ⟨rfl,hB⟩;rw[HR.o];generalize (w.alloc (.cells #[.string m.name,.slice a m.args.length cap,.int .i64 m.ret.kind,.string m.ret.name,.int .i64 m.locals,.int .i64 m.stack,vc,vm] 81))=w0 at*;have P1:=Zy (P0.o.ext hB);have aQ:=bH.trans hB;clear bH hB P0;obtain⟨p0,p1,p2,p3,p4,p5,p6,p7⟩:=P1.o.eight;simp only[Nat.zero_add]at p1 p2 p3 p4 p5 p6 p7;go_wp2;clear p0 p1 p2 p3 p4 p5 p6 p7;go_loopw [24] (fun i wr=>∃k:Nat,k≤m.args.length∧i=.int .i64 k∧Ext w1 wr∧Zz ((m.args.take k).all M.bF=true)) (fun i _=>m.args.length - (intOf i).toNat)
 case atStart=>exact⟨0,Nat.zero_le _,rfl,Kp.refl _ _,Zy (by simp)⟩
 case round =>
  obtain⟨k,hk,rfl,hE,HA⟩:=hrel;by_cases dI:k<m.args.length
  · obtain⟨x,hx⟩:=get_some dI;obtain⟨b,off,cs,rfl,hI,rfl, -,hc⟩:=h1.get hx;obtain⟨g0,g1⟩:=((hc.ext aQ).ext hE).two;have HX:=Zy hx;clear hx hc;cases ht:M.bF x
    all_goals
     have HT:=Zy ht;clear ht;go_wp2_with (go_at_call 55;refine(rA x _).mono ?_;rintro e w2 ⟨rfl,hB⟩;rw[HT.o])
    · go_ret;exact⟨ag (by rw[HE.o,qR HX.o HT.o];simp),(by repeat (first|assumption|exact Kp.refl _ _|apply Kp.alloc|apply Kp.drew|apply Kp.drewN|refine Kp.trans ?_ (by assumption)))⟩
    · go_roundw
      case rel=>exact⟨k+1,by omega,by go_num,(by repeat (first|assumption|exact Kp.refl _ _|apply Kp.alloc|apply Kp.drew|apply Kp.drewN|refine Kp.trans ?_ (by assumption))),Zy (all_succ HA.o HX.o HT.o)⟩
      case measure=>simp[intOf];omega
  · have Ez:Zz (m.args.all M.bF=true):=Zy (qQ HA.o (by omega));clear HA;obtain⟨p0,p1,p2,p3,p4,p5,p6,p7⟩:=(P1.o.ext hE).eight;simp only[Nat.zero_add]at p1 p2 p3 p4 p5 p6 p7;by_cases t1:m.locals<(m.args.length:Int)+1
    · go_wp2;go_ret;exact⟨ag (by rw[HE.o,decide_eq_false (p:=(m.args.length:Int)+1≤m.locals) (by omega)];simp),(by repeat (first|assumption|exact Kp.refl _ _|apply Kp.alloc|apply Kp.drew|apply Kp.drewN|refine Kp.trans ?_ (by assumption)))⟩
    by_cases t2:6<m.locals
    · go_wp2;go_ret;exact⟨ag (by rw[HE.o,decide_eq_false (p:=m.locals≤6) (by omega)];simp),(by repeat (first|assumption|exact Kp.refl _ _|apply Kp.alloc|apply Kp.drew|apply Kp.drewN|refine Kp.trans ?_ (by assumption)))⟩
    by_cases t3:m.stack<1
    · go_wp2;go_ret;exact⟨ag (by rw[HE.o,decide_eq_false (p:=1≤m.stack) (by omega)];simp),(by repeat (first|assumption|exact Kp.refl _ _|apply Kp.alloc|apply Kp.drew|apply Kp.drewN|refine Kp.trans ?_ (by assumption)))⟩
    by_cases t4:5<m.stack
    · go_wp2;go_ret;exact⟨ag (by rw[HE.o,decide_eq_false (p:=m.stack≤5) (by omega)];simp),(by repeat (first|assumption|exact Kp.refl _ _|apply Kp.alloc|apply Kp.drew|apply Kp.drewN|refine Kp.trans ?_ (by assumption)))⟩
    have HF:Zz (M.dN m=(M.codeOk m&&M.fP m)):=Zy (by
     rw[HE.o,HN.o,HR.o,Ez.o,decide_eq_true (p:=m.args.length≤3) (by omega),decide_eq_true (p:=(m.args.length:Int)+1≤m.locals) (by omega),decide_eq_true (p:=m.locals≤6) (by omega),decide_eq_true (p:=1≤m.stack) (by omega),decide_eq_true (p:=m.stack≤5) (by omega)];rfl)
    have NG:=aQ.trans hE;have Ce:=Zy (aC.stays _ _ _ _ _ _ (Ext.same NG) (fun _ h=>h) HM.o);go_wp2_with fail;refine(Bc _ _ _ _ Ce.o).mono ?_;rintro e w2 ⟨rfl,hB⟩;cases ht:M.codeOk m
    · have HT:=Zy ht;clear ht;go_wp2;go_ret;exact⟨ag (by rw[HF.o,HT.o];rfl),(by repeat (first|assumption|exact Kp.refl _ _|apply Kp.alloc|apply Kp.drew|apply Kp.drewN|refine Kp.trans ?_ (by assumption)))⟩
    · have HT:=Zy ht;clear ht;clear p0 p1 p2 p3 p4 p5 p6 p7;obtain⟨p0,p1,p2,p3,p4,p5,p6,p7⟩:=((P1.o.ext hE).ext hB).eight;simp only[Nat.zero_add]at p1 p2 p3 p4 p5 p6 p7;go_wp2_with fail;refine(BB _ _ _ _ (aC.stays _ _ _ _ _ _ (Ext.same hB) (fun _ h=>h) Ce.o)).mono ?_;rintro e w3 ⟨rfl,yw⟩;go_wp2;go_ret;exact⟨ag (by rw[HF.o,HT.o];rfl),(by repeat (first|assumption|exact Kp.refl _ _|apply Kp.alloc|apply Kp.drew|apply Kp.drewN|refine Kp.trans ?_ (by assumption)))⟩
theorem nJ{α:Type}{name:α→ByteArray}{ok:α→Bool}{l:List α}{k:Nat}{x:α}(hx:l[k]?=some x):
    M.aG name ok (l.drop k) ((l.take k).map name)=(ok x&& !(((l.take k).map name).any fun y=>decide (y=name x))&&M.aG name ok (l.drop (k+1)) ((l.take (k+1)).map name)):=by
 rw[drop_at hx,List.take_add_one,hx,List.map_append];rfl
theorem sQ{α:Type}{name:α→ByteArray}{l:List α}{k j:Nat}{x y:α}(hy:l[j]?=some y)(hj:j<k)(he:name y=name x):
    (((l.take k).map name).any fun y=>decide (y=name x))=true:=by
 rw[List.any_eq_true];refine⟨name y,List.mem_map.2 ⟨y,?_,rfl⟩,by simp[he]⟩;exact List.mem_of_getElem? (i:=j) (by rw[List.getElem?_take,if_pos hj,hy])
theorem qi{α:Type}{name:α→ByteArray}{l:List α}{k:Nat}{x:α}(h:∀j y,l[j]?=some y→j<k→name y≠name x):
    (((l.take k).map name).any fun y=>decide (y=name x))=false:=by
 rw[List.any_eq_false];intro z hz;obtain⟨y,hy,rfl⟩:=List.mem_map.1 hz;obtain⟨j,hj⟩:=List.mem_iff_getElem?.1 hy;rw[List.getElem?_take]at hj;split at hj
 · rename_i dI;simpa using h j y hj dI
 · cases hj
theorem yV(c:M.Class):M.eY c=(M.aB c.name&&(decide (c.av=M.none_)|| M.aB c.av)&&decide (c.fields.length≤3)&&decide (c.methods.length≤4)&&
 M.aG M.Field.name (fun f=>M.aB f.name&&M.bF f.kind) c.fields []&&M.aG M.Method.name M.dN c.methods []):=rfl
def mV(c:M.Class)(k:Nat):Bool:=M.aG M.Field.name (fun f=>M.aB f.name&&M.bF f.kind) (c.fields.drop k) ((c.fields.take k).map M.Field.name)
def lT(c:M.Class)(k:Nat):Bool:=M.aG M.Method.name M.dN (c.methods.drop k) ((c.methods.take k).map M.Method.name)
theorem wT{c:M.Class}{k:Nat}(h:c.fields.length≤k):mV c k=true:=by
 unfold mV;rw[List.drop_of_length_le h];rfl
theorem xg{c:M.Class}{k:Nat}(h:c.methods.length≤k):lT c k=true:=by
 unfold lT;rw[List.drop_of_length_le h];rfl
theorem uC{c:M.Class}{k:Nat}{x:M.Field}(hx:c.fields[k]?=some x):
    mV c k=((M.aB x.name&&M.bF x.kind)&& !(((c.fields.take k).map M.Field.name).any fun y=>decide (y=x.name))&&mV c (k+1)):=nJ hx
theorem uF{c:M.Class}{k:Nat}{x:M.Method}(hx:c.methods[k]?=some x):
    lT c k=(M.dN x&& !(((c.methods.take k).map M.Method.name).any fun y=>decide (y=x.name))&&lT c (k+1)):=nJ hx
theorem Dq (w : World) (I : Nat → Prop) (cs : List Value) (c : M.Class) (h : ai w I c cs) :
    Calls Tryz.prog 39 #[.agg cs.toArray] w fun e w'=>e=.returned (.bool (M.eY c))∧Ext w w':=by
 obtain⟨vf,vm,rfl,h1,h2⟩:=h;obtain⟨a,cap,rfl,hn,bK⟩:=h1.form;obtain⟨a2,cap2,rfl,F9,FR⟩:=h2.form;have bH:Ext w (w.alloc (.cells #[.string c.name,.string c.av,.slice a c.fields.length cap,.slice a2 c.methods.length cap2] 26)):=((Kp.refl _ _).alloc _);have b0:=az.new w 26 #[.string c.name,.string c.av,.slice a c.fields.length cap,.slice a2 c.methods.length cap2];have P0:=Zy (af.zZ b0 _ rfl);clear b0;have HE:=Zy (yV c);cases qZ:M.aB c.name
 · have HN:=Zy qZ;clear qZ;go_enter Tryz.func39,Tryz.ntmps39;go_wp2_with (go_at_call 30;refine(dS _ _).mono ?_;rintro e w1 ⟨rfl,rfl⟩;rw[HN.o]);go_ret;exact⟨ag (by rw[HE.o,HN.o];rfl),kx⟩
 have HN:=Zy qZ;clear qZ;by_cases uZ:(decide (c.av=M.none_)|| M.aB c.av)=true
 case neg=>
  have Ck:(decide (c.av=M.none_))=false:=by
   cases hd:decide (c.av=M.none_)
   · rfl
   · rw[hd]at uZ;exact absurd rfl uZ
  have rY:M.aB c.av=false:=by
   cases hd:M.aB c.av
   · rfl
   · rw[hd]at uZ;simp at uZ
  have hs:c.av.toList.isEmpty=false:=(aX c.av).trans Ck;have M7:=Zy Ck;have HS:=Zy rY;clear Ck rY uZ;go_enter Tryz.func39,Tryz.ntmps39;go_wp2_with fail;refine(dS _ _).mono ?_;rintro e w1 ⟨rfl,rfl⟩;rw[HN.o];go_wp2_with fail;refine(dS _ _).mono ?_;rintro e w1 ⟨rfl,rfl⟩;rw[HS.o];go_wp2;go_ret;exact⟨ag (by rw[HE.o,M7.o,HS.o];simp),kx⟩
 have IL:=Zy uZ;clear uZ;by_cases Ho:3<c.fields.length∨4<c.methods.length
 · have HF:Zz (M.eY c=false):=Zy (by
    rw[HE.o];rcases Ho with h|h
    · rw[decide_eq_false (p:=c.fields.length≤3) (by omega)];simp
    · rw[decide_eq_false (p:=c.methods.length≤4) (by omega)];simp)
   have MQ:=Zy Ho;clear Ho;go_enter Tryz.func39,Tryz.ntmps39;go_upto_region 1 with(fail);go_cut [25] (fun Kh wx=>Kh=.bool false∧wx=w.alloc (.cells #[.string c.name,.string c.av,.slice a c.fields.length cap,.slice a2 c.methods.length cap2] 26))
   case first=>
    go_wp2_with fail;refine(dS _ _).mono ?_;rintro e w1 ⟨rfl,rfl⟩;rw[HN.o];cases hs:c.av.toList.isEmpty
    · have rY:M.aB c.av=true:=by
       have:=IL.o;rw[←aX,hs]at this;exact this
      have HS:=Zy rY;clear rY;go_wp2_with fail;refine(dS _ _).mono ?_;rintro e w1 ⟨rfl,rfl⟩;rw[HS.o];go_wp2_with fail;go_meet;exact⟨rfl,rfl⟩
    · go_wp2_with fail;go_meet;exact⟨rfl,rfl⟩
   case rest=>
    obtain⟨rfl,rfl⟩:=hcut;rcases MQ.o with h|h
    · go_wp2;go_ret;exact⟨ag HF.o.symm,kx⟩
    · by_cases h':3<c.fields.length
      all_goals
       go_wp2;go_ret;exact⟨ag HF.o.symm,kx⟩
 have JJ:c.fields.length≤3:=by omega
 have JK:c.methods.length≤4:=by omega
 clear Ho;have HF:Zz (M.eY c=(mV c 0&&lT c 0)):=Zy (by
  rw[HE.o,HN.o,IL.o,decide_eq_true JJ,decide_eq_true JK];rfl)
 go_enter Tryz.func39,Tryz.ntmps39;go_upto_region 1 with(fail);go_cut [25] (fun Kh wx=>Kh=.bool false∧wx=w.alloc (.cells #[.string c.name,.string c.av,.slice a c.fields.length cap,.slice a2 c.methods.length cap2] 26))
 case first=>
  go_wp2_with fail;refine(dS _ _).mono ?_;rintro e w1 ⟨rfl,rfl⟩;rw[HN.o];cases hs:c.av.toList.isEmpty
  · have rY:M.aB c.av=true:=by
     have:=IL.o;rw[←aX,hs]at this;exact this
    have HS:=Zy rY;clear rY;go_wp2_with fail;refine(dS _ _).mono ?_;rintro e w1 ⟨rfl,rfl⟩;rw[HS.o];go_wp2_with fail;go_meet;exact⟨rfl,rfl⟩
  · go_wp2_with fail;go_meet;exact⟨rfl,rfl⟩
 case rest =>
  obtain⟨rfl,ek⟩:=hcut;rw[←ek]at bH;rw[←ek]at P0;subst ek;generalize bB:(w.alloc (.cells #[.string c.name,.string c.av,.slice a c.fields.length cap,.slice a2 c.methods.length cap2] 26))=w0 at*;clear bB;obtain⟨p0,p1,p2,p3⟩:=P0.o.four;simp only[Nat.zero_add]at p1 p2 p3;go_wp2;clear p0 p1 p2 p3;go_loopw [39] (fun i wr=>∃k:Nat,k≤c.fields.length∧i=.int .i64 k∧Ext w0 wr∧Zz (mV c 0=mV c k)) (fun i _=>c.fields.length - (intOf i).toNat)
  case atStart=>exact⟨0,Nat.zero_le _,rfl,Kp.refl _ _,Zy rfl⟩
  case round =>
   obtain⟨k,hk,rfl,hE,HA⟩:=hrel;obtain⟨p0,p1,p2,p3⟩:=(P0.o.ext hE).four;simp only[Nat.zero_add]at p1 p2 p3;have hz:=ax p0;by_cases dI:k<c.fields.length
   · obtain ⟨x, hx⟩ := get_some dI; obtain ⟨b, off, cs, rfl, hI, rfl, -, hc⟩ := h1.get hx; have G := Zy ((hc.ext bH).ext hE); have HX := Zy hx; have kY := Zy (uC hx); clear hx hc; obtain ⟨g0, g1, g2⟩ := G.o.three; cases zD : M.aB x.name
     · have yH:=Zy zD;clear zD;go_wp2_with (go_at_call 30;refine(dS _ _).mono ?_;rintro e w1 ⟨rfl,rfl⟩;rw[yH.o]);go_ret;exact⟨ag (by rw[HF.o,HA.o,kY.o,yH.o];simp),(by repeat (first|assumption|exact Kp.refl _ _|apply Kp.alloc|apply Kp.drew|apply Kp.drewN|refine Kp.trans ?_ (by assumption)))⟩
     have yH:=Zy zD;clear zD;have B1:=az.new wr 75 #[.string x.name,.int .i64 x.kind.kind,.string x.kind.name];go_wp2_with fail;refine(dS _ _).mono ?_;rintro e w1 ⟨rfl,rfl⟩;rw[yH.o];go_wp2_with fail;refine(rA x.kind _).mono ?_;rintro e w1 ⟨rfl,hB⟩;cases jc:M.bF x.kind
     · have AZ:=Zy jc;clear jc;go_wp2;go_ret;exact⟨ag (by rw[HF.o,HA.o,kY.o,AZ.o];simp),(by repeat (first|assumption|exact Kp.refl _ _|apply Kp.alloc|apply Kp.drew|apply Kp.drewN|refine Kp.trans ?_ (by assumption)))⟩
     have AZ:=Zy jc;clear jc;have r2:=hB.vY p2;have f0:=(B1.ext hB).c 0 _ rfl;have aQ:Ext w0 w1:=(by repeat (first|assumption|exact Kp.refl _ _|apply Kp.alloc|apply Kp.drew|apply Kp.drewN|refine Kp.trans ?_ (by assumption)));have NY:=ax f0;clear g0 g1 g2 p0 p1 p2 p3;go_wp2;clear r2;obtain⟨wo,rfl⟩:∃wo:World,wo=wr:=⟨_,rfl⟩;go_loopw [59] (fun j wi=>∃q:Nat,q≤k∧j=.int .i64 q∧Ext w1 wi∧Zz (∀j y,c.fields[j]?=some y→j<q→M.Field.name y≠M.Field.name x)) (fun j _=>k - (intOf j).toNat)
     case atStart=>exact⟨0,Nat.zero_le _,rfl,Kp.refl _ _,Zy (fun j y _ h=>absurd h (Nat.not_lt_zero _))⟩
     case round =>
      obtain⟨q,hq,rfl,Fz,HQ⟩:=hrel;have e0:=Fz.aj f0;have NV:=ax e0;by_cases AO:q<k
      · obtain⟨y,hy⟩:=get_some (show q<c.fields.length by omega);obtain⟨b',off',cs',Hh, -,rfl, -,FU⟩:=h1.get hy;cases Hh;obtain⟨g0,g1,g2⟩:=(((FU.ext bH).ext aQ).ext Fz).three;have HY:=Zy hy;clear hy FU;cases iU:(y.name.toList==x.name.toList)
        · have EP:=Zy iU;go_wp2;go_roundw
          case rel=>
           refine⟨q+1,by omega,by go_num,kx,Zy (fun j z DY hj=>?_)⟩;by_cases JD:j<q
           · exact HQ.o j z DY JD
           · obtain rfl:j=q:=by omega
             rw[HY.o]at DY;cases DY;rw[eX]at iU;simpa using iU
          case measure=>simp[intOf];omega
        · have EP:=Zy iU;go_wp2;go_ret;rw[eX]at iU;exact⟨ag (by rw[HF.o,HA.o,kY.o,sQ HY.o AO (by simpa using iU)];simp),(by repeat (first|assumption|exact Kp.refl _ _|apply Kp.alloc|apply Kp.drew|apply Kp.drewN|refine Kp.trans ?_ (by assumption)))⟩
      · obtain rfl:q=k:=by omega
        go_wp2;go_roundw
        case rel=>exact⟨q+1,by omega,by go_num,(by repeat (first|assumption|exact Kp.refl _ _|apply Kp.alloc|apply Kp.drew|apply Kp.drewN|refine Kp.trans ?_ (by assumption))),Zy (by rw[HA.o,kY.o,yH.o,AZ.o,qi HQ.o];rfl)⟩
        case measure=>simp[intOf];omega
   · have HM : Zz (M.eY c = lT c 0) := Zy (by rw [HF.o, HA.o, wT (by omega)]; rfl); clear HA HF; go_wp2; clear p0 p1 p2 p3; have dm : Ext w wr := bH.trans hE; have P2 := Zy (P0.o.ext hE); clear P0 hE bH hz; obtain ⟨wl, rfl⟩ : ∃ wl : World, wl = wr := ⟨_, rfl⟩; go_loopw [73] (fun i wr => ∃ k : Nat, k ≤ c.methods.length ∧ i = .int .i64 k ∧ Ext wl wr ∧ Zz (lT c 0 = lT c k)) (fun i _ => c.methods.length - (intOf i).toNat)
     case atStart=>exact⟨0,Nat.zero_le _,rfl,Kp.refl _ _,Zy rfl⟩
     case round =>
      clear dI hk;obtain⟨k,hk,rfl,hE,HA⟩:=hrel;obtain⟨p0,p1,p2,p3⟩:=(P2.o.ext hE).four;simp only[Nat.zero_add]at p1 p2 p3;have hz:=ax p0;by_cases dI:k<c.methods.length
      · obtain ⟨x, hx⟩ := get_some dI; obtain ⟨b, off, cs, rfl, hI, E9, -, hc⟩ := h2.get hx; obtain ⟨OV, OY, OW, OZ, OX, O0, rfl⟩ := E9.form; have Nk := Zy (aC.stays _ _ _ _ _ _ (Ext.same (dm.trans hE)) (fun _ h => h) E9); have G := Zy ((hc.ext dm).ext hE); have HX := Zy hx; have kY := Zy (uF hx); clear hx hc E9; obtain ⟨g0, g1, g2, g3, g4, g5, g6, g7⟩ := G.o.eight; have B1 := az.new wr 81 #[.string x.name, .slice OV x.args.length OY, .int .i64 x.ret.kind, .string x.ret.name, .int .i64 x.locals, .int .i64 x.stack, .slice OW x.code.length OZ, .slice OX x.maps.length O0]; go_wp2_with fail; refine (D5 _ _ _ _ (aC.stays _ _ _ _ _ _ (Ext.same ((Kp.refl _ _).alloc _)) (fun _ h => h) Nk.o)).mono ?_; rintro e w1 ⟨rfl, hB⟩; cases jc : M.dN x
        · have AZ:=Zy jc;clear jc;go_wp2;go_ret;exact⟨ag (by rw[HM.o,HA.o,kY.o,AZ.o];simp),(by repeat (first|assumption|exact Kp.refl _ _|apply Kp.alloc|apply Kp.drew|apply Kp.drewN|refine Kp.trans ?_ (by assumption)))⟩
        have AZ:=Zy jc;clear jc;have r3:=hB.vY p3;have f0:=(B1.ext hB).c 0 _ rfl;have aQ:Ext wl w1:=(by repeat (first|assumption|exact Kp.refl _ _|apply Kp.alloc|apply Kp.drew|apply Kp.drewN|refine Kp.trans ?_ (by assumption)));have NY:=ax f0;clear g0 g1 g2 g3 g4 g5 g6 g7 p0 p1 p2 p3;go_wp2;clear r3;obtain⟨wo,rfl⟩:∃wo:World,wo=wr:=⟨_,rfl⟩;go_loopw [86] (fun j wi=>∃q:Nat,q≤k∧j=.int .i64 q∧Ext w1 wi∧Zz (∀j y,c.methods[j]?=some y→j<q→M.Method.name y≠M.Method.name x)) (fun j _=>k - (intOf j).toNat)
        case atStart=>exact⟨0,Nat.zero_le _,rfl,Kp.refl _ _,Zy (fun j y _ h=>absurd h (Nat.not_lt_zero _))⟩
        case round =>
         obtain⟨q,hq,rfl,Fz,HQ⟩:=hrel;have e0:=Fz.aj f0;have NV:=ax e0;by_cases AO:q<k
         · obtain⟨y,hy⟩:=get_some (show q<c.methods.length by omega);obtain⟨b',off',cs',Hh, -,Mq, -,FU⟩:=h2.get hy;obtain⟨Qg,Qj,Qh,Qk,Qi,Ql,rfl⟩:=Mq.form;cases Hh;clear Mq;obtain⟨g0,g1,g2,g3,g4,g5,g6,g7⟩:=(((FU.ext dm).ext aQ).ext Fz).eight;have HY:=Zy hy;clear hy FU;cases iU:(y.name.toList==x.name.toList)
           · have EP:=Zy iU;go_wp2;go_roundw
             case rel=>
              refine⟨q+1,by omega,by go_num,kx,Zy (fun j z DY hj=>?_)⟩;by_cases JD:j<q
              · exact HQ.o j z DY JD
              · obtain rfl:j=q:=by omega
                rw[HY.o]at DY;cases DY;rw[eX]at iU;simpa using iU
             case measure=>simp[intOf];omega
           · have EP:=Zy iU;go_wp2;go_ret;rw[eX]at iU;exact⟨ag (by rw[HM.o,HA.o,kY.o,sQ HY.o AO (by simpa using iU)];simp),(by repeat (first|assumption|exact Kp.refl _ _|apply Kp.alloc|apply Kp.drew|apply Kp.drewN|refine Kp.trans ?_ (by assumption)))⟩
         · obtain rfl:q=k:=by omega
           go_wp2;go_roundw
           case rel=>exact⟨q+1,by omega,by go_num,(by repeat (first|assumption|exact Kp.refl _ _|apply Kp.alloc|apply Kp.drew|apply Kp.drewN|refine Kp.trans ?_ (by assumption))),Zy (by rw[HA.o,kY.o,AZ.o,qi HQ.o];rfl)⟩
           case measure=>simp[intOf];omega
      · go_wp2;go_ret;exact⟨ag (by rw[HM.o,HA.o,xg (by omega)]),(by repeat (first|assumption|exact Kp.refl _ _|apply Kp.alloc|apply Kp.drew|apply Kp.drewN|refine Kp.trans ?_ (by assumption)))⟩
end Go.Proofs.YtmcmhalhieejaaaGreatDoor
