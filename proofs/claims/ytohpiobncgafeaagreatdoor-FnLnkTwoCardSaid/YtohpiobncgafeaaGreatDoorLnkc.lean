/- Walks. -/
import Derived.Test.YtohpiobncgafeaaGreatDoorLnkb
import Derived.Deep.DeepCutAuto
import Derived.RangeFuncKeeps
import Derived.RangeFuncNested
import Derived.RangeFuncBound
import Derived.RangeFuncCalls
import Derived.RangeFuncLeaves
import Derived.Shelf.Abstract
import Derived.Shelf.RegionOpen
import Derived.TacticsInMore
import Derived.LoopNIn
import Derived.LoopIn
import Derived.Sort.LoopGhostIn
set_option maxRecDepth 100000
set_option maxHeartbeats 4000000
set_option linter.unusedSimpArgs false
set_option linter.unusedVariables false
namespace Go.Proofs.YtohpiobncgafeaaGreatDoor
open Go Go.RowKit
theorem drop_at{α:Type}{l:List α}{k:Nat}{x:α}(h:l[k]?=some x):l.drop k=x::l.drop (k+1):=by
 obtain⟨hk,e⟩:=List.getElem?_eq_some_iff.1 h;rw[List.drop_eq_getElem_cons hk,e]
theorem AR{m:M.Method}{last:Int}{k:Nat}{x:M.SMap}(h:m.maps[k]?=some x):
    M.jJ m last (m.maps.drop k)=(decide (last<x.at_)&&M.pM m x&&M.jJ m x.at_ (m.maps.drop (k+1))):=by
 rw[drop_at h];rfl
theorem uj(m:M.Method)(f:M.SMap):M.pM m f=(decide (f.at_ <m.code.length)&&decide ((f.locals.length:Int)=m.locals)&&decide ((f.stack.length:Int)≤m.stack)&&M.oU f.locals&&M.oU f.stack):=rfl
theorem QO (w : World) (I : Nat → Prop) (cs : List Value) (m : M.Method) (h : aC w I m cs) :
    Calls Tryz.prog 140 #[.agg cs.toArray] w fun e w'=>e=.returned (.bool (M.qI m))∧Ext w w':=by
 obtain⟨va,vc,vm,rfl,h1,h2,h3⟩:=h;obtain⟨a,cap,rfl,hn,dx⟩:=h3.form;obtain⟨a2,cap2,rfl,uV,Es⟩:=h2.form;by_cases yI:5<m.maps.length
 · go_enter Tryz.func140,Tryz.ntmps140;go_wp2;go_ret;exact⟨ae (by unfold M.qI;rw[decide_eq_false (by omega)];rfl),kx⟩
 have HL:Zs (M.qI m=M.jJ m 0 m.maps):=Ys (by
  unfold M.qI;rw[decide_eq_true (by omega)];rfl)
 go_enter Tryz.func140,Tryz.ntmps140;go_wp2;have b0:=az.new w 34 #[.string m.name,va,.int .i64 m.ret.kind,.string m.ret.name,.int .i64 m.locals,.int .i64 m.stack,.slice a2 m.code.length cap2,.slice a m.maps.length cap];have p4:=b0.c 4 _ rfl;have p5:=b0.c 5 _ rfl;have p6:=b0.c 6 _ rfl;have aM:Ext w (w.alloc (.cells #[.string m.name,va,.int .i64 m.ret.kind,.string m.ret.name,.int .i64 m.locals,.int .i64 m.stack,.slice a2 m.code.length cap2,.slice a m.maps.length cap] 34)):=((Kp.refl _ _).alloc _);generalize (w.alloc (.cells #[.string m.name,va,.int .i64 m.ret.kind,.string m.ret.name,.int .i64 m.locals,.int .i64 m.stack,.slice a2 m.code.length cap2,.slice a m.maps.length cap] 34))=w0 at*;go_loopw [13,3] (fun i la wr=>∃k:Nat,∃last:Int,k≤m.maps.length∧i=.int .i64 k∧la=.int .i64 last∧Ext w0 wr∧Zs (M.jJ m 0 m.maps=M.jJ m last (m.maps.drop k))) (fun i _ _=>m.maps.length - (intOf i).toNat)
 case atStart=>exact⟨0,0,Nat.zero_le _,rfl,rfl,Kp.refl _ _,Ys (by simp)⟩
 case round =>
  obtain⟨k,last,hk,rfl,rfl,hE,HA⟩:=hrel;by_cases cK:k<m.maps.length
  · obtain⟨x,hx⟩:=get_some cK;obtain⟨b,off,cs,rfl,hI,⟨vl,vs,rfl,s1,s2⟩, -,hc⟩:=h3.get hx;obtain⟨a3,ado,rfl,Wz,ade⟩:=s1.form;obtain⟨a4,cap4,rfl,JK,adf⟩:=s2.form;obtain⟨g0,g1,g2⟩:=((hc.ext aM).ext hE).three;have q4:=hE.aJ p4;have q5:=hE.aJ p5;have q6:=hE.aJ p6;have hz:=aS q6;have S1:=Ys ((s1.ext eU.stays aM).ext eU.stays hE);have S2:=Ys ((s2.ext eU.stays aM).ext eU.stays hE);have HC:=Ys (AR (last:=last) hx);clear hx hc p4 p5 p6 s1 s2;by_cases t1:x.at_≤last
    · go_wp2;go_ret;exact⟨ae (by rw[HL.o,HA.o,HC.o,decide_eq_false (by omega)];rfl),(by repeat (first|assumption|exact Kp.refl _ _|apply Kp.alloc|apply Kp.drew|apply Kp.drewN|refine Kp.trans ?_ (by assumption)))⟩
    by_cases t2:(m.code.length:Int)≤x.at_
    · go_wp2;go_ret;exact⟨ae (by rw[HL.o,HA.o,HC.o,uj,decide_eq_false (p:=x.at_ <m.code.length) (by omega)];simp),(by repeat (first|assumption|exact Kp.refl _ _|apply Kp.alloc|apply Kp.drew|apply Kp.drewN|refine Kp.trans ?_ (by assumption)))⟩
    by_cases t3:(x.locals.length:Int)=m.locals
    case neg=>
     have t3':((x.locals.length:Int)==m.locals)=false:=beq_eq_false_iff_ne.2 t3;go_wp2;go_ret;exact⟨ae (by rw[HL.o,HA.o,HC.o,uj,decide_eq_false (p:=(x.locals.length:Int)=m.locals) t3];simp),(by repeat (first|assumption|exact Kp.refl _ _|apply Kp.alloc|apply Kp.drew|apply Kp.drewN|refine Kp.trans ?_ (by assumption)))⟩
    have T3:=Ys t3;have t3':((x.locals.length:Int)==m.locals)=true:=beq_iff_eq.2 t3;clear t3;by_cases t4:m.stack<(x.stack.length:Int)
    · go_wp2;go_ret;exact⟨ae (by rw[HL.o,HA.o,HC.o,uj,decide_eq_false (p:=(x.stack.length:Int)≤m.stack) (by omega)];simp),(by repeat (first|assumption|exact Kp.refl _ _|apply Kp.alloc|apply Kp.drew|apply Kp.drewN|refine Kp.trans ?_ (by assumption)))⟩
    have HM:Zs (M.pM m x=(M.oU x.locals&&M.oU x.stack)):=Ys (by
     rw[uj,decide_eq_true (p:=x.at_ <m.code.length) (by omega),decide_eq_true (p:=(x.locals.length:Int)=m.locals) T3.o,decide_eq_true (p:=(x.stack.length:Int)≤m.stack) (by omega)];rfl)
    have HT:Zs (decide (last<x.at_)=true):=Ys (decide_eq_true (by omega));cases ht1:M.oU x.locals
    · have VZ:=Ys ht1;clear ht1;go_wp2_with fail;refine(Dn _ _ _ _ (S1.o.ext eU.stays ((Kp.refl _ _).alloc _))).mono ?_;rintro e w1 ⟨rfl,hB⟩;rw[VZ.o];go_wp2;go_ret;exact⟨ae (by rw[HL.o,HA.o,HC.o,HM.o,VZ.o];simp),(by repeat (first|assumption|exact Kp.refl _ _|apply Kp.alloc|apply Kp.drew|apply Kp.drewN|refine Kp.trans ?_ (by assumption)))⟩
    · have VZ:=Ys ht1;clear ht1;go_wp2_with fail;refine(Dn _ _ _ _ (S1.o.ext eU.stays ((Kp.refl _ _).alloc _))).mono ?_;rintro e w1 ⟨rfl,hB⟩;rw[VZ.o];obtain⟨l8,hf1⟩:=DZ hB;cases QB:M.oU x.stack
      all_goals
       have qc:=Ys QB;clear QB;go_wp2_with fail;refine(Dn _ _ _ _ ((S2.o.ext eU.stays ((Kp.refl _ _).alloc _)).ext eU.stays hB)).mono ?_;rintro e w2 ⟨rfl,hB2⟩;rw[qc.o];go_wp2
      · go_ret;exact⟨ae (by rw[HL.o,HA.o,HC.o,HM.o,VZ.o,qc.o];simp),(by repeat (first|assumption|exact Kp.refl _ _|apply Kp.alloc|apply Kp.drew|apply Kp.drewN|refine Kp.trans ?_ (by assumption)))⟩
      · go_roundw
        case rel=>exact⟨k+1,x.at_,by omega,by go_num,rfl,(by repeat (first|assumption|exact Kp.refl _ _|apply Kp.alloc|apply Kp.drew|apply Kp.drewN|refine Kp.trans ?_ (by assumption))),Ys (by rw[HA.o,HC.o,HM.o,HT.o,VZ.o,qc.o];rfl)⟩
        case measure=>simp[intOf];omega
  · go_wp2;go_ret;exact⟨ae (by rw[HL.o,HA.o,List.drop_of_length_le (by omega)];rfl),(by repeat (first|assumption|exact Kp.refl _ _|apply Kp.alloc|apply Kp.drew|apply Kp.drewN|refine Kp.trans ?_ (by assumption)))⟩
theorem af.zl{w:World}{g:Nat}{t:TypeId}{cs:Array Value}(h:az w g t cs)(l:List Value)(e:cs.toList=l):af w g 0 l:=by
 intro j v hj;subst e;rw[Nat.zero_add];exact h.c j v (by simpa using hj)
theorem NL(m:M.Method):M.mP m=(M.aY m.name&&decide (m.args.length≤3)&&M.fV m.ret&&m.args.all M.fV&&
 decide ((m.args.length:Int)+1≤m.locals)&&decide (m.locals≤6)&&decide (1≤m.stack)&&decide (m.stack≤5)&&M.codeOk m&&M.qI m):=rfl
theorem Vx(w:World)(I:Nat→Prop)(cs:List Value)(m:M.Method)(h:aC w I m cs):
    Calls Tryz.prog 115 #[.agg cs.toArray] w fun e w'=>e=.returned (.bool (M.mP m))∧Ext w w':=by
 have HM:=Ys h;obtain⟨va,vc,vm,rfl,h1,h2,h3⟩:=h;obtain⟨a,cap,rfl,hn,dx⟩:=h1.form;have aM:Ext w (w.alloc (.cells #[.string m.name,.slice a m.args.length cap,.int .i64 m.ret.kind,.string m.ret.name,.int .i64 m.locals,.int .i64 m.stack,vc,vm] 34)):=((Kp.refl _ _).alloc _);have b0:=az.new w 34 #[.string m.name,.slice a m.args.length cap,.int .i64 m.ret.kind,.string m.ret.name,.int .i64 m.locals,.int .i64 m.stack,vc,vm];have P0:=Ys (af.zl b0 _ rfl);clear b0;have HE:=Ys (NL m);cases CE:M.aY m.name
 · have HN:=Ys CE;clear CE;go_enter Tryz.func115,Tryz.ntmps115;go_wp2_with (go_at_call 25;refine(eY _ _).mono ?_;rintro e w1 ⟨rfl,rfl⟩;rw[HN.o]);go_ret;exact⟨ae (by rw[HE.o,HN.o];rfl),kx⟩
 have HN:=Ys CE;clear CE;by_cases hl:3<m.args.length
 · go_enter Tryz.func115,Tryz.ntmps115;go_wp2_with (go_at_call 25;refine(eY _ _).mono ?_;rintro e w1 ⟨rfl,rfl⟩;rw[HN.o]);go_ret;exact⟨ae (by rw[HE.o,decide_eq_false (p:=m.args.length≤3) (by omega)];simp),kx⟩
 cases hr:M.fV m.ret
 · have HR:=Ys hr;clear hr;go_enter Tryz.func115,Tryz.ntmps115;go_wp2_with (first|(go_at_call 25;refine(eY _ _).mono ?_;rintro e w1 ⟨rfl,rfl⟩;rw[HN.o])|(go_at_call 78;refine(uX m.ret _).mono ?_;rintro e w1 ⟨rfl,hB⟩;rw[HR.o]));go_ret;exact⟨ae (by rw[HE.o,HR.o];simp),(by repeat (first|assumption|exact Kp.refl _ _|apply Kp.alloc|apply Kp.drew|apply Kp.drewN|refine Kp.trans ?_ (by assumption)))⟩
 have HR:=Ys hr;clear hr;go_enter Tryz.func115,Tryz.ntmps115;go_wp2_with fail;refine(eY _ _).mono ?_;rintro e w1 ⟨rfl,rfl⟩;rw[HN.o];go_wp2_with fail;refine(uX m.ret _).mono ?_;rintro e w1 ⟨rfl,hB⟩;rw[HR.o];generalize (w.alloc (.cells #[.string m.name,.slice a m.args.length cap,.int .i64 m.ret.kind,.string m.ret.name,.int .i64 m.locals,.int .i64 m.stack,vc,vm] 34))=w0 at*;have P1:=Ys (P0.o.ext hB);have aZ:=aM.trans hB;clear aM hB P0;obtain⟨p0,p1,p2,p3,p4,p5,p6,p7⟩:=P1.o.eight;simp only[Nat.zero_add]at p1 p2 p3 p4 p5 p6 p7;go_wp2;clear p0 p1 p2 p3 p4 p5 p6 p7;go_loopw [24] (fun i wr=>∃k:Nat,k≤m.args.length∧i=.int .i64 k∧Ext w1 wr∧Zs ((m.args.take k).all M.fV=true)) (fun i _=>m.args.length - (intOf i).toNat)
 case atStart=>exact⟨0,Nat.zero_le _,rfl,Kp.refl _ _,Ys (by simp)⟩
 case round =>
  obtain⟨k,hk,rfl,hE,HA⟩:=hrel;by_cases cK:k<m.args.length
  · obtain⟨x,hx⟩:=get_some cK;obtain⟨b,off,cs,rfl,hI,rfl, -,hc⟩:=h1.get hx;obtain⟨g0,g1⟩:=((hc.ext aZ).ext hE).two;have HX:=Ys hx;clear hx hc;cases ht:M.fV x
    all_goals
     have HT:=Ys ht;clear ht;go_wp2_with (go_at_call 78;refine(uX x _).mono ?_;rintro e w2 ⟨rfl,hB⟩;rw[HT.o])
    · go_ret;exact⟨ae (by rw[HE.o,jD HX.o HT.o];simp),(by repeat (first|assumption|exact Kp.refl _ _|apply Kp.alloc|apply Kp.drew|apply Kp.drewN|refine Kp.trans ?_ (by assumption)))⟩
    · go_roundw
      case rel=>exact⟨k+1,by omega,by go_num,(by repeat (first|assumption|exact Kp.refl _ _|apply Kp.alloc|apply Kp.drew|apply Kp.drewN|refine Kp.trans ?_ (by assumption))),Ys (all_succ HA.o HX.o HT.o)⟩
      case measure=>simp[intOf];omega
  · have xC:Zs (m.args.all M.fV=true):=Ys (iH HA.o (by omega));clear HA;obtain⟨p0,p1,p2,p3,p4,p5,p6,p7⟩:=(P1.o.ext hE).eight;simp only[Nat.zero_add]at p1 p2 p3 p4 p5 p6 p7;by_cases t1:m.locals<(m.args.length:Int)+1
    · go_wp2;go_ret;exact⟨ae (by rw[HE.o,decide_eq_false (p:=(m.args.length:Int)+1≤m.locals) (by omega)];simp),(by repeat (first|assumption|exact Kp.refl _ _|apply Kp.alloc|apply Kp.drew|apply Kp.drewN|refine Kp.trans ?_ (by assumption)))⟩
    by_cases t2:6<m.locals
    · go_wp2;go_ret;exact⟨ae (by rw[HE.o,decide_eq_false (p:=m.locals≤6) (by omega)];simp),(by repeat (first|assumption|exact Kp.refl _ _|apply Kp.alloc|apply Kp.drew|apply Kp.drewN|refine Kp.trans ?_ (by assumption)))⟩
    by_cases t3:m.stack<1
    · go_wp2;go_ret;exact⟨ae (by rw[HE.o,decide_eq_false (p:=1≤m.stack) (by omega)];simp),(by repeat (first|assumption|exact Kp.refl _ _|apply Kp.alloc|apply Kp.drew|apply Kp.drewN|refine Kp.trans ?_ (by assumption)))⟩
    by_cases t4:5<m.stack
    · go_wp2;go_ret;exact⟨ae (by rw[HE.o,decide_eq_false (p:=m.stack≤5) (by omega)];simp),(by repeat (first|assumption|exact Kp.refl _ _|apply Kp.alloc|apply Kp.drew|apply Kp.drewN|refine Kp.trans ?_ (by assumption)))⟩
    have HF:Zs (M.mP m=(M.codeOk m&&M.qI m)):=Ys (by
     rw[HE.o,HN.o,HR.o,xC.o,decide_eq_true (p:=m.args.length≤3) (by omega),decide_eq_true (p:=(m.args.length:Int)+1≤m.locals) (by omega),decide_eq_true (p:=m.locals≤6) (by omega),decide_eq_true (p:=1≤m.stack) (by omega),decide_eq_true (p:=m.stack≤5) (by omega)];rfl)
    have Im:=aZ.trans hE;have Jf:=Ys (aC.stays _ _ _ _ _ _ (Ext.same Im) (fun _ h=>h) HM.o);go_wp2_with fail;refine(PL _ _ _ _ Jf.o).mono ?_;rintro e w2 ⟨rfl,hB⟩;cases ht:M.codeOk m
    · have HT:=Ys ht;clear ht;go_wp2;go_ret;exact⟨ae (by rw[HF.o,HT.o];rfl),(by repeat (first|assumption|exact Kp.refl _ _|apply Kp.alloc|apply Kp.drew|apply Kp.drewN|refine Kp.trans ?_ (by assumption)))⟩
    · have HT:=Ys ht;clear ht;clear p0 p1 p2 p3 p4 p5 p6 p7;obtain⟨p0,p1,p2,p3,p4,p5,p6,p7⟩:=((P1.o.ext hE).ext hB).eight;simp only[Nat.zero_add]at p1 p2 p3 p4 p5 p6 p7;go_wp2_with fail;refine(QO _ _ _ _ (aC.stays _ _ _ _ _ _ (Ext.same hB) (fun _ h=>h) Jf.o)).mono ?_;rintro e w3 ⟨rfl,Ar⟩;go_wp2;go_ret;exact⟨ae (by rw[HF.o,HT.o];rfl),(by repeat (first|assumption|exact Kp.refl _ _|apply Kp.alloc|apply Kp.drew|apply Kp.drewN|refine Kp.trans ?_ (by assumption)))⟩
theorem yw{α:Type}{name:α→ByteArray}{ok:α→Bool}{l:List α}{k:Nat}{x:α}(hx:l[k]?=some x):
    M.bT name ok (l.drop k) ((l.take k).map name)=(ok x&& !(((l.take k).map name).any fun y=>decide (y=name x))&&M.bT name ok (l.drop (k+1)) ((l.take (k+1)).map name)):=by
 rw[drop_at hx,List.take_add_one,hx,List.map_append];rfl
theorem Eg{α:Type}{name:α→ByteArray}{l:List α}{k j:Nat}{x y:α}(hy:l[j]?=some y)(hj:j<k)(he:name y=name x):
    (((l.take k).map name).any fun y=>decide (y=name x))=true:=by
 rw[List.any_eq_true];refine⟨name y,List.mem_map.2 ⟨y,?_,rfl⟩,by simp[he]⟩;exact List.mem_of_getElem? (i:=j) (by rw[List.getElem?_take,if_pos hj,hy])
theorem Bh{α:Type}{name:α→ByteArray}{l:List α}{k:Nat}{x:α}(h:∀j y,l[j]?=some y→j<k→name y≠name x):
    (((l.take k).map name).any fun y=>decide (y=name x))=false:=by
 rw[List.any_eq_false];intro z hz;obtain⟨y,hy,rfl⟩:=List.mem_map.1 hz;obtain⟨j,hj⟩:=List.mem_iff_getElem?.1 hy;rw[List.getElem?_take]at hj;split at hj
 · rename_i cK;simpa using h j y hj cK
 · cases hj
theorem LM(c:M.Class):M.jU c=(M.aY c.name&&(decide (c.aW=M.none_)|| M.aY c.aW)&&decide (c.fields.length≤3)&&decide (c.methods.length≤4)&&
 M.bT M.Field.name (fun f=>M.aY f.name&&M.fV f.kind) c.fields []&&M.bT M.Method.name M.mP c.methods []):=rfl
def xP(c:M.Class)(k:Nat):Bool:=M.bT M.Field.name (fun f=>M.aY f.name&&M.fV f.kind) (c.fields.drop k) ((c.fields.take k).map M.Field.name)
def vO(c:M.Class)(k:Nat):Bool:=M.bT M.Method.name M.mP (c.methods.drop k) ((c.methods.take k).map M.Method.name)
theorem Jb{c:M.Class}{k:Nat}(h:c.fields.length≤k):xP c k=true:=by
 unfold xP;rw[List.drop_of_length_le h];rfl
theorem Jh{c:M.Class}{k:Nat}(h:c.methods.length≤k):vO c k=true:=by
 unfold vO;rw[List.drop_of_length_le h];rfl
theorem FO{c:M.Class}{k:Nat}{x:M.Field}(hx:c.fields[k]?=some x):
    xP c k=((M.aY x.name&&M.fV x.kind)&& !(((c.fields.take k).map M.Field.name).any fun y=>decide (y=x.name))&&xP c (k+1)):=yw hx
theorem F8{c:M.Class}{k:Nat}{x:M.Method}(hx:c.methods[k]?=some x):
    vO c k=(M.mP x&& !(((c.methods.take k).map M.Method.name).any fun y=>decide (y=x.name))&&vO c (k+1)):=yw hx
theorem Cc (w : World) (I : Nat → Prop) (cs : List Value) (c : M.Class) (h : aL w I c cs) :
    Calls Tryz.prog 69 #[.agg cs.toArray] w fun e w'=>e=.returned (.bool (M.jU c))∧Ext w w':=by
 obtain⟨vf,vm,rfl,h1,h2⟩:=h;obtain⟨a,cap,rfl,hn,dx⟩:=h1.form;obtain⟨a2,cap2,rfl,uV,Es⟩:=h2.form;have aM:Ext w (w.alloc (.cells #[.string c.name,.string c.aW,.slice a c.fields.length cap,.slice a2 c.methods.length cap2] 38)):=((Kp.refl _ _).alloc _);have b0:=az.new w 38 #[.string c.name,.string c.aW,.slice a c.fields.length cap,.slice a2 c.methods.length cap2];have P0:=Ys (af.zl b0 _ rfl);clear b0;have HE:=Ys (LM c);cases CE:M.aY c.name
 · have HN:=Ys CE;clear CE;go_enter Tryz.func69,Tryz.ntmps69;go_wp2_with (go_at_call 25;refine(eY _ _).mono ?_;rintro e w1 ⟨rfl,rfl⟩;rw[HN.o]);go_ret;exact⟨ae (by rw[HE.o,HN.o];rfl),kx⟩
 have HN:=Ys CE;clear CE;by_cases yN:(decide (c.aW=M.none_)|| M.aY c.aW)=true
 case neg=>
  have h1':(decide (c.aW=M.none_))=false:=by
   cases hd:decide (c.aW=M.none_)
   · rfl
   · rw[hd]at yN;exact absurd rfl yN
  have Gw:M.aY c.aW=false:=by
   cases hd:M.aY c.aW
   · rfl
   · rw[hd]at yN;simp at yN
  have hs:c.aW.toList.isEmpty=false:=(eH c.aW).trans h1';have HS1:=Ys h1';have HS:=Ys Gw;clear h1' Gw yN;go_enter Tryz.func69,Tryz.ntmps69;go_wp2_with fail;refine(eY _ _).mono ?_;rintro e w1 ⟨rfl,rfl⟩;rw[HN.o];go_wp2_with fail;refine(eY _ _).mono ?_;rintro e w1 ⟨rfl,rfl⟩;rw[HS.o];go_wp2;go_ret;exact⟨ae (by rw[HE.o,HS1.o,HS.o];simp),kx⟩
 have XH:=Ys yN;clear yN;by_cases hlf:3<c.fields.length∨4<c.methods.length
 · have HF:Zs (M.jU c=false):=Ys (by
    rw[HE.o];rcases hlf with h|h
    · rw[decide_eq_false (p:=c.fields.length≤3) (by omega)];simp
    · rw[decide_eq_false (p:=c.methods.length≤4) (by omega)];simp)
   have HLF:=Ys hlf;clear hlf;go_enter Tryz.func69,Tryz.ntmps69;go_upto_region 1 with(fail);go_cut [25] (fun s25 wx=>s25=.bool false∧wx=w.alloc (.cells #[.string c.name,.string c.aW,.slice a c.fields.length cap,.slice a2 c.methods.length cap2] 38))
   case first=>
    go_wp2_with fail;refine(eY _ _).mono ?_;rintro e w1 ⟨rfl,rfl⟩;rw[HN.o];cases hs:c.aW.toList.isEmpty
    · have Gw:M.aY c.aW=true:=by
       have:=XH.o;rw[←eH,hs]at this;exact this
      have HS:=Ys Gw;clear Gw;go_wp2_with fail;refine(eY _ _).mono ?_;rintro e w1 ⟨rfl,rfl⟩;rw[HS.o];go_wp2_with fail;go_meet;exact⟨rfl,rfl⟩
    · go_wp2_with fail;go_meet;exact⟨rfl,rfl⟩
   case rest=>
    obtain⟨rfl,rfl⟩:=hcut;rcases HLF.o with h|h
    · go_wp2;go_ret;exact⟨ae HF.o.symm,kx⟩
    · by_cases h':3<c.fields.length
      all_goals
       go_wp2;go_ret;exact⟨ae HF.o.symm,kx⟩
 have acx:c.fields.length≤3:=by omega
 have acy:c.methods.length≤4:=by omega
 clear hlf;have HF:Zs (M.jU c=(xP c 0&&vO c 0)):=Ys (by
  rw[HE.o,HN.o,XH.o,decide_eq_true acx,decide_eq_true acy];rfl)
 go_enter Tryz.func69,Tryz.ntmps69;go_upto_region 1 with(fail);go_cut [25] (fun s25 wx=>s25=.bool false∧wx=w.alloc (.cells #[.string c.name,.string c.aW,.slice a c.fields.length cap,.slice a2 c.methods.length cap2] 38))
 case first=>
  go_wp2_with fail;refine(eY _ _).mono ?_;rintro e w1 ⟨rfl,rfl⟩;rw[HN.o];cases hs:c.aW.toList.isEmpty
  · have Gw:M.aY c.aW=true:=by
     have:=XH.o;rw[←eH,hs]at this;exact this
    have HS:=Ys Gw;clear Gw;go_wp2_with fail;refine(eY _ _).mono ?_;rintro e w1 ⟨rfl,rfl⟩;rw[HS.o];go_wp2_with fail;go_meet;exact⟨rfl,rfl⟩
  · go_wp2_with fail;go_meet;exact⟨rfl,rfl⟩
 case rest =>
  obtain⟨rfl,AB⟩:=hcut;rw[←AB]at aM;rw[←AB]at P0;subst AB;generalize bN:(w.alloc (.cells #[.string c.name,.string c.aW,.slice a c.fields.length cap,.slice a2 c.methods.length cap2] 38))=w0 at*;clear bN;obtain⟨p0,p1,p2,p3⟩:=P0.o.four;simp only[Nat.zero_add]at p1 p2 p3;go_wp2;clear p0 p1 p2 p3;go_loopw [39] (fun i wr=>∃k:Nat,k≤c.fields.length∧i=.int .i64 k∧Ext w0 wr∧Zs (xP c 0=xP c k)) (fun i _=>c.fields.length - (intOf i).toNat)
  case atStart=>exact⟨0,Nat.zero_le _,rfl,Kp.refl _ _,Ys rfl⟩
  case round =>
   obtain⟨k,hk,rfl,hE,HA⟩:=hrel;obtain⟨p0,p1,p2,p3⟩:=(P0.o.ext hE).four;simp only[Nat.zero_add]at p1 p2 p3;have hz:=aS p0;by_cases cK:k<c.fields.length
   · obtain ⟨x, hx⟩ := get_some cK; obtain ⟨b, off, cs, rfl, hI, rfl, -, hc⟩ := h1.get hx; have G := Ys ((hc.ext aM).ext hE); have HX := Ys hx; have qN := Ys (FO hx); clear hx hc; obtain ⟨g0, g1, g2⟩ := G.o.three; cases kP : M.aY x.name
     · have KN:=Ys kP;clear kP;go_wp2_with (go_at_call 25;refine(eY _ _).mono ?_;rintro e w1 ⟨rfl,rfl⟩;rw[KN.o]);go_ret;exact⟨ae (by rw[HF.o,HA.o,qN.o,KN.o];simp),(by repeat (first|assumption|exact Kp.refl _ _|apply Kp.alloc|apply Kp.drew|apply Kp.drewN|refine Kp.trans ?_ (by assumption)))⟩
     have KN:=Ys kP;clear kP;have B1:=az.new wr 72 #[.string x.name,.int .i64 x.kind.kind,.string x.kind.name];go_wp2_with fail;refine(eY _ _).mono ?_;rintro e w1 ⟨rfl,rfl⟩;rw[KN.o];go_wp2_with fail;refine(uX x.kind _).mono ?_;rintro e w1 ⟨rfl,hB⟩;cases pg:M.fV x.kind
     · have BP:=Ys pg;clear pg;go_wp2;go_ret;exact⟨ae (by rw[HF.o,HA.o,qN.o,BP.o];simp),(by repeat (first|assumption|exact Kp.refl _ _|apply Kp.alloc|apply Kp.drew|apply Kp.drewN|refine Kp.trans ?_ (by assumption)))⟩
     have BP:=Ys pg;clear pg;have r2:=hB.Ii p2;have f0:=(B1.ext hB).c 0 _ rfl;have aZ:Ext w0 w1:=(by repeat (first|assumption|exact Kp.refl _ _|apply Kp.alloc|apply Kp.drew|apply Kp.drewN|refine Kp.trans ?_ (by assumption)));have hfz:=aS f0;clear g0 g1 g2 p0 p1 p2 p3;go_wp2;clear r2;obtain⟨wo,rfl⟩:∃wo:World,wo=wr:=⟨_,rfl⟩;go_loopw [59] (fun j wi=>∃q:Nat,q≤k∧j=.int .i64 q∧Ext w1 wi∧Zs (∀j y,c.fields[j]?=some y→j<q→M.Field.name y≠M.Field.name x)) (fun j _=>k - (intOf j).toNat)
     case atStart=>exact⟨0,Nat.zero_le _,rfl,Kp.refl _ _,Ys (fun j y _ h=>absurd h (Nat.not_lt_zero _))⟩
     case round =>
      obtain⟨q,hq,rfl,OH,HQ⟩:=hrel;have e0:=OH.aJ f0;have hei:=aS e0;by_cases ZY:q<k
      · obtain⟨y,hy⟩:=get_some (show q<c.fields.length by omega);obtain⟨b',off',cs',JD, -,rfl, -,OP⟩:=h1.get hy;cases JD;obtain⟨g0,g1,g2⟩:=(((OP.ext aM).ext aZ).ext OH).three;have HY:=Ys hy;clear hy OP;cases jy:(y.name.toList==x.name.toList)
        · have Ib:=Ys jy;go_wp2;go_roundw
          case rel=>
           refine⟨q+1,by omega,by go_num,kx,Ys (fun j z Vq hj=>?_)⟩;by_cases hjq:j<q
           · exact HQ.o j z Vq hjq
           · obtain rfl:j=q:=by omega
             rw[HY.o]at Vq;cases Vq;rw[iI]at jy;simpa using jy
          case measure=>simp[intOf];omega
        · have Ib:=Ys jy;go_wp2;go_ret;rw[iI]at jy;exact⟨ae (by rw[HF.o,HA.o,qN.o,Eg HY.o ZY (by simpa using jy)];simp),(by repeat (first|assumption|exact Kp.refl _ _|apply Kp.alloc|apply Kp.drew|apply Kp.drewN|refine Kp.trans ?_ (by assumption)))⟩
      · obtain rfl:q=k:=by omega
        go_wp2;go_roundw
        case rel=>exact⟨q+1,by omega,by go_num,(by repeat (first|assumption|exact Kp.refl _ _|apply Kp.alloc|apply Kp.drew|apply Kp.drewN|refine Kp.trans ?_ (by assumption))),Ys (by rw[HA.o,qN.o,KN.o,BP.o,Bh HQ.o];rfl)⟩
        case measure=>simp[intOf];omega
   · have HM : Zs (M.jU c = vO c 0) := Ys (by rw [HF.o, HA.o, Jb (by omega)]; rfl); clear HA HF; go_wp2; clear p0 p1 p2 p3; have bY : Ext w wr := aM.trans hE; have P2 := Ys (P0.o.ext hE); clear P0 hE aM hz; obtain ⟨wl, rfl⟩ : ∃ wl : World, wl = wr := ⟨_, rfl⟩; go_loopw [73] (fun i wr => ∃ k : Nat, k ≤ c.methods.length ∧ i = .int .i64 k ∧ Ext wl wr ∧ Zs (vO c 0 = vO c k)) (fun i _ => c.methods.length - (intOf i).toNat)
     case atStart=>exact⟨0,Nat.zero_le _,rfl,Kp.refl _ _,Ys rfl⟩
     case round =>
      clear cK hk;obtain⟨k,hk,rfl,hE,HA⟩:=hrel;obtain⟨p0,p1,p2,p3⟩:=(P2.o.ext hE).four;simp only[Nat.zero_add]at p1 p2 p3;have hz:=aS p0;by_cases cK:k<c.methods.length
      · obtain ⟨x, hx⟩ := get_some cK; obtain ⟨b, off, cs, rfl, hI, HX0, -, hc⟩ := h2.get hx; obtain ⟨ya1, yc1, ya2, yc2, ya3, yc3, rfl⟩ := HX0.form; have HX1 := Ys (aC.stays _ _ _ _ _ _ (Ext.same (bY.trans hE)) (fun _ h => h) HX0); have G := Ys ((hc.ext bY).ext hE); have HX := Ys hx; have qN := Ys (F8 hx); clear hx hc HX0; obtain ⟨g0, g1, g2, g3, g4, g5, g6, g7⟩ := G.o.eight; have B1 := az.new wr 34 #[.string x.name, .slice ya1 x.args.length yc1, .int .i64 x.ret.kind, .string x.ret.name, .int .i64 x.locals, .int .i64 x.stack, .slice ya2 x.code.length yc2, .slice ya3 x.maps.length yc3]; go_wp2_with fail; refine (Vx _ _ _ _ (aC.stays _ _ _ _ _ _ (Ext.same ((Kp.refl _ _).alloc _)) (fun _ h => h) HX1.o)).mono ?_; rintro e w1 ⟨rfl, hB⟩; cases pg : M.mP x
        · have BP:=Ys pg;clear pg;go_wp2;go_ret;exact⟨ae (by rw[HM.o,HA.o,qN.o,BP.o];simp),(by repeat (first|assumption|exact Kp.refl _ _|apply Kp.alloc|apply Kp.drew|apply Kp.drewN|refine Kp.trans ?_ (by assumption)))⟩
        have BP:=Ys pg;clear pg;have r3:=hB.Ii p3;have f0:=(B1.ext hB).c 0 _ rfl;have aZ:Ext wl w1:=(by repeat (first|assumption|exact Kp.refl _ _|apply Kp.alloc|apply Kp.drew|apply Kp.drewN|refine Kp.trans ?_ (by assumption)));have hfz:=aS f0;clear g0 g1 g2 g3 g4 g5 g6 g7 p0 p1 p2 p3;go_wp2;clear r3;obtain⟨wo,rfl⟩:∃wo:World,wo=wr:=⟨_,rfl⟩;go_loopw [86] (fun j wi=>∃q:Nat,q≤k∧j=.int .i64 q∧Ext w1 wi∧Zs (∀j y,c.methods[j]?=some y→j<q→M.Method.name y≠M.Method.name x)) (fun j _=>k - (intOf j).toNat)
        case atStart=>exact⟨0,Nat.zero_le _,rfl,Kp.refl _ _,Ys (fun j y _ h=>absurd h (Nat.not_lt_zero _))⟩
        case round =>
         obtain⟨q,hq,rfl,OH,HQ⟩:=hrel;have e0:=OH.aJ f0;have hei:=aS e0;by_cases ZY:q<k
         · obtain⟨y,hy⟩:=get_some (show q<c.methods.length by omega);obtain⟨b',off',cs',JD, -,hyy, -,OP⟩:=h2.get hy;obtain⟨za1,zc1,za2,zc2,za3,zc3,rfl⟩:=hyy.form;cases JD;clear hyy;obtain⟨g0,g1,g2,g3,g4,g5,g6,g7⟩:=(((OP.ext bY).ext aZ).ext OH).eight;have HY:=Ys hy;clear hy OP;cases jy:(y.name.toList==x.name.toList)
           · have Ib:=Ys jy;go_wp2;go_roundw
             case rel=>
              refine⟨q+1,by omega,by go_num,kx,Ys (fun j z Vq hj=>?_)⟩;by_cases hjq:j<q
              · exact HQ.o j z Vq hjq
              · obtain rfl:j=q:=by omega
                rw[HY.o]at Vq;cases Vq;rw[iI]at jy;simpa using jy
             case measure=>simp[intOf];omega
           · have Ib:=Ys jy;go_wp2;go_ret;rw[iI]at jy;exact⟨ae (by rw[HM.o,HA.o,qN.o,Eg HY.o ZY (by simpa using jy)];simp),(by repeat (first|assumption|exact Kp.refl _ _|apply Kp.alloc|apply Kp.drew|apply Kp.drewN|refine Kp.trans ?_ (by assumption)))⟩
         · obtain rfl:q=k:=by omega
           go_wp2;go_roundw
           case rel=>exact⟨q+1,by omega,by go_num,(by repeat (first|assumption|exact Kp.refl _ _|apply Kp.alloc|apply Kp.drew|apply Kp.drewN|refine Kp.trans ?_ (by assumption))),Ys (by rw[HA.o,qN.o,BP.o,Bh HQ.o];rfl)⟩
           case measure=>simp[intOf];omega
      · go_wp2;go_ret;exact⟨ae (by rw[HM.o,HA.o,Jh (by omega)]),(by repeat (first|assumption|exact Kp.refl _ _|apply Kp.alloc|apply Kp.drew|apply Kp.drewN|refine Kp.trans ?_ (by assumption)))⟩
theorem ku(w:World)(l:au)(p:M.ai)(h:aj w l p)(k:Int):
    Calls Tryz.prog 24 #[.pointer (some ⟨l.L,0,none⟩),.int .i64 k] w fun e w'=>e=.returned (.bool (M.has p k))∧w=w':=by
 obtain⟨a,cap,hs,c0,c1,c2,c3⟩:=h.cells;have d0:=c0 w (Kp.refl _ w);clear hs h c0 c1 c2 c3;go_enter Tryz.func24,Tryz.ntmps24;go_wp2
 · go_ret;exact⟨ae (by unfold M.has;rw[decide_eq_true (p:=0≤k) (by omega)];rfl),rfl⟩
 · go_ret;exact⟨ae (by unfold M.has;rw[decide_eq_false (p:=0≤k) (by omega)];rfl),rfl⟩
def lenOf:Value→Nat| .slice _ n _=>n|_=>0
structure WO(p:M.ai)(n:ByteArray)(k:Int)(f:Nat)(asked:List Int)(cur:Int):Prop where
 fuel:f+asked.length=5
 one:1≤asked.length
 nodup:asked.Nodup
 has:∀q∈asked,M.has p q=true
 last:asked.getLastD 0=cur
 eq:M.path p k n=M.gU p n f asked cur
theorem Hg (w : World) (l : au) (p : M.ai) (h : aj w l p) (k : Int) (n : ByteArray) :
    Calls Tryz.prog 137 #[.pointer (some ⟨l.L,0,none⟩),.int .i64 k,.string n] w fun e w'=>
     (∃v,e=.returned (.tuple #[v,.int .i64 (M.path p k n).2])∧SliceOf 1 kL w' (fun b=>w.heap.size≤b) v (M.path p k n).1)∧Ext w w':=by
 cases hk:M.has p k
 · have HK:=Ys hk;clear hk;have H:=Ys h;clear h;go_enter Tryz.func137,Tryz.ntmps137;go_wp2_with (go_at_call 24;refine(ku _ _ _ H.o _).mono ?_;rintro e w1 ⟨rfl,rfl⟩;rw[HK.o]);go_ret2;refine⟨⟨.slice none 0 0,?_,?_⟩,Kp.refl _ _⟩
   · unfold M.path;rw[HK.o];rfl
   · unfold M.path;rw[HK.o];exact SliceOf.nil _ _ _ _
 · have HK := Ys hk; clear hk; obtain ⟨a, cap, hs, c0, c1, c2, c3⟩ := h.cells; have lo := h.CY; have la := h.CX; have H := Ys h; clear h hs; go_enter Tryz.func137, Tryz.ntmps137; go_wp2_with (go_at_call 24; refine (ku _ _ _ H.o _).mono ?_; rintro e w1 ⟨rfl, rfl⟩; rw [HK.o]); have aM : Ext w (w.alloc (.cells #[.int .i64 k] 3)) := ((Kp.refl _ _).alloc _); go_loopw [1, 8] (fun c s wr => ∃ f cur asked, c = .int .i64 cur ∧ wr.ownsRow w.heap.size 3 1 s asked.length (asked.map fun q => Value.int .i64 q) ∧ Ext w wr ∧ WO p n k f asked cur) (fun c s wr => 5 - (lenOf s))
   case atStart=>
    refine⟨4,k,[k],rfl,?_,aM,⟨rfl,by simp,by simp,by simp[HK.o],rfl,?_⟩⟩
    · exact World.ownsRow_lit (size:=1) w #[.int .i64 k] 1 (Nat.le_refl _) (by unfold maxLen;omega) rfl
    · unfold M.path;rw[if_pos HK.o]
   case round =>
    obtain⟨f,cur,asked,rfl,dI,hE,xB⟩:=hrel;obtain⟨g,cp,rfl,hg,Qm,Zi⟩:=aX dI xB.one;have d1:=c1 wr hE;have d2:=c2 wr hE;have lo':=lo wr hE cur n;have la':=la wr hE cur n;have HA:=Ys xB;have HO:=Ys dI;have hlen:asked.length≤5:=by have:=xB.fuel;omega
    clear xB dI c0 c1 c2 c3 lo la;have hf0:0<f:=by
     have h1:=HA.o.fuel;have h2:=M.Ki HA.o.nodup HA.o.has;have h3:=(M.qV H.o.ok).2;omega
    obtain⟨f,rfl⟩:∃f',f=f'+1:=⟨f - 1,by omega⟩;cases hq:M.sN p cur n with
    | none =>
     rw[hq]at la';simp only[Option.getD_none,Option.isSome_none]at la';have HQ:=Ys hq;clear hq;have bU:M.path p k n=if M.owned p ⟨cur,n⟩then(asked,1)else([],2):=by
      rw[HA.o.eq];unfold M.gU;rw[HQ.o]
     have HS:=Ys bU;clear bU;rw[M.EZ]at lo';cases ho:M.owned p ⟨cur,n⟩
     · rw[ho]at lo';have HW:=Ys ho;clear ho;go_wp2;go_ret2;have e:M.path p k n=([],2):=by rw[HS.o,HW.o];rfl
       rw[e];exact⟨⟨.slice none 0 0,rfl,SliceOf.nil _ _ _ _⟩,hE⟩
     · rw[ho]at lo';have HW:=Ys ho;clear ho;go_wp2;go_ret2;have e:M.path p k n=(asked,1):=by rw[HS.o,HW.o];rfl
       rw[e];exact⟨⟨_,rfl,SliceOf.gT (fun q=>[Value.int .i64 q]) HO.o rfl (NK _ _) (fun _ _=>rfl) (fun _ _=>rfl) (fun b hb _=>hb) (Nat.le_trans hlen (by omega))⟩,hE⟩
    | some next =>
     rw[hq]at la';simp only[Option.getD_some,Option.isSome_some]at la';have HQ:=Ys hq;clear hq lo';have bU:M.path p k n=if asked.contains next then([],3)else M.gU p n f (asked++[next]) next:=by
      rw[HA.o.eq];conv=>lhs;unfold M.gU
      rw[HQ.o]
     have HS:=Ys bU;clear bU;go_wp2;go_loop [36] (fun j=>∃q:Nat,q≤asked.length∧j=.int .i64 q∧Zs (∀i x,asked[i]?=some x→i<q→x≠next)) (fun j=>asked.length - (intOf j).toNat)
     case atStart=>exact⟨0,Nat.zero_le _,rfl,Ys (fun _ _ _ h=>absurd h (Nat.not_lt_zero _))⟩
     case round =>
      obtain⟨q,hq,rfl,HN⟩:=hrel;by_cases ZY:q<asked.length
      · obtain⟨x,hx⟩:=get_some ZY;have tK:wr.cell? ⟨g,q,none⟩=some (.int .i64 x):=by
         rw[HO.o.cellAt q (by omega)];simp[hx]
        have HX:=Ys hx;clear hx;by_cases hxn:x=next
        · subst hxn;go_wp2;go_ret2;have RL:asked.contains x=true:=by simp[List.mem_of_getElem? HX.o]
          have e:M.path p k n=([],3):=by rw[HS.o,if_pos RL]
          rw[e];exact⟨⟨.slice none 0 0,rfl,SliceOf.nil _ _ _ _⟩,hE⟩
        · go_wp2;go_round
          case rel=>
           refine⟨q+1,by omega,by go_num,Ys (fun i y hi cK=>?_)⟩;by_cases hiq:i<q
           · exact HN.o i y hi hiq
           · obtain rfl:i=q:=by omega
             rw[HX.o]at hi;cases hi;exact hxn
          case measure=>simp[intOf];omega
      · go_wp2_with (at_builtin;refine mU yl _ rfl _ _ rfl w.heap.size _ _ _ rfl (HO.o.alloc _) wr.heap.size 1 [.int .i64 next] rfl rfl ?c1 ?c2 ?c3 ?c4 ?_)
        case c1=>exact af.zl (az.new _ _ _) _ rfl
        case c2=>simp[Value.oneCell']
        case c3=>omega
        case c4=>have:=hE.size;simp;omega
        obtain rfl:q=asked.length:=by omega
        intro v' w' vZ hK g1 cp1 hv1 IL yI;subst hv1;have xU:=Ys vZ;have Ah:=Ys hK;clear vZ hK;go_wp2;go_roundw
        case rel =>
         refine⟨f,next,asked++[next],rfl,by simpa using xU.o,?_,?_⟩
         · refine(hE.alloc _).own Ah.o ?_;intro b hb;simp only[Value.ownBlock,Option.some.injEq]at hb;omega
         · have RL:asked.contains next=false:=by
            cases hc:asked.contains next
            · rfl
            · rw[List.contains_iff_mem]at hc;obtain⟨i,hi⟩:=List.mem_iff_getElem?.1 hc;exact absurd rfl (HN.o i next hi (List.getElem?_eq_some_iff.1 hi).1)
           refine⟨by have:=HA.o.fuel;simp;omega,by simp,?_,?_,by simp,by rw[HS.o,RL];rfl⟩
           · rw[List.nodup_append];refine⟨HA.o.nodup,by simp,fun a ha b hb e=>?_⟩;simp only[List.mem_singleton]at hb;subst hb e;have:=List.contains_iff_mem.2 ha;rw[RL]at this;cases this
           · intro q hq;rcases List.mem_append.1 hq with hq|hq
             · exact HA.o.has q hq
             · rw[List.mem_singleton]at hq;subst hq;exact M.GD H.o.ok HQ.o
        case measure=>have:=HA.o.fuel;simp[lenOf];omega
theorem Kq{p:M.ai}{k:Int}{n:ByteArray}(h:(M.path p k n).2=1):(M.path p k n).1≠[]:=by
 have go:∀f (asked:List Int) k,asked≠[]→(M.gU p n f asked k).2=1→(M.gU p n f asked k).1≠[]:=by
  intro f;induction f with
  |zero=>intro asked k _ h;simp[M.gU]at h
  |succ f ih=>
   intro asked k ha h;unfold M.gU at h ⊢;split at h
   · split at h
     · rename_i h1 h2;simp[h2,ha]
     · simp at h
   · rename_i next h1
     split at h
     · simp at h
     · rename_i h2;rw[if_neg h2];exact ih _ _ (by simp) h
 unfold M.path at h ⊢;split at h
 · rename_i hk;rw[if_pos hk];exact go _ _ _ (by simp) h
 · simp at h
theorem rJ(w:World)(l:au)(p:M.ai)(h:aj w l p)(k:Int)(n:ByteArray):
    Calls Tryz.prog 112 #[.pointer (some ⟨l.L,0,none⟩),.int .i64 k,.string n] w fun e w'=>
     e=.returned (.tuple #[.agg #[.int .i64 (M.resolve p k n).1.keeper,.string (M.resolve p k n).1.name],.int .i64 (M.resolve p k n).2])∧Ext w w':=by
 have H:=Ys (h.ext ((Kp.refl _ w).alloc (.cells #[.int .i64 0,.string ⟨#[]⟩] 51)));clear h;have b0:=az.new w 51 #[.int .i64 0,.string ⟨#[]⟩];have aM:Ext w (w.alloc (.cells #[.int .i64 0,.string ⟨#[]⟩] 51)):=((Kp.refl _ _).alloc _);go_enter Tryz.func112,Tryz.ntmps112;go_wp2_with fail;refine(Hg _ _ _ H.o _ _).mono ?_;rintro e w1 ⟨⟨v,rfl,hs⟩,hB⟩;have b1:=b0.ext hB;have c0:=b1.c 0 (.int .i64 0) rfl;have c1:=b1.c 1 (.string ⟨#[]⟩) rfl;have f0:=b1.frozen 0;have f1:=b1.frozen 1;by_cases hc:(M.path p k n).2=1
 · have jy:=Kq hc;obtain⟨a,cap,hv,hn,acE⟩:=hs.form;subst hv;have hl:0<(M.path p k n).1.length:=List.length_pos_iff.2 jy;obtain⟨x,hx⟩:=get_some (l:=(M.path p k n).1) (k:=(M.path p k n).1.length - 1) (by omega);obtain⟨b,off,cs,rfl,hI,rfl, -,gI⟩:=hs.get hx;have g0:=gI.one;rw[Nat.mul_one]at g0;have hR:Zs (M.resolve p k n=(⟨x,n⟩,1)):=Ys (by
    unfold M.resolve;rw[if_pos hc,List.getLastD_eq_getLast?,List.getLast?_eq_getElem?,hx];rfl)
   rw[hc];clear hx hs jy gI hc;generalize (M.path p k n).1.length=m at*;go_wp2;refine bodyPost_ret (v:=.tuple #[.agg #[.int .i64 x,.string n],.int .i64 1]) (by simp[results,Tryz.results112,go_sem,c0,c1]) rfl ?_;exact⟨by rw[hR.o],(by repeat (first|with_reducible assumption|with_reducible exact Kp.refl _ _|apply Kp.alloc|apply Kp.drew|apply Kp.drewN|refine Kp.setCell ?_ (fun h=>absurd h (by simp<;>omega)) _|assumption|refine Kp.trans ?_ (by assumption)|exact Kp.refl _ _))⟩
 · have hR:Zs (M.resolve p k n=(M.lv,(M.path p k n).2)):=Ys (by unfold M.resolve;rw[if_neg hc]);have sH:((M.path p k n).2==1)=false:=beq_eq_false_iff_ne.2 hc;obtain⟨a,cap,hv,hn,acE⟩:=hs.form;subst hv;clear hs hc;generalize (M.path p k n).2=c at*;generalize (M.path p k n).1.length=m at*;go_wp2;refine bodyPost_ret (v:=.tuple #[.agg #[.int .i64 0,.string ⟨#[]⟩],.int .i64 c]) (by simp[results,Tryz.results112,go_sem,c0,c1]) rfl ?_;exact⟨by rw[hR.o];rfl,(by repeat (first|with_reducible assumption|with_reducible exact Kp.refl _ _|apply Kp.alloc|apply Kp.drew|apply Kp.drewN|refine Kp.setCell ?_ (fun h=>absurd h (by simp<;>omega)) _|assumption|refine Kp.trans ?_ (by assumption)|exact Kp.refl _ _))⟩
theorem fP{P:Program}{Q:Exit→Act→World→Prop}{w:World}{id:Nat}{l:List Oper}{a:Act}(n:Nat)(hm:P.follows .mixedOrders=true)(hB:Region.lexTailB .any l.toArray n=true)
    (h:wpStill P l.toArray w.drew (fun a'=>wpList P l.toArray Q (l.drop n) a' w.drew) (l.take n) a):(Code.region id l.toArray true).wp P Q a w:=wp_region_still_tail n hm hB h
theorem kT(w:World)(l:au)(p:M.ai)(h:aj w l p)(k:Int)(n:ByteArray)(c:M.Class)(GI:M.cls? p ⟨k,n⟩=some c):
    Calls Tryz.prog 35 #[.pointer (some ⟨l.L,0,none⟩),.agg #[.int .i64 k,.string n]] w fun e w'=>
     (∃cs,aL w (· <l.O) c cs∧e=.returned (.agg cs.toArray))∧Ext w w':=by
 obtain⟨q,i,hq,hi,ZX,Zx⟩:=M.uN GI;obtain⟨uG,pg⟩:=M.Cb GI;simp only at uG pg;obtain⟨k,rfl⟩:=Int.eq_ofNat_of_zero_le uG;have gD:p[k]?=some q:=by
  unfold M.iq at hq;rw[if_pos uG]at hq;exact hq
 obtain⟨a,cap,hs,c0,c1,c2,c3⟩:=h.cells;have lo:=h.Nv;obtain⟨b,off,cs,rfl,hI,GL, -,hc⟩:=hs.get gD;obtain⟨vo,va,rfl,s1,s2⟩:=GL;obtain⟨a1,abV,rfl,kP,l8⟩:=s1.form;obtain⟨b1,acU,cs1,rfl,YK,ek, -,gI⟩:=s1.get ZX;obtain⟨y1,z1,y2,z2,rfl⟩:=ek.form;obtain⟨g0,g1⟩:=hc.two;obtain⟨e0,e1,e2,e3⟩:=gI.four;have l1:∀W,Ext w W→(Instr.lookup 92 (.map (some l.O)) (.agg #[.int .i64 (k:Int),.string n]) false).run Tryz.prog W=.ok (.int .i64 i) W:=by
  intro W hW;rw[lo W hW,hi];rfl
 have hp3:(p.length:Int)≤3:=by have:=(M.qV h.ok).2;omega
 have l2:=fun(X Y:Obj)=>l1 _ ((((Kp.refl _ w).alloc X).alloc Y).drew);clear l1;have zR:=Ys ek;have hbw:=aS g0;have ach:=aS e0;have Wn:=h.lt;have d0:=c0 _ (Kp.refl _ w);have d1:=c1 _ (Kp.refl _ w);have hO:=h.ord;clear lo ek hs s1 s2 hc gI c0 c1 c2 c3 gD ZX hq hi GI h;have ZA:k<p.length:=by omega
 clear uG pg;go_enter Tryz.func35,Tryz.ntmps35;go_wp2;(refine fP 17 (by kernel_rfl) (by kernel_rfl) ?_);(simp only[List.take_succ_cons,List.take_zero,List.drop_succ_cons,List.drop_zero]);(repeat still_step);(refine wpStill_nil ?_);go_wp2;refine bodyPost_ret (v:=.agg #[.string c.name,.string c.aW,.slice y1 c.fields.length z1,.slice y2 c.methods.length z2]) (by simp[results,Tryz.results35,go_sem]) rfl ?_;exact⟨⟨_,zR.o,rfl⟩,kx⟩
def Iter{α:Type}(P:Program)(gf:Nat)(lb:Array Value)(encs:α→Array Value)(Ae Bd:Nat→Prop)(S Sp O1:List α→Prop)(Px:World→Prop)(Nx:List α→α→Prop:=fun _ _=>True):Prop:=
 ∀(l:Nat) (J Jx:List α→World→Prop) (W:World),Px W→(∀s A B,J s A→Kp Ae A B→J s B)→(∀s A B,Jx s A→Kp Ae A B→Jx s B)→(∀s A,J s A→O1 s)→
  (∀pre x W1,Nx pre x→J pre W1→YieldAt Fence.wide 8 P l (encs x) W1 fun e W'=>Kp Bd W1 W'∧((e=.returned (.bool true)∧J (pre++[x]) W')∨(e=.returned (.bool false)∧Jx (pre++[x]) W')))→
  J [] W→CallsIn Fence.wide 9 P gf (#[.func (.yield l) #[] #[]]++lb) W fun e W'=>(∃v,e=.returned v)∧((∃xs,S xs∧J xs W')∨(∃pre,Sp pre∧Jx pre W'))
def roundEnd{α:Type}(Bb:Nat→Prop)(I:List α→World→Prop)(Ix:Code→List α→World→Prop)(xs:List α)(W:World):Exit→Act→World→Prop
 | .normal,_,W'=>Kp Bb W W'∧I xs W'
 | .ret,_,W'=>Kp Bb W W'∧Ix .ret xs W'
 | .exit id,_,W'=>Kp Bb W W'∧Ix (.exit id) xs W'
 | .goto t,_,W'=>Kp Bb W W'∧Ix (.goto t) xs W'
 | .panic _,_,_=>False
 | .outgrown,_,_=>False
theorem Kp.putObj(W:World)(l:Nat)(o:Obj):Kp (·=l) W (W.putObj l o):=
 ⟨rfl,rfl,rfl,by simp,fun _ _ h=>World.putObj_heap_other h⟩
theorem zo {α : Type} {P : Program} {g : Operand} {ps : Array Tmp} {assign body : Code} {Q : Exit → Act → World → Prop} {a : Act} {w : World} {gf : Nat} {lb : Array Value}
    (hg:a.eval g=.func (.func gf) #[] lb) (eg:∀args w,(callFunc gf args).run P w=.ok (.enter gf args) w) {encs:α→Array Value} (hps:∀x,(encs x).size=ps.size)
    {S Sp O1:List α→Prop} {Ae Bb:Nat→Prop} {Px:World→Prop} {Nx:List α→α→Prop} (Vm:Iter P gf lb encs Ae (fun k=>Bb k∨k=w.heap.size+1) S Sp O1 Px Nx)
    (hIt:∀W,Ext w W→Px W) (hD1:¬Ae w.heap.size) (hD2:¬Ae (w.heap.size+1)) (hB1:¬Bb w.heap.size) (hB2:¬Bb (w.heap.size+1))
    (I:List α→World→Prop) (Ix:Code→List α→World→Prop)
    (hI:∀s A B,I s A→Kp (fun k=>Ae k∨k=w.heap.size+1) A B→I s B) (hIx:∀c s A B,Ix c s A→Kp (fun k=>Ae k∨k=w.heap.size+1) A B→Ix c s B) (h0:I [] w) (hIB:∀s A,I s A→O1 s)
    (Ax:List α→α→World→Act→World→Prop)
    (hassign:∀(pre:List α) (x:α) (W:World) (K:Act→World→Prop),Nx pre x→I pre W→w.heap.size+1<W.heap.size→(∀a₁ W₁,Ax pre x W a₁ W₁→K a₁ W₁)→
     assign.wpIn (Fence.wide.inRound (w.heap.size+1)) 8 P (Exit.then K (fun _ _ _=>False)) {tmps:=(ps.zip (encs x)).foldl (fun t (p,v)=>t.setIfInBounds p v) a.tmps,defers:=[]} W)
    (hAx:∀pre x W a₁ W₁,Ax pre x W a₁ W₁→Kp Bb W W₁)
    (hbody:∀(pre:List α) (x:α) (W:World) (a₁:Act) (W₁ W₂:World),Ax pre x W a₁ W₁→Kp (·=w.heap.size+1) W₁ W₂→W₂.heap.size=W₁.heap.size→
     body.wpIn (Fence.wide.inRound (w.heap.size+1)) 8 P (roundEnd Bb I Ix (pre++[x]) W₂) a₁ W₂)
    (hdone:∀(xs:List α) (W:World),S xs→I xs W→W.heap[w.heap.size]?=some (.deferred (some []))→Q .normal {a with defers:={target:=.collected w.heap.size,args:=#[]}::a.defers} W)
    (hstop:∀(c:Code) (pre:List α) (W:World),Sp pre→Ix c pre W→W.heap[w.heap.size]?=some (.deferred (some []))→c.wpIn Fence.wide 10 P Q {a with defers:={target:=.collected w.heap.size,args:=#[]}::a.defers} W):
    (Code.rangeFunc g ps assign body).wpIn Fence.wide 10 P Q a w:=by
 refine wpIn_rangeFunc ?_;intro fn FE;show∃l mark w₁ d w₁' f args w₂,(Instr.enterLoop fn a.tmps ps assign body none).run P w=_∧_
 obtain⟨rec,oC⟩:∃rec:LoopState→Option Code→Loop,rec=fun st pe=>{state:=st,pending:=pe,fn,tmps:=a.tmps,params:=ps,assign,body,defers:=w.heap.size}:=⟨_,rfl⟩;obtain⟨W1,Cw⟩:∃W1,(w.alloc (.deferred (some []))).alloc (.loop (rec .ready none))=W1:=⟨_,rfl⟩;have vV:W1.heap[w.heap.size+1]?=some (.loop (rec .ready none)):=by
  rw[←Cw];have:=World.alloc_heap_new (w.alloc (.deferred (some []))) (.loop (rec .ready none));rwa[World.size_alloc]at this
 have j3:W1.heap[w.heap.size]?=some (.deferred (some [])):=by
  rw[←Cw];exact(Below.heap_alloc _ _ _ (by simp)).trans (World.alloc_heap_new w _)
 have aZ:Ext w W1:=by rw[←Cw];exact((Kp.refl _ _).alloc _).alloc _
 have YK:I [] W1:=hI _ _ _ h0 aZ.any;have keep:∀{D:Nat→Prop} {A B:World} {o:Obj} {k:Nat},Kp D A B→¬D k→A.heap[k]?=some o→B.heap[k]?=some o:=fun h hd ho=>
  (h.block _ (Array.getElem?_eq_some_iff.1 ho).1 hd).trans ho
 refine⟨w.heap.size+1,[{target:=.collected w.heap.size,args:=#[]}],W1,{target:=.fn (.func gf) lb,args:=#[.func (.yield (w.heap.size+1)) #[] #[]]},W1,gf,
  #[.func (.yield (w.heap.size+1)) #[] #[]]++lb,W1,?_,?_,?_,?_,fun h=>by simp[Fence.wide]at h,?_⟩
 · rw[←Cw,oC];exact run_enterLoop_outer _ _ _ _ _
 · simp only[resolve,hg];simp[go_sem]
 · intro f' _;trivial
 · simp[invoke,go_sem,eg]
 · refine(Vm (w.heap.size+1)
    (fun pre W=>I pre W∧W.heap[w.heap.size+1]?=some (.loop (rec .ready none))∧W.heap[w.heap.size]?=some (.deferred (some [])))
    (fun pre W=>∃c,Ix c pre W∧W.heap[w.heap.size+1]?=some (.loop (rec .done (some c)))∧W.heap[w.heap.size]?=some (.deferred (some [])))
    W1 (hIt _ aZ)
    (fun s A B hs hk=>⟨hI s A B hs.1 (hk.weak fun _ _ h=>.inl h),keep hk hD2 hs.2.1,keep hk hD1 hs.2.2⟩)
    (fun s A B hs hk=>by
     obtain⟨c,hc,hl,hd⟩:=hs;exact⟨c,hIx c s A B hc (hk.weak fun _ _ h=>.inl h),keep hk hD2 hl,keep hk hD1 hd⟩)
    (fun s A hs=>hIB s A hs.1) ?_ ⟨YK,vV,j3⟩).mono ?_
   · rintro pre x W OU ⟨hi,hl,hk⟩;have cK:w.heap.size+1<W.heap.size:=(Array.getElem?_eq_some_iff.1 hl).1;have hy:=run_yield (P:=P) (args:=encs x) hl (by rw[oC];exact hps x);rw[oC]at hy;refine⟨fn,_,assign,body,hy,roundIn_of_wpIn FE (hassign pre x W _ OU hi cK ?_)⟩;intro a₁ W₁ Y3;have gD:=hAx _ _ _ _ _ Y3;have yI:W₁.heap[w.heap.size+1]?=some (.loop (rec .ready none)):=keep gD hB2 hl;have pg:W₁.heap[w.heap.size]?=some (.deferred (some [])):=keep gD hB1 hk;refine⟨_,run_beginRound yI (by rw[oC]),?_⟩;have U8:w.heap.size+1<W₁.heap.size:=(Array.getElem?_eq_some_iff.1 yI).1;have DD:(W₁.putObj (w.heap.size+1) (.loop {rec .ready none with state:=.busy})).heap[w.heap.size+1]?=some (.loop {rec .ready none with state:=.busy}):=World.putObj_heap_same U8;have pq:(W₁.putObj (w.heap.size+1) (.loop {rec .ready none with state:=.busy})).heap[w.heap.size]?=some (.deferred (some [])):=(World.putObj_heap_other (by omega)).trans pg;refine wpIn_mono (hbody pre x W a₁ W₁ _ Y3 (Kp.putObj _ _ _) (by simp)) ?_;have tY:∀(W3:World),Kp Bb (W₁.putObj (w.heap.size+1) (.loop {rec .ready none with state:=.busy})) W3→∀o,Kp (fun k=>Bb k∨k=w.heap.size+1) W (W3.putObj (w.heap.size+1) o):=fun W3 h3 o=>
      (((gD.weak fun _ _ h=>.inl h).trans ((Kp.putObj _ _ _).weak fun _ _ h=>.inr h)).trans (h3.weak fun _ _ h=>.inl h)).trans ((Kp.putObj _ _ _).weak fun _ _ h=>.inr h)
     have fin:∀(jump:Option Code) (W3:World),Kp Bb (W₁.putObj (w.heap.size+1) (.loop {rec .ready none with state:=.busy})) W3→
         (Instr.endRound (w.heap.size+1) jump).run P W3=.ok (.bool jump.isNone) (W3.putObj (w.heap.size+1) (.loop (rec (if jump.isNone then .ready else .done) jump)))∧
         (W3.putObj (w.heap.size+1) (.loop (rec (if jump.isNone then .ready else .done) jump))).heap[w.heap.size+1]?=some (.loop (rec (if jump.isNone then .ready else .done) jump))∧
         (W3.putObj (w.heap.size+1) (.loop (rec (if jump.isNone then .ready else .done) jump))).heap[w.heap.size]?=some (.deferred (some [])):=fun jump W3 ow=>by
      have U5:=keep ow hB2 DD;have:=run_endRound (P:=P) jump U5;rw[oC]at this ⊢;exact⟨this,World.putObj_heap_same (Array.getElem?_eq_some_iff.1 U5).1,(World.putObj_heap_other (by omega)).trans (keep ow hB1 pq)⟩
     have tr:∀(W3:World) (o:Obj),Kp (fun k=>Ae k∨k=w.heap.size+1) W3 (W3.putObj (w.heap.size+1) o):=fun W3 o=>(Kp.putObj _ _ _).weak fun _ _ h=>.inr h;rintro e a3 W3 hp;cases e with
     |normal=>
      obtain⟨ow,Eu⟩:=hp;obtain⟨hr,GM,GK⟩:=fin none W3 ow;exact⟨_,_,hr,tY _ ow _,.inl ⟨rfl,hI _ _ _ Eu (tr _ _),GM,GK⟩⟩
     |ret=>
      obtain⟨ow,Eu⟩:=hp;obtain⟨hr,GM,GK⟩:=fin (some .ret) W3 ow;exact⟨_,_,hr,tY _ ow _,.inr ⟨rfl,.ret,hIx _ _ _ _ Eu (tr _ _),GM,GK⟩⟩
     |exit id=>
      obtain⟨ow,Eu⟩:=hp;obtain⟨hr,GM,GK⟩:=fin (some (.exit id)) W3 ow;exact⟨_,_,hr,tY _ ow _,.inr ⟨rfl,.exit id,hIx _ _ _ _ Eu (tr _ _),GM,GK⟩⟩
     |goto t=>
      obtain⟨ow,Eu⟩:=hp;obtain⟨hr,GM,GK⟩:=fin (some (.goto t)) W3 ow;exact⟨_,_,hr,tY _ ow _,.inr ⟨rfl,.goto t,hIx _ _ _ _ Eu (tr _ _),GM,GK⟩⟩
     |panic ch=>exact hp.elim
     |outgrown=>exact hp.elim
   · rintro e W2 ⟨⟨v,rfl⟩,(⟨xs,hS,hi,hl,hk⟩|⟨pre,YX,c,hi,hl,hk⟩)⟩
     · exact⟨none,_,by have:=run_endLoop (P:=P) hl (by rw[oC];simp);rw[oC]at this;exact this,
        hdone xs _ hS (hI _ _ _ hi ((Kp.putObj _ _ _).weak fun _ _ h=>.inr h)) ((World.putObj_heap_other (by omega)).trans hk)⟩
     · exact⟨some c,_,by have:=run_endLoop (P:=P) hl (by rw[oC];simp);rw[oC]at this;exact this,
        hstop c pre _ YX (hIx _ _ _ _ hi ((Kp.putObj _ _ _).weak fun _ _ h=>.inr h)) ((World.putObj_heap_other (by omega)).trans hk)⟩
end Go.Proofs.YtohpiobncgafeaaGreatDoor
namespace Go.Proofs.YtohpiobncgafeaaGreatDoor
open Go Go.RowKit
attribute [local go_sem] Oper.semAt_some
theorem EG(w:World)(L:Addr)(k:Int)(n:ByteArray):
    Calls Tryz.prog 138 #[.pointer (some L),.agg #[.int .i64 k,.string n]] w fun e w'=>
     e=.returned (.func (.func 146) #[] #[.pointer (some ⟨w.heap.size+1,0,none⟩),.pointer (some ⟨w.heap.size,0,none⟩)])∧
     w'=(w.alloc (.cells #[.pointer (some L)] 73)).alloc (.cells #[.int .i64 k,.string n] 51):=by
 go_enter Tryz.func138,Tryz.ntmps138;go_wp2;go_ret;exact⟨rfl,rfl⟩
def items(p:M.ai):Nat→M.Ref→List (Option M.Ref)
 |0,_=>[]
 |n+1,r=>some r::(if M.aW p r=M.none_ then []else if(M.resolve p r.keeper (M.aW p r)).2=1 then items p n (M.resolve p r.keeper (M.aW p r)).1 else [none])
def tq:Option M.Ref→Array Value
 |some r=>#[.agg #[.int .i64 r.keeper,.string r.name],.bool true]
 |none=>#[.agg #[.int .i64 0,.string M.none_],.bool false]
theorem eD{p:M.ai}{k:Int}{n:ByteArray}(h:(M.resolve p k n).2=1):∃c,M.cls? p (M.resolve p k n).1=some c:=M.eD h
theorem Ga (l : au) (p : M.ai) (r0 : M.Ref) (Rb Lb : Nat) (Bd : Nat → Prop) (hBd : ∀ k, Bd k → l.L < k ∧ k ≠ Rb ∧ k ≠ Lb) (hRL : Rb ≠ Lb) (hR : l.L < Rb) (N : Nat) (dI : ∃ c, M.cls? p r0 = some c) :
    Iter Tryz.prog 146 #[.pointer (some ⟨Rb,0,none⟩),.pointer (some ⟨Lb,0,none⟩)] tq (·=Rb) Bd
     (fun xs=>∀n,items p (xs.length+n) r0=xs) (fun pre=>∃n rest,items p n r0=pre++rest) (fun s=>s.length≤N)
     (fun W=>aj W l p∧az W Rb 51 #[.int .i64 r0.keeper,.string r0.name]∧az W Lb 73 #[.pointer (some ⟨l.L,0,none⟩)]):=by
 intro lp J Jx W ⟨Gz,hbR,hbL⟩ hJ RG hN hY YL;refine callsIn_of_wp Tryz.func146 rfl trivial ?_ rfl;simp only[Tryz.ntmps146,List.size_toArray,List.length_cons,List.length_nil,Nat.reduceAdd,Nat.reduceSub,Array.replicate_succ,Array.replicate_zero,List.push_toArray,List.append_toArray,List.nil_append,List.cons_append];gi_wp2;gi_loopg [4] (N+1) (fun m _ wr=>∃(pre:List (Option M.Ref)) (r:M.Ref),m+pre.length=N+1∧J pre wr∧aj wr l p∧az wr Rb 51 #[.int .i64 r.keeper,.string r.name]∧az wr Lb 73 #[.pointer (some ⟨l.L,0,none⟩)]∧
     Zs (∀n,items p (pre.length+n) r0=pre++items p n r)∧Zs (∃c,M.cls? p r=some c))
 case atStart=>exact⟨[],r0,by simp,YL,Gz,hbR,hbL,Ys (by simp),Ys dI⟩
 case round =>
  obtain⟨pre,r,hm,hj,hl,hb,Wn,HI,HO⟩:=hrel;have hlen:=hN _ _ hj;obtain⟨c,hc⟩:=HO.o;obtain⟨fn,tmps,assign,body,hy,hR⟩:=hY pre (some r) wr trivial hj;simp only[tq]at hy hR;have r0':=hb.c 0 (.int .i64 r.keeper) rfl;have r1':=hb.c 1 (.string r.name) rfl;have l0':=Wn.c 0 (.pointer (some ⟨l.L,0,none⟩)) rfl;have HL:=Ys hl;have HB:=Ys (And.intro hb Wn);have HY:=Ys hY;have HJ:=Ys (And.intro hJ RG);have HH:=Ys (And.intro hBd (And.intro Gz (And.intro hbR hbL)));have HC:=Ys hc;clear hl hb Wn hY hJ RG hBd Gz hbR hbL hc hN;gi_wp2_with fail;refine hR.mono ?_;rintro e W1 ⟨gD,(⟨rfl,OQ⟩|⟨rfl,Zz⟩)⟩
  · have RZ : ∀ k, k ≤ l.L → ¬ Bd k := fun k hk hb => absurd (HH.o.1 k hb).1 (by omega); have yI := HL.o.kp gD RZ; have p8 := HB.o.1.kp gD (fun hb => (HH.o.1 _ hb).2.1 rfl); have UU := HB.o.2.kp gD (fun hb => (HH.o.1 _ hb).2.2 rfl); have q0 := p8.c 0 (.int .i64 r.keeper) rfl; have q1 := p8.c 1 (.string r.name) rfl; have q2 := UU.c 0 (.pointer (some ⟨l.L, 0, none⟩)) rfl; have FW := Ys yI; have BJ := Ys (And.intro p8 UU); have HK := Ys (And.intro gD RZ); clear yI p8 UU gD RZ r0' r1' l0' hy hR; gi_wp2_with fail; refine ⟨trivial, ?_⟩; refine (callsIn_wide.2 (kT _ _ _ FW.o _ _ _ HC.o)).mono ?_; rintro e W2 ⟨⟨cs, ek, rfl⟩, bY⟩; obtain ⟨y1, z1, y2, z2, rfl⟩ := ek.form; have s0 := bY.aJ q0; have s1 := bY.aJ q1; have s2 := bY.aJ q2; have FD : ∀ W, (Instr.field 38 (.agg #[.string c.name, .string c.aW, .slice y1 c.fields.length z1, .slice y2 c.methods.length z2]) 1).run Tryz.prog W = .ok (.string c.aW) W := fun W => by kernel_rfl
    have yN:M.aW p r=c.aW:=by unfold M.aW;rw[HC.o];rfl
    by_cases hs:c.aW.toList.isEmpty=true
    · gi_wp2_with fail;((try simp only[Exit.inBlock,Exit.then]);(first|refine bodyPost_ret (results_none rfl _ _ _) rfl ?_|refine bodyPost_end (results_none rfl _ _ _) rfl ?_));refine⟨⟨_,rfl⟩,.inl ⟨pre++[some r],fun n=>?_,HJ.o.1 _ _ _ OQ bY.any⟩⟩;rw[List.length_append,Nat.add_assoc,HI.o];congr 1;show items p (1+n) r=[some r]
      rw[Nat.add_comm];unfold items;rw[yN,if_pos (by rw[eH]at hs;simpa using hs)]
    · have Sc:c.aW.toList.isEmpty=false:=by simpa using hs
      have HS:Zs (∀n,items p (n+1) r=some r::if(M.resolve p r.keeper c.aW).2=1 then items p n (M.resolve p r.keeper c.aW).1 else [none]):=Ys (by
       intro n;conv=>lhs;unfold items
       rw[yN,if_neg (by rw[eH]at Sc;simpa using Sc)])
      have zR:=Ys ek;have jC:=Ys bY;have DD:=FW.o.ext bY;have zT:=Ys DD;clear hs yN ek bY DD q0 q1 q2;gi_wp2_with fail;refine⟨trivial,?_⟩;refine(callsIn_wide.2 (rJ _ _ _ zT.o _ _)).mono ?_;rintro e W3 ⟨rfl,dA⟩;have u0:=dA.aJ s0;have u1:=dA.aJ s1;have u2:=dA.aJ s2;have Wm:=((BJ.o.1.ext jC.o).ext dA);have Zc:=((BJ.o.2.ext jC.o).ext dA);have f0:=Wm.frozen 0;have f1:=Wm.frozen 1;have hzR:=Wm.lt;have hj3:J (pre++[some r]) W3:=HJ.o.1 _ _ _ OQ ((jC.o.any).trans dA.any);have gW:=Ys (And.intro Wm Zc);have KL:=Ys (zT.o.ext dA);have iL:=Ys dA;have HJ3:=Ys hj3;clear Wm Zc dA hj3 s0 s1 s2 OQ hj;by_cases qp:(M.resolve p r.keeper c.aW).2=1
      · obtain⟨c',sH⟩:=eD qp;have HN:Zs (∀n,items p (n+1) r=some r::items p n (M.resolve p r.keeper c.aW).1):=Ys (by
         intro n;rw[HS.o,if_pos qp])
        rw[qp];clear qp;generalize (M.resolve p r.keeper c.aW).1=nx at*;have HC':Zs (∃c,M.cls? p nx=some c):=Ys ⟨c',sH⟩;clear sH;gi_wp2_with fail;gi_roundg (gk - 1)
        case measure=>omega
        case rel=>
         have hk:Kp (·=Rb) W3 (((W3.setCell ⟨Rb,0,none⟩ (.int .i64 nx.keeper)).setCell ⟨Rb,1,none⟩ (.string nx.name)).alloc (.cells #[.int .i64 nx.keeper,.string nx.name] 51)):=
          (((Kp.refl (·=Rb) W3).setCell (p:=⟨Rb,0,none⟩) (fun _=>rfl) _).setCell (p:=⟨Rb,1,none⟩) (fun _=>rfl) _).alloc _
         refine⟨pre++[some r],nx,by simp;omega,HJ.o.1 _ _ _ HJ3.o hk,KL.o.kp hk (fun k GL e=>by omega),?_,gW.o.2.kp hk (fun e=>hRL e.symm),Ys (fun n=>?_),HC'⟩
         · exact((gW.o.1.bA 0 (.int .i64 nx.keeper)).bA 1 (.string nx.name)).ext ((Kp.refl _ _).alloc _)
         · rw[List.length_append,Nat.add_assoc,HI.o,Nat.add_comm,show [some r].length=1 from rfl,HN.o,List.append_assoc];rfl
      · have HN:Zs (∀n,items p (n+2) r=[some r,none]):=Ys (by
         intro n;rw[HS.o (n+1),if_neg qp])
        have aci:((M.resolve p r.keeper c.aW).2==1)=false:=beq_eq_false_iff_ne.2 qp;have Nb:M.resolve p r.keeper c.aW=(M.lv,(M.resolve p r.keeper c.aW).2):=by
         unfold M.resolve at qp ⊢;split
         · rename_i h1;rw[if_pos h1]at qp;exact absurd rfl qp
         · rfl
        rw[Nb];have hj4:=HJ.o.1 _ _ _ HJ3.o (((Kp.refl _ W3).alloc (.cells #[.int .i64 0,.string ⟨#[]⟩] 51)):Kp (·=Rb) W3 _);obtain⟨fn2,adk,aaM,ac8,hy2,hR2⟩:=HY.o (pre++[some r]) none _ trivial hj4;simp only[tq]at hy2 hR2;have OD:=Ys hR2;clear Nb qp hj4 hR2;generalize (M.resolve p r.keeper c.aW).2=code at*;simp only[M.lv];gi_wp2_with fail;refine OD.o.mono ?_;have oq:∀n,items p ((pre++[some r]++[none]).length+n) r0=pre++[some r]++[none]:=by
         intro n;rw[List.length_append,List.length_append,Nat.add_assoc,Nat.add_assoc,HI.o,show [some r].length+([none (α:=M.Ref)].length+n)=n+2 from by simp;omega,HN.o,List.append_assoc];rfl
        rintro e W5 ⟨adO,(⟨rfl,hj5⟩|⟨rfl,acp⟩)⟩
        · gi_wp2_with fail;((try simp only[Exit.inBlock,Exit.then]);(first|refine bodyPost_ret (results_none rfl _ _ _) rfl ?_|refine bodyPost_end (results_none rfl _ _ _) rfl ?_));exact⟨⟨_,rfl⟩,.inl ⟨pre++[some r]++[none],oq,hj5⟩⟩
        · gi_wp2_with fail;((try simp only[Exit.inBlock,Exit.then]);(first|refine bodyPost_ret (results_none rfl _ _ _) rfl ?_|refine bodyPost_end (results_none rfl _ _ _) rfl ?_));exact⟨⟨_,rfl⟩,.inr ⟨pre++[some r]++[none],⟨(pre++[some r]++[none]).length+0,[],by rw[oq 0,List.append_nil]⟩,acp⟩⟩
  · have Qw:∃rest,items p (pre.length+1) r0=(pre++[some r])++rest:=by
     obtain⟨rest,hr⟩:∃rest,items p 1 r=some r::rest:=⟨_,rfl⟩;exact⟨rest,by rw[HI.o,hr,List.append_assoc];rfl⟩
    obtain⟨rest,Qw⟩:=Qw;have HP:=Ys Qw;clear Qw;gi_wp2_with fail;((try simp only[Exit.inBlock,Exit.then]);(first|refine bodyPost_ret (results_none rfl _ _ _) rfl ?_|refine bodyPost_end (results_none rfl _ _ _) rfl ?_));exact⟨⟨_,rfl⟩,.inr ⟨pre++[some r],⟨_,rest,HP.o⟩,Zz⟩⟩
end Go.Proofs.YtohpiobncgafeaaGreatDoor
namespace Go.Proofs.YtohpiobncgafeaaGreatDoor
open Go Go.RowKit
attribute [local go_sem] Oper.semAt_some
def Cj(r:M.Ref):List Value:=[.int .i64 r.keeper,.string r.name]
theorem G7{p:M.ai}:∀(f:Nat) (refs:List M.Ref) (r:M.Ref),(∀n,items p (refs.length+n) r=refs.map some)→refs.length≤f→M.bH p f r=some refs:=by
 intro f;induction f with
 |zero=>
  intro refs r h hl;have hn:refs=[]:=List.length_eq_zero_iff.1 (by omega);subst hn;have:=h 1;simp[items]at this
 | succ f ih =>
  intro refs r h hl;cases refs with
  |nil=>have:=h 1;simp[items]at this
  | cons x rest =>
   have h1:=h;have hx:∀n,(if M.aW p r=M.none_ then []else if(M.resolve p r.keeper (M.aW p r)).2=1 then items p (rest.length+n) (M.resolve p r.keeper (M.aW p r)).1 else [none])=rest.map some∧x=r:=by
    intro n;have:=h n;rw[List.length_cons,show rest.length+1+n=(rest.length+n)+1 from by omega]at this;simp only[items,List.map_cons,List.cons.injEq,Option.some.injEq]at this;exact⟨this.2,this.1.symm⟩
   obtain rfl:=(hx 0).2;unfold M.bH;by_cases hs:M.aW p x=M.none_
   · rw[if_pos hs];have:=(hx 0).1;rw[if_pos hs]at this;have:rest=[]:=by
      cases rest with
      |nil=>rfl
      |cons _ _=>simp at this
     rw[this]
   · rw[if_neg hs];by_cases hc:(M.resolve p x.keeper (M.aW p x)).2=1
     · rw[if_pos hc,ih rest _ (fun n=>by have:=(hx n).1;rw[if_neg hs,if_pos hc]at this;exact this) (by simpa using hl)];rfl
     · have:=(hx 0).1;rw[if_neg hs,if_neg hc]at this;cases rest<;>simp at this
def SX(pre:List (Option M.Ref)):Prop:=(∃refs:List M.Ref,pre=refs.map some++[none])∨(∃refs:List M.Ref,pre=refs.map some∧refs.length=7)
theorem Bv {p : M.ai} : ∀ (f : Nat) (refs : List M.Ref) (t : List (Option M.Ref)) (r : M.Ref) (n : Nat), items p n r = refs.map some ++ t → (t.head? = some none ∨ f < refs.length) → M.bH p f r = none := by
 intro f;induction f with
 |zero=>intro refs t r n _ _;rfl
 | succ f ih =>
  intro refs t r n h hb;cases n with
  |zero=>
   simp only[items]at h;cases refs with
   | nil => rcases hb with hb | hb
            · simp at h;rw[h]at hb;simp at hb
            · simp at hb
   |cons _ _=>simp at h
  | succ n =>
   cases refs with
   |nil=>
    simp only[items,List.map_nil,List.nil_append]at h;rcases hb with hb|hb
    · rw[←h]at hb;simp at hb
    · simp at hb
   |cons x rest=>
    simp only[items,List.map_cons,List.cons_append,List.cons.injEq,Option.some.injEq]at h;obtain⟨rfl,h2⟩:=h;unfold M.bH;by_cases hs:M.aW p r=M.none_
    · rw[if_pos hs]at h2;have h3:=congrArg List.length h2;rcases hb with hb|hb
      · cases t with
        |nil=>simp at hb
        |cons _ _=>simp at h3
      · simp at h3;simp at hb;omega
    · rw[if_neg hs]at h2 ⊢;by_cases hc:(M.resolve p r.keeper (M.aW p r)).2=1
      · rw[if_pos hc]at h2 ⊢;rw[ih rest t _ n h2 (hb.imp id fun h=>by simpa using h)];rfl
      · rw[if_neg hc]
theorem Hm{w:World}{base e k n:Nat}{v:Value}{xs:List Value}(h:w.ownsRow base e k v n xs){b:Nat}(hb:v.ownBlock=some b):base≤b:=by
 rcases h.2 with⟨rfl,_⟩|⟨g,cap,cur,rfl,hg,_⟩
 · cases hb
 · cases hb;exact hg
theorem Hn{w:World}{base e k n:Nat}{v:Value}{xs:List Value}(h:w.ownsRow base e k v n xs):∃a c,v=.slice a n c:=by
 rcases h.2 with⟨rfl,h0⟩|⟨g,cap,cur,rfl,hg,_⟩
 · exact⟨none,0,by rw[h0]⟩
 · exact⟨_,_,rfl⟩
def Ld(w W0:World)(B4 B5 B6:Nat)(pre:List (Option M.Ref))(W:World):Prop:=∃(refs:List M.Ref) (v:Value),pre=refs.map some∧refs.length≤6∧az W B6 147 #[v]∧W.ownsRow (W0.heap.size+2) 51 2 v refs.length (refs.flatMap Cj)∧az W B4 147 #[.slice none 0 0]∧az W B5 4 #[.bool false]∧Ext w W
def SY(w:World)(B4 B5:Nat)(c:Code)(pre:List (Option M.Ref))(W:World):Prop:=c=.ret∧SX pre∧az W B4 147 #[.slice none 0 0]∧az W B5 4 #[.bool false]∧Ext w W
def xA(x:Option M.Ref):M.Ref:=x.getD M.lv
theorem Gq(x:Option M.Ref):tq x=#[.agg #[.int .i64 (xA x).keeper,.string (xA x).name],.bool x.isSome]:=by cases x<;>rfl
theorem wC(w:World)(l:au)(p:M.ai)(h:aj w l p)(r:M.Ref)(dI:∃c,M.cls? p r=some c):
    Calls Tryz.prog 113 #[.pointer (some ⟨l.L,0,none⟩),.agg #[.int .i64 r.keeper,.string r.name]] w fun e w'=>
     (∃v,e=.returned (.tuple #[v,.bool (M.lQ p r).isSome])∧SliceOf 2 uL w' (fun b=>w.heap.size≤b) v ((M.lQ p r).getD []))∧Ext w w':=by
 have hLL:=h.lt;have H:=Ys h;clear h;refine(callsIn_wide (n:=10)).1 ?_;refine callsIn_of_wp_marks Tryz.func113 rfl trivial ?_ rfl;simp only[Tryz.ntmps113,List.size_toArray,List.length_cons,List.length_nil,Nat.reduceAdd,Nat.reduceSub,Array.replicate_succ,Array.replicate_zero,List.push_toArray,List.append_toArray,List.nil_append,List.cons_append];gi_wp2_with fail;refine⟨trivial,?_⟩;refine(callsIn_wide.2 (EG _ _ _ _)).mono ?_;rintro e w1 ⟨rfl,jl⟩;gi_wp2_with fail;have b3:=az.new w 51 #[.int .i64 r.keeper,.string r.name];have b4:=az.new (w.alloc (.cells #[.int .i64 r.keeper,.string r.name] 51)) 147 #[.slice none 0 0];have b5:=az.new ((w.alloc (.cells #[.int .i64 r.keeper,.string r.name] 51)).alloc (.cells #[.slice none 0 0] 147)) 4 #[.bool false];have b6:=az.new (((w.alloc (.cells #[.int .i64 r.keeper,.string r.name] 51)).alloc (.cells #[.slice none 0 0] 147)).alloc (.cells #[.bool false] 4)) 147 #[.slice none 0 0];have bL:=az.new ((((w.alloc (.cells #[.int .i64 r.keeper,.string r.name] 51)).alloc (.cells #[.slice none 0 0] 147)).alloc (.cells #[.bool false] 4)).alloc (.cells #[.slice none 0 0] 147)) 73 #[.pointer (some ⟨l.L,0,none⟩)];have bR:=az.new (((((w.alloc (.cells #[.int .i64 r.keeper,.string r.name] 51)).alloc (.cells #[.slice none 0 0] 147)).alloc (.cells #[.bool false] 4)).alloc (.cells #[.slice none 0 0] 147)).alloc (.cells #[.pointer (some ⟨l.L,0,none⟩)] 73)) 51 #[.int .i64 r.keeper,.string r.name];replace b4:=b4.ext ((((Kp.refl _ _).alloc (.cells #[.bool false] 4)).alloc (.cells #[.slice none 0 0] 147)).alloc (.cells #[.pointer (some ⟨l.L,0,none⟩)] 73)|>.alloc (.cells #[.int .i64 r.keeper,.string r.name] 51));replace b5:=b5.ext (((Kp.refl _ _).alloc (.cells #[.slice none 0 0] 147)).alloc (.cells #[.pointer (some ⟨l.L,0,none⟩)] 73)|>.alloc (.cells #[.int .i64 r.keeper,.string r.name] 51));replace b6:=b6.ext (((Kp.refl _ _).alloc (.cells #[.pointer (some ⟨l.L,0,none⟩)] 73))|>.alloc (.cells #[.int .i64 r.keeper,.string r.name] 51));replace bL:=bL.ext ((Kp.refl _ _).alloc (.cells #[.int .i64 r.keeper,.string r.name] 51));clear b3;have aM:Ext w ((((((w.alloc (.cells #[.int .i64 r.keeper,.string r.name] 51)).alloc (.cells #[.slice none 0 0] 147)).alloc (.cells #[.bool false] 4)).alloc (.cells #[.slice none 0 0] 147)).alloc (.cells #[.pointer (some ⟨l.L,0,none⟩)] 73)).alloc (.cells #[.int .i64 r.keeper,.string r.name] 51)):=kx
 have qx:((((((w.alloc (.cells #[.int .i64 r.keeper,.string r.name] 51)).alloc (.cells #[.slice none 0 0] 147)).alloc (.cells #[.bool false] 4)).alloc (.cells #[.slice none 0 0] 147)).alloc (.cells #[.pointer (some ⟨l.L,0,none⟩)] 73)).alloc (.cells #[.int .i64 r.keeper,.string r.name] 51)).heap.size=w.heap.size+6:=by simp
 generalize ((((((w.alloc (.cells #[.int .i64 r.keeper,.string r.name] 51)).alloc (.cells #[.slice none 0 0] 147)).alloc (.cells #[.bool false] 4)).alloc (.cells #[.slice none 0 0] 147)).alloc (.cells #[.pointer (some ⟨l.L,0,none⟩)] 73)).alloc (.cells #[.int .i64 r.keeper,.string r.name] 51))=W0 at*;simp only[World.size_alloc]at b4 b5 b6 bL bR;obtain⟨B4,tF⟩:∃B4,B4=w.heap.size+1:=⟨_,rfl⟩;rw[←tF]at b4 b5 b6 bL bR ⊢;obtain⟨B5,yC⟩:∃B5,B5=B4+1:=⟨_,rfl⟩;rw[←yC]at b5 b6 bL bR ⊢;obtain⟨B6,Il⟩:∃B6,B6=B5+1:=⟨_,rfl⟩;rw[←Il]at b6 bL bR ⊢;obtain⟨BL,hBL⟩:∃BL,BL=B6+1:=⟨_,rfl⟩;rw[←hBL]at bL bR ⊢;obtain⟨BR,hBR⟩:∃BR,BR=BL+1:=⟨_,rfl⟩;rw[←hBR]at bR ⊢;clear jl;have HN:=Ys (And.intro tF (And.intro yC (And.intro Il (And.intro hBL (And.intro hBR qx)))));have n46:B4≠B6:=by omega
 have n45:B4≠B5:=by omega
 have n56:B5≠B6:=by omega
 have HLW:=Ys (H.o.ext aM);have g0:W0.heap.size=BR+1:=by omega
 have G0:=Ys g0;clear tF yC Il hBL hBR qx g0;refine zo (gf:=146) (lb:=#[.pointer (some ⟨BR,0,none⟩),.pointer (some ⟨BL,0,none⟩)]) (α:=Option M.Ref) rfl (enters_of Tryz.func146 (by kernel_rfl) rfl) (encs:=tq)
  (fun x=>by cases x<;>rfl) (Bb:=fun k=>k=B4∨k=B5∨k=B6∨W0.heap.size+2≤k)
  (Ga l p r BR BL _ ?hBd ?hRL ?hR 6 dI) ?hIt ?hD1 ?hD2 ?hB1 ?hB2
  (Ld w W0 B4 B5 B6) (SY w B4 B5) ?hI ?hIx ?h0 ?hIB
  (fun pre x W a₁ W₁=>Ld w W0 B4 B5 B6 pre W∧
   W0.heap.size+1<W.heap.size∧W₁=W.alloc (.cells #[.int .i64 (xA x).keeper,.string (xA x).name] 51)∧
   a₁={tmps:=#[.pointer (some ⟨l.L,0,none⟩),.agg #[.int .i64 r.keeper,.string r.name],undef,.pointer (some ⟨w.heap.size,0,none⟩),.pointer (some ⟨B4,0,none⟩),.pointer (some ⟨B5,0,none⟩),.pointer (some ⟨B6,0,none⟩),.pointer (some ⟨W.heap.size,0,none⟩),.bool x.isSome,
    .pointer (some ⟨l.L,0,none⟩),.agg #[.int .i64 r.keeper,.string r.name],.func (.func 146) #[] #[.pointer (some ⟨BR,0,none⟩),.pointer (some ⟨BL,0,none⟩)],.agg #[.int .i64 (xA x).keeper,.string (xA x).name],.bool x.isSome,
    undef,undef,undef,undef,undef,undef,undef,undef,undef,undef,undef,undef],defers:=[]}) ?hassign ?hAx ?hbody ?hdone ?hstop
 case hBd=>
  obtain⟨h1,h2,h3,h4,h5,h6⟩:=HN.o;have h7:=G0.o;intro k hk;have Cz:(k=B4∨k=B5∨k=B6∨W0.heap.size+2≤k)∨k=W0.heap.size+1:=hk;omega
 case hRL=>obtain⟨h1,h2,h3,h4,h5,h6⟩:=HN.o;have h7:=G0.o;omega
 case hR=>obtain⟨h1,h2,h3,h4,h5,h6⟩:=HN.o;have h7:=G0.o;omega
 case hIt=>exact fun W hW=>⟨HLW.o.ext hW,bR.ext hW,bL.ext hW⟩
 case hD1=>have:=G0.o;show¬W0.heap.size=BR;omega
 case hD2=>have:=G0.o;show¬W0.heap.size+1=BR;omega
 case hB1=>obtain⟨h1,h2,h3,h4,h5,h6⟩:=HN.o;have h7:=G0.o;show¬(W0.heap.size=B4∨W0.heap.size=B5∨W0.heap.size=B6∨W0.heap.size+2≤W0.heap.size);omega
 case hB2=>obtain⟨h1,h2,h3,h4,h5,h6⟩:=HN.o;have h7:=G0.o;show¬(W0.heap.size+1=B4∨W0.heap.size+1=B5∨W0.heap.size+1=B6∨W0.heap.size+2≤W0.heap.size+1);omega
 case hI=>
  obtain⟨h1,h2,h3,h4,h5,h6⟩:=HN.o;have h7:=G0.o;rintro s A B ⟨refs,v,e1,e2,e3,e4,e5,e6,e7⟩ hk;exact⟨refs,v,e1,e2,e3.kp hk (by omega),aA e4 hk (fun g _ hg=>by omega),e5.kp hk (by omega),e6.kp hk (by omega),e7.own hk (fun k hk=>by omega)⟩
 case hIx=>
  obtain⟨h1,h2,h3,h4,h5,h6⟩:=HN.o;have h7:=G0.o;rintro c s A B ⟨e1,e2,e5,e6,e7⟩ hk;exact⟨e1,e2,e5.kp hk (by omega),e6.kp hk (by omega),e7.own hk (fun k hk=>by omega)⟩
 case h0=>exact⟨[],.slice none 0 0,rfl,by simp,b6,World.ownsRow_nil _ _ _ _,b4,b5,aM⟩
 case hIB=>
  rintro s A ⟨refs,v,rfl,e2,_⟩;simpa using e2
 case hassign=>
  intro pre x W K _ hi cK hK;rw[Gq];gi_wp2
 case hAx=>
  rintro pre x W a₁ W₁ ⟨_,_,rfl,_⟩;exact((Kp.refl _ W).alloc _)
 case hbody=>
  rintro pre x W a₁ W₁ W₂ ⟨⟨refs,v,e1,e2,e3,e4,e5,e6,e7⟩,cK,rfl,rfl⟩ jf oF;obtain⟨h1,h2,h3,h4,h5,h6⟩:=HN.o;have h7:=G0.o;have c3:=(e3.ext ((Kp.refl _ _).alloc _)).kp jf (by omega);have c5:=(e5.ext ((Kp.refl _ _).alloc _)).kp jf (by omega);have c6:=(e6.ext ((Kp.refl _ _).alloc _)).kp jf (by omega);have c4:=aA (aA e4 ((Kp.refl (fun _=>False) W).alloc (.cells #[.int .i64 (xA x).keeper,.string (xA x).name] 51)) (fun _ _ _ h=>h)) jf (fun g _ hg=>by omega);have c7:Ext w W₂:=(e7.alloc _).own jf (fun k hk=>by omega);have cb:=(az.new W 51 #[.int .i64 (xA x).keeper,.string (xA x).name]).kp jf (by omega);simp only[World.size_alloc]at oF;have HW:=Ys (And.intro c3 (And.intro c4 (And.intro c5 (And.intro c6 (And.intro c7 cb)))));have k3:=c3.c 0 v rfl;have f3:=c3.frozen 0;have k5:=c5.c 0 (.slice none 0 0) rfl;have f5:=c5.frozen 0;have k6:=c6.c 0 (.bool false) rfl;have f6:=c6.frozen 0;have kb0:=cb.c 0 (.int .i64 (xA x).keeper) rfl;have kb1:=cb.c 1 (.string (xA x).name) rfl;have aN:=cb.lt;have Il:B6<W₂.heap.size:=c3.lt;have qx:=Ys oF;clear e3 e4 e5 e6 e7 c3 c4 c5 c6 c7 cb jf oF b4 b5 b6 bL bR h1 h2 h3 h4 h5 h6 h7;have jA:∀(u v:Value),Kp (fun k=>k=B4∨k=B5∨k=B6∨W0.heap.size+2≤k) W₂ ((W₂.setCell ⟨B4,0,none⟩ u).setCell ⟨B5,0,none⟩ v):=fun u v=>
   ((Kp.refl _ W₂).setCell (p:=⟨B4,0,none⟩) (fun _=>.inl rfl) u).setCell (p:=⟨B5,0,none⟩) (fun _=>.inr (.inl rfl)) v
  have tN:∀(u v:Value),az ((W₂.setCell ⟨B4,0,none⟩ u).setCell ⟨B5,0,none⟩ v) B4 147 #[u]∧az ((W₂.setCell ⟨B4,0,none⟩ u).setCell ⟨B5,0,none⟩ v) B5 4 #[v]∧Ext w ((W₂.setCell ⟨B4,0,none⟩ u).setCell ⟨B5,0,none⟩ v):=fun u v=>by
   obtain⟨h1,h2,h3,h4,h5,h6⟩:=HN.o;have h7:=G0.o;refine⟨?_,?_,HW.o.2.2.2.2.1.own (jA u v) (fun k hk=>by omega)⟩
   · exact(HW.o.2.2.1.bA 0 u).kp ((Kp.refl (·=B5) _).setCell (p:=⟨B5,0,none⟩) (fun _=>rfl) v) (by omega)
   · exact(HW.o.2.2.2.1.kp ((Kp.refl (·=B4) _).setCell (p:=⟨B4,0,none⟩) (fun _=>rfl) u) (by omega)).bA 0 v
  have HS:=Ys (And.intro jA tN);clear jA tN;cases x with
  |none=>
   gi_wp2;exact⟨HS.o.1 _ _,rfl,.inl ⟨refs,by rw[e1]⟩,HS.o.2 _ _⟩
  | some y =>
   have hv:∃a cp,v=.slice a refs.length cp:=by
    rcases HW.o.2.1.2 with⟨rfl,h0⟩|⟨g,cap,cur,rfl,_⟩
    · exact⟨none,0,by rw[h0]⟩
    · exact⟨_,_,rfl⟩
   obtain⟨a,cp,rfl⟩:=hv;by_cases h6:refs.length=6
   · have h6':((refs.length:Int)==6)=true:=by simp[h6]
     have H6:=Ys h6;clear h6;gi_wp2;exact⟨HS.o.1 _ _,rfl,.inr ⟨refs++[y],by rw[e1];simp,by simp[H6.o]⟩,HS.o.2 _ _⟩
   · have h6':((refs.length:Int)==6)=false:=beq_eq_false_iff_ne.2 (by omega);have H6:=Ys h6;gi_wp2_with (gi_at_builtin;refine rE LW _ rfl _ _ rfl (W0.heap.size+2) _ _ _ rfl (HW.o.2.1.alloc _) W₂.heap.size 1 (Cj y) rfl rfl ?c1 ?c2 ?c3 ?c4 ?_)
     case c1=>exact af.zl (az.new ..) _ rfl
     case c2=>simp[Cj,Value.oneCell']
     case c3=>omega
     case c4=>have:=qx.o;simp only[World.size_alloc];omega
     intro v' w' vZ hK g' c' hv hg hl;subst hv;have ag:Kp (fun k=>W0.heap.size+2≤k) W₂ w':=((Kp.refl _ W₂).alloc _).trans (hK.weak fun k _ hk=>Hm HW.o.2.1 hk);obtain⟨h1,h2,h3,h4,h5,h6'⟩:=HN.o;have h7:=G0.o;have d3:=HW.o.1.kp ag (by omega);have d4:=HW.o.2.2.1.kp ag (by omega);have d5:=HW.o.2.2.2.1.kp ag (by omega);have d7:=HW.o.2.2.2.2.1.own ag (fun k hk=>by omega);have q3:=d3.c 0 (.slice a refs.length cp) rfl;have qf:=d3.frozen 0;have qz:=d3.lt;have HD:=Ys (And.intro d3 (And.intro d4 (And.intro d5 (And.intro d7 (And.intro vZ ag)))));have HG:=Ys (And.intro hg hl);clear d3 d4 d5 d7 h1 h2 h3 h4 h5 h6' h7 vZ hK ag hg hl k3 f3 k5 f5 k6 f6 kb0 kb1 Il aN h6;gi_wp2;have ZE:Kp (·=B6) w' (w'.setCell ⟨B6,0,none⟩ (.slice (some ⟨g',0,none⟩) (refs.length+1) c')):=(Kp.refl (·=B6) w').setCell (p:=⟨B6,0,none⟩) (fun _=>rfl) _;obtain⟨h1,h2,h3,h4,h5,h6'⟩:=HN.o;have h7:=G0.o;obtain⟨d3,d4,d5,d7,d8,d9⟩:=HD.o;refine⟨(d9.weak fun _ _ h=>.inr (.inr (.inr h))).trans (ZE.weak fun _ _ h=>.inr (.inr (.inl h))),refs++[y],_,by rw[e1];simp,by have:=H6.o;simp;omega,d3.bA 0 _,?_,d4.kp ZE (by omega),d5.kp ZE (by omega),d7.own ZE (fun k hk=>by omega)⟩;have:=aA d8 ZE (fun g _ hg=>by omega);simpa using this
 case hdone=>
  rintro xs W hS ⟨refs,v,rfl,e2,e3,e4,e5,e6,e7⟩ hK;have k3:=e3.c 0 v rfl;have k5:=e5.c 0 (.slice none 0 0) rfl;have f5:=e5.frozen 0;have z5:=e5.lt;have k6:=e6.c 0 (.bool false) rfl;have f6:=e6.frozen 0;have z6:=e6.lt;have HD:=Ys (And.intro e3 (And.intro e4 (And.intro e5 (And.intro e6 e7))));have HS:=Ys hS;have hv:=Hn e4;clear e3 e4 e5 e6 e7 hS b4 b5 b6 bL bR;obtain⟨av,cv,rfl⟩:=hv;simp only[Exit.inBlock,Exit.then];gi_wp2;obtain⟨h1,h2,h3,h4,h5,h6⟩:=HN.o;have h7:=G0.o;obtain⟨d3,d4,d5,d6,d7⟩:=HD.o;have hk5:Kp (fun k=>k=B4∨k=B5) W ((W.setCell ⟨B4,0,none⟩ (.slice av refs.length cv)).setCell ⟨B5,0,none⟩ (.bool true)):=
   ((Kp.refl (fun k=>k=B4∨k=B5) W).setCell (p:=⟨B4,0,none⟩) (fun _=>.inl rfl) _).setCell (p:=⟨B5,0,none⟩) (fun _=>.inr rfl) _
  have g5:=(d5.bA 0 (.slice av refs.length cv)).kp ((Kp.refl (·=B5) _).setCell (p:=⟨B5,0,none⟩) (fun _=>rfl) (.bool true)) (by omega);have g6:=(d6.kp ((Kp.refl (·=B4) W).setCell (p:=⟨B4,0,none⟩) (fun _=>rfl) (.slice av refs.length cv)) (by omega)).bA 0 (.bool true);have hK':=(hk5.block W0.heap.size (by have:=d7.size;have:=d3.lt;exact(Array.getElem?_eq_some_iff.1 hK).1) (by omega)).trans hK;generalize (W.setCell ⟨B4,0,none⟩ (.slice av refs.length cv)).setCell ⟨B5,0,none⟩ (.bool true)=W5 at hk5 g5 g6 hK' ⊢;refine⟨by simp,.inl ⟨_,_,rfl,run_takeDeferred hK',?_⟩⟩;have xE:=Kp.putObj W5 W0.heap.size (.deferred none);have m5:=(g5.kp xE (by omega)).c 0 _ rfl;have m6:=(g6.kp xE (by omega)).c 0 _ rfl;have ek:M.lQ p r=some refs:=G7 6 refs r (fun n=>by have:=HS.o n;rwa[List.length_map]at this) e2;refine⟨.tuple #[.slice av refs.length cv,.bool true],?_,⟨_,by rw[ek];rfl,?_⟩,?_⟩
  · simp[results,Tryz.f113,go_sem,m5,m6]
  · rw[ek];refine SliceOf.gT Cj (aA (aA d4 hk5 (fun g _ hg=>by omega)) xE (fun g _ hg=>by omega)) rfl rfl (fun _ _=>rfl) (fun _ _=>rfl) (fun b h h'=>by show w.heap.size≤b;omega) (by show refs.length≤_;omega)
  · exact(d7.own hk5 (fun k hk=>by omega)).own xE (fun k hk=>by omega)
 case hstop=>
  rintro c pre W hS ⟨rfl,hb,e5,e6,e7⟩ hK;have HD:=Ys (And.intro e5 (And.intro e6 e7));clear e5 e6 e7 b4 b5 b6 bL bR;gi_wp2;obtain⟨h1,h2,h3,h4,h5,h6⟩:=HN.o;have h7:=G0.o;obtain⟨d5,d6,d7⟩:=HD.o;refine⟨by simp,.inl ⟨_,_,rfl,run_takeDeferred hK,?_⟩⟩;have xE:=Kp.putObj W W0.heap.size (.deferred none);have m5:=(d5.kp xE (by omega)).c 0 _ rfl;have m6:=(d6.kp xE (by omega)).c 0 _ rfl;obtain⟨n,rest,hit⟩:=hS;have ek:M.lQ p r=none:=by
   rcases hb with⟨refs,rfl⟩|⟨refs,rfl,hl⟩
   · exact Bv 6 refs _ r n (by rw[hit,List.append_assoc]) (.inl rfl)
   · exact Bv 6 refs _ r n hit (.inr (by omega))
  refine⟨.tuple #[.slice none 0 0,.bool false],?_,⟨_,by rw[ek];rfl,?_⟩,?_⟩
  · simp[results,Tryz.f113,go_sem,m5,m6]
  · rw[ek];exact SliceOf.nil _ _ _ _
  · exact d7.own xE (fun k hk=>by omega)
end Go.Proofs.YtohpiobncgafeaaGreatDoor
