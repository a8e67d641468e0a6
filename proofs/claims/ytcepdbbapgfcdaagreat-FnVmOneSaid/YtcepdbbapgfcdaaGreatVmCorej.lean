/- Walks. -/
import Derived.Test.YtcepdbbapgfcdaaGreatVmCorei
import Derived.RangeFuncKeeps
import Derived.RangeFuncNested
import Derived.RangeFuncBound
import Derived.RangeFuncCalls
import Derived.RangeFuncLeaves
import Derived.Shelf.Abstract
import Derived.Shelf.RegionOpen
import Derived.TacticsInMore
import Derived.LoopNIn
import Derived.LoopIn
import Derived.Sort.LoopGhostIn
set_option maxRecDepth 100000
set_option maxHeartbeats 4000000
set_option linter.unusedSimpArgs false
set_option linter.unusedVariables false
namespace Go.Proofs.YtcepdbbapgfcdaaGreat
open Go Go.RowKit
theorem drop_at{α:Type}{l:List α}{k:Nat}{x:α}(h:l[k]?=some x):l.drop k=x::l.drop (k+1):=by
 obtain⟨hk,e⟩:=List.getElem?_eq_some_iff.1 h;rw[List.drop_eq_getElem_cons hk,e]
theorem Ha{m:M.Method}{last:Int}{k:Nat}{x:M.SMap}(h:m.maps[k]?=some x):
    M.mJ m last (m.maps.drop k)=(decide (last<x.at_)&&M.uX m x&&M.mJ m x.at_ (m.maps.drop (k+1))):=by
 rw[drop_at h];rfl
theorem Am(m:M.Method)(f:M.SMap):M.uX m f=(decide (f.at_ <m.code.length)&&decide ((f.locals.length:Int)=m.locals)&&decide ((f.stack.length:Int)≤m.stack)&&M.uF f.locals&&M.uF f.stack):=rfl
theorem Xe (w : World) (I : Nat → Prop) (cs : List Value) (m : M.Method) (h : aH w I m cs) :
    Calls Tryz.prog 139 #[.agg cs.toArray] w fun e w'=>e=.returned (.bool (M.wT m))∧Ext w w':=by
 obtain⟨va,vc,vm,rfl,h1,h2,h3⟩:=h;obtain⟨a,cap,rfl,hn,dn⟩:=h3.form;obtain⟨a2,cap2,rfl,xR,KT⟩:=h2.form;by_cases Bt:5<m.maps.length
 · go_enter Tryz.func139,Tryz.ntmps139;go_wp2;go_ret;exact⟨ag (by unfold M.wT;rw[decide_eq_false (by omega)];rfl),kx⟩
 have HL:Zs (M.wT m=M.mJ m 0 m.maps):=Ys (by
  unfold M.wT;rw[decide_eq_true (by omega)];rfl)
 go_enter Tryz.func139,Tryz.ntmps139;go_wp2;have b0:=aC.new w 54 #[.string m.name,va,.int .i64 m.ret.kind,.string m.ret.name,.int .i64 m.locals,.int .i64 m.stack,.slice a2 m.code.length cap2,.slice a m.maps.length cap];have p4:=b0.c 4 _ rfl;have p5:=b0.c 5 _ rfl;have p6:=b0.c 6 _ rfl;have aU:Ext w (w.alloc (.cells #[.string m.name,va,.int .i64 m.ret.kind,.string m.ret.name,.int .i64 m.locals,.int .i64 m.stack,.slice a2 m.code.length cap2,.slice a m.maps.length cap] 54)):=((Kp.refl _ _).alloc _);generalize (w.alloc (.cells #[.string m.name,va,.int .i64 m.ret.kind,.string m.ret.name,.int .i64 m.locals,.int .i64 m.stack,.slice a2 m.code.length cap2,.slice a m.maps.length cap] 54))=w0 at*;go_loopw [13,3] (fun i la wr=>∃k:Nat,∃last:Int,k≤m.maps.length∧i=.int .i64 k∧la=.int .i64 last∧Ext w0 wr∧Zs (M.mJ m 0 m.maps=M.mJ m last (m.maps.drop k))) (fun i _ _=>m.maps.length - (intOf i).toNat)
 case atStart=>exact⟨0,0,Nat.zero_le _,rfl,rfl,Kp.refl _ _,Ys (by simp)⟩
 case round =>
  obtain⟨k,last,hk,rfl,rfl,hE,HA⟩:=hrel;by_cases bZ:k<m.maps.length
  · obtain⟨x,hx⟩:=get_some bZ;obtain⟨b,off,cs,rfl,hI,⟨vl,vs,rfl,s1,s2⟩, -,hc⟩:=h3.get hx;obtain⟨a3,afs,rfl,WE,aff⟩:=s1.form;obtain⟨a4,cap4,rfl,P5,afg⟩:=s2.form;obtain⟨g0,g1,g2⟩:=((hc.ext aU).ext hE).three;have q4:=hE.aA p4;have q5:=hE.aA p5;have q6:=hE.aA p6;have hz:=aG q6;have S1:=Ys ((s1.ext eB.stays aU).ext eB.stays hE);have S2:=Ys ((s2.ext eB.stays aU).ext eB.stays hE);have HC:=Ys (Ha (last:=last) hx);clear hx hc p4 p5 p6 s1 s2;by_cases t1:x.at_≤last
    · go_wp2;go_ret;exact⟨ag (by rw[HL.o,HA.o,HC.o,decide_eq_false (by omega)];rfl),(by repeat (first|assumption|exact Kp.refl _ _|apply Kp.alloc|apply Kp.drew|apply Kp.drewN|refine Kp.trans ?_ (by assumption)))⟩
    by_cases t2:(m.code.length:Int)≤x.at_
    · go_wp2;go_ret;exact⟨ag (by rw[HL.o,HA.o,HC.o,Am,decide_eq_false (p:=x.at_ <m.code.length) (by omega)];simp),(by repeat (first|assumption|exact Kp.refl _ _|apply Kp.alloc|apply Kp.drew|apply Kp.drewN|refine Kp.trans ?_ (by assumption)))⟩
    by_cases t3:(x.locals.length:Int)=m.locals
    case neg=>
     have t3':((x.locals.length:Int)==m.locals)=false:=beq_eq_false_iff_ne.2 t3;go_wp2;go_ret;exact⟨ag (by rw[HL.o,HA.o,HC.o,Am,decide_eq_false (p:=(x.locals.length:Int)=m.locals) t3];simp),(by repeat (first|assumption|exact Kp.refl _ _|apply Kp.alloc|apply Kp.drew|apply Kp.drewN|refine Kp.trans ?_ (by assumption)))⟩
    have T3:=Ys t3;have t3':((x.locals.length:Int)==m.locals)=true:=beq_iff_eq.2 t3;clear t3;by_cases t4:m.stack<(x.stack.length:Int)
    · go_wp2;go_ret;exact⟨ag (by rw[HL.o,HA.o,HC.o,Am,decide_eq_false (p:=(x.stack.length:Int)≤m.stack) (by omega)];simp),(by repeat (first|assumption|exact Kp.refl _ _|apply Kp.alloc|apply Kp.drew|apply Kp.drewN|refine Kp.trans ?_ (by assumption)))⟩
    have HM:Zs (M.uX m x=(M.uF x.locals&&M.uF x.stack)):=Ys (by
     rw[Am,decide_eq_true (p:=x.at_ <m.code.length) (by omega),decide_eq_true (p:=(x.locals.length:Int)=m.locals) T3.o,decide_eq_true (p:=(x.stack.length:Int)≤m.stack) (by omega)];rfl)
    have HT:Zs (decide (last<x.at_)=true):=Ys (decide_eq_true (by omega));cases ni:M.uF x.locals
    · have HT1:=Ys ni;clear ni;go_wp2_with fail;refine(JV _ _ _ _ (S1.o.ext eB.stays ((Kp.refl _ _).alloc _))).mono ?_;rintro e w1 ⟨rfl,hB⟩;rw[HT1.o];go_wp2;go_ret;exact⟨ag (by rw[HL.o,HA.o,HC.o,HM.o,HT1.o];simp),(by repeat (first|assumption|exact Kp.refl _ _|apply Kp.alloc|apply Kp.drew|apply Kp.drewN|refine Kp.trans ?_ (by assumption)))⟩
    · have HT1:=Ys ni;clear ni;go_wp2_with fail;refine(JV _ _ _ _ (S1.o.ext eB.stays ((Kp.refl _ _).alloc _))).mono ?_;rintro e w1 ⟨rfl,hB⟩;rw[HT1.o];obtain⟨lJ,hf1⟩:=KD hB;cases WR:M.uF x.stack
      all_goals
       have vV:=Ys WR;clear WR;go_wp2_with fail;refine(JV _ _ _ _ ((S2.o.ext eB.stays ((Kp.refl _ _).alloc _)).ext eB.stays hB)).mono ?_;rintro e w2 ⟨rfl,hB2⟩;rw[vV.o];go_wp2
      · go_ret;exact⟨ag (by rw[HL.o,HA.o,HC.o,HM.o,HT1.o,vV.o];simp),(by repeat (first|assumption|exact Kp.refl _ _|apply Kp.alloc|apply Kp.drew|apply Kp.drewN|refine Kp.trans ?_ (by assumption)))⟩
      · go_roundw
        case rel=>exact⟨k+1,x.at_,by omega,by go_num,rfl,(by repeat (first|assumption|exact Kp.refl _ _|apply Kp.alloc|apply Kp.drew|apply Kp.drewN|refine Kp.trans ?_ (by assumption))),Ys (by rw[HA.o,HC.o,HM.o,HT.o,HT1.o,vV.o];rfl)⟩
        case measure=>simp[intOf];omega
  · go_wp2;go_ret;exact⟨ag (by rw[HL.o,HA.o,List.drop_of_length_le (by omega)];rfl),(by repeat (first|assumption|exact Kp.refl _ _|apply Kp.alloc|apply Kp.drew|apply Kp.drewN|refine Kp.trans ?_ (by assumption)))⟩
theorem ae.Fz{w:World}{g:Nat}{t:TypeId}{cs:Array Value}(h:aC w g t cs)(l:List Value)(e:cs.toList=l):ae w g 0 l:=by
 intro j v hj;subst e;rw[Nat.zero_add];exact h.c j v (by simpa using hj)
theorem Ur(m:M.Method):M.uZ m=(M.aY m.name&&decide (m.args.length≤3)&&M.jq m.ret&&m.args.all M.jq&&
 decide ((m.args.length:Int)+1≤m.locals)&&decide (m.locals≤6)&&decide (1≤m.stack)&&decide (m.stack≤5)&&M.codeOk m&&M.wT m):=rfl
theorem aay(w:World)(I:Nat→Prop)(cs:List Value)(m:M.Method)(h:aH w I m cs):
    Calls Tryz.prog 118 #[.agg cs.toArray] w fun e w'=>e=.returned (.bool (M.uZ m))∧Ext w w':=by
 have HM:=Ys h;obtain⟨va,vc,vm,rfl,h1,h2,h3⟩:=h;obtain⟨a,cap,rfl,hn,dn⟩:=h1.form;have aU:Ext w (w.alloc (.cells #[.string m.name,.slice a m.args.length cap,.int .i64 m.ret.kind,.string m.ret.name,.int .i64 m.locals,.int .i64 m.stack,vc,vm] 54)):=((Kp.refl _ _).alloc _);have b0:=aC.new w 54 #[.string m.name,.slice a m.args.length cap,.int .i64 m.ret.kind,.string m.ret.name,.int .i64 m.locals,.int .i64 m.stack,vc,vm];have P0:=Ys (ae.Fz b0 _ rfl);clear b0;have HE:=Ys (Ur m);cases yS:M.aY m.name
 · have HN:=Ys yS;clear yS;go_enter Tryz.func118,Tryz.ntmps118;go_wp2_with (go_at_call 25;refine(fZ _ _).mono ?_;rintro e w1 ⟨rfl,rfl⟩;rw[HN.o]);go_ret;exact⟨ag (by rw[HE.o,HN.o];rfl),kx⟩
 have HN:=Ys yS;clear yS;by_cases hl:3<m.args.length
 · go_enter Tryz.func118,Tryz.ntmps118;go_wp2_with (go_at_call 25;refine(fZ _ _).mono ?_;rintro e w1 ⟨rfl,rfl⟩;rw[HN.o]);go_ret;exact⟨ag (by rw[HE.o,decide_eq_false (p:=m.args.length≤3) (by omega)];simp),kx⟩
 cases hr:M.jq m.ret
 · have HR:=Ys hr;clear hr;go_enter Tryz.func118,Tryz.ntmps118;go_wp2_with (first|(go_at_call 25;refine(fZ _ _).mono ?_;rintro e w1 ⟨rfl,rfl⟩;rw[HN.o])|(go_at_call 36;refine(Bw m.ret _).mono ?_;rintro e w1 ⟨rfl,hB⟩;rw[HR.o]));go_ret;exact⟨ag (by rw[HE.o,HR.o];simp),(by repeat (first|assumption|exact Kp.refl _ _|apply Kp.alloc|apply Kp.drew|apply Kp.drewN|refine Kp.trans ?_ (by assumption)))⟩
 have HR:=Ys hr;clear hr;go_enter Tryz.func118,Tryz.ntmps118;go_wp2_with fail;refine(fZ _ _).mono ?_;rintro e w1 ⟨rfl,rfl⟩;rw[HN.o];go_wp2_with fail;refine(Bw m.ret _).mono ?_;rintro e w1 ⟨rfl,hB⟩;rw[HR.o];generalize (w.alloc (.cells #[.string m.name,.slice a m.args.length cap,.int .i64 m.ret.kind,.string m.ret.name,.int .i64 m.locals,.int .i64 m.stack,vc,vm] 54))=w0 at*;have P1:=Ys (P0.o.ext hB);have bA:=aU.trans hB;clear aU hB P0;obtain⟨p0,p1,p2,p3,p4,p5,p6,p7⟩:=P1.o.eight;simp only[Nat.zero_add]at p1 p2 p3 p4 p5 p6 p7;go_wp2;clear p0 p1 p2 p3 p4 p5 p6 p7;go_loopw [24] (fun i wr=>∃k:Nat,k≤m.args.length∧i=.int .i64 k∧Ext w1 wr∧Zs ((m.args.take k).all M.jq=true)) (fun i _=>m.args.length - (intOf i).toNat)
 case atStart=>exact⟨0,Nat.zero_le _,rfl,Kp.refl _ _,Ys (by simp)⟩
 case round =>
  obtain⟨k,hk,rfl,hE,HA⟩:=hrel;by_cases bZ:k<m.args.length
  · obtain⟨x,hx⟩:=get_some bZ;obtain⟨b,off,cs,rfl,hI,rfl, -,hc⟩:=h1.get hx;obtain⟨g0,g1⟩:=((hc.ext bA).ext hE).two;have HX:=Ys hx;clear hx hc;cases ht:M.jq x
    all_goals
     have HT:=Ys ht;clear ht;go_wp2_with (go_at_call 36;refine(Bw x _).mono ?_;rintro e w2 ⟨rfl,hB⟩;rw[HT.o])
    · go_ret;exact⟨ag (by rw[HE.o,mD HX.o HT.o];simp),(by repeat (first|assumption|exact Kp.refl _ _|apply Kp.alloc|apply Kp.drew|apply Kp.drewN|refine Kp.trans ?_ (by assumption)))⟩
    · go_roundw
      case rel=>exact⟨k+1,by omega,by go_num,(by repeat (first|assumption|exact Kp.refl _ _|apply Kp.alloc|apply Kp.drew|apply Kp.drewN|refine Kp.trans ?_ (by assumption))),Ys (all_succ HA.o HX.o HT.o)⟩
      case measure=>simp[intOf];omega
  · have AP:Zs (m.args.all M.jq=true):=Ys (kH HA.o (by omega));clear HA;obtain⟨p0,p1,p2,p3,p4,p5,p6,p7⟩:=(P1.o.ext hE).eight;simp only[Nat.zero_add]at p1 p2 p3 p4 p5 p6 p7;by_cases t1:m.locals<(m.args.length:Int)+1
    · go_wp2;go_ret;exact⟨ag (by rw[HE.o,decide_eq_false (p:=(m.args.length:Int)+1≤m.locals) (by omega)];simp),(by repeat (first|assumption|exact Kp.refl _ _|apply Kp.alloc|apply Kp.drew|apply Kp.drewN|refine Kp.trans ?_ (by assumption)))⟩
    by_cases t2:6<m.locals
    · go_wp2;go_ret;exact⟨ag (by rw[HE.o,decide_eq_false (p:=m.locals≤6) (by omega)];simp),(by repeat (first|assumption|exact Kp.refl _ _|apply Kp.alloc|apply Kp.drew|apply Kp.drewN|refine Kp.trans ?_ (by assumption)))⟩
    by_cases t3:m.stack<1
    · go_wp2;go_ret;exact⟨ag (by rw[HE.o,decide_eq_false (p:=1≤m.stack) (by omega)];simp),(by repeat (first|assumption|exact Kp.refl _ _|apply Kp.alloc|apply Kp.drew|apply Kp.drewN|refine Kp.trans ?_ (by assumption)))⟩
    by_cases t4:5<m.stack
    · go_wp2;go_ret;exact⟨ag (by rw[HE.o,decide_eq_false (p:=m.stack≤5) (by omega)];simp),(by repeat (first|assumption|exact Kp.refl _ _|apply Kp.alloc|apply Kp.drew|apply Kp.drewN|refine Kp.trans ?_ (by assumption)))⟩
    have HF:Zs (M.uZ m=(M.codeOk m&&M.wT m)):=Ys (by
     rw[HE.o,HN.o,HR.o,AP.o,decide_eq_true (p:=m.args.length≤3) (by omega),decide_eq_true (p:=(m.args.length:Int)+1≤m.locals) (by omega),decide_eq_true (p:=m.locals≤6) (by omega),decide_eq_true (p:=1≤m.stack) (by omega),decide_eq_true (p:=m.stack≤5) (by omega)];rfl)
    have XZ:=bA.trans hE;have IC:=Ys (aH.stays _ _ _ _ _ _ (Ext.same XZ) (fun _ h=>h) HM.o);go_wp2_with fail;refine(VV _ _ _ _ IC.o).mono ?_;rintro e w2 ⟨rfl,hB⟩;cases ht:M.codeOk m
    · have HT:=Ys ht;clear ht;go_wp2;go_ret;exact⟨ag (by rw[HF.o,HT.o];rfl),(by repeat (first|assumption|exact Kp.refl _ _|apply Kp.alloc|apply Kp.drew|apply Kp.drewN|refine Kp.trans ?_ (by assumption)))⟩
    · have HT:=Ys ht;clear ht;clear p0 p1 p2 p3 p4 p5 p6 p7;obtain⟨p0,p1,p2,p3,p4,p5,p6,p7⟩:=((P1.o.ext hE).ext hB).eight;simp only[Nat.zero_add]at p1 p2 p3 p4 p5 p6 p7;go_wp2_with fail;refine(Xe _ _ _ _ (aH.stays _ _ _ _ _ _ (Ext.same hB) (fun _ h=>h) IC.o)).mono ?_;rintro e w3 ⟨rfl,GM⟩;go_wp2;go_ret;exact⟨ag (by rw[HF.o,HT.o];rfl),(by repeat (first|assumption|exact Kp.refl _ _|apply Kp.alloc|apply Kp.drew|apply Kp.drewN|refine Kp.trans ?_ (by assumption)))⟩
theorem Ez{α:Type}{name:α→ByteArray}{ok:α→Bool}{l:List α}{k:Nat}{x:α}(hx:l[k]?=some x):
    M.dU name ok (l.drop k) ((l.take k).map name)=(ok x&& !(((l.take k).map name).any fun y=>decide (y=name x))&&M.dU name ok (l.drop (k+1)) ((l.take (k+1)).map name)):=by
 rw[drop_at hx,List.take_add_one,hx,List.map_append];rfl
theorem KJ{α:Type}{name:α→ByteArray}{l:List α}{k j:Nat}{x y:α}(hy:l[j]?=some y)(hj:j<k)(he:name y=name x):
    (((l.take k).map name).any fun y=>decide (y=name x))=true:=by
 rw[List.any_eq_true];refine⟨name y,List.mem_map.2 ⟨y,?_,rfl⟩,by simp[he]⟩;exact List.mem_of_getElem? (i:=j) (by rw[List.getElem?_take,if_pos hj,hy])
theorem Hv{α:Type}{name:α→ByteArray}{l:List α}{k:Nat}{x:α}(h:∀j y,l[j]?=some y→j<k→name y≠name x):
    (((l.take k).map name).any fun y=>decide (y=name x))=false:=by
 rw[List.any_eq_false];intro z hz;obtain⟨y,hy,rfl⟩:=List.mem_map.1 hz;obtain⟨j,hj⟩:=List.mem_iff_getElem?.1 hy;rw[List.getElem?_take]at hj;split at hj
 · rename_i bZ;simpa using h j y hj bZ
 · cases hj
theorem Sn(c:M.Class):M.oW c=(M.aY c.name&&(decide (c.aQ=M.none_)|| M.aY c.aQ)&&decide (c.fields.length≤3)&&decide (c.methods.length≤4)&&
 M.dU M.Field.name (fun f=>M.aY f.name&&M.jq f.kind) c.fields []&&M.dU M.Method.name M.uZ c.methods []):=rfl
def DY(c:M.Class)(k:Nat):Bool:=M.dU M.Field.name (fun f=>M.aY f.name&&M.jq f.kind) (c.fields.drop k) ((c.fields.take k).map M.Field.name)
def Ci(c:M.Class)(k:Nat):Bool:=M.dU M.Method.name M.uZ (c.methods.drop k) ((c.methods.take k).map M.Method.name)
theorem Pk{c:M.Class}{k:Nat}(h:c.fields.length≤k):DY c k=true:=by
 unfold DY;rw[List.drop_of_length_le h];rfl
theorem Pw{c:M.Class}{k:Nat}(h:c.methods.length≤k):Ci c k=true:=by
 unfold Ci;rw[List.drop_of_length_le h];rfl
theorem MB{c:M.Class}{k:Nat}{x:M.Field}(hx:c.fields[k]?=some x):
    DY c k=((M.aY x.name&&M.jq x.kind)&& !(((c.fields.take k).map M.Field.name).any fun y=>decide (y=x.name))&&DY c (k+1)):=Ez hx
theorem MR{c:M.Class}{k:Nat}{x:M.Method}(hx:c.methods[k]?=some x):
    Ci c k=(M.uZ x&& !(((c.methods.take k).map M.Method.name).any fun y=>decide (y=x.name))&&Ci c (k+1)):=Ez hx
theorem IV (w : World) (I : Nat → Prop) (cs : List Value) (c : M.Class) (h : aX w I c cs) :
    Calls Tryz.prog 83 #[.agg cs.toArray] w fun e w'=>e=.returned (.bool (M.oW c))∧Ext w w':=by
 obtain⟨vf,vm,rfl,h1,h2⟩:=h;obtain⟨a,cap,rfl,hn,dn⟩:=h1.form;obtain⟨a2,cap2,rfl,xR,KT⟩:=h2.form;have aU:Ext w (w.alloc (.cells #[.string c.name,.string c.aQ,.slice a c.fields.length cap,.slice a2 c.methods.length cap2] 58)):=((Kp.refl _ _).alloc _);have b0:=aC.new w 58 #[.string c.name,.string c.aQ,.slice a c.fields.length cap,.slice a2 c.methods.length cap2];have P0:=Ys (ae.Fz b0 _ rfl);clear b0;have HE:=Ys (Sn c);cases yS:M.aY c.name
 · have HN:=Ys yS;clear yS;go_enter Tryz.func83,Tryz.ntmps83;go_wp2_with (go_at_call 25;refine(fZ _ _).mono ?_;rintro e w1 ⟨rfl,rfl⟩;rw[HN.o]);go_ret;exact⟨ag (by rw[HE.o,HN.o];rfl),kx⟩
 have HN:=Ys yS;clear yS;by_cases ES:(decide (c.aQ=M.none_)|| M.aY c.aQ)=true
 case neg=>
  have Z0:(decide (c.aQ=M.none_))=false:=by
   cases hd:decide (c.aQ=M.none_)
   · rfl
   · rw[hd]at ES;exact absurd rfl ES
  have I5:M.aY c.aQ=false:=by
   cases hd:M.aY c.aQ
   · rfl
   · rw[hd]at ES;simp at ES
  have hs:c.aQ.toList.isEmpty=false:=(fK c.aQ).trans Z0;have HS1:=Ys Z0;have HS:=Ys I5;clear Z0 I5 ES;go_enter Tryz.func83,Tryz.ntmps83;go_wp2_with fail;refine(fZ _ _).mono ?_;rintro e w1 ⟨rfl,rfl⟩;rw[HN.o];go_wp2_with fail;refine(fZ _ _).mono ?_;rintro e w1 ⟨rfl,rfl⟩;rw[HS.o];go_wp2;go_ret;exact⟨ag (by rw[HE.o,HS1.o,HS.o];simp),kx⟩
 have Zq:=Ys ES;clear ES;by_cases hlf:3<c.fields.length∨4<c.methods.length
 · have HF:Zs (M.oW c=false):=Ys (by
    rw[HE.o];rcases hlf with h|h
    · rw[decide_eq_false (p:=c.fields.length≤3) (by omega)];simp
    · rw[decide_eq_false (p:=c.methods.length≤4) (by omega)];simp)
   have HLF:=Ys hlf;clear hlf;go_enter Tryz.func83,Tryz.ntmps83;go_upto_region 1 with(fail);go_cut [25] (fun s25 wx=>s25=.bool false∧wx=w.alloc (.cells #[.string c.name,.string c.aQ,.slice a c.fields.length cap,.slice a2 c.methods.length cap2] 58))
   case first=>
    go_wp2_with fail;refine(fZ _ _).mono ?_;rintro e w1 ⟨rfl,rfl⟩;rw[HN.o];cases hs:c.aQ.toList.isEmpty
    · have I5:M.aY c.aQ=true:=by
       have:=Zq.o;rw[←fK,hs]at this;exact this
      have HS:=Ys I5;clear I5;go_wp2_with fail;refine(fZ _ _).mono ?_;rintro e w1 ⟨rfl,rfl⟩;rw[HS.o];go_wp2_with fail;go_meet;exact⟨rfl,rfl⟩
    · go_wp2_with fail;go_meet;exact⟨rfl,rfl⟩
   case rest=>
    obtain⟨rfl,rfl⟩:=hcut;rcases HLF.o with h|h
    · go_wp2;go_ret;exact⟨ag HF.o.symm,kx⟩
    · by_cases h':3<c.fields.length
      all_goals
       go_wp2;go_ret;exact⟨ag HF.o.symm,kx⟩
 have aex:c.fields.length≤3:=by omega
 have aey:c.methods.length≤4:=by omega
 clear hlf;have HF:Zs (M.oW c=(DY c 0&&Ci c 0)):=Ys (by
  rw[HE.o,HN.o,Zq.o,decide_eq_true aex,decide_eq_true aey];rfl)
 go_enter Tryz.func83,Tryz.ntmps83;go_upto_region 1 with(fail);go_cut [25] (fun s25 wx=>s25=.bool false∧wx=w.alloc (.cells #[.string c.name,.string c.aQ,.slice a c.fields.length cap,.slice a2 c.methods.length cap2] 58))
 case first=>
  go_wp2_with fail;refine(fZ _ _).mono ?_;rintro e w1 ⟨rfl,rfl⟩;rw[HN.o];cases hs:c.aQ.toList.isEmpty
  · have I5:M.aY c.aQ=true:=by
     have:=Zq.o;rw[←fK,hs]at this;exact this
    have HS:=Ys I5;clear I5;go_wp2_with fail;refine(fZ _ _).mono ?_;rintro e w1 ⟨rfl,rfl⟩;rw[HS.o];go_wp2_with fail;go_meet;exact⟨rfl,rfl⟩
  · go_wp2_with fail;go_meet;exact⟨rfl,rfl⟩
 case rest =>
  obtain⟨rfl,kr⟩:=hcut;rw[←kr]at aU;rw[←kr]at P0;subst kr;generalize bD:(w.alloc (.cells #[.string c.name,.string c.aQ,.slice a c.fields.length cap,.slice a2 c.methods.length cap2] 58))=w0 at*;clear bD;obtain⟨p0,p1,p2,p3⟩:=P0.o.four;simp only[Nat.zero_add]at p1 p2 p3;go_wp2;clear p0 p1 p2 p3;go_loopw [39] (fun i wr=>∃k:Nat,k≤c.fields.length∧i=.int .i64 k∧Ext w0 wr∧Zs (DY c 0=DY c k)) (fun i _=>c.fields.length - (intOf i).toNat)
  case atStart=>exact⟨0,Nat.zero_le _,rfl,Kp.refl _ _,Ys rfl⟩
  case round =>
   obtain⟨k,hk,rfl,hE,HA⟩:=hrel;obtain⟨p0,p1,p2,p3⟩:=(P0.o.ext hE).four;simp only[Nat.zero_add]at p1 p2 p3;have hz:=aG p0;by_cases bZ:k<c.fields.length
   · obtain ⟨x, hx⟩ := get_some bZ; obtain ⟨b, off, cs, rfl, hI, rfl, -, hc⟩ := h1.get hx; have G := Ys ((hc.ext aU).ext hE); have HX := Ys hx; have qM := Ys (MB hx); clear hx hc; obtain ⟨g0, g1, g2⟩ := G.o.three; cases mG : M.aY x.name
     · have J4:=Ys mG;clear mG;go_wp2_with (go_at_call 25;refine(fZ _ _).mono ?_;rintro e w1 ⟨rfl,rfl⟩;rw[J4.o]);go_ret;exact⟨ag (by rw[HF.o,HA.o,qM.o,J4.o];simp),(by repeat (first|assumption|exact Kp.refl _ _|apply Kp.alloc|apply Kp.drew|apply Kp.drewN|refine Kp.trans ?_ (by assumption)))⟩
     have J4:=Ys mG;clear mG;have B1:=aC.new wr 203 #[.string x.name,.int .i64 x.kind.kind,.string x.kind.name];go_wp2_with fail;refine(fZ _ _).mono ?_;rintro e w1 ⟨rfl,rfl⟩;rw[J4.o];go_wp2_with fail;refine(Bw x.kind _).mono ?_;rintro e w1 ⟨rfl,hB⟩;cases tY:M.jq x.kind
     · have Ce:=Ys tY;clear tY;go_wp2;go_ret;exact⟨ag (by rw[HF.o,HA.o,qM.o,Ce.o];simp),(by repeat (first|assumption|exact Kp.refl _ _|apply Kp.alloc|apply Kp.drew|apply Kp.drewN|refine Kp.trans ?_ (by assumption)))⟩
     have Ce:=Ys tY;clear tY;have r2:=hB.OB p2;have f0:=(B1.ext hB).c 0 _ rfl;have bA:Ext w0 w1:=(by repeat (first|assumption|exact Kp.refl _ _|apply Kp.alloc|apply Kp.drew|apply Kp.drewN|refine Kp.trans ?_ (by assumption)));have hfz:=aG f0;clear g0 g1 g2 p0 p1 p2 p3;go_wp2;clear r2;obtain⟨wo,rfl⟩:∃wo:World,wo=wr:=⟨_,rfl⟩;go_loopw [59] (fun j wi=>∃q:Nat,q≤k∧j=.int .i64 q∧Ext w1 wi∧Zs (∀j y,c.fields[j]?=some y→j<q→M.Field.name y≠M.Field.name x)) (fun j _=>k - (intOf j).toNat)
     case atStart=>exact⟨0,Nat.zero_le _,rfl,Kp.refl _ _,Ys (fun j y _ h=>absurd h (Nat.not_lt_zero _))⟩
     case round =>
      obtain⟨q,hq,rfl,U8,HQ⟩:=hrel;have e0:=U8.aA f0;have hei:=aG e0;by_cases WM:q<k
      · obtain⟨y,hy⟩:=get_some (show q<c.fields.length by omega);obtain⟨b',off',cs',OP, -,rfl, -,Vk⟩:=h1.get hy;cases OP;obtain⟨g0,g1,g2⟩:=(((Vk.ext aU).ext bA).ext U8).three;have HY:=Ys hy;clear hy Vk;cases oC:(y.name.toList==x.name.toList)
        · have kN:=Ys oC;go_wp2;go_roundw
          case rel=>
           refine⟨q+1,by omega,by go_num,kx,Ys (fun j z hz' hj=>?_)⟩;by_cases hjq:j<q
           · exact HQ.o j z hz' hjq
           · obtain rfl:j=q:=by omega
             rw[HY.o]at hz';cases hz';rw[jZ]at oC;simpa using oC
          case measure=>simp[intOf];omega
        · have kN:=Ys oC;go_wp2;go_ret;rw[jZ]at oC;exact⟨ag (by rw[HF.o,HA.o,qM.o,KJ HY.o WM (by simpa using oC)];simp),(by repeat (first|assumption|exact Kp.refl _ _|apply Kp.alloc|apply Kp.drew|apply Kp.drewN|refine Kp.trans ?_ (by assumption)))⟩
      · obtain rfl:q=k:=by omega
        go_wp2;go_roundw
        case rel=>exact⟨q+1,by omega,by go_num,(by repeat (first|assumption|exact Kp.refl _ _|apply Kp.alloc|apply Kp.drew|apply Kp.drewN|refine Kp.trans ?_ (by assumption))),Ys (by rw[HA.o,qM.o,J4.o,Ce.o,Hv HQ.o];rfl)⟩
        case measure=>simp[intOf];omega
   · have HM : Zs (M.oW c = Ci c 0) := Ys (by rw [HF.o, HA.o, Pk (by omega)]; rfl); clear HA HF; go_wp2; clear p0 p1 p2 p3; have bP : Ext w wr := aU.trans hE; have P2 := Ys (P0.o.ext hE); clear P0 hE aU hz; obtain ⟨wl, rfl⟩ : ∃ wl : World, wl = wr := ⟨_, rfl⟩; go_loopw [73] (fun i wr => ∃ k : Nat, k ≤ c.methods.length ∧ i = .int .i64 k ∧ Ext wl wr ∧ Zs (Ci c 0 = Ci c k)) (fun i _ => c.methods.length - (intOf i).toNat)
     case atStart=>exact⟨0,Nat.zero_le _,rfl,Kp.refl _ _,Ys rfl⟩
     case round =>
      clear bZ hk;obtain⟨k,hk,rfl,hE,HA⟩:=hrel;obtain⟨p0,p1,p2,p3⟩:=(P2.o.ext hE).four;simp only[Nat.zero_add]at p1 p2 p3;have hz:=aG p0;by_cases bZ:k<c.methods.length
      · obtain ⟨x, hx⟩ := get_some bZ; obtain ⟨b, off, cs, rfl, hI, HX0, -, hc⟩ := h2.get hx; obtain ⟨ya1, yc1, ya2, yc2, ya3, yc3, rfl⟩ := HX0.form; have HX1 := Ys (aH.stays _ _ _ _ _ _ (Ext.same (bP.trans hE)) (fun _ h => h) HX0); have G := Ys ((hc.ext bP).ext hE); have HX := Ys hx; have qM := Ys (MR hx); clear hx hc HX0; obtain ⟨g0, g1, g2, g3, g4, g5, g6, g7⟩ := G.o.eight; have B1 := aC.new wr 54 #[.string x.name, .slice ya1 x.args.length yc1, .int .i64 x.ret.kind, .string x.ret.name, .int .i64 x.locals, .int .i64 x.stack, .slice ya2 x.code.length yc2, .slice ya3 x.maps.length yc3]; go_wp2_with fail; refine (aay _ _ _ _ (aH.stays _ _ _ _ _ _ (Ext.same ((Kp.refl _ _).alloc _)) (fun _ h => h) HX1.o)).mono ?_; rintro e w1 ⟨rfl, hB⟩; cases tY : M.uZ x
        · have Ce:=Ys tY;clear tY;go_wp2;go_ret;exact⟨ag (by rw[HM.o,HA.o,qM.o,Ce.o];simp),(by repeat (first|assumption|exact Kp.refl _ _|apply Kp.alloc|apply Kp.drew|apply Kp.drewN|refine Kp.trans ?_ (by assumption)))⟩
        have Ce:=Ys tY;clear tY;have r3:=hB.OB p3;have f0:=(B1.ext hB).c 0 _ rfl;have bA:Ext wl w1:=(by repeat (first|assumption|exact Kp.refl _ _|apply Kp.alloc|apply Kp.drew|apply Kp.drewN|refine Kp.trans ?_ (by assumption)));have hfz:=aG f0;clear g0 g1 g2 g3 g4 g5 g6 g7 p0 p1 p2 p3;go_wp2;clear r3;obtain⟨wo,rfl⟩:∃wo:World,wo=wr:=⟨_,rfl⟩;go_loopw [86] (fun j wi=>∃q:Nat,q≤k∧j=.int .i64 q∧Ext w1 wi∧Zs (∀j y,c.methods[j]?=some y→j<q→M.Method.name y≠M.Method.name x)) (fun j _=>k - (intOf j).toNat)
        case atStart=>exact⟨0,Nat.zero_le _,rfl,Kp.refl _ _,Ys (fun j y _ h=>absurd h (Nat.not_lt_zero _))⟩
        case round =>
         obtain⟨q,hq,rfl,U8,HQ⟩:=hrel;have e0:=U8.aA f0;have hei:=aG e0;by_cases WM:q<k
         · obtain⟨y,hy⟩:=get_some (show q<c.methods.length by omega);obtain⟨b',off',cs',OP, -,hyy, -,Vk⟩:=h2.get hy;obtain⟨za1,zc1,za2,zc2,za3,zc3,rfl⟩:=hyy.form;cases OP;clear hyy;obtain⟨g0,g1,g2,g3,g4,g5,g6,g7⟩:=(((Vk.ext bP).ext bA).ext U8).eight;have HY:=Ys hy;clear hy Vk;cases oC:(y.name.toList==x.name.toList)
           · have kN:=Ys oC;go_wp2;go_roundw
             case rel=>
              refine⟨q+1,by omega,by go_num,kx,Ys (fun j z hz' hj=>?_)⟩;by_cases hjq:j<q
              · exact HQ.o j z hz' hjq
              · obtain rfl:j=q:=by omega
                rw[HY.o]at hz';cases hz';rw[jZ]at oC;simpa using oC
             case measure=>simp[intOf];omega
           · have kN:=Ys oC;go_wp2;go_ret;rw[jZ]at oC;exact⟨ag (by rw[HM.o,HA.o,qM.o,KJ HY.o WM (by simpa using oC)];simp),(by repeat (first|assumption|exact Kp.refl _ _|apply Kp.alloc|apply Kp.drew|apply Kp.drewN|refine Kp.trans ?_ (by assumption)))⟩
         · obtain rfl:q=k:=by omega
           go_wp2;go_roundw
           case rel=>exact⟨q+1,by omega,by go_num,(by repeat (first|assumption|exact Kp.refl _ _|apply Kp.alloc|apply Kp.drew|apply Kp.drewN|refine Kp.trans ?_ (by assumption))),Ys (by rw[HA.o,qM.o,Ce.o,Hv HQ.o];rfl)⟩
           case measure=>simp[intOf];omega
      · go_wp2;go_ret;exact⟨ag (by rw[HM.o,HA.o,Pw (by omega)]),(by repeat (first|assumption|exact Kp.refl _ _|apply Kp.alloc|apply Kp.drew|apply Kp.drewN|refine Kp.trans ?_ (by assumption)))⟩
end Go.Proofs.YtcepdbbapgfcdaaGreat
namespace Go.Proofs.YtcepdbbapgfcdaaGreat.M
theorem qU{α:Type}{name:α→ByteArray}{ok:α→Bool}:∀{l:List α} {seen:List ByteArray},dU name ok l seen=true→∀x∈l,ok x=true
 |[],_,_=>by simp
 |y::r,seen,h=>by
  unfold dU at h;simp only[Bool.and_eq_true]at h;intro x hx;rcases List.mem_cons.1 hx with rfl|hx
  · exact h.1.1
  · exact qU h.2 x hx
theorem BA{p:au}(h:bU p=true):1≤p.length∧p.length≤3:=by
 unfold bU at h;simp only[Bool.and_eq_true,decide_eq_true_eq]at h;exact⟨h.1.1,h.1.2⟩
theorem Ic{p:au}(h:bU p=true){k:Int}{q:gy}(hk:jK p k=some q):eP p q=true:=by
 unfold bU at h;simp only[Bool.and_eq_true]at h;unfold jK at hk;split at hk
 · exact List.all_eq_true.1 h.2 q (List.mem_of_getElem? hk)
 · cases hk
theorem OO{p:au}{k:Int}:has p k=true↔0≤k∧k<p.length:=by
 unfold has;simp
theorem Nh{p:au}(gp:bU p=true){k:Int}{n:ByteArray}{q:Int}(h:zI p k n=some q):has p q=true:=by
 unfold zI at h;rw[Option.bind_eq_some_iff]at h;obtain⟨kp,hk,h2⟩:=h;rw[Option.map_eq_some_iff]at h2;obtain⟨a,ha,rfl⟩:=h2;have h3:=Ic gp hk;unfold eP at h3;simp only[Bool.and_eq_true]at h3;have:=qU h3.2 a (List.mem_of_find?_eq_some ha);simp only[Bool.and_eq_true]at this;exact this.2
theorem LG{p:au}(r:Ref):(sN p r).isSome=owned p r:=by
 unfold sN owned cls?;cases jK p r.keeper with
 |none=>rfl
 |some q=>
  simp only[Option.bind_some];rw[Bool.eq_iff_iff,List.findIdx?_isSome,List.find?_isSome];simp
theorem Be{p:au}{r:Ref}{c:Class}(h:cls? p r=some c):∃q i,jK p r.keeper=some q∧sN p r=some i∧q.owns[i]?=some c∧i<q.owns.length:=by
 unfold cls? at h;rw[Option.bind_eq_some_iff]at h;obtain⟨q,hq,h2⟩:=h;have hi:(q.owns.findIdx? fun c=>decide (c.name=r.name)).isSome=true:=by
  rw[List.findIdx?_isSome,List.any_eq_true];exact⟨c,List.mem_of_find?_eq_some h2,by simpa using List.find?_some h2⟩
 obtain⟨i,hi⟩:=Option.isSome_iff_exists.1 hi;refine⟨q,i,hq,by unfold sN;rw[hq];exact hi,?_,?_⟩
 · rw[List.findIdx?_eq_some_iff_getElem]at hi;obtain⟨bZ,h3,h4⟩:=hi;rw[List.getElem?_eq_getElem bZ];rw[List.find?_eq_some_iff_getElem]at h2;obtain⟨h8,j,hj,h5,h6⟩:=h2;have:i=j:=by
    rcases Nat.lt_trichotomy i j with h|h|h
    · have:=h6 i h;simp only[Bool.not_eq_true']at this;rw[h3]at this;cases this
    · exact h
    · have h9:=h4 j h;rw[h5]at h9;exact absurd h8 h9
   subst this;rw[h5]
 · rw[List.findIdx?_eq_some_iff_getElem]at hi;exact hi.1
theorem IU{p:au}{r:Ref}{c:Class}(h:cls? p r=some c):0≤r.keeper∧r.keeper<p.length:=by
 obtain⟨q,i,hq,_⟩:=Be h;unfold jK at hq;split at hq
 · have:=(List.getElem?_eq_some_iff.1 hq).1;omega
 · cases hq
theorem Qz{p:au}{l:List Int}(hn:l.Nodup)(hh:∀q∈l,has p q=true):l.length≤p.length:=by
 have h1:l ⊆ (List.range p.length).map Int.ofNat:=by
  intro q hq;have:=OO.1 (hh q hq);exact List.mem_map.2 ⟨q.toNat,List.mem_range.2 (by omega),by simp;omega⟩
 have:=hn.length_le_of_subset h1;simpa using this
theorem Av{p:au}{n:ByteArray}:∀{f:Nat} {asked:List Int} {k:Int},asked.getLastD 0=k→(jP p n f asked k).2=1→owned p ⟨(jP p n f asked k).1.getLastD 0,n⟩=true
 |0,_,_,_,h=>by simp[jP]at h
 |f+1,asked,k,hl,h=>by
  unfold jP at h ⊢;split at h
  · rename_i h1;split at h
    · rename_i h2;simp only[h2,if_true];rw[hl];exact h2
    · simp at h
  · rename_i next h1
    split at h
    · simp at h
    · rename_i h2;simp only[h2,if_false,Bool.false_eq_true];exact Av (by simp) h
theorem NP{p:au}{k:Int}{n:ByteArray}(h:(path p k n).2=1):owned p ⟨(path p k n).1.getLastD 0,n⟩=true:=by
 unfold path at h ⊢;split at h
 · rename_i hk;rw[if_pos hk];exact Av rfl h
 · simp at h
theorem gU{p:au}{k:Int}{n:ByteArray}(h:(resolve p k n).2=1):∃c,cls? p (resolve p k n).1=some c:=by
 unfold resolve at h ⊢;split at h
 · rename_i hp;rw[if_pos hp];exact Option.isSome_iff_exists.1 (NP hp)
 · rename_i hp;exact absurd h hp
end Go.Proofs.YtcepdbbapgfcdaaGreat.M
namespace Go.Proofs.YtcepdbbapgfcdaaGreat
open Go Go.RowKit
theorem nN(w:World)(l:aI)(p:M.au)(h:aF w l p)(k:Int):
    Calls Tryz.prog 24 #[.pointer (some ⟨l.L,0,none⟩),.int .i64 k] w fun e w'=>e=.returned (.bool (M.has p k))∧w=w':=by
 obtain⟨a,cap,hs,c0,c1,c2,c3⟩:=h.cells;have d0:=c0 w (Kp.refl _ w);clear hs h c0 c1 c2 c3;go_enter Tryz.func24,Tryz.ntmps24;go_wp2
 · go_ret;exact⟨ag (by unfold M.has;rw[decide_eq_true (p:=0≤k) (by omega)];rfl),rfl⟩
 · go_ret;exact⟨ag (by unfold M.has;rw[decide_eq_false (p:=0≤k) (by omega)];rfl),rfl⟩
def lenOf:Value→Nat| .slice _ n _=>n|_=>0
structure aaM(p:M.au)(n:ByteArray)(k:Int)(f:Nat)(asked:List Int)(cur:Int):Prop where
 fuel:f+asked.length=5
 one:1≤asked.length
 nodup:asked.Nodup
 has:∀q∈asked,M.has p q=true
 last:asked.getLastD 0=cur
 eq:M.path p k n=M.jP p n f asked cur
theorem NG (w : World) (l : aI) (p : M.au) (h : aF w l p) (k : Int) (n : ByteArray) :
    Calls Tryz.prog 119 #[.pointer (some ⟨l.L,0,none⟩),.int .i64 k,.string n] w fun e w'=>
     (∃v,e=.returned (.tuple #[v,.int .i64 (M.path p k n).2])∧SliceOf 1 iZ w' (fun b=>w.heap.size≤b) v (M.path p k n).1)∧Ext w w':=by
 cases hk:M.has p k
 · have HK:=Ys hk;clear hk;have H:=Ys h;clear h;go_enter Tryz.func119,Tryz.ntmps119;go_wp2_with (go_at_call 24;refine(nN _ _ _ H.o _).mono ?_;rintro e w1 ⟨rfl,rfl⟩;rw[HK.o]);go_ret2;refine⟨⟨.slice none 0 0,?_,?_⟩,Kp.refl _ _⟩
   · unfold M.path;rw[HK.o];rfl
   · unfold M.path;rw[HK.o];exact SliceOf.nil _ _ _ _
 · have HK := Ys hk; clear hk; obtain ⟨a, cap, hs, c0, c1, c2, c3⟩ := h.cells; have lo := h.JB; have la := h.JA; have H := Ys h; clear h hs; go_enter Tryz.func119, Tryz.ntmps119; go_wp2_with (go_at_call 24; refine (nN _ _ _ H.o _).mono ?_; rintro e w1 ⟨rfl, rfl⟩; rw [HK.o]); have aU : Ext w (w.alloc (.cells #[.int .i64 k] 3)) := ((Kp.refl _ _).alloc _); go_loopw [1, 8] (fun c s wr => ∃ f cur asked, c = .int .i64 cur ∧ wr.ownsRow w.heap.size 3 1 s asked.length (asked.map fun q => Value.int .i64 q) ∧ Ext w wr ∧ aaM p n k f asked cur) (fun c s wr => 5 - (lenOf s))
   case atStart=>
    refine⟨4,k,[k],rfl,?_,aU,⟨rfl,by simp,by simp,by simp[HK.o],rfl,?_⟩⟩
    · exact World.ownsRow_lit (size:=1) w #[.int .i64 k] 1 (Nat.le_refl _) (by unfold maxLen;omega) rfl
    · unfold M.path;rw[if_pos HK.o]
   case round =>
    obtain⟨f,cur,asked,rfl,dX,hE,Du⟩:=hrel;obtain⟨g,cp,rfl,hg,hgl,hcp⟩:=cO dX Du.one;have d1:=c1 wr hE;have d2:=c2 wr hE;have lo':=lo wr hE cur n;have la':=la wr hE cur n;have HA:=Ys Du;have HO:=Ys dX;have hlen:asked.length≤5:=by have:=Du.fuel;omega
    clear Du dX c0 c1 c2 c3 lo la;have hf0:0<f:=by
     have h1:=HA.o.fuel;have h2:=M.Qz HA.o.nodup HA.o.has;have h3:=(M.BA H.o.ok).2;omega
    obtain⟨f,rfl⟩:∃f',f=f'+1:=⟨f - 1,by omega⟩;cases hq:M.zI p cur n with
    | none =>
     rw[hq]at la';simp only[Option.getD_none,Option.isSome_none]at la';have HQ:=Ys hq;clear hq;have bH:M.path p k n=if M.owned p ⟨cur,n⟩then(asked,1)else([],2):=by
      rw[HA.o.eq];unfold M.jP;rw[HQ.o]
     have HS:=Ys bH;clear bH;rw[M.LG]at lo';cases ho:M.owned p ⟨cur,n⟩
     · rw[ho]at lo';have HW:=Ys ho;clear ho;go_wp2;go_ret2;have e:M.path p k n=([],2):=by rw[HS.o,HW.o];rfl
       rw[e];exact⟨⟨.slice none 0 0,rfl,SliceOf.nil _ _ _ _⟩,hE⟩
     · rw[ho]at lo';have HW:=Ys ho;clear ho;go_wp2;go_ret2;have e:M.path p k n=(asked,1):=by rw[HS.o,HW.o];rfl
       rw[e];exact⟨⟨_,rfl,SliceOf.iy (fun q=>[Value.int .i64 q]) HO.o rfl (Lp _ _) (fun _ _=>rfl) (fun _ _=>rfl) (fun b hb _=>hb) (Nat.le_trans hlen (by omega))⟩,hE⟩
    | some next =>
     rw[hq]at la';simp only[Option.getD_some,Option.isSome_some]at la';have HQ:=Ys hq;clear hq lo';have bH:M.path p k n=if asked.contains next then([],3)else M.jP p n f (asked++[next]) next:=by
      rw[HA.o.eq];conv=>lhs;unfold M.jP
      rw[HQ.o]
     have HS:=Ys bH;clear bH;go_wp2;go_loop [36] (fun j=>∃q:Nat,q≤asked.length∧j=.int .i64 q∧Zs (∀i x,asked[i]?=some x→i<q→x≠next)) (fun j=>asked.length - (intOf j).toNat)
     case atStart=>exact⟨0,Nat.zero_le _,rfl,Ys (fun _ _ _ h=>absurd h (Nat.not_lt_zero _))⟩
     case round =>
      obtain⟨q,hq,rfl,HN⟩:=hrel;by_cases WM:q<asked.length
      · obtain⟨x,hx⟩:=get_some WM;have ou:wr.cell? ⟨g,q,none⟩=some (.int .i64 x):=by
         rw[HO.o.cellAt q (by omega)];simp[hx]
        have HX:=Ys hx;clear hx;by_cases hxn:x=next
        · subst hxn;go_wp2;go_ret2;have Yf:asked.contains x=true:=by simp[List.mem_of_getElem? HX.o]
          have e:M.path p k n=([],3):=by rw[HS.o,if_pos Yf]
          rw[e];exact⟨⟨.slice none 0 0,rfl,SliceOf.nil _ _ _ _⟩,hE⟩
        · go_wp2;go_round
          case rel=>
           refine⟨q+1,by omega,by go_num,Ys (fun i y hi bZ=>?_)⟩;by_cases hiq:i<q
           · exact HN.o i y hi hiq
           · obtain rfl:i=q:=by omega
             rw[HX.o]at hi;cases hi;exact hxn
          case measure=>simp[intOf];omega
      · go_wp2_with (at_builtin;refine ru Et _ rfl _ _ rfl w.heap.size _ _ _ rfl (HO.o.alloc _) wr.heap.size 1 [.int .i64 next] rfl rfl ?c1 ?c2 ?c3 ?c4 ?_)
        case c1=>exact ae.Fz (aC.new _ _ _) _ rfl
        case c2=>simp[Value.oneCell']
        case c3=>omega
        case c4=>have:=hE.size;simp;omega
        obtain rfl:q=asked.length:=by omega
        intro v' w' Cx hK g1 cp1 hv1 Rn Bt;subst hv1;have yG:=Ys Cx;have zy:=Ys hK;clear Cx hK;go_wp2;go_roundw
        case rel =>
         refine⟨f,next,asked++[next],rfl,by simpa using yG.o,?_,?_⟩
         · refine(hE.alloc _).own zy.o ?_;intro b hb;simp only[Value.ownBlock,Option.some.injEq]at hb;omega
         · have Yf:asked.contains next=false:=by
            cases hc:asked.contains next
            · rfl
            · rw[List.contains_iff_mem]at hc;obtain⟨i,hi⟩:=List.mem_iff_getElem?.1 hc;exact absurd rfl (HN.o i next hi (List.getElem?_eq_some_iff.1 hi).1)
           refine⟨by have:=HA.o.fuel;simp;omega,by simp,?_,?_,by simp,by rw[HS.o,Yf];rfl⟩
           · rw[List.nodup_append];refine⟨HA.o.nodup,by simp,fun a ha b hb e=>?_⟩;simp only[List.mem_singleton]at hb;subst hb e;have:=List.contains_iff_mem.2 ha;rw[Yf]at this;cases this
           · intro q hq;rcases List.mem_append.1 hq with hq|hq
             · exact HA.o.has q hq
             · rw[List.mem_singleton]at hq;subst hq;exact M.Nh H.o.ok HQ.o
        case measure=>have:=HA.o.fuel;simp[lenOf];omega
theorem QF{p:M.au}{k:Int}{n:ByteArray}(h:(M.path p k n).2=1):(M.path p k n).1≠[]:=by
 have go:∀f (asked:List Int) k,asked≠[]→(M.jP p n f asked k).2=1→(M.jP p n f asked k).1≠[]:=by
  intro f;induction f with
  |zero=>intro asked k _ h;simp[M.jP]at h
  |succ f ih=>
   intro asked k ha h;unfold M.jP at h ⊢;split at h
   · split at h
     · rename_i h1 h2;simp[h2,ha]
     · simp at h
   · rename_i next h1
     split at h
     · simp at h
     · rename_i h2;rw[if_neg h2];exact ih _ _ (by simp) h
 unfold M.path at h ⊢;split at h
 · rename_i hk;rw[if_pos hk];exact go _ _ _ (by simp) h
 · simp at h
theorem yx(w:World)(l:aI)(p:M.au)(h:aF w l p)(k:Int)(n:ByteArray):
    Calls Tryz.prog 84 #[.pointer (some ⟨l.L,0,none⟩),.int .i64 k,.string n] w fun e w'=>
     e=.returned (.tuple #[.agg #[.int .i64 (M.resolve p k n).1.keeper,.string (M.resolve p k n).1.name],.int .i64 (M.resolve p k n).2])∧Ext w w':=by
 have H:=Ys (h.ext ((Kp.refl _ w).alloc (.cells #[.int .i64 0,.string ⟨#[]⟩] 40)));clear h;have b0:=aC.new w 40 #[.int .i64 0,.string ⟨#[]⟩];have aU:Ext w (w.alloc (.cells #[.int .i64 0,.string ⟨#[]⟩] 40)):=((Kp.refl _ _).alloc _);go_enter Tryz.func84,Tryz.ntmps84;go_wp2_with fail;refine(NG _ _ _ H.o _ _).mono ?_;rintro e w1 ⟨⟨v,rfl,hs⟩,hB⟩;have b1:=b0.ext hB;have c0:=b1.c 0 (.int .i64 0) rfl;have c1:=b1.c 1 (.string ⟨#[]⟩) rfl;have f0:=b1.frozen 0;have f1:=b1.frozen 1;by_cases hc:(M.path p k n).2=1
 · have oC:=QF hc;obtain⟨a,cap,hv,hn,aeF⟩:=hs.form;subst hv;have hl:0<(M.path p k n).1.length:=List.length_pos_iff.2 oC;obtain⟨x,hx⟩:=get_some (l:=(M.path p k n).1) (k:=(M.path p k n).1.length - 1) (by omega);obtain⟨b,off,cs,rfl,hI,rfl, -,jh⟩:=hs.get hx;have g0:=jh.one;rw[Nat.mul_one]at g0;have hR:Zs (M.resolve p k n=(⟨x,n⟩,1)):=Ys (by
    unfold M.resolve;rw[if_pos hc,List.getLastD_eq_getLast?,List.getLast?_eq_getElem?,hx];rfl)
   rw[hc];clear hx hs oC jh hc;generalize (M.path p k n).1.length=m at*;go_wp2;refine bodyPost_ret (v:=.tuple #[.agg #[.int .i64 x,.string n],.int .i64 1]) (by simp[results,Tryz.results84,go_sem,c0,c1]) rfl ?_;exact⟨by rw[hR.o],(by repeat (first|with_reducible assumption|with_reducible exact Kp.refl _ _|apply Kp.alloc|apply Kp.drew|apply Kp.drewN|refine Kp.setCell ?_ (fun h=>absurd h (by simp<;>omega)) _|assumption|refine Kp.trans ?_ (by assumption)|exact Kp.refl _ _))⟩
 · have hR:Zs (M.resolve p k n=(M.pO,(M.path p k n).2)):=Ys (by unfold M.resolve;rw[if_neg hc]);have zW:((M.path p k n).2==1)=false:=beq_eq_false_iff_ne.2 hc;obtain⟨a,cap,hv,hn,aeF⟩:=hs.form;subst hv;clear hs hc;generalize (M.path p k n).2=c at*;generalize (M.path p k n).1.length=m at*;go_wp2;refine bodyPost_ret (v:=.tuple #[.agg #[.int .i64 0,.string ⟨#[]⟩],.int .i64 c]) (by simp[results,Tryz.results84,go_sem,c0,c1]) rfl ?_;exact⟨by rw[hR.o];rfl,(by repeat (first|with_reducible assumption|with_reducible exact Kp.refl _ _|apply Kp.alloc|apply Kp.drew|apply Kp.drewN|refine Kp.setCell ?_ (fun h=>absurd h (by simp<;>omega)) _|assumption|refine Kp.trans ?_ (by assumption)|exact Kp.refl _ _))⟩
theorem jg{P:Program}{Q:Exit→Act→World→Prop}{w:World}{id:Nat}{l:List Oper}{a:Act}(n:Nat)(hm:P.follows .mixedOrders=true)(hB:Region.lexTailB .any l.toArray n=true)
    (h:wpStill P l.toArray w.drew (fun a'=>wpList P l.toArray Q (l.drop n) a' w.drew) (l.take n) a):(Code.region id l.toArray true).wp P Q a w:=wp_region_still_tail n hm hB h
theorem oG(w:World)(l:aI)(p:M.au)(h:aF w l p)(k:Int)(n:ByteArray)(c:M.Class)(Nj:M.cls? p ⟨k,n⟩=some c):
    Calls Tryz.prog 91 #[.pointer (some ⟨l.L,0,none⟩),.agg #[.int .i64 k,.string n]] w fun e w'=>
     (∃cs,aX w (· <l.O) c cs∧e=.returned (.agg cs.toArray))∧Ext w w':=by
 obtain⟨q,i,hq,hi,hqi,hil⟩:=M.Be Nj;obtain⟨uP,tY⟩:=M.IU Nj;simp only at uP tY;obtain⟨k,rfl⟩:=Int.eq_ofNat_of_zero_le uP;have jD:p[k]?=some q:=by
  unfold M.jK at hq;rw[if_pos uP]at hq;exact hq
 obtain⟨a,cap,hs,c0,c1,c2,c3⟩:=h.cells;have lo:=h.Ue;obtain⟨b,off,cs,rfl,hI,Aa, -,hc⟩:=hs.get jD;obtain⟨vo,va,rfl,s1,s2⟩:=Aa;obtain⟨a1,ad6,rfl,mG,lJ⟩:=s1.form;obtain⟨b1,ae4,cs1,rfl,hI1,fV, -,jh⟩:=s1.get hqi;obtain⟨y1,z1,y2,z2,rfl⟩:=fV.form;obtain⟨g0,g1⟩:=hc.two;obtain⟨e0,e1,e2,e3⟩:=jh.four;have l1:∀W,Ext w W→(Instr.lookup 103 (.map (some l.O)) (.agg #[.int .i64 (k:Int),.string n]) false).run Tryz.prog W=.ok (.int .i64 i) W:=by
  intro W hW;rw[lo W hW,hi];rfl
 have hp3:(p.length:Int)≤3:=by have:=(M.BA h.ok).2;omega
 have l2:=fun(X Y:Obj)=>l1 _ ((((Kp.refl _ w).alloc X).alloc Y).drew);clear l1;have pQ:=Ys fV;have hbw:=aG g0;have aef:=aG e0;have hbl:=h.lt;have d0:=c0 _ (Kp.refl _ w);have d1:=c1 _ (Kp.refl _ w);have hO:=h.ord;clear lo fV hs s1 s2 hc jh c0 c1 c2 c3 jD hqi hq hi Nj h;have acd:k<p.length:=by omega
 clear uP tY;go_enter Tryz.func91,Tryz.ntmps91;go_wp2;(refine jg 17 (by kernel_rfl) (by kernel_rfl) ?_);(simp only[List.take_succ_cons,List.take_zero,List.drop_succ_cons,List.drop_zero]);(repeat still_step);(refine wpStill_nil ?_);go_wp2;refine bodyPost_ret (v:=.agg #[.string c.name,.string c.aQ,.slice y1 c.fields.length z1,.slice y2 c.methods.length z2]) (by simp[results,Tryz.results91,go_sem]) rfl ?_;exact⟨⟨_,pQ.o,rfl⟩,kx⟩
def Iter{α:Type}(P:Program)(gf:Nat)(lb:Array Value)(encs:α→Array Value)(Gx Bd:Nat→Prop)(S Sp Vs:List α→Prop)(VM:World→Prop)(Nx:List α→α→Prop:=fun _ _=>True):Prop:=
 ∀(l:Nat) (J Jx:List α→World→Prop) (W:World),VM W→(∀s A B,J s A→Kp Gx A B→J s B)→(∀s A B,Jx s A→Kp Gx A B→Jx s B)→(∀s A,J s A→Vs s)→
  (∀pre x W1,Nx pre x→J pre W1→YieldAt Fence.wide 8 P l (encs x) W1 fun e W'=>Kp Bd W1 W'∧((e=.returned (.bool true)∧J (pre++[x]) W')∨(e=.returned (.bool false)∧Jx (pre++[x]) W')))→
  J [] W→CallsIn Fence.wide 9 P gf (#[.func (.yield l) #[] #[]]++lb) W fun e W'=>(∃v,e=.returned v)∧((∃xs,S xs∧J xs W')∨(∃pre,Sp pre∧Jx pre W'))
def roundEnd{α:Type}(Bb:Nat→Prop)(I:List α→World→Prop)(Ix:Code→List α→World→Prop)(xs:List α)(W:World):Exit→Act→World→Prop
 | .normal,_,W'=>Kp Bb W W'∧I xs W'
 | .ret,_,W'=>Kp Bb W W'∧Ix .ret xs W'
 | .exit id,_,W'=>Kp Bb W W'∧Ix (.exit id) xs W'
 | .goto t,_,W'=>Kp Bb W W'∧Ix (.goto t) xs W'
 | .panic _,_,_=>False
 | .outgrown,_,_=>False
theorem Kp.putObj(W:World)(l:Nat)(o:Obj):Kp (·=l) W (W.putObj l o):=
 ⟨rfl,rfl,rfl,by simp,fun _ _ h=>World.putObj_heap_other h⟩
theorem FI {α : Type} {P : Program} {g : Operand} {ps : Array Tmp} {assign body : Code} {Q : Exit → Act → World → Prop} {a : Act} {w : World} {gf : Nat} {lb : Array Value}
    (hg:a.eval g=.func (.func gf) #[] lb) (eg:∀args w,(callFunc gf args).run P w=.ok (.enter gf args) w) {encs:α→Array Value} (hps:∀x,(encs x).size=ps.size)
    {S Sp Vs:List α→Prop} {Gx Bb:Nat→Prop} {VM:World→Prop} {Nx:List α→α→Prop} (aat:Iter P gf lb encs Gx (fun k=>Bb k∨k=w.heap.size+1) S Sp Vs VM Nx)
    (hIt:∀W,Ext w W→VM W) (hD1:¬Gx w.heap.size) (hD2:¬Gx (w.heap.size+1)) (hB1:¬Bb w.heap.size) (hB2:¬Bb (w.heap.size+1))
    (I:List α→World→Prop) (Ix:Code→List α→World→Prop)
    (hI:∀s A B,I s A→Kp (fun k=>Gx k∨k=w.heap.size+1) A B→I s B) (hIx:∀c s A B,Ix c s A→Kp (fun k=>Gx k∨k=w.heap.size+1) A B→Ix c s B) (h0:I [] w) (hIB:∀s A,I s A→Vs s)
    (Ax:List α→α→World→Act→World→Prop)
    (hassign:∀(pre:List α) (x:α) (W:World) (K:Act→World→Prop),Nx pre x→I pre W→w.heap.size+1<W.heap.size→(∀a₁ W₁,Ax pre x W a₁ W₁→K a₁ W₁)→
     assign.wpIn (Fence.wide.inRound (w.heap.size+1)) 8 P (Exit.then K (fun _ _ _=>False)) {tmps:=(ps.zip (encs x)).foldl (fun t (p,v)=>t.setIfInBounds p v) a.tmps,defers:=[]} W)
    (hAx:∀pre x W a₁ W₁,Ax pre x W a₁ W₁→Kp Bb W W₁)
    (hbody:∀(pre:List α) (x:α) (W:World) (a₁:Act) (W₁ W₂:World),Ax pre x W a₁ W₁→Kp (·=w.heap.size+1) W₁ W₂→W₂.heap.size=W₁.heap.size→
     body.wpIn (Fence.wide.inRound (w.heap.size+1)) 8 P (roundEnd Bb I Ix (pre++[x]) W₂) a₁ W₂)
    (hdone:∀(xs:List α) (W:World),S xs→I xs W→W.heap[w.heap.size]?=some (.deferred (some []))→Q .normal {a with defers:={target:=.collected w.heap.size,args:=#[]}::a.defers} W)
    (hstop:∀(c:Code) (pre:List α) (W:World),Sp pre→Ix c pre W→W.heap[w.heap.size]?=some (.deferred (some []))→c.wpIn Fence.wide 10 P Q {a with defers:={target:=.collected w.heap.size,args:=#[]}::a.defers} W):
    (Code.rangeFunc g ps assign body).wpIn Fence.wide 10 P Q a w:=by
 refine wpIn_rangeFunc ?_;intro fn OU;show∃l mark w₁ d w₁' f args w₂,(Instr.enterLoop fn a.tmps ps assign body none).run P w=_∧_
 obtain⟨rec,ug⟩:∃rec:LoopState→Option Code→Loop,rec=fun st pe=>{state:=st,pending:=pe,fn,tmps:=a.tmps,params:=ps,assign,body,defers:=w.heap.size}:=⟨_,rfl⟩;obtain⟨W1,Jd⟩:∃W1,(w.alloc (.deferred (some []))).alloc (.loop (rec .ready none))=W1:=⟨_,rfl⟩;have Ct:W1.heap[w.heap.size+1]?=some (.loop (rec .ready none)):=by
  rw[←Jd];have:=World.alloc_heap_new (w.alloc (.deferred (some []))) (.loop (rec .ready none));rwa[World.size_alloc]at this
 have lU:W1.heap[w.heap.size]?=some (.deferred (some [])):=by
  rw[←Jd];exact(Below.heap_alloc _ _ _ (by simp)).trans (World.alloc_heap_new w _)
 have bA:Ext w W1:=by rw[←Jd];exact((Kp.refl _ _).alloc _).alloc _
 have hI1:I [] W1:=hI _ _ _ h0 bA.any;have keep:∀{D:Nat→Prop} {A B:World} {o:Obj} {k:Nat},Kp D A B→¬D k→A.heap[k]?=some o→B.heap[k]?=some o:=fun h hd ho=>
  (h.block _ (Array.getElem?_eq_some_iff.1 ho).1 hd).trans ho
 refine⟨w.heap.size+1,[{target:=.collected w.heap.size,args:=#[]}],W1,{target:=.fn (.func gf) lb,args:=#[.func (.yield (w.heap.size+1)) #[] #[]]},W1,gf,
  #[.func (.yield (w.heap.size+1)) #[] #[]]++lb,W1,?_,?_,?_,?_,fun h=>by simp[Fence.wide]at h,?_⟩
 · rw[←Jd,ug];exact run_enterLoop_outer _ _ _ _ _
 · simp only[resolve,hg];simp[go_sem]
 · intro f' _;trivial
 · simp[invoke,go_sem,eg]
 · refine(aat (w.heap.size+1)
    (fun pre W=>I pre W∧W.heap[w.heap.size+1]?=some (.loop (rec .ready none))∧W.heap[w.heap.size]?=some (.deferred (some [])))
    (fun pre W=>∃c,Ix c pre W∧W.heap[w.heap.size+1]?=some (.loop (rec .done (some c)))∧W.heap[w.heap.size]?=some (.deferred (some [])))
    W1 (hIt _ bA)
    (fun s A B hs hk=>⟨hI s A B hs.1 (hk.weak fun _ _ h=>.inl h),keep hk hD2 hs.2.1,keep hk hD1 hs.2.2⟩)
    (fun s A B hs hk=>by
     obtain⟨c,hc,hl,hd⟩:=hs;exact⟨c,hIx c s A B hc (hk.weak fun _ _ h=>.inl h),keep hk hD2 hl,keep hk hD1 hd⟩)
    (fun s A hs=>hIB s A hs.1) ?_ ⟨hI1,Ct,lU⟩).mono ?_
   · rintro pre x W OX ⟨hi,hl,hk⟩;have bZ:w.heap.size+1<W.heap.size:=(Array.getElem?_eq_some_iff.1 hl).1;have hy:=run_yield (P:=P) (args:=encs x) hl (by rw[ug];exact hps x);rw[ug]at hy;refine⟨fn,_,assign,body,hy,roundIn_of_wpIn OU (hassign pre x W _ OX hi bZ ?_)⟩;intro a₁ W₁ hax;have jD:=hAx _ _ _ _ _ hax;have Bt:W₁.heap[w.heap.size+1]?=some (.loop (rec .ready none)):=keep jD hB2 hl;have tY:W₁.heap[w.heap.size]?=some (.deferred (some [])):=keep jD hB1 hk;refine⟨_,run_beginRound Bt (by rw[ug]),?_⟩;have aaq:w.heap.size+1<W₁.heap.size:=(Array.getElem?_eq_some_iff.1 Bt).1;have Bu:(W₁.putObj (w.heap.size+1) (.loop {rec .ready none with state:=.busy})).heap[w.heap.size+1]?=some (.loop {rec .ready none with state:=.busy}):=World.putObj_heap_same aaq;have qJ:(W₁.putObj (w.heap.size+1) (.loop {rec .ready none with state:=.busy})).heap[w.heap.size]?=some (.deferred (some [])):=(World.putObj_heap_other (by omega)).trans tY;refine wpIn_mono (hbody pre x W a₁ W₁ _ hax (Kp.putObj _ _ _) (by simp)) ?_;have Aj:∀(W3:World),Kp Bb (W₁.putObj (w.heap.size+1) (.loop {rec .ready none with state:=.busy})) W3→∀o,Kp (fun k=>Bb k∨k=w.heap.size+1) W (W3.putObj (w.heap.size+1) o):=fun W3 h3 o=>
      (((jD.weak fun _ _ h=>.inl h).trans ((Kp.putObj _ _ _).weak fun _ _ h=>.inr h)).trans (h3.weak fun _ _ h=>.inl h)).trans ((Kp.putObj _ _ _).weak fun _ _ h=>.inr h)
     have fin:∀(jump:Option Code) (W3:World),Kp Bb (W₁.putObj (w.heap.size+1) (.loop {rec .ready none with state:=.busy})) W3→
         (Instr.endRound (w.heap.size+1) jump).run P W3=.ok (.bool jump.isNone) (W3.putObj (w.heap.size+1) (.loop (rec (if jump.isNone then .ready else .done) jump)))∧
         (W3.putObj (w.heap.size+1) (.loop (rec (if jump.isNone then .ready else .done) jump))).heap[w.heap.size+1]?=some (.loop (rec (if jump.isNone then .ready else .done) jump))∧
         (W3.putObj (w.heap.size+1) (.loop (rec (if jump.isNone then .ready else .done) jump))).heap[w.heap.size]?=some (.deferred (some [])):=fun jump W3 rF=>by
      have Yl:=keep rF hB2 Bu;have:=run_endRound (P:=P) jump Yl;rw[ug]at this ⊢;exact⟨this,World.putObj_heap_same (Array.getElem?_eq_some_iff.1 Yl).1,(World.putObj_heap_other (by omega)).trans (keep rF hB1 qJ)⟩
     have tr:∀(W3:World) (o:Obj),Kp (fun k=>Gx k∨k=w.heap.size+1) W3 (W3.putObj (w.heap.size+1) o):=fun W3 o=>(Kp.putObj _ _ _).weak fun _ _ h=>.inr h;rintro e a3 W3 hp;cases e with
     |normal=>
      obtain⟨rF,KV⟩:=hp;obtain⟨hr,Np,GU⟩:=fin none W3 rF;exact⟨_,_,hr,Aj _ rF _,.inl ⟨rfl,hI _ _ _ KV (tr _ _),Np,GU⟩⟩
     |ret=>
      obtain⟨rF,KV⟩:=hp;obtain⟨hr,Np,GU⟩:=fin (some .ret) W3 rF;exact⟨_,_,hr,Aj _ rF _,.inr ⟨rfl,.ret,hIx _ _ _ _ KV (tr _ _),Np,GU⟩⟩
     |exit id=>
      obtain⟨rF,KV⟩:=hp;obtain⟨hr,Np,GU⟩:=fin (some (.exit id)) W3 rF;exact⟨_,_,hr,Aj _ rF _,.inr ⟨rfl,.exit id,hIx _ _ _ _ KV (tr _ _),Np,GU⟩⟩
     |goto t=>
      obtain⟨rF,KV⟩:=hp;obtain⟨hr,Np,GU⟩:=fin (some (.goto t)) W3 rF;exact⟨_,_,hr,Aj _ rF _,.inr ⟨rfl,.goto t,hIx _ _ _ _ KV (tr _ _),Np,GU⟩⟩
     |panic ch=>exact hp.elim
     |outgrown=>exact hp.elim
   · rintro e W2 ⟨⟨v,rfl⟩,(⟨xs,hS,hi,hl,hk⟩|⟨pre,hSp,c,hi,hl,hk⟩)⟩
     · exact⟨none,_,by have:=run_endLoop (P:=P) hl (by rw[ug];simp);rw[ug]at this;exact this,
        hdone xs _ hS (hI _ _ _ hi ((Kp.putObj _ _ _).weak fun _ _ h=>.inr h)) ((World.putObj_heap_other (by omega)).trans hk)⟩
     · exact⟨some c,_,by have:=run_endLoop (P:=P) hl (by rw[ug];simp);rw[ug]at this;exact this,
        hstop c pre _ hSp (hIx _ _ _ _ hi ((Kp.putObj _ _ _).weak fun _ _ h=>.inr h)) ((World.putObj_heap_other (by omega)).trans hk)⟩
end Go.Proofs.YtcepdbbapgfcdaaGreat
namespace Go.Proofs.YtcepdbbapgfcdaaGreat
open Go Go.RowKit
attribute [local go_sem] Oper.semAt_some
theorem Lf(w:World)(L:Addr)(k:Int)(n:ByteArray):
    Calls Tryz.prog 120 #[.pointer (some L),.agg #[.int .i64 k,.string n]] w fun e w'=>
     e=.returned (.func (.func 140) #[] #[.pointer (some ⟨w.heap.size+1,0,none⟩),.pointer (some ⟨w.heap.size,0,none⟩)])∧
     w'=(w.alloc (.cells #[.pointer (some L)] 74)).alloc (.cells #[.int .i64 k,.string n] 40):=by
 go_enter Tryz.func120,Tryz.ntmps120;go_wp2;go_ret;exact⟨rfl,rfl⟩
def items(p:M.au):Nat→M.Ref→List (Option M.Ref)
 |0,_=>[]
 |n+1,r=>some r::(if M.aQ p r=M.none_ then []else if(M.resolve p r.keeper (M.aQ p r)).2=1 then items p n (M.resolve p r.keeper (M.aQ p r)).1 else [none])
def zP:Option M.Ref→Array Value
 |some r=>#[.agg #[.int .i64 r.keeper,.string r.name],.bool true]
 |none=>#[.agg #[.int .i64 0,.string M.none_],.bool false]
theorem gU{p:M.au}{k:Int}{n:ByteArray}(h:(M.resolve p k n).2=1):∃c,M.cls? p (M.resolve p k n).1=some c:=M.gU h
theorem MS (l : aI) (p : M.au) (r0 : M.Ref) (Rb Lb : Nat) (Bd : Nat → Prop) (hBd : ∀ k, Bd k → l.L < k ∧ k ≠ Rb ∧ k ≠ Lb) (hRL : Rb ≠ Lb) (hR : l.L < Rb) (N : Nat) (dX : ∃ c, M.cls? p r0 = some c) :
    Iter Tryz.prog 140 #[.pointer (some ⟨Rb,0,none⟩),.pointer (some ⟨Lb,0,none⟩)] zP (·=Rb) Bd
     (fun xs=>∀n,items p (xs.length+n) r0=xs) (fun pre=>∃n rest,items p n r0=pre++rest) (fun s=>s.length≤N)
     (fun W=>aF W l p∧aC W Rb 40 #[.int .i64 r0.keeper,.string r0.name]∧aC W Lb 74 #[.pointer (some ⟨l.L,0,none⟩)]):=by
 intro lp J Jx W ⟨Nc,hbR,hbL⟩ hJ X4 hN hY hJ0;refine callsIn_of_wp Tryz.func140 rfl trivial ?_ rfl;simp only[Tryz.ntmps140,List.size_toArray,List.length_cons,List.length_nil,Nat.reduceAdd,Nat.reduceSub,Array.replicate_succ,Array.replicate_zero,List.push_toArray,List.append_toArray,List.nil_append,List.cons_append];gi_wp2;gi_loopg [4] (N+1) (fun m _ wr=>∃(pre:List (Option M.Ref)) (r:M.Ref),m+pre.length=N+1∧J pre wr∧aF wr l p∧aC wr Rb 40 #[.int .i64 r.keeper,.string r.name]∧aC wr Lb 74 #[.pointer (some ⟨l.L,0,none⟩)]∧
     Zs (∀n,items p (pre.length+n) r0=pre++items p n r)∧Zs (∃c,M.cls? p r=some c))
 case atStart=>exact⟨[],r0,by simp,hJ0,Nc,hbR,hbL,Ys (by simp),Ys dX⟩
 case round =>
  obtain⟨pre,r,hm,hj,hl,hb,hbl,HI,HO⟩:=hrel;have hlen:=hN _ _ hj;obtain⟨c,hc⟩:=HO.o;obtain⟨fn,tmps,assign,body,hy,hR⟩:=hY pre (some r) wr trivial hj;simp only[zP]at hy hR;have r0':=hb.c 0 (.int .i64 r.keeper) rfl;have r1':=hb.c 1 (.string r.name) rfl;have l0':=hbl.c 0 (.pointer (some ⟨l.L,0,none⟩)) rfl;have HL:=Ys hl;have HB:=Ys (And.intro hb hbl);have HY:=Ys hY;have HJ:=Ys (And.intro hJ X4);have HH:=Ys (And.intro hBd (And.intro Nc (And.intro hbR hbL)));have HC:=Ys hc;clear hl hb hbl hY hJ X4 hBd Nc hbR hbL hc hN;gi_wp2_with fail;refine hR.mono ?_;rintro e W1 ⟨jD,(⟨rfl,PY⟩|⟨rfl,hjx⟩)⟩
  · have Mm : ∀ k, k ≤ l.L → ¬ Bd k := fun k hk hb => absurd (HH.o.1 k hb).1 (by omega); have Bt := HL.o.kp jD Mm; have uN := HB.o.1.kp jD (fun hb => (HH.o.1 _ hb).2.1 rfl); have aah := HB.o.2.kp jD (fun hb => (HH.o.1 _ hb).2.2 rfl); have q0 := uN.c 0 (.int .i64 r.keeper) rfl; have q1 := uN.c 1 (.string r.name) rfl; have q2 := aah.c 0 (.pointer (some ⟨l.L, 0, none⟩)) rfl; have J2 := Ys Bt; have vJ := Ys (And.intro uN aah); have HK := Ys (And.intro jD Mm); clear Bt uN aah jD Mm r0' r1' l0' hy hR; gi_wp2_with fail; refine ⟨trivial, ?_⟩; refine (callsIn_wide.2 (oG _ _ _ J2.o _ _ _ HC.o)).mono ?_; rintro e W2 ⟨⟨cs, fV, rfl⟩, bP⟩; obtain ⟨y1, z1, y2, z2, rfl⟩ := fV.form; have s0 := bP.aA q0; have s1 := bP.aA q1; have s2 := bP.aA q2; have ym : ∀ W, (Instr.field 58 (.agg #[.string c.name, .string c.aQ, .slice y1 c.fields.length z1, .slice y2 c.methods.length z2]) 1).run Tryz.prog W = .ok (.string c.aQ) W := fun W => by kernel_rfl
    have ES:M.aQ p r=c.aQ:=by unfold M.aQ;rw[HC.o];rfl
    by_cases hs:c.aQ.toList.isEmpty=true
    · gi_wp2_with fail;((try simp only[Exit.inBlock,Exit.then]);(first|refine bodyPost_ret (results_none rfl _ _ _) rfl ?_|refine bodyPost_end (results_none rfl _ _ _) rfl ?_));refine⟨⟨_,rfl⟩,.inl ⟨pre++[some r],fun n=>?_,HJ.o.1 _ _ _ PY bP.any⟩⟩;rw[List.length_append,Nat.add_assoc,HI.o];congr 1;show items p (1+n) r=[some r]
      rw[Nat.add_comm];unfold items;rw[ES,if_pos (by rw[fK]at hs;simpa using hs)]
    · have xV:c.aQ.toList.isEmpty=false:=by simpa using hs
      have HS:Zs (∀n,items p (n+1) r=some r::if(M.resolve p r.keeper c.aQ).2=1 then items p n (M.resolve p r.keeper c.aQ).1 else [none]):=Ys (by
       intro n;conv=>lhs;unfold items
       rw[ES,if_neg (by rw[fK]at xV;simpa using xV)])
      have pQ:=Ys fV;have fD:=Ys bP;have Bu:=J2.o.ext bP;have zA:=Ys Bu;clear hs ES fV bP Bu q0 q1 q2;gi_wp2_with fail;refine⟨trivial,?_⟩;refine(callsIn_wide.2 (yx _ _ _ zA.o _ _)).mono ?_;rintro e W3 ⟨rfl,dm⟩;have u0:=dm.aA s0;have u1:=dm.aA s1;have u2:=dm.aA s2;have xA:=((vJ.o.1.ext fD.o).ext dm);have abY:=((vJ.o.2.ext fD.o).ext dm);have f0:=xA.frozen 0;have f1:=xA.frozen 1;have hzR:=xA.lt;have hj3:J (pre++[some r]) W3:=HJ.o.1 _ _ _ PY ((fD.o.any).trans dm.any);have fM:=Ys (And.intro xA abY);have U3:=Ys (zA.o.ext dm);have iH:=Ys dm;have HJ3:=Ys hj3;clear xA abY dm hj3 s0 s1 s2 PY hj;by_cases qy:(M.resolve p r.keeper c.aQ).2=1
      · obtain⟨c',zW⟩:=gU qy;have HN:Zs (∀n,items p (n+1) r=some r::items p n (M.resolve p r.keeper c.aQ).1):=Ys (by
         intro n;rw[HS.o,if_pos qy])
        rw[qy];clear qy;generalize (M.resolve p r.keeper c.aQ).1=nx at*;have HC':Zs (∃c,M.cls? p nx=some c):=Ys ⟨c',zW⟩;clear zW;gi_wp2_with fail;gi_roundg (gk - 1)
        case measure=>omega
        case rel=>
         have hk:Kp (·=Rb) W3 (((W3.setCell ⟨Rb,0,none⟩ (.int .i64 nx.keeper)).setCell ⟨Rb,1,none⟩ (.string nx.name)).alloc (.cells #[.int .i64 nx.keeper,.string nx.name] 40)):=
          (((Kp.refl (·=Rb) W3).setCell (p:=⟨Rb,0,none⟩) (fun _=>rfl) _).setCell (p:=⟨Rb,1,none⟩) (fun _=>rfl) _).alloc _
         refine⟨pre++[some r],nx,by simp;omega,HJ.o.1 _ _ _ HJ3.o hk,U3.o.kp hk (fun k Aa e=>by omega),?_,fM.o.2.kp hk (fun e=>hRL e.symm),Ys (fun n=>?_),HC'⟩
         · exact((fM.o.1.bI 0 (.int .i64 nx.keeper)).bI 1 (.string nx.name)).ext ((Kp.refl _ _).alloc _)
         · rw[List.length_append,Nat.add_assoc,HI.o,Nat.add_comm,show [some r].length=1 from rfl,HN.o,List.append_assoc];rfl
      · have HN:Zs (∀n,items p (n+2) r=[some r,none]):=Ys (by
         intro n;rw[HS.o (n+1),if_neg qy])
        have aei:((M.resolve p r.keeper c.aQ).2==1)=false:=beq_eq_false_iff_ne.2 qy;have TQ:M.resolve p r.keeper c.aQ=(M.pO,(M.resolve p r.keeper c.aQ).2):=by
         unfold M.resolve at qy ⊢;split
         · rename_i h1;rw[if_pos h1]at qy;exact absurd rfl qy
         · rfl
        rw[TQ];have hj4:=HJ.o.1 _ _ _ HJ3.o (((Kp.refl _ W3).alloc (.cells #[.int .i64 0,.string ⟨#[]⟩] 40)):Kp (·=Rb) W3 _);obtain⟨fn2,afn,acX,afa,hy2,Dg⟩:=HY.o (pre++[some r]) none _ trivial hj4;simp only[zP]at hy2 Dg;have GH:=Ys Dg;clear TQ qy hj4 Dg;generalize (M.resolve p r.keeper c.aQ).2=code at*;simp only[M.pO];gi_wp2_with fail;refine GH.o.mono ?_;have sj:∀n,items p ((pre++[some r]++[none]).length+n) r0=pre++[some r]++[none]:=by
         intro n;rw[List.length_append,List.length_append,Nat.add_assoc,Nat.add_assoc,HI.o,show [some r].length+([none (α:=M.Ref)].length+n)=n+2 from by simp;omega,HN.o,List.append_assoc];rfl
        rintro e W5 ⟨afS,(⟨rfl,hj5⟩|⟨rfl,aep⟩)⟩
        · gi_wp2_with fail;((try simp only[Exit.inBlock,Exit.then]);(first|refine bodyPost_ret (results_none rfl _ _ _) rfl ?_|refine bodyPost_end (results_none rfl _ _ _) rfl ?_));exact⟨⟨_,rfl⟩,.inl ⟨pre++[some r]++[none],sj,hj5⟩⟩
        · gi_wp2_with fail;((try simp only[Exit.inBlock,Exit.then]);(first|refine bodyPost_ret (results_none rfl _ _ _) rfl ?_|refine bodyPost_end (results_none rfl _ _ _) rfl ?_));exact⟨⟨_,rfl⟩,.inr ⟨pre++[some r]++[none],⟨(pre++[some r]++[none]).length+0,[],by rw[sj 0,List.append_nil]⟩,aep⟩⟩
  · have WL:∃rest,items p (pre.length+1) r0=(pre++[some r])++rest:=by
     obtain⟨rest,hr⟩:∃rest,items p 1 r=some r::rest:=⟨_,rfl⟩;exact⟨rest,by rw[HI.o,hr,List.append_assoc];rfl⟩
    obtain⟨rest,WL⟩:=WL;have HP:=Ys WL;clear WL;gi_wp2_with fail;((try simp only[Exit.inBlock,Exit.then]);(first|refine bodyPost_ret (results_none rfl _ _ _) rfl ?_|refine bodyPost_end (results_none rfl _ _ _) rfl ?_));exact⟨⟨_,rfl⟩,.inr ⟨pre++[some r],⟨_,rest,HP.o⟩,hjx⟩⟩
end Go.Proofs.YtcepdbbapgfcdaaGreat
