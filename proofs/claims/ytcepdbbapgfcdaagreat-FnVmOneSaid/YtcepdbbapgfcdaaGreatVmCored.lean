/- Walks. -/
import Derived.Test.YtcepdbbapgfcdaaGreatVmCorec
import Derived.Deep.DeepCutAuto
import Derived.Deep.CutRange
set_option maxRecDepth 100000
set_option maxHeartbeats 4000000
set_option linter.unusedSimpArgs false
set_option linter.unusedVariables false
namespace Go.Proofs.YtcepdbbapgfcdaaGreat
open Go Go.RowKit
def AtP{α:Type}(l:List α)(q:α→Bool)(e:Ending):Prop:=∃n:Int,e=.returned (.int .i64 n)∧decide (0≤n)=l.any q
theorem IL{α:Type}{l:List α}{q:α→Bool}{k:Nat}{x:α}(hx:l[k]?=some x)(h:q x=true):l.any q=true:=List.any_eq_true.2 ⟨x,List.mem_of_getElem? hx,h⟩
theorem vZ{α:Type}{l:List α}{q:α→Bool}{k:Nat}{x:α}(hx:l[k]?=some x)(h:q x=false)(h0:(l.take k).any q=false):(l.take (k+1)).any q=false:=by
 rw[List.take_add_one,hx,List.any_append,h0];simp[h]
theorem NY(w:World)(I:Nat→Prop)(v:Value)(l:List M.Field)(h:SliceOf 3 eO w I v l)(nm:ByteArray):
    Calls Tryz.prog 151 #[v,.string nm] w fun e w'=>AtP l (fun f=>f.name.toList==nm.toList) e∧Ext w w':=by
 obtain⟨a,cap,rfl,hn,dn⟩:=h.form;go_enter Tryz.func151,Tryz.ntmps151;go_wp2_with fail;go_loopw [5] (fun i wr=>∃k:Nat,k≤l.length∧i=.int .i64 k∧wr=w∧Zs ((l.take k).any (fun f=>f.name.toList==nm.toList)=false)) (fun i _=>l.length - (intOf i).toNat)
 case atStart=>exact⟨0,Nat.zero_le _,rfl,rfl,Ys (by simp)⟩
 case round =>
  obtain⟨k,hk,rfl,rfl,HA⟩:=hrel;by_cases bZ:k<l.length
  · have dk:(k:Int)<l.length:=by omega
    obtain⟨x,hx⟩:∃x,l[k]?=some x:=⟨l[k]'bZ,List.getElem?_eq_getElem bZ⟩;obtain⟨b',off,cs,rfl,hI,rfl, -,hc⟩:=h.get hx;obtain⟨g0, -⟩:=hc.three;have gz:=aG g0;have HX:=Ys hx;clear hx hc;cases ht:(x.name.toList==nm.toList)
    · go_wp2_with fail;go_round
      case rel=>exact⟨k+1,by omega,by go_num,trivial,Ys (vZ HX.o ht HA.o)⟩
      case measure=>simp[intOf];omega
    · go_wp2_with fail;go_ret;exact⟨⟨_,rfl,by rw[IL HX.o ht];simp⟩,Kp.refl _ _⟩
  · have dk:¬(k:Int)<l.length:=by omega
    go_wp2_with fail;go_ret;exact⟨⟨_,rfl,by have:=HA.o;rw[List.take_of_length_le (by omega)]at this;rw[this];decide⟩,Kp.refl _ _⟩
theorem LV(w:World)(I:Nat→Prop)(v:Value)(l:List M.Method)(h:SliceOf 8 aH w I v l)(nm:ByteArray):
    Calls Tryz.prog 153 #[v,.string nm] w fun e w'=>AtP l (fun f=>f.name.toList==nm.toList) e∧Ext w w':=by
 obtain⟨a,cap,rfl,hn,dn⟩:=h.form;go_enter Tryz.func153,Tryz.ntmps153;go_wp2_with fail;go_loopw [5] (fun i wr=>∃k:Nat,k≤l.length∧i=.int .i64 k∧wr=w∧Zs ((l.take k).any (fun f=>f.name.toList==nm.toList)=false)) (fun i _=>l.length - (intOf i).toNat)
 case atStart=>exact⟨0,Nat.zero_le _,rfl,rfl,Ys (by simp)⟩
 case round =>
  obtain⟨k,hk,rfl,rfl,HA⟩:=hrel;by_cases bZ:k<l.length
  · have dk:(k:Int)<l.length:=by omega
    obtain⟨x,hx⟩:∃x,l[k]?=some x:=⟨l[k]'bZ,List.getElem?_eq_getElem bZ⟩;obtain⟨b',off,cs,rfl,hI,⟨_,_,_,rfl, -, -, -⟩, -,hc⟩:=h.get hx;obtain⟨g0, -⟩:=hc.eight;have gz:=aG g0;have HX:=Ys hx;clear hx hc;cases ht:(x.name.toList==nm.toList)
    · go_wp2_with fail;go_round
      case rel=>exact⟨k+1,by omega,by go_num,trivial,Ys (vZ HX.o ht HA.o)⟩
      case measure=>simp[intOf];omega
    · go_wp2_with fail;go_ret;exact⟨⟨_,rfl,by rw[IL HX.o ht];simp⟩,Kp.refl _ _⟩
  · have dk:¬(k:Int)<l.length:=by omega
    go_wp2_with fail;go_ret;exact⟨⟨_,rfl,by have:=HA.o;rw[List.take_of_length_le (by omega)]at this;rw[this];decide⟩,Kp.refl _ _⟩
theorem UL(w:World)(I:Nat→Prop)(v v2:Value)(l:List M.Class)(h:SliceOf 4 aX w I v l)(nm:ByteArray):
    Calls Tryz.prog 135 #[.agg #[v,v2],.string nm] w fun e w'=>AtP l (fun f=>f.name.toList==nm.toList) e∧Ext w w':=by
 obtain⟨a,cap,rfl,hn,dn⟩:=h.form;obtain⟨w0,bD,aU,hb⟩:=nu w #[.slice a l.length cap,v2] 82;have c0:=hb.c 0 (.slice a l.length cap) rfl;have cz:=hb.lt;have H:=Ys h;have bJ:=Ys aU;have dQ:=Ys bD;clear aU hb bD h;go_enter Tryz.func135,Tryz.ntmps135;go_wp2_with fail;rw[←dQ.o];go_loopw [5] (fun i wr=>∃k:Nat,k≤l.length∧i=.int .i64 k∧wr=w0∧Zs ((l.take k).any (fun f=>f.name.toList==nm.toList)=false)) (fun i _=>l.length - (intOf i).toNat)
 case atStart=>exact⟨0,Nat.zero_le _,rfl,rfl,Ys (by simp)⟩
 case round =>
  obtain⟨k,hk,rfl,rfl,HA⟩:=hrel;by_cases bZ:k<l.length
  · have dk:(k:Int)<l.length:=by omega
    obtain⟨x,hx⟩:∃x,l[k]?=some x:=⟨l[k]'bZ,List.getElem?_eq_getElem bZ⟩;obtain⟨b',off,cs,rfl,hI,⟨_,_,rfl, -, -⟩, -,hc⟩:=H.o.get hx;obtain⟨g0, -⟩:=(hc.ext bJ.o).four;have gz:=aG g0;have HX:=Ys hx;clear hx hc;cases ht:(x.name.toList==nm.toList)
    · go_wp2_with fail;go_round
      case rel=>exact⟨k+1,by omega,by go_num,trivial,Ys (vZ HX.o ht HA.o)⟩
      case measure=>simp[intOf];omega
    · go_wp2_with fail;go_ret;exact⟨⟨_,rfl,by rw[IL HX.o ht];simp⟩,bJ.o⟩
  · have dk:¬(k:Int)<l.length:=by omega
    go_wp2_with fail;go_ret;exact⟨⟨_,rfl,by have:=HA.o;rw[List.take_of_length_le (by omega)]at this;rw[this];decide⟩,bJ.o⟩
def YM(l:List M.Ask)(nm:ByteArray)(e:Ending):Prop:=∃n:Int,e=.returned (.int .i64 n)∧((∃x∈l,(x.name.toList==nm.toList)=true∧n=x.keeper)∨(l.any (fun f=>f.name.toList==nm.toList)=false∧n= -1))
theorem QS(w:World)(I:Nat→Prop)(v v2:Value)(l:List M.Ask)(h:SliceOf 2 lC w I v l)(nm:ByteArray):
    Calls Tryz.prog 136 #[.agg #[v2,v],.string nm] w fun e w'=>YM l nm e∧Ext w w':=by
 obtain⟨a,cap,rfl,hn,dn⟩:=h.form;obtain⟨w0,bD,aU,hb⟩:=nu w #[v2,.slice a l.length cap] 82;have c0:=hb.c 1 (.slice a l.length cap) rfl;have cz:=hb.lt;have H:=Ys h;have bJ:=Ys aU;have dQ:=Ys bD;clear aU hb bD h;go_enter Tryz.func136,Tryz.ntmps136;go_wp2_with fail;rw[←dQ.o];go_loopw [5] (fun i wr=>∃k:Nat,k≤l.length∧i=.int .i64 k∧wr=w0∧Zs ((l.take k).any (fun f=>f.name.toList==nm.toList)=false)) (fun i _=>l.length - (intOf i).toNat)
 case atStart=>exact⟨0,Nat.zero_le _,rfl,rfl,Ys (by simp)⟩
 case round =>
  obtain⟨k,hk,rfl,rfl,HA⟩:=hrel;by_cases bZ:k<l.length
  · have dk:(k:Int)<l.length:=by omega
    obtain⟨x,hx⟩:∃x,l[k]?=some x:=⟨l[k]'bZ,List.getElem?_eq_getElem bZ⟩;obtain⟨b',off,cs,rfl,hI,rfl, -,hc⟩:=H.o.get hx;obtain⟨g0,g1⟩:=(hc.ext bJ.o).two;have gz:=aG g0;have HX:=Ys hx;clear hx hc;cases ht:(x.name.toList==nm.toList)
    · go_wp2_with fail;go_round
      case rel=>exact⟨k+1,by omega,by go_num,trivial,Ys (vZ HX.o ht HA.o)⟩
      case measure=>simp[intOf];omega
    · go_wp2_with fail;go_ret;exact⟨⟨_,rfl,.inl ⟨x,List.mem_of_getElem? HX.o,ht,rfl⟩⟩,bJ.o⟩
  · have dk:¬(k:Int)<l.length:=by omega
    go_wp2_with fail;go_ret;exact⟨⟨_,rfl,.inr ⟨by have:=HA.o;rwa[List.take_of_length_le (by omega)]at this,rfl⟩⟩,bJ.o⟩
theorem Lu{s:ByteArray}:decide (s=M.none_)=(s.toList==[]):=by
 rw[←fK];cases s.toList<;>rfl
theorem QT(k:Int)(s:ByteArray)(w:World):Calls Tryz.prog 195 #[.agg #[.int .i64 k,.string s]] w fun e w'=>e=.returned (.bool (M.oH ⟨k,s⟩))∧Ext w w':=by
 have hv:M.oH ⟨k,s⟩=if k=0∨k=1∨k=3 then(s.toList==[])else if k=2 then M.aY s else false:=by
  unfold M.oH;simp only[Lu]
 by_cases h2:k=2
 · subst h2;rw[if_neg (by decide),if_pos rfl]at hv;rw[hv];clear hv;go_enter Tryz.func195,Tryz.ntmps195;go_wp2_with (go_at_call 129;refine(eT _ _).mono ?_;rintro e w' ⟨rfl,rfl⟩)
   all_goals
    go_ret;exact⟨rfl,kx⟩
 have I5:(k==2)=false:=beq_eq_false_iff_ne.2 h2;obtain⟨q,hq⟩:∃q,(s.toList==[])=q:=⟨_,rfl⟩;by_cases h0:k=0
 · subst h0;rw[if_pos (.inl rfl),hq]at hv;rw[hv];clear hv I5;cases q
   all_goals
    go_enter Tryz.func195,Tryz.ntmps195;go_wp2_with fail
    all_goals
     go_ret;exact⟨rfl,kx⟩
 by_cases h1:k=1
 · subst h1;rw[if_pos (.inr (.inl rfl)),hq]at hv;rw[hv];clear hv I5;cases q
   all_goals
    go_enter Tryz.func195,Tryz.ntmps195;go_wp2_with fail
    all_goals
     go_ret;exact⟨rfl,kx⟩
 by_cases h3:k=3
 · subst h3;rw[if_pos (.inr (.inr rfl)),hq]at hv;rw[hv];clear hv I5;cases q
   all_goals
    go_enter Tryz.func195,Tryz.ntmps195;go_wp2_with fail
    all_goals
     go_ret;exact⟨rfl,kx⟩
 rw[if_neg (by omega),if_neg h2]at hv;rw[hv];clear hv;have V8:(k==0)=false:=beq_eq_false_iff_ne.2 h0;have Z0:(k==1)=false:=beq_eq_false_iff_ne.2 h1;have Rf:(k==3)=false:=beq_eq_false_iff_ne.2 h3;go_enter Tryz.func195,Tryz.ntmps195;go_wp2_with fail
 all_goals
  go_ret;exact⟨rfl,kx⟩
theorem dH(w:World)(I:Nat→Prop)(v:Value)(l:List M.Tag)(h:SliceOf 2 eB w I v l):
    Calls Tryz.prog 191 #[v] w fun e w'=>e=.returned (.bool (l.all M.oH))∧Ext w w':=by
 obtain⟨a,cap,rfl,hn,dn⟩:=h.form;go_enter Tryz.func191,Tryz.ntmps191;go_wp2_with fail;go_loopw [3] (fun i wr=>∃k:Nat,k≤l.length∧i=.int .i64 k∧Ext w wr∧Zs ((l.take k).any (fun x=> !M.oH x)=false)) (fun i _=>l.length - (intOf i).toNat)
 case atStart=>exact⟨0,Nat.zero_le _,rfl,Kp.refl _ _,Ys (by simp)⟩
 case round =>
  obtain⟨k,hk,rfl,hE,HA⟩:=hrel;have HE:=Ys hE;by_cases bZ:k<l.length
  · have dk:(k:Int)<l.length:=by omega
    obtain⟨x,hx⟩:∃x,l[k]?=some x:=⟨l[k]'bZ,List.getElem?_eq_getElem bZ⟩;obtain⟨b',off,cs,rfl,hI,rfl, -,hc⟩:=h.get hx;obtain⟨g0,g1⟩:=(hc.ext hE).two;have gz:=aG g0;have HX:=Ys hx;clear hx hc hE;go_wp2_with fail;refine(QT x.kind x.name _).mono ?_;rintro e w2 ⟨rfl,bP⟩;have fD:=Ys (HE.o.trans bP);clear bP;cases ht:M.oH x
    · go_wp2_with fail;go_ret;exact⟨ag (by
       rw[Bool.eq_iff_iff,List.all_eq_true];exact⟨fun e=>(by cases e),fun e=>by rw[e x (List.mem_of_getElem? HX.o)]at ht;cases ht⟩),fD.o⟩
    · go_wp2_with fail;go_round
      case rel=>exact⟨k+1,by omega,by go_num,fD.o,Ys (vZ HX.o (by rw[ht];rfl) HA.o)⟩
      case measure=>simp[intOf];omega
  · have dk:¬(k:Int)<l.length:=by omega
    go_wp2_with fail;go_ret;exact⟨ag (by
     have:=HA.o;rw[List.take_of_length_le (by omega),List.any_eq_false]at this;symm;rw[List.all_eq_true];intro x hx;simpa using this x hx),HE.o⟩
theorem QP (w : World) (I : Nat → Prop) (cs : List Value) (c : M.Method) (h : aH w I c cs) :
    Calls Tryz.prog 177 #[.agg cs.toArray] w fun e w'=>BX e∧Ext w w':=by
 obtain⟨va,vc,vm,rfl, -,h1,h2⟩:=h;obtain⟨ca,cc,rfl,mG,afe⟩:=h1.form;obtain⟨a,cap,rfl,hn,dn⟩:=h2.form;obtain⟨w0,bD,aU,hb⟩:=nu w #[.string c.name,va,.int .i64 c.ret.kind,.string c.ret.name,.int .i64 c.locals,.int .i64 c.stack,.slice ca c.code.length cc,.slice a c.maps.length cap] 54;have c7:=hb.c 7 (.slice a c.maps.length cap) rfl;have cz:=hb.lt;have HB:=Ys hb;have H:=Ys (h2.ext gM.stays aU);have bJ:=Ys aU;have dQ:=Ys bD;clear aU hb bD h1 h2;by_cases h5:5<c.maps.length
 · have h5':(5:Int)<c.maps.length:=by omega
   go_enter Tryz.func177,Tryz.ntmps177;go_wp2_with fail;rw[←dQ.o];go_wp2_with fail;go_ret;exact⟨⟨_,rfl⟩,bJ.o⟩
 have h5':¬(5:Int)<c.maps.length:=by omega
 go_enter Tryz.func177,Tryz.ntmps177;go_wp2_with fail;rw[←dQ.o];go_wp2_with fail;go_loopw [3] (fun i wr=>∃k:Nat,k≤c.maps.length∧i=.int .i64 k∧Ext w0 wr) (fun i _=>c.maps.length - (intOf i).toNat)
 case atStart=>exact⟨0,Nat.zero_le _,rfl,Kp.refl _ _⟩
 case round =>
  obtain⟨k,hk,rfl,hE⟩:=hrel;have HE:=Ys hE;have d7:=hE.aA c7;have dz:=aG d7;by_cases bZ:k<c.maps.length
  · have dk:(k:Int)<c.maps.length:=by omega
    obtain⟨x,hx⟩:∃x,c.maps[k]?=some x:=⟨c.maps[k]'bZ,List.getElem?_eq_getElem bZ⟩;obtain⟨b',off,cs,rfl,hI,⟨vl,vs,rfl,sl,ss⟩, -,hc⟩:=H.o.get hx;obtain⟨la,lc,rfl, -,xQ⟩:=sl.form;obtain⟨sa,sc,rfl, -,Ms⟩:=ss.form;obtain⟨g0,g1,g2⟩:=(hc.ext hE).three;have gz:=aG g0;obtain⟨w5,ji,dC,b5⟩:=nu wr #[.int .i64 x.at_,.slice la x.locals.length lc,.slice sa x.stack.length sc] 227;have gm:Zs (Ext w0 w5):=Ys (HE.o.trans dC);have bm:=HB.o.ext gm.o;have zC:=Ys (sl.ext eB.stays gm.o);have Ov:=Ys (ss.ext eB.stays gm.o);have zm:=Ys ji;obtain⟨T,f,dB,HT⟩:=iq.ex (fun W'=>Ext w5 W') _ (Kp.refl _ _);have x0:=fun s=>(b5.ext (HT.aJ s)).c 0 (.int .i64 x.at_) rfl;have x1:=fun s=>(b5.ext (HT.aJ s)).c 1 (.slice la x.locals.length lc) rfl;have x2:=fun s=>(b5.ext (HT.aJ s)).c 2 (.slice sa x.stack.length sc) rfl;have m4:=fun s=>(bm.ext (HT.aJ s)).c 4 (.int .i64 c.locals) rfl;have m5:=fun s=>(bm.ext (HT.aJ s)).c 5 (.int .i64 c.stack) rfl;have m6:=fun s=>(bm.ext (HT.aJ s)).c 6 (.slice ca c.code.length cc) rfl;have m7:=fun s=>(bm.ext (HT.aJ s)).c 7 (.slice (some ⟨b',off,none⟩) c.maps.length cap) rfl;have aj:=Ys HT;have HJ:=Ys (fun(j:Nat) (y:M.SMap) (hy:c.maps[j]?=some y)=>(show∀s,(f s).cell? ⟨b',off+j*3,none⟩=some (.int .i64 y.at_)from fun s=>by
     obtain⟨_,_,cs2,e2,_,⟨_,_,rfl,_,_⟩, -,Gl⟩:=H.o.get hy;cases e2;exact((Gl.ext gm.o).ext (HT.aJ s)).three.1))
    clear HT hx hc hE dC ji b5 bm sl ss;obtain⟨q1,Nu⟩:∃q,(decide (1≤x.at_)&&decide (x.at_≤(c.code.length:Int) - 1))=q:=⟨_,rfl⟩;have Q8:=Ys Nu;clear Nu;obtain⟨q3,hq3⟩:∃q,((x.locals.length:Int) !=c.locals)=q:=⟨_,rfl⟩;obtain⟨q4,hq4⟩:∃q,decide (c.stack<(x.stack.length:Int))=q:=⟨_,rfl⟩;obtain⟨q5,hq5⟩:∃q,x.locals.all M.oH=q:=⟨_,rfl⟩;obtain⟨q6,hq6⟩:∃q,x.stack.all M.oH=q:=⟨_,rfl⟩;have Ou:=Ys hq5;have Q9:=Ys hq6;clear hq5 hq6;go_wp2_with fail;rw[←zm.o];cases q1
    · go_wp2_with fail;(refine Gv aj ?_ ?_);rotate_left;(repeat (go_big_quiet_step ((first|(go_at_call 113;refine(ny _ _ _ _).mono ?_;rintro e w6 ⟨rfl,rfl⟩;rw[Q8.o];exact⟨rfl,aj.o.o _ (aj.o.aJ _)⟩)|(go_at_call 191;with_reducible refine(dH _ I (.slice la x.locals.length lc) x.locals (zC.o.ext eB.stays (aj.o.aJ _))).mono ?_;rintro e w6 ⟨rfl,dK⟩;rw[Ou.o];exact⟨rfl,aj.o.o w6 ((aj.o.aJ _).trans dK)⟩)|(go_at_call 191;with_reducible refine(dH _ I (.slice sa x.stack.length sc) x.stack (Ov.o.ext eB.stays (aj.o.aJ _))).mono ?_;rintro e w6 ⟨rfl,dK⟩;rw[Q9.o];exact⟨rfl,aj.o.o w6 ((aj.o.aJ _).trans dK)⟩)))));(refine wpQuiet_nil ?_);(rintro _ ⟨sW,rfl⟩);rotate_left
      · exact(Kp.refl _ _).drew
      go_wp2_with fail;go_ret;exact⟨⟨_,rfl⟩,(bJ.o.trans gm.o).trans (aj.o.aJ sW)⟩
    by_cases uP:0<k
    · have aan:decide ((0:Int)<(k:Int))=true:=decide_eq_true (by omega);obtain⟨j,hj⟩:∃j,k=j+1:=⟨k - 1,by omega⟩;have Vl:IntKind.i64.wrap ((k:Int) - 1)=(j:Int):=by rw[IntWalk.i64_in _ (by omega)];omega
      have PY:(k:Int) - 1=(j:Int):=by omega
      have hj2:(0:Int)≤(j:Int):=by omega
      have hj3:(j:Int)<c.maps.length:=by omega
      obtain⟨y,hy⟩:∃y,c.maps[j]?=some y:=⟨c.maps[j]'(by omega),List.getElem?_eq_getElem (by omega)⟩;have yj:=HJ.o j y hy;clear hy hj;obtain⟨q2,Jj⟩:∃q,decide (x.at_≤y.at_)=q:=⟨_,rfl⟩;cases q2;rotate_left
      · go_wp2_with fail;(refine Gv aj ?_ ?_);rotate_left;(repeat (go_big_quiet_step ((first|(go_at_call 113;refine(ny _ _ _ _).mono ?_;rintro e w6 ⟨rfl,rfl⟩;rw[Q8.o];exact⟨rfl,aj.o.o _ (aj.o.aJ _)⟩)|(go_at_call 191;with_reducible refine(dH _ I (.slice la x.locals.length lc) x.locals (zC.o.ext eB.stays (aj.o.aJ _))).mono ?_;rintro e w6 ⟨rfl,dK⟩;rw[Ou.o];exact⟨rfl,aj.o.o w6 ((aj.o.aJ _).trans dK)⟩)|(go_at_call 191;with_reducible refine(dH _ I (.slice sa x.stack.length sc) x.stack (Ov.o.ext eB.stays (aj.o.aJ _))).mono ?_;rintro e w6 ⟨rfl,dK⟩;rw[Q9.o];exact⟨rfl,aj.o.o w6 ((aj.o.aJ _).trans dK)⟩)))));(refine wpQuiet_nil ?_);(rintro _ ⟨sW,rfl⟩);rotate_left
        · exact(Kp.refl _ _).drew
        go_wp2_with fail;go_ret;exact⟨⟨_,rfl⟩,(bJ.o.trans gm.o).trans (aj.o.aJ sW)⟩
      cases q3;rotate_left
      · go_wp2_with fail;(refine Gv aj ?_ ?_);rotate_left;(repeat (go_big_quiet_step ((first|(go_at_call 113;refine(ny _ _ _ _).mono ?_;rintro e w6 ⟨rfl,rfl⟩;rw[Q8.o];exact⟨rfl,aj.o.o _ (aj.o.aJ _)⟩)|(go_at_call 191;with_reducible refine(dH _ I (.slice la x.locals.length lc) x.locals (zC.o.ext eB.stays (aj.o.aJ _))).mono ?_;rintro e w6 ⟨rfl,dK⟩;rw[Ou.o];exact⟨rfl,aj.o.o w6 ((aj.o.aJ _).trans dK)⟩)|(go_at_call 191;with_reducible refine(dH _ I (.slice sa x.stack.length sc) x.stack (Ov.o.ext eB.stays (aj.o.aJ _))).mono ?_;rintro e w6 ⟨rfl,dK⟩;rw[Q9.o];exact⟨rfl,aj.o.o w6 ((aj.o.aJ _).trans dK)⟩)))));(refine wpQuiet_nil ?_);(rintro _ ⟨sW,rfl⟩);rotate_left
        · exact(Kp.refl _ _).drew
        go_wp2_with fail;go_ret;exact⟨⟨_,rfl⟩,(bJ.o.trans gm.o).trans (aj.o.aJ sW)⟩
      cases q4;rotate_left
      · go_wp2_with fail;(refine Gv aj ?_ ?_);rotate_left;(repeat (go_big_quiet_step ((first|(go_at_call 113;refine(ny _ _ _ _).mono ?_;rintro e w6 ⟨rfl,rfl⟩;rw[Q8.o];exact⟨rfl,aj.o.o _ (aj.o.aJ _)⟩)|(go_at_call 191;with_reducible refine(dH _ I (.slice la x.locals.length lc) x.locals (zC.o.ext eB.stays (aj.o.aJ _))).mono ?_;rintro e w6 ⟨rfl,dK⟩;rw[Ou.o];exact⟨rfl,aj.o.o w6 ((aj.o.aJ _).trans dK)⟩)|(go_at_call 191;with_reducible refine(dH _ I (.slice sa x.stack.length sc) x.stack (Ov.o.ext eB.stays (aj.o.aJ _))).mono ?_;rintro e w6 ⟨rfl,dK⟩;rw[Q9.o];exact⟨rfl,aj.o.o w6 ((aj.o.aJ _).trans dK)⟩)))));(refine wpQuiet_nil ?_);(rintro _ ⟨sW,rfl⟩);rotate_left
        · exact(Kp.refl _ _).drew
        go_wp2_with fail;go_ret;exact⟨⟨_,rfl⟩,(bJ.o.trans gm.o).trans (aj.o.aJ sW)⟩
      cases q5
      · go_wp2_with fail;(refine Gv aj ?_ ?_);rotate_left;(repeat (go_big_quiet_step ((first|(go_at_call 113;refine(ny _ _ _ _).mono ?_;rintro e w6 ⟨rfl,rfl⟩;rw[Q8.o];exact⟨rfl,aj.o.o _ (aj.o.aJ _)⟩)|(go_at_call 191;with_reducible refine(dH _ I (.slice la x.locals.length lc) x.locals (zC.o.ext eB.stays (aj.o.aJ _))).mono ?_;rintro e w6 ⟨rfl,dK⟩;rw[Ou.o];exact⟨rfl,aj.o.o w6 ((aj.o.aJ _).trans dK)⟩)|(go_at_call 191;with_reducible refine(dH _ I (.slice sa x.stack.length sc) x.stack (Ov.o.ext eB.stays (aj.o.aJ _))).mono ?_;rintro e w6 ⟨rfl,dK⟩;rw[Q9.o];exact⟨rfl,aj.o.o w6 ((aj.o.aJ _).trans dK)⟩)))));(refine wpQuiet_nil ?_);(rintro _ ⟨sW,rfl⟩);rotate_left
        · exact(Kp.refl _ _).drew
        go_wp2_with fail;go_ret;exact⟨⟨_,rfl⟩,(bJ.o.trans gm.o).trans (aj.o.aJ sW)⟩
      cases q6
      · go_wp2_with fail;(refine Gv aj ?_ ?_);rotate_left;(repeat (go_big_quiet_step ((first|(go_at_call 113;refine(ny _ _ _ _).mono ?_;rintro e w6 ⟨rfl,rfl⟩;rw[Q8.o];exact⟨rfl,aj.o.o _ (aj.o.aJ _)⟩)|(go_at_call 191;with_reducible refine(dH _ I (.slice la x.locals.length lc) x.locals (zC.o.ext eB.stays (aj.o.aJ _))).mono ?_;rintro e w6 ⟨rfl,dK⟩;rw[Ou.o];exact⟨rfl,aj.o.o w6 ((aj.o.aJ _).trans dK)⟩)|(go_at_call 191;with_reducible refine(dH _ I (.slice sa x.stack.length sc) x.stack (Ov.o.ext eB.stays (aj.o.aJ _))).mono ?_;rintro e w6 ⟨rfl,dK⟩;rw[Q9.o];exact⟨rfl,aj.o.o w6 ((aj.o.aJ _).trans dK)⟩)))));(refine wpQuiet_nil ?_);(rintro _ ⟨sW,rfl⟩);rotate_left
        · exact(Kp.refl _ _).drew
        go_wp2_with fail;go_ret;exact⟨⟨_,rfl⟩,(bJ.o.trans gm.o).trans (aj.o.aJ sW)⟩
      go_wp2_with fail;(refine Gv aj ?_ ?_);rotate_left;(repeat (go_big_quiet_step ((first|(go_at_call 113;refine(ny _ _ _ _).mono ?_;rintro e w6 ⟨rfl,rfl⟩;rw[Q8.o];exact⟨rfl,aj.o.o _ (aj.o.aJ _)⟩)|(go_at_call 191;with_reducible refine(dH _ I (.slice la x.locals.length lc) x.locals (zC.o.ext eB.stays (aj.o.aJ _))).mono ?_;rintro e w6 ⟨rfl,dK⟩;rw[Ou.o];exact⟨rfl,aj.o.o w6 ((aj.o.aJ _).trans dK)⟩)|(go_at_call 191;with_reducible refine(dH _ I (.slice sa x.stack.length sc) x.stack (Ov.o.ext eB.stays (aj.o.aJ _))).mono ?_;rintro e w6 ⟨rfl,dK⟩;rw[Q9.o];exact⟨rfl,aj.o.o w6 ((aj.o.aJ _).trans dK)⟩)))));(refine wpQuiet_nil ?_);(rintro _ ⟨sW,rfl⟩);rotate_left
      · exact(Kp.refl _ _).drew
      go_wp2_with fail;go_round
      case rel=>exact⟨k+1,by omega,by go_num,gm.o.trans (aj.o.aJ sW)⟩
      case measure=>simp[intOf];omega
    · have aan:decide ((0:Int)<(k:Int))=false:=decide_eq_false (by omega);cases q3;rotate_left
      · go_wp2_with fail;(refine Gv aj ?_ ?_);rotate_left;(repeat (go_big_quiet_step ((first|(go_at_call 113;refine(ny _ _ _ _).mono ?_;rintro e w6 ⟨rfl,rfl⟩;rw[Q8.o];exact⟨rfl,aj.o.o _ (aj.o.aJ _)⟩)|(go_at_call 191;with_reducible refine(dH _ I (.slice la x.locals.length lc) x.locals (zC.o.ext eB.stays (aj.o.aJ _))).mono ?_;rintro e w6 ⟨rfl,dK⟩;rw[Ou.o];exact⟨rfl,aj.o.o w6 ((aj.o.aJ _).trans dK)⟩)|(go_at_call 191;with_reducible refine(dH _ I (.slice sa x.stack.length sc) x.stack (Ov.o.ext eB.stays (aj.o.aJ _))).mono ?_;rintro e w6 ⟨rfl,dK⟩;rw[Q9.o];exact⟨rfl,aj.o.o w6 ((aj.o.aJ _).trans dK)⟩)))));(refine wpQuiet_nil ?_);(rintro _ ⟨sW,rfl⟩);rotate_left
        · exact(Kp.refl _ _).drew
        go_wp2_with fail;go_ret;exact⟨⟨_,rfl⟩,(bJ.o.trans gm.o).trans (aj.o.aJ sW)⟩
      cases q4;rotate_left
      · go_wp2_with fail;(refine Gv aj ?_ ?_);rotate_left;(repeat (go_big_quiet_step ((first|(go_at_call 113;refine(ny _ _ _ _).mono ?_;rintro e w6 ⟨rfl,rfl⟩;rw[Q8.o];exact⟨rfl,aj.o.o _ (aj.o.aJ _)⟩)|(go_at_call 191;with_reducible refine(dH _ I (.slice la x.locals.length lc) x.locals (zC.o.ext eB.stays (aj.o.aJ _))).mono ?_;rintro e w6 ⟨rfl,dK⟩;rw[Ou.o];exact⟨rfl,aj.o.o w6 ((aj.o.aJ _).trans dK)⟩)|(go_at_call 191;with_reducible refine(dH _ I (.slice sa x.stack.length sc) x.stack (Ov.o.ext eB.stays (aj.o.aJ _))).mono ?_;rintro e w6 ⟨rfl,dK⟩;rw[Q9.o];exact⟨rfl,aj.o.o w6 ((aj.o.aJ _).trans dK)⟩)))));(refine wpQuiet_nil ?_);(rintro _ ⟨sW,rfl⟩);rotate_left
        · exact(Kp.refl _ _).drew
        go_wp2_with fail;go_ret;exact⟨⟨_,rfl⟩,(bJ.o.trans gm.o).trans (aj.o.aJ sW)⟩
      cases q5
      · go_wp2_with fail;(refine Gv aj ?_ ?_);rotate_left;(repeat (go_big_quiet_step ((first|(go_at_call 113;refine(ny _ _ _ _).mono ?_;rintro e w6 ⟨rfl,rfl⟩;rw[Q8.o];exact⟨rfl,aj.o.o _ (aj.o.aJ _)⟩)|(go_at_call 191;with_reducible refine(dH _ I (.slice la x.locals.length lc) x.locals (zC.o.ext eB.stays (aj.o.aJ _))).mono ?_;rintro e w6 ⟨rfl,dK⟩;rw[Ou.o];exact⟨rfl,aj.o.o w6 ((aj.o.aJ _).trans dK)⟩)|(go_at_call 191;with_reducible refine(dH _ I (.slice sa x.stack.length sc) x.stack (Ov.o.ext eB.stays (aj.o.aJ _))).mono ?_;rintro e w6 ⟨rfl,dK⟩;rw[Q9.o];exact⟨rfl,aj.o.o w6 ((aj.o.aJ _).trans dK)⟩)))));(refine wpQuiet_nil ?_);(rintro _ ⟨sW,rfl⟩);rotate_left
        · exact(Kp.refl _ _).drew
        go_wp2_with fail;go_ret;exact⟨⟨_,rfl⟩,(bJ.o.trans gm.o).trans (aj.o.aJ sW)⟩
      cases q6
      · go_wp2_with fail;(refine Gv aj ?_ ?_);rotate_left;(repeat (go_big_quiet_step ((first|(go_at_call 113;refine(ny _ _ _ _).mono ?_;rintro e w6 ⟨rfl,rfl⟩;rw[Q8.o];exact⟨rfl,aj.o.o _ (aj.o.aJ _)⟩)|(go_at_call 191;with_reducible refine(dH _ I (.slice la x.locals.length lc) x.locals (zC.o.ext eB.stays (aj.o.aJ _))).mono ?_;rintro e w6 ⟨rfl,dK⟩;rw[Ou.o];exact⟨rfl,aj.o.o w6 ((aj.o.aJ _).trans dK)⟩)|(go_at_call 191;with_reducible refine(dH _ I (.slice sa x.stack.length sc) x.stack (Ov.o.ext eB.stays (aj.o.aJ _))).mono ?_;rintro e w6 ⟨rfl,dK⟩;rw[Q9.o];exact⟨rfl,aj.o.o w6 ((aj.o.aJ _).trans dK)⟩)))));(refine wpQuiet_nil ?_);(rintro _ ⟨sW,rfl⟩);rotate_left
        · exact(Kp.refl _ _).drew
        go_wp2_with fail;go_ret;exact⟨⟨_,rfl⟩,(bJ.o.trans gm.o).trans (aj.o.aJ sW)⟩
      go_wp2_with fail;(refine Gv aj ?_ ?_);rotate_left;(repeat (go_big_quiet_step ((first|(go_at_call 113;refine(ny _ _ _ _).mono ?_;rintro e w6 ⟨rfl,rfl⟩;rw[Q8.o];exact⟨rfl,aj.o.o _ (aj.o.aJ _)⟩)|(go_at_call 191;with_reducible refine(dH _ I (.slice la x.locals.length lc) x.locals (zC.o.ext eB.stays (aj.o.aJ _))).mono ?_;rintro e w6 ⟨rfl,dK⟩;rw[Ou.o];exact⟨rfl,aj.o.o w6 ((aj.o.aJ _).trans dK)⟩)|(go_at_call 191;with_reducible refine(dH _ I (.slice sa x.stack.length sc) x.stack (Ov.o.ext eB.stays (aj.o.aJ _))).mono ?_;rintro e w6 ⟨rfl,dK⟩;rw[Q9.o];exact⟨rfl,aj.o.o w6 ((aj.o.aJ _).trans dK)⟩)))));(refine wpQuiet_nil ?_);(rintro _ ⟨sW,rfl⟩);rotate_left
      · exact(Kp.refl _ _).drew
      go_wp2_with fail;go_round
      case rel=>exact⟨k+1,by omega,by go_num,gm.o.trans (aj.o.aJ sW)⟩
      case measure=>simp[intOf];omega
  · have dk:¬(k:Int)<c.maps.length:=by omega
    clear hE;go_wp2_with fail;go_ret;exact⟨⟨_,rfl⟩,bJ.o.trans HE.o⟩
theorem QO(w:World)(I:Nat→Prop)(cs:List Value)(c:M.Method)(h:aH w I c cs):
    Calls Tryz.prog 176 #[.agg cs.toArray] w fun e w'=>BX e∧Ext w w':=by
 obtain⟨va,vc,vm,rfl, -,h1,h2⟩:=h;obtain⟨a,cap,rfl,hn,dn⟩:=h1.form;obtain⟨w0,bD,aU,hb⟩:=nu w #[.string c.name,va,.int .i64 c.ret.kind,.string c.ret.name,.int .i64 c.locals,.int .i64 c.stack,.slice a c.code.length cap,vm] 54;have c3:=hb.c 4 (.int .i64 c.locals) rfl;have c5:=hb.c 6 (.slice a c.code.length cap) rfl;have cz:=hb.lt;have HB:=Ys hb;have H:=Ys (h1.ext (fun _ _ _ _ _ _ _ _ h=>h) aU);have bJ:=Ys aU;have dQ:=Ys bD;clear aU hb bD h1 h2;go_enter Tryz.func176,Tryz.ntmps176;go_wp2_with fail;rw[←dQ.o];go_wp2_with fail;refine(ny _ _ _ _).mono ?_;rintro e w' ⟨rfl,rfl⟩;obtain⟨q,hq⟩:∃q,(decide (1≤(c.code.length:Int))&&decide ((c.code.length:Int)≤16))=q:=⟨_,rfl⟩;rw[hq];cases q
 · go_wp2_with fail;go_ret;exact⟨⟨_,rfl⟩,bJ.o⟩
 clear hq;go_wp2_with fail;go_loopw [3] (fun i wr=>∃k:Nat,k≤c.code.length∧i=.int .i64 k∧Ext w0 wr) (fun i _=>c.code.length - (intOf i).toNat)
 case atStart=>exact⟨0,Nat.zero_le _,rfl,Kp.refl _ _⟩
 case round =>
  obtain⟨k,hk,rfl,hE⟩:=hrel;have HE:=Ys hE;have d5:=hE.aA c5;have d3:=hE.aA c3;have dz:=aG d5;by_cases bZ:k<c.code.length
  · have dk:(k:Int)<c.code.length:=by omega
    obtain⟨x,hx⟩:∃x,c.code[k]?=some x:=⟨c.code[k]'bZ,List.getElem?_eq_getElem bZ⟩;obtain⟨b',off,cs,rfl,hI,rfl, -,hc⟩:=H.o.get hx;obtain⟨g0,g1,g2,g3⟩:=(hc.ext hE).four;have gz:=aG g0;obtain⟨w5,ji⟩:∃w5,w5=wr.alloc (.cells #[.int .i64 x.op,.int .i64 x.a,.string x.name,.string x.member] 47):=⟨_,rfl⟩;have dC:Ext wr w5:=by rw[ji];exact kx
    have iL:Zs (aC w5 wr.heap.size 47 #[.int .i64 x.op,.int .i64 x.a,.string x.name,.string x.member]):=Ys (by rw[ji];exact aC.new _ _ _);have HD5:=Ys (dC.aA d5);have HD3:=Ys (dC.aA d3);have gm:=Ys (HE.o.trans dC);have zm:=Ys ji;clear hx hc hE dC ji;go_wp2_with fail;rw[←zm.o];refine(Io x.op x.a x.name x.member _).mono ?_;rintro e w2 ⟨⟨t,rfl,fC⟩,bP⟩;have fD:=Ys (gm.o.trans bP);have e5:=bP.aA HD5.o;have e3:=bP.aA HD3.o;have ez:=aG e5;have iU:=iL.o.ext bP;have y0:=iU.c 0 (.int .i64 x.op) rfl;have y1:=iU.c 1 (.int .i64 x.a) rfl;have yz:=aG y0;clear bP iU g0 g1 g2 g3 gz d5 d3 dz c5 c3 cz;cases t
    · clear fC;go_wp2_with fail;go_ret;exact⟨⟨_,rfl⟩,bJ.o.trans fD.o⟩
    · obtain⟨o1,o2⟩:=fC rfl;have hoo:x.op=1∨x.op=2∨x.op=3∨x.op=4∨x.op=5∨x.op=6∨x.op=7∨x.op=8∨x.op=9∨x.op=10∨x.op=11∨x.op=12∨x.op=13∨x.op=14∨x.op=15:=by omega
      obtain⟨op,acw⟩:∃op,x.op=op:=⟨_,rfl⟩;rw[acw]at hoo y0;obtain⟨xa,O4⟩:∃xa,x.a=xa:=⟨_,rfl⟩;rw[O4]at y1;clear fC o1 o2 acw O4;have b1:xa<c.locals∨c.locals≤xa:=by omega
      have b2:xa<c.code.length∨(c.code.length:Int)≤xa:=by omega
      rcases hoo with rfl|rfl|rfl|rfl|rfl|rfl|rfl|rfl|rfl|rfl|rfl|rfl|rfl|rfl|rfl<;>rcases b1 with b1|b1<;>rcases b2 with b2|b2
      all_goals
       have b3:decide (c.locals≤xa)=decide (c.locals≤xa):=rfl;go_wp2_with fail;first
       |(go_ret;exact⟨⟨_,rfl⟩,bJ.o.trans fD.o⟩)
       | (go_round
          case rel=>exact⟨k+1,by omega,by go_num,fD.o⟩
          case measure=>simp[intOf];omega)
  · have dk:¬(k:Int)<c.code.length:=by omega
    clear hE;go_wp2_with fail;go_ret;exact⟨⟨_,rfl⟩,bJ.o.trans HE.o⟩
theorem UJ(w:World)(I:Nat→Prop)(cs:List Value)(c:M.Method)(h:aH w I c cs):
    Calls Tryz.prog 152 #[.agg cs.toArray] w fun e w'=>BX e∧Ext w w':=by
 obtain⟨va,vc,vm,rfl,h0,h1,h2⟩:=h;obtain⟨a1,u1,rfl,mG,Bt⟩:=h0.form;obtain⟨a2,u2,rfl,xR,Bu⟩:=h1.form;obtain⟨a3,u3,rfl,WE,Yl⟩:=h2.form;obtain⟨w0,bD,aU,hb⟩:=nu w #[.string c.name,.slice a1 c.args.length u1,.int .i64 c.ret.kind,.string c.ret.name,.int .i64 c.locals,.int .i64 c.stack,.slice a2 c.code.length u2,.slice a3 c.maps.length u3] 54;have c0:=hb.c 0 (.string c.name) rfl;have c1:=hb.c 1 (.slice a1 c.args.length u1) rfl;have c2:=hb.c 2 (.int .i64 c.ret.kind) rfl;have c3:=hb.c 3 (.string c.ret.name) rfl;have c4:=hb.c 4 (.int .i64 c.locals) rfl;have c5:=hb.c 5 (.int .i64 c.stack) rfl;have c6:=hb.c 6 (.slice a2 c.code.length u2) rfl;have c7:=hb.c 7 (.slice a3 c.maps.length u3) rfl;have cz:=hb.lt;have HB:=Ys hb;have HM:Zs (aH w I c [.string c.name,.slice a1 c.args.length u1,.int .i64 c.ret.kind,.string c.ret.name,.int .i64 c.locals,.int .i64 c.stack,.slice a2 c.code.length u2,.slice a3 c.maps.length u3]):=Ys ⟨_,_,_,rfl,h0,h1,h2⟩;have HK:=Ys h0;have bJ:=Ys aU;have dQ:=Ys bD;have HN:=fun W=>Ys (eT c.name W);clear aU hb bD h0 h1 h2;cases yS:M.aY c.name<;>simp only[yS]at HN
 · go_enter Tryz.func152,Tryz.ntmps152;go_wp2_with fail;rw[←dQ.o];go_wp2_with fail;refine(HN _).o.mono ?_;rintro e w' ⟨rfl,rfl⟩;go_wp2_with fail;go_ret;exact⟨⟨_,rfl⟩,bJ.o⟩
 by_cases h3:3<c.args.length
 · have Rf:decide ((3:Int)<c.args.length)=true:=decide_eq_true (by omega);go_enter Tryz.func152,Tryz.ntmps152;go_wp2_with fail;rw[←dQ.o];go_wp2_with fail;refine(HN _).o.mono ?_;rintro e w' ⟨rfl,rfl⟩;go_wp2_with fail;go_ret;exact⟨⟨_,rfl⟩,bJ.o⟩
 have Rf:decide ((3:Int)<c.args.length)=false:=decide_eq_false (by omega);go_enter Tryz.func152,Tryz.ntmps152;go_wp2_with fail;rw[←dQ.o];go_wp2_with fail;refine(HN _).o.mono ?_;rintro e w' ⟨rfl,rfl⟩;go_wp2_with fail;refine(BQ c.ret.kind c.ret.name _).mono ?_;rintro e w2 ⟨⟨q2,rfl⟩,bP⟩;have fD:=Ys (bJ.o.trans bP);have iU:=HB.o.ext bP;have lD:=Ys iU;clear bP c0 c1 c2 c3 c4 c5 c6 c7 cz;have d0:=iU.c 0 (.string c.name) rfl;have d1:=iU.c 1 (.slice a1 c.args.length u1) rfl;have d2:=iU.c 2 (.int .i64 c.ret.kind) rfl;have d3:=iU.c 3 (.string c.ret.name) rfl;have d4:=iU.c 4 (.int .i64 c.locals) rfl;have d5:=iU.c 5 (.int .i64 c.stack) rfl;have d6:=iU.c 6 (.slice a2 c.code.length u2) rfl;have d7:=iU.c 7 (.slice a3 c.maps.length u3) rfl;have dz:=iU.lt;clear iU;cases q2
 · go_wp2_with fail;go_ret;exact⟨⟨_,rfl⟩,fD.o⟩
 go_wp2_with fail;refine(ny _ _ _ _).mono ?_;rintro e w' ⟨rfl,rfl⟩;obtain⟨q3,hq3⟩:∃q,(decide ((c.args.length:Int)+1≤c.locals)&&decide (c.locals≤6))=q:=⟨_,rfl⟩;rw[hq3];clear hq3;cases q3
 · go_wp2_with fail;go_ret;exact⟨⟨_,rfl⟩,fD.o⟩
 go_wp2_with fail;refine(ny _ _ _ _).mono ?_;rintro e w' ⟨rfl,rfl⟩;obtain⟨q4,hq4⟩:∃q,(decide ((1:Int)≤c.stack)&&decide (c.stack≤5))=q:=⟨_,rfl⟩;rw[hq4];clear hq4;cases q4
 · go_wp2_with fail;go_ret;exact⟨⟨_,rfl⟩,fD.o⟩
 go_wp2_with fail;refine(QO _ I _ c (aH.stays _ _ _ _ _ _ (Ext.same fD.o) (fun _ h=>h) HM.o)).mono ?_;rintro e w3 ⟨⟨q5,rfl⟩,dm⟩;have iH:=Ys (fD.o.trans dm);have xA:=lD.o.ext dm;have fM:=Ys xA;clear dm d0 d1 d2 d3 d4 d5 d6 d7 dz;have e0:=xA.c 0 (.string c.name) rfl;have e1:=xA.c 1 (.slice a1 c.args.length u1) rfl;have e2:=xA.c 2 (.int .i64 c.ret.kind) rfl;have e3:=xA.c 3 (.string c.ret.name) rfl;have e4:=xA.c 4 (.int .i64 c.locals) rfl;have e5:=xA.c 5 (.int .i64 c.stack) rfl;have e6:=xA.c 6 (.slice a2 c.code.length u2) rfl;have e7:=xA.c 7 (.slice a3 c.maps.length u3) rfl;have ez:=xA.lt;clear xA;cases q5
 · go_wp2_with fail;go_ret;exact⟨⟨_,rfl⟩,iH.o⟩
 go_wp2_with fail;refine(QP _ I _ c (aH.stays _ _ _ _ _ _ (Ext.same iH.o) (fun _ h=>h) HM.o)).mono ?_;rintro e w4 ⟨⟨q6,rfl⟩,dA⟩;have gZ:=Ys (iH.o.trans dA);have vM:=fM.o.ext dA;clear dA e0 e1 e2 e3 e4 e5 e6 e7 ez;have f1:=vM.c 1 (.slice a1 c.args.length u1) rfl;have fz:=vM.lt;have iB:=Ys vM;clear vM;cases q6
 · go_wp2_with fail;go_ret;exact⟨⟨_,rfl⟩,gZ.o⟩
 go_wp2_with fail;go_loopw [3] (fun i wr=>∃k:Nat,k≤c.args.length∧i=.int .i64 k∧Ext w4 wr) (fun i _=>c.args.length - (intOf i).toNat)
 case atStart=>exact⟨0,Nat.zero_le _,rfl,Kp.refl _ _⟩
 case round =>
  obtain⟨k,hk,rfl,hE⟩:=hrel;have HE:=Ys hE;have g1:=hE.aA f1;have gz:=aG g1;by_cases bZ:k<c.args.length
  · have dk:(k:Int)<c.args.length:=by omega
    obtain⟨x,hx⟩:∃x,c.args[k]?=some x:=⟨c.args[k]'bZ,List.getElem?_eq_getElem bZ⟩;obtain⟨b',off,cs,rfl,hI,rfl, -,hc⟩:=HK.o.get hx;obtain⟨y0,y1⟩:=(hc.ext (gZ.o.trans hE)).two;have yz:=aG y0;clear hx hc hE;go_wp2_with fail;refine(BQ x.kind x.name _).mono ?_;rintro e w5 ⟨⟨t,rfl⟩,dC⟩;have gm:=Ys (HE.o.trans dC);clear dC;cases t
    · go_wp2_with fail;go_ret;exact⟨⟨_,rfl⟩,gZ.o.trans gm.o⟩
    · go_wp2_with fail;go_round
      case rel=>exact⟨k+1,by omega,by go_num,gm.o⟩
      case measure=>simp[intOf];omega
  · have dk:¬(k:Int)<c.args.length:=by omega
    clear hE;go_wp2_with fail;go_ret;exact⟨⟨_,rfl⟩,gZ.o.trans HE.o⟩
theorem UH(w:World)(I:Nat→Prop)(cs:List Value)(c:M.Class)(h:aX w I c cs):
    Calls Tryz.prog 134 #[.agg cs.toArray] w fun e w'=>BX e∧Ext w w':=by
 obtain⟨vf,vm,rfl,h0,h1⟩:=h;obtain⟨a1,m1,rfl,mG,Bt⟩:=h0.form;obtain⟨a2,m2,rfl,xR,Bu⟩:=h1.form;obtain⟨w0,bD,aU,hb⟩:=nu w #[.string c.name,.string c.aQ,.slice a1 c.fields.length m1,.slice a2 c.methods.length m2] 58;have c0:=hb.c 0 (.string c.name) rfl;have c1:=hb.c 1 (.string c.aQ) rfl;have c2:=hb.c 2 (.slice a1 c.fields.length m1) rfl;have c3:=hb.c 3 (.slice a2 c.methods.length m2) rfl;have cz:=hb.lt;have HF:=Ys h0;have HM:=Ys h1;have bJ:=Ys aU;have dQ:=Ys bD;clear aU hb bD h0 h1;go_enter Tryz.func134,Tryz.ntmps134;go_upto_region 1 with(fail);rw[←dQ.o];go_cut [31] (fun s31 wx=>(∃b,s31=.bool b)∧wx=w0)
 case first=>
  go_wp2_with fail;refine(eT _ _).mono ?_;rintro e w' ⟨rfl,rfl⟩;cases M.aY c.name
  · go_wp2_with fail;go_meet;exact⟨⟨_,rfl⟩,rfl⟩
  obtain⟨qs,hqs⟩:∃q,(c.aQ.toList==[])=q:=⟨_,rfl⟩;cases qs
  · go_wp2_with fail;refine(eT _ _).mono ?_;rintro e w' ⟨rfl,rfl⟩;cases M.aY c.aQ
    · go_wp2_with fail;go_meet;exact⟨⟨_,rfl⟩,rfl⟩
    by_cases h3:3<c.fields.length
    · have h3d:decide ((3:Int)<c.fields.length)=true:=decide_eq_true (by omega);go_wp2_with fail;go_meet;exact⟨⟨_,rfl⟩,rfl⟩
    · have h3d:decide ((3:Int)<c.fields.length)=false:=decide_eq_false (by omega);go_wp2_with fail;go_meet;exact⟨⟨_,rfl⟩,rfl⟩
  · by_cases h3:3<c.fields.length
    · have h3d:decide ((3:Int)<c.fields.length)=true:=decide_eq_true (by omega);go_wp2_with fail;go_meet;exact⟨⟨_,rfl⟩,rfl⟩
    · have h3d:decide ((3:Int)<c.fields.length)=false:=decide_eq_false (by omega);go_wp2_with fail;go_meet;exact⟨⟨_,rfl⟩,rfl⟩
 obtain⟨⟨b,rfl⟩,kr⟩:=hcut;rw[kr];clear kr;cases b;rotate_left
 · go_wp2_with fail;go_ret;exact⟨⟨_,rfl⟩,bJ.o⟩
 go_wp2_with fail;go_loopw [3] (fun i wr=>∃k:Nat,k≤c.fields.length∧i=.int .i64 k∧Ext w0 wr) (fun i _=>c.fields.length - (intOf i).toNat)
 case atStart=>exact⟨0,Nat.zero_le _,rfl,Kp.refl _ _⟩
 case round =>
  obtain⟨k,hk,rfl,hE⟩:=hrel;have HE:=Ys hE;have d2:=hE.aA c2;have d3:=hE.aA c3;have dz:=aG d2;clear c0 c1 c2 c3 cz;by_cases bZ:k<c.fields.length
  · have dk:(k:Int)<c.fields.length:=by omega
    obtain⟨x,hx⟩:∃x,c.fields[k]?=some x:=⟨c.fields[k]'bZ,List.getElem?_eq_getElem bZ⟩;obtain⟨b',off,cs,rfl,hI,rfl, -,hc⟩:=HF.o.get hx;obtain⟨g0,g1,g2⟩:=(hc.ext (bJ.o.trans hE)).three;have R7:=Ys ((HF.o.take (i:=k) (by omega)).ext eO.stays (bJ.o.trans hE));have Aa:(c.fields.take k).length=k:=by rw[List.length_take];omega
    obtain⟨T,f,dB,HT⟩:=iq.ex (fun W'=>Ext wr W') wr (Kp.refl _ _);have y0:=fun z=>(HT.aJ z).aA g0;have y1:=fun z=>(HT.aJ z).aA g1;have y2:=fun z=>(HT.aJ z).aA g2;have y3:=fun z=>(HT.aJ z).aA d2;have aj:=Ys HT;have HKL:=Ys Aa;clear HT hE hc hx g0 g1 g2 dz Aa;have hD1:Ext wr wr.drew:=(Kp.refl _ _).drew;go_wp2_with fail;(refine dZ aj 32 [([0,1,2,3,4,5],6),([7,8,9,10,11,12,13,14],15),([16,17,18,19,20,21,22,23,24,25,26,27,28],29)] [30,31] ?_ ?_)
    · exact(Kp.refl _ _).drew
    (refine di [_,_,_,_,_,_] rfl rfl fun K hK=>?_);(repeat (go_big_quiet_step (fail)));(refine qn hK fun K2 af=>?_);clear hK K;go_wp2_with fail;refine(eT _ _).mono ?_;rintro e w1 ⟨rfl,rfl⟩;cases M.aY x.name
    · go_wp2_with fail;(refine kk aj af hD1 ?_);clear af K2;(refine di [_,_,_,_,_,_,_,_] rfl rfl fun K hK=>?_);(repeat (go_big_quiet_step (fail)));(refine qn hK fun K2 af=>?_);clear hK K;go_wp2_with fail;(refine kk aj af hD1 ?_);clear af K2;(refine di [_,_,_,_,_,_,_,_,_,_,_,_,_] rfl rfl fun K hK=>?_);(repeat (go_big_quiet_step (fail)));(refine qn hK fun K2 af=>?_);clear hK K;go_wp2_with fail;(refine kk aj af hD1 ?_);clear af K2;(refine dI [_,_] rfl rfl fun K hK=>?_);(repeat (go_big_quiet_step (fail)));(refine qn hK ?_);clear hK K;go_wp2_with fail;go_ret;exact⟨⟨_,rfl⟩,(bJ.o.trans HE.o).trans hD1⟩
    go_wp2_with fail;(refine kk aj af hD1 ?_);clear af K2;(refine di [_,_,_,_,_,_,_,_] rfl rfl fun K hK=>?_);(repeat (go_big_quiet_step (fail)));(refine qn hK fun K2 af=>?_);clear hK K;go_wp2_with fail;refine(BQ x.kind.kind x.kind.name _).mono ?_;rintro e w2 ⟨⟨q2,rfl⟩,bP⟩;have hD2:=hD1.trans bP;cases q2
    · go_wp2_with fail;(refine kk aj af hD2 ?_);clear af K2;(refine di [_,_,_,_,_,_,_,_,_,_,_,_,_] rfl rfl fun K hK=>?_);(repeat (go_big_quiet_step (fail)));(refine qn hK fun K2 af=>?_);clear hK K;go_wp2_with fail;(refine kk aj af hD2 ?_);clear af K2;(refine dI [_,_] rfl rfl fun K hK=>?_);(repeat (go_big_quiet_step (fail)));(refine qn hK ?_);clear hK K;go_wp2_with fail;go_ret;exact⟨⟨_,rfl⟩,(bJ.o.trans HE.o).trans hD2⟩
    go_wp2_with fail;(refine kk aj af hD2 ?_);clear af K2;(refine di [_,_,_,_,_,_,_,_,_,_,_,_,_] rfl rfl fun K hK=>?_);(repeat (go_big_quiet_step (fail)));(refine qn hK fun K2 af=>?_);clear hK K;go_wp2_with fail;refine(NY _ I (.slice (some ⟨b',off,none⟩) k m1) (c.fields.take k) (R7.o.ext eO.stays hD2) x.name).mono ?_;rintro e w3 ⟨⟨n,rfl, -⟩,dm⟩;have I9:=hD2.trans dm;obtain⟨q,hq⟩:∃q,decide (0≤n)=q:=⟨_,rfl⟩;cases q
    · go_wp2_with fail;(refine kk aj af I9 ?_);clear af K2;(refine dI [_,_] rfl rfl fun K hK=>?_);(repeat (go_big_quiet_step (fail)));(refine qn hK ?_);clear hK K;go_wp2_with fail;go_round
      case rel=>exact⟨k+1,by omega,by go_num,HE.o.trans I9⟩
      case measure=>simp[intOf];omega
    · go_wp2_with fail;(refine kk aj af I9 ?_);clear af K2;(refine dI [_,_] rfl rfl fun K hK=>?_);(repeat (go_big_quiet_step (fail)));(refine qn hK ?_);clear hK K;go_wp2_with fail;go_ret;exact⟨⟨_,rfl⟩,(bJ.o.trans HE.o).trans I9⟩
  · have dk : ¬ (k : Int) < c.fields.length := by omega
    obtain⟨wo,rfl⟩:∃wo:World,wo=wr:=⟨_,rfl⟩;clear hE;go_wp2_with fail;go_loopw [4] (fun i wr=>∃k:Nat,k≤c.methods.length∧i=.int .i64 k∧Ext wo wr) (fun i _=>c.methods.length - (intOf i).toNat)
    case atStart=>exact⟨0,Nat.zero_le _,rfl,Kp.refl _ _⟩
    case round =>
     obtain⟨k2,qJ,rfl,bP⟩:=hrel;have fD:=Ys (HE.o.trans bP);have hEq:=Ys bP;have e3:=bP.aA d3;have ez:=aG e3;clear d2 d3 dz;by_cases Tu:k2<c.methods.length
     · have dk2:(k2:Int)<c.methods.length:=by omega
       obtain⟨x,hx⟩:∃x,c.methods[k2]?=some x:=⟨c.methods[k2]'Tu,List.getElem?_eq_getElem Tu⟩;obtain⟨b',off,cs,rfl,hI,hM, -,hc⟩:=HM.o.get hx;obtain⟨ma,mu,mb,mv,md,mw,rfl⟩:=hM.form;have Tc:=aH.stays _ _ _ _ _ _ (Ext.same (bJ.o.trans fD.o)) (fun _ h=>h) hM;obtain⟨g0,g1,g2,g3,g4,g5,g6,g7⟩:=(hc.ext (bJ.o.trans fD.o)).eight;have R7:=Ys ((HM.o.take (i:=k2) (by omega)).ext aH.stays (bJ.o.trans fD.o));have Aa:(c.methods.take k2).length=k2:=by rw[List.length_take];omega
       obtain⟨T,f,dB,HT⟩:=iq.ex (fun W'=>Ext wr W') wr (Kp.refl _ _);have y0:=fun z=>(HT.aJ z).aA g0;have y1:=fun z=>(HT.aJ z).aA g1;have y2:=fun z=>(HT.aJ z).aA g2;have y3:=fun z=>(HT.aJ z).aA g3;have y4:=fun z=>(HT.aJ z).aA g4;have y5:=fun z=>(HT.aJ z).aA g5;have y6:=fun z=>(HT.aJ z).aA g6;have y7:=fun z=>(HT.aJ z).aA g7;have ye:=fun z=>(HT.aJ z).aA e3;have aj:=Ys HT;have IC:=Ys Tc;have HKL:=Ys Aa;clear HT bP hc hx g0 g1 g2 g3 g4 g5 g6 g7 ez Aa hM Tc;have hD1:Ext wr wr.drew:=(Kp.refl _ _).drew;go_wp2_with fail;(refine dZ aj 21 [([0,1,2,3,4],5),([6,7,8,9,10,11,12,13,14,15,16,17],18)] [19,20] ?_ ?_)
       · exact(Kp.refl _ _).drew
       (refine di [_,_,_,_,_] rfl rfl fun K hK=>?_);(repeat (go_big_quiet_step (fail)));(refine qn hK fun K2 af=>?_);clear hK K;go_wp2_with fail;refine(UJ _ I _ x (aH.stays _ _ _ _ _ _ (Ext.same hD1) (fun _ h=>h) IC.o)).mono ?_;rintro e w2 ⟨⟨q2,rfl⟩,dC⟩;have hD2:=hD1.trans dC;cases q2
       · go_wp2_with fail;(refine kk aj af hD2 ?_);clear af K2;(refine di [_,_,_,_,_,_,_,_,_,_,_,_] rfl rfl fun K hK=>?_);(repeat (go_big_quiet_step (fail)));(refine qn hK fun K2 af=>?_);clear hK K;go_wp2_with fail;(refine kk aj af hD2 ?_);clear af K2;(refine dI [_,_] rfl rfl fun K hK=>?_);(repeat (go_big_quiet_step (fail)));(refine qn hK ?_);clear hK K;go_wp2_with fail;go_ret;exact⟨⟨_,rfl⟩,(bJ.o.trans fD.o).trans hD2⟩
       go_wp2_with fail;(refine kk aj af hD2 ?_);clear af K2;(refine di [_,_,_,_,_,_,_,_,_,_,_,_] rfl rfl fun K hK=>?_);(repeat (go_big_quiet_step (fail)));(refine qn hK fun K2 af=>?_);clear hK K;go_wp2_with fail;refine(LV _ I (.slice (some ⟨b',off,none⟩) k2 m2) (c.methods.take k2) (R7.o.ext aH.stays hD2) x.name).mono ?_;rintro e w3 ⟨⟨n,rfl, -⟩,dm⟩;have I9:=hD2.trans dm;obtain⟨q,hq⟩:∃q,decide (0≤n)=q:=⟨_,rfl⟩;cases q
       · go_wp2_with fail;(refine kk aj af I9 ?_);clear af K2;(refine dI [_,_] rfl rfl fun K hK=>?_);(repeat (go_big_quiet_step (fail)));(refine qn hK ?_);clear hK K;go_wp2_with fail;go_round
         case rel=>exact⟨k2+1,by omega,by go_num,(hEq.o).trans I9⟩
         case measure=>simp[intOf];omega
       · go_wp2_with fail;(refine kk aj af I9 ?_);clear af K2;(refine dI [_,_] rfl rfl fun K hK=>?_);(repeat (go_big_quiet_step (fail)));(refine qn hK ?_);clear hK K;go_wp2_with fail;go_ret;exact⟨⟨_,rfl⟩,(bJ.o.trans fD.o).trans I9⟩
     · have dk2:¬(k2:Int)<c.methods.length:=by omega
       clear bP;go_wp2_with fail;go_ret;exact⟨⟨_,rfl⟩,bJ.o.trans fD.o⟩
theorem LQ(w:World)(I:Nat→Prop)(cs:List Value)(c:M.gy)(h:az w I c cs)(many:Int)(hm0:0≤many)(hm1:many≤1000):
    Calls Tryz.prog 114 #[.agg cs.toArray,.int .i64 many] w fun e w'=>BX e∧Ext w w':=by
 obtain⟨vf,vm,rfl,h0,h1⟩:=h;obtain⟨a1,m1,rfl,mG,Bt⟩:=h0.form;obtain⟨a2,m2,rfl,xR,Bu⟩:=h1.form;obtain⟨w0,bD,aU,hb⟩:=nu w #[.slice a1 c.owns.length m1,.slice a2 c.asks.length m2] 82;have c2:=hb.c 0 (.slice a1 c.owns.length m1) rfl;have c3:=hb.c 1 (.slice a2 c.asks.length m2) rfl;have cz:=hb.lt;have HF:=Ys h0;have HM:=Ys h1;have bJ:=Ys aU;have dQ:=Ys bD;clear aU hb bD h0 h1;by_cases h5:5<c.owns.length
 · have h5d:decide ((5:Int)<c.owns.length)=true:=decide_eq_true (by omega);go_enter Tryz.func114,Tryz.ntmps114;go_wp2_with fail;rw[←dQ.o];go_wp2_with fail;go_ret;exact⟨⟨_,rfl⟩,bJ.o⟩
 have h5d:decide ((5:Int)<c.owns.length)=false:=decide_eq_false (by omega);by_cases h4:4<c.asks.length
 · have h4d:decide ((4:Int)<c.asks.length)=true:=decide_eq_true (by omega);go_enter Tryz.func114,Tryz.ntmps114;go_wp2_with fail;rw[←dQ.o];go_wp2_with fail;go_ret;exact⟨⟨_,rfl⟩,bJ.o⟩
 have h4d:decide ((4:Int)<c.asks.length)=false:=decide_eq_false (by omega);go_enter Tryz.func114,Tryz.ntmps114;go_wp2_with fail;rw[←dQ.o];go_wp2_with fail;go_loopw [5] (fun i wr=>∃k:Nat,k≤c.owns.length∧i=.int .i64 k∧Ext w0 wr) (fun i _=>c.owns.length - (intOf i).toNat)
 case atStart=>exact⟨0,Nat.zero_le _,rfl,Kp.refl _ _⟩
 case round =>
  obtain⟨k,hk,rfl,hE⟩:=hrel;have HE:=Ys hE;have d2:=hE.aA c2;have d3:=hE.aA c3;have dz:=aG d2;clear c2 c3 cz h5d h4d;by_cases bZ:k<c.owns.length
  · have dk:(k:Int)<c.owns.length:=by omega
    obtain⟨x,hx⟩:∃x,c.owns[k]?=some x:=⟨c.owns[k]'bZ,List.getElem?_eq_getElem bZ⟩;obtain⟨b',off,cs,rfl,hI,hM, -,hc⟩:=HF.o.get hx;obtain⟨ma,mu,mb,mv,rfl⟩:=hM.form;have Tc:=aX.stays _ _ _ _ _ _ (Ext.same (bJ.o.trans HE.o)) (fun _ h=>h) hM;obtain⟨g0,g1,g2,g3⟩:=(hc.ext (bJ.o.trans hE)).four;have R7:=Ys ((HF.o.take (i:=k) (by omega)).ext aX.stays (bJ.o.trans hE));have Aa:(c.owns.take k).length=k:=by rw[List.length_take];omega
    obtain⟨T,f,dB,HT⟩:=iq.ex (fun W'=>Ext wr W') wr (Kp.refl _ _);have y0:=fun z=>(HT.aJ z).aA g0;have y1:=fun z=>(HT.aJ z).aA g1;have y2:=fun z=>(HT.aJ z).aA g2;have y3:=fun z=>(HT.aJ z).aA g3;have ye:=fun z=>(HT.aJ z).aA d2;have aj:=Ys HT;have IC:=Ys Tc;have HKL:=Ys Aa;clear HT hE hc hx g0 g1 g2 g3 dz Aa hM Tc;go_wp2_with fail;have hD1:Ext wr wr.drew:=(Kp.refl _ _).drew;(refine dZ aj 22 [([0,1,2,3,4],5),([6,7,8,9,10,11,12,13,14,15,16,17,18],19)] [20,21] ?_ ?_)
    · exact(Kp.refl _ _).drew
    (refine di [_,_,_,_,_] rfl rfl fun K hK=>?_);(repeat (go_big_quiet_step (fail)));(refine qn hK fun K2 af=>?_);clear hK K;go_wp2_with fail;refine(UH _ I _ x (aX.stays _ _ _ _ _ _ (Ext.same hD1) (fun _ h=>h) IC.o)).mono ?_;rintro e w2 ⟨⟨q2,rfl⟩,dC⟩;have hD2:=hD1.trans dC;cases q2
    · go_wp2_with fail;(refine kk aj af hD2 ?_);clear af K2;(refine di [_,_,_,_,_,_,_,_,_,_,_,_,_] rfl rfl fun K hK=>?_);(repeat (go_big_quiet_step (fail)));(refine qn hK fun K2 af=>?_);clear hK K;go_wp2_with fail;(refine kk aj af hD2 ?_);clear af K2;(refine dI [_,_] rfl rfl fun K hK=>?_);(repeat (go_big_quiet_step (fail)));(refine qn hK ?_);clear hK K;go_wp2_with fail;go_ret;exact⟨⟨_,rfl⟩,(bJ.o.trans HE.o).trans hD2⟩
    go_wp2_with fail;(refine kk aj af hD2 ?_);clear af K2;(refine di [_,_,_,_,_,_,_,_,_,_,_,_,_] rfl rfl fun K hK=>?_);(repeat (go_big_quiet_step (fail)));(refine qn hK fun K2 af=>?_);clear hK K;go_wp2_with fail;refine(UL _ I (.slice (some ⟨b',off,none⟩) k m1) (.slice none 0 0) (c.owns.take k) (R7.o.ext aX.stays hD2) x.name).mono ?_;rintro e w3 ⟨⟨n,rfl, -⟩,dm⟩;have I9:=hD2.trans dm;obtain⟨q,hq⟩:∃q,decide (0≤n)=q:=⟨_,rfl⟩;cases q
    · go_wp2_with fail;(refine kk aj af I9 ?_);clear af K2;(refine dI [_,_] rfl rfl fun K hK=>?_);(repeat (go_big_quiet_step (fail)));(refine qn hK ?_);clear hK K;go_wp2_with fail;go_round
      case rel=>exact⟨k+1,by omega,by go_num,HE.o.trans I9⟩
      case measure=>simp[intOf];omega
    · go_wp2_with fail;(refine kk aj af I9 ?_);clear af K2;(refine dI [_,_] rfl rfl fun K hK=>?_);(repeat (go_big_quiet_step (fail)));(refine qn hK ?_);clear hK K;go_wp2_with fail;go_ret;exact⟨⟨_,rfl⟩,(bJ.o.trans HE.o).trans I9⟩
  · have dk : ¬ (k : Int) < c.owns.length := by omega
    obtain⟨wo,rfl⟩:∃wo:World,wo=wr:=⟨_,rfl⟩;clear hE;go_wp2_with fail;go_loopw [6] (fun i wr=>∃k:Nat,k≤c.asks.length∧i=.int .i64 k∧Ext wo wr) (fun i _=>c.asks.length - (intOf i).toNat)
    case atStart=>exact⟨0,Nat.zero_le _,rfl,Kp.refl _ _⟩
    case round =>
     obtain⟨k2,qJ,rfl,bP⟩:=hrel;have fD:=Ys (HE.o.trans bP);have hEq:=Ys bP;have e3:=bP.aA d3;have ez:=aG e3;clear d2 d3 dz;by_cases Tu:k2<c.asks.length
     · have dk2:(k2:Int)<c.asks.length:=by omega
       obtain⟨x,hx⟩:∃x,c.asks[k2]?=some x:=⟨c.asks[k2]'Tu,List.getElem?_eq_getElem Tu⟩;obtain⟨b',off,cs,rfl,hI,rfl, -,hc⟩:=HM.o.get hx;obtain⟨g0,g1⟩:=(hc.ext (bJ.o.trans fD.o)).two;have R7:=Ys ((HM.o.take (i:=k2) (by omega)).ext lC.stays (bJ.o.trans fD.o));have Aa:(c.asks.take k2).length=k2:=by rw[List.length_take];omega
       obtain⟨T,f,dB,HT⟩:=iq.ex (fun W'=>Ext wr W') wr (Kp.refl _ _);have y0:=fun z=>(HT.aJ z).aA g0;have y1:=fun z=>(HT.aJ z).aA g1;have ye:=fun z=>(HT.aJ z).aA e3;have aj:=Ys HT;have HKL:=Ys Aa;clear HT bP hc hx g0 g1 ez Aa;go_wp2_with fail;have hD1:Ext wr wr.drew:=(Kp.refl _ _).drew;(refine dZ aj 35 [([0,1,2,3,4,5],6),([7,8,9,10,11,12,13,14,15,16],17),([18,19,20,21,22,23,24,25,26,27,28,29,30,31],32)] [33,34] ?_ ?_)
       · exact(Kp.refl _ _).drew
       (refine di [_,_,_,_,_,_] rfl rfl fun K hK=>?_);(repeat (go_big_quiet_step (fail)));(refine qn hK fun K2 af=>?_);clear hK K;go_wp2_with fail;refine(eT _ _).mono ?_;rintro e w1 ⟨rfl,rfl⟩;cases M.aY x.name
       · go_wp2_with fail;(refine kk aj af hD1 ?_);clear af K2;(refine di [_,_,_,_,_,_,_,_,_,_] rfl rfl fun K hK=>?_);(repeat (go_big_quiet_step (fail)));(refine qn hK fun K2 af=>?_);clear hK K;go_wp2_with fail;(refine kk aj af hD1 ?_);clear af K2;(refine di [_,_,_,_,_,_,_,_,_,_,_,_,_,_] rfl rfl fun K hK=>?_);(repeat (go_big_quiet_step (fail)));(refine qn hK fun K2 af=>?_);clear hK K;go_wp2_with fail;(refine kk aj af hD1 ?_);clear af K2;(refine dI [_,_] rfl rfl fun K hK=>?_);(repeat (go_big_quiet_step (fail)));(refine qn hK ?_);clear hK K;go_wp2_with fail;go_ret;exact⟨⟨_,rfl⟩,(bJ.o.trans fD.o).trans hD1⟩
       go_wp2_with fail;(refine kk aj af hD1 ?_);clear af K2;(refine di [_,_,_,_,_,_,_,_,_,_] rfl rfl fun K hK=>?_);(repeat (go_big_quiet_step (fail)));(refine qn hK fun K2 af=>?_);clear hK K;go_wp2_with fail;refine(ny _ _ _ _).mono ?_;rintro e w' ⟨rfl,rfl⟩;generalize (decide ((0:Int)≤x.keeper)&&decide (x.keeper≤many - 1))=q2;cases q2
       · go_wp2_with fail;(refine kk aj af hD1 ?_);clear af K2;(refine di [_,_,_,_,_,_,_,_,_,_,_,_,_,_] rfl rfl fun K hK=>?_);(repeat (go_big_quiet_step (fail)));(refine qn hK fun K2 af=>?_);clear hK K;go_wp2_with fail;(refine kk aj af hD1 ?_);clear af K2;(refine dI [_,_] rfl rfl fun K hK=>?_);(repeat (go_big_quiet_step (fail)));(refine qn hK ?_);clear hK K;go_wp2_with fail;go_ret;exact⟨⟨_,rfl⟩,(bJ.o.trans fD.o).trans hD1⟩
       go_wp2_with fail;(refine kk aj af hD1 ?_);clear af K2;(refine di [_,_,_,_,_,_,_,_,_,_,_,_,_,_] rfl rfl fun K hK=>?_);(repeat (go_big_quiet_step (fail)));(refine qn hK fun K2 af=>?_);clear hK K;go_wp2_with fail;refine(QS _ I (.slice (some ⟨b',off,none⟩) k2 m2) (.slice none 0 0) (c.asks.take k2) (R7.o.ext lC.stays hD1) x.name).mono ?_;rintro e w3 ⟨⟨n,rfl, -⟩,dm⟩;have I9:=hD1.trans dm;obtain⟨q,hq⟩:∃q,decide (0≤n)=q:=⟨_,rfl⟩;cases q
       · go_wp2_with fail;(refine kk aj af I9 ?_);clear af K2;(refine dI [_,_] rfl rfl fun K hK=>?_);(repeat (go_big_quiet_step (fail)));(refine qn hK ?_);clear hK K;go_wp2_with fail;go_round
         case rel=>exact⟨k2+1,by omega,by go_num,hEq.o.trans I9⟩
         case measure=>simp[intOf];omega
       · go_wp2_with fail;(refine kk aj af I9 ?_);clear af K2;(refine dI [_,_] rfl rfl fun K hK=>?_);(repeat (go_big_quiet_step (fail)));(refine qn hK ?_);clear hK K;go_wp2_with fail;go_ret;exact⟨⟨_,rfl⟩,(bJ.o.trans fD.o).trans I9⟩
     · have dk2:¬(k2:Int)<c.asks.length:=by omega
       clear bP;go_wp2_with fail;go_ret;exact⟨⟨_,rfl⟩,bJ.o.trans fD.o⟩
theorem UI(w:World)(I:Nat→Prop)(v:Value)(p:M.au)(h:SliceOf 2 az w I v p):
    Calls Tryz.prog 79 #[.agg #[v]] w fun e w'=>BX e∧Ext w w':=by
 obtain⟨a1,m1,rfl,mG,Bt⟩:=h.form;obtain⟨w0,bD,aU,hb⟩:=nu w #[.slice a1 p.length m1] 25;have c2:=hb.c 0 (.slice a1 p.length m1) rfl;have cz:=hb.lt;have HF:=Ys h;have bJ:=Ys aU;have dQ:=Ys bD;clear aU hb bD h;go_enter Tryz.func79,Tryz.ntmps79;go_wp2_with fail;rw[←dQ.o];go_wp2_with fail;refine(ny _ _ _ _).mono ?_;rintro e w' ⟨rfl,rfl⟩;obtain⟨q1,Nu⟩:∃q,(decide ((1:Int)≤p.length)&&decide ((p.length:Int)≤3))=q:=⟨_,rfl⟩;rw[Nu];cases q1
 · go_wp2_with fail;go_ret;exact⟨⟨_,rfl⟩,bJ.o⟩
 have hp3:(p.length:Int)≤3:=by simp at Nu;omega
 clear Nu;go_wp2_with fail;go_loopw [3] (fun i wr=>∃k:Nat,k≤p.length∧i=.int .i64 k∧Ext w0 wr) (fun i _=>p.length - (intOf i).toNat)
 case atStart=>exact⟨0,Nat.zero_le _,rfl,Kp.refl _ _⟩
 case round =>
  obtain⟨k,hk,rfl,hE⟩:=hrel;have HE:=Ys hE;have d2:=hE.aA c2;have dz:=aG d2;clear c2 cz;by_cases bZ:k<p.length
  · have dk:(k:Int)<p.length:=by omega
    obtain⟨x,hx⟩:∃x,p[k]?=some x:=⟨p[k]'bZ,List.getElem?_eq_getElem bZ⟩;obtain⟨b',off,cs,rfl,hI,hM, -,hc⟩:=HF.o.get hx;obtain⟨ma,mu,mb,mv,rfl⟩:=hM.form;have Tc:=az.stays _ _ _ _ _ _ (Ext.same (bJ.o.trans HE.o)) (fun _ h=>h) hM;obtain⟨g0,g1⟩:=(hc.ext (bJ.o.trans hE)).two;obtain⟨T,f,dB,HT⟩:=iq.ex (fun W'=>Ext wr W') wr (Kp.refl _ _);have y0:=fun z=>(HT.aJ z).aA g0;have y1:=fun z=>(HT.aJ z).aA g1;have ye:=fun z=>(HT.aJ z).aA d2;have aj:=Ys HT;have IC:=Ys Tc;clear HT hE hc hx g0 g1 dz hM Tc;go_wp2_with fail;have hD1:Ext wr wr.drew:=(Kp.refl _ _).drew;(refine dZ aj 10 [([0,1,2,3,4,5,6,7],8)] [9] ?_ ?_)
    · exact(Kp.refl _ _).drew
    (refine di [_,_,_,_,_,_,_,_] rfl rfl fun K hK=>?_);(repeat (go_big_quiet_step (fail)));(refine qn hK fun K2 af=>?_);clear hK K;go_wp2_with fail;refine(LQ _ I _ x (az.stays _ _ _ _ _ _ (Ext.same hD1) (fun _ h=>h) IC.o) p.length (by omega) (by omega)).mono ?_;rintro e w2 ⟨⟨q2,rfl⟩,dC⟩;have hD2:=hD1.trans dC;cases q2
    · go_wp2_with fail;(refine kk aj af hD2 ?_);clear af K2;(refine dI [_] rfl rfl fun K hK=>?_);(repeat (go_big_quiet_step (fail)));(refine qn hK ?_);clear hK K;go_wp2_with fail;go_ret;exact⟨⟨_,rfl⟩,(bJ.o.trans HE.o).trans hD2⟩
    · go_wp2_with fail;(refine kk aj af hD2 ?_);clear af K2;(refine dI [_] rfl rfl fun K hK=>?_);(repeat (go_big_quiet_step (fail)));(refine qn hK ?_);clear hK K;go_wp2_with fail;go_round
      case rel=>exact⟨k+1,by omega,by go_num,HE.o.trans hD2⟩
      case measure=>simp[intOf];omega
  · have dk:¬(k:Int)<p.length:=by omega
    clear hE;go_wp2_with fail;go_ret;exact⟨⟨_,rfl⟩,bJ.o.trans HE.o⟩
def dJ{α:Type}(R:fP α)(w:World)(I:Nat→Prop):List α→List (List Value)→Prop
 |[],[]=>True
 |x::xs,c::cs=>R w I x c∧dJ R w I xs cs
 |_,_=>False
theorem dJ.get{α:Type}{R:fP α}{w:World}{I:Nat→Prop}:∀{xs:List α} {css:List (List Value)},dJ R w I xs css→∀(i:Nat) (x:α),xs[i]?=some x→∃c,css[i]?=some c∧R w I x c
 |[],[],_,i,x,h=>by simp at h
 |y::xs,c::cs,h,0,x,hx=>by
  simp at hx;subst hx;exact⟨c,rfl,h.1⟩
 |y::xs,c::cs,h,i+1,x,hx=>by
  obtain⟨c',h1,h2⟩:=dJ.get h.2 i x (by simpa using hx);exact⟨c',by simpa using h1,h2⟩
 |[],_::_,h,_,_,_=>h.elim
 |_::_,[],h,_,_,_=>h.elim
theorem Ew{k:Nat}:∀{css:List (List Value)},(∀c∈css,c.length=k)→∀(i:Nat) (c:List Value),css[i]?=some c→∀(j:Nat) (u:Value),c[j]?=some u→css.flatten[i*k+j]?=some u
 |[],_,i,c,h,_,_,_=>by simp at h
 |d::r,hk,0,c,h,j,u,hu=>by
  simp at h;subst h;rw[List.flatten_cons,List.getElem?_append_left (by have:=(List.getElem?_eq_some_iff.1 hu).1;omega)];simpa using hu
 |d::r,hk,i+1,c,h,j,u,hu=>by
  have hd:=hk d (by simp);rw[List.flatten_cons,List.getElem?_append_right (by rw[hd,Nat.succ_mul];omega)];have:=Ew (fun c hc=>hk c (List.mem_cons_of_mem _ hc)) i c (by simpa using h) j u hu;rw[hd,show(i+1)*k+j - k=i*k+j by rw[Nat.succ_mul];omega];exact this
theorem SliceOf.row{α:Type}{k:Nat}{R:fP α}{w:World}{I:Nat→Prop}{g:Nat}{xs:List α}(css:List (List Value)){cells:List Value}(hc:ae w g 0 cells)(he:cells=css.flatten)(hk:∀c∈css,c.length=k)
    (hR:dJ R w I xs css) (hI:I g) {cap:Nat} (dn:xs.length≤cap) (hn:xs.length≤4294967296):SliceOf k R w I (.slice (some ⟨g,0,none⟩) xs.length cap) xs:=
 ⟨_,cap,rfl,dn,hn,fun i x hx=>by
  obtain⟨c,hci,hr⟩:=hR.get i x hx;refine⟨g,0,c,rfl,hI,hr,hk c (List.mem_of_getElem? hci),fun j u hj=>?_⟩;have:=hc _ _ (by rw[he];exact Ew hk i c hci j u hj);simpa [Nat.add_assoc]using this⟩
theorem SliceOf.css{α:Type}{k:Nat}{R:fP α}{w:World}{I:Nat→Prop}{v:Value}:∀{xs:List α},SliceOf k R w I v xs→∃css:List (List Value),css.length=xs.length∧(∀c∈css,c.length=k)∧dJ R w I xs css∧
    ∀(ad:Addr) (n c:Nat),v=.slice (some ad) n c→∀(i:Nat) (c:List Value),css[i]?=some c→∃b off,ad=⟨b,off,none⟩∧I b∧ae w b (off+i*k) c:=by
 intro xs h;obtain⟨a,cap,rfl,h1,h2,h3⟩:=h;have main:∀(ys:List α) (s:Nat),(∀(i:Nat) (x:α),ys[i]?=some x→∃b off cs,a=some ⟨b,off,none⟩∧I b∧R w I x cs∧cs.length=k∧ae w b (off+(s+i)*k) cs)→
     ∃css:List (List Value),css.length=ys.length∧(∀c∈css,c.length=k)∧dJ R w I ys css∧∀(i:Nat) (c:List Value),css[i]?=some c→∃b off,a=some ⟨b,off,none⟩∧I b∧ae w b (off+(s+i)*k) c:=by
  intro ys;induction ys with
  |nil=>exact fun s _=>⟨[],rfl,by simp,trivial,fun i c h=>by simp at h⟩
  | cons y r ih =>
   intro s h;obtain⟨css,e1,e2,e3,e4⟩:=ih (s+1) (fun i x hx=>by
    obtain⟨b,off,cs,ea,hI,hr,hl,hc⟩:=h (i+1) x (by simpa using hx);exact⟨b,off,cs,ea,hI,hr,hl,by rw[show s+1+i=s+(i+1) by omega];exact hc⟩)
   obtain⟨b,off,cs,ea,hI,hr,hl,hc⟩:=h 0 y rfl;refine⟨cs::css,by simp[e1],fun c zW=>(List.mem_cons.1 zW).elim (fun e=>by rw[e];exact hl) (e2 c),⟨hr,e3⟩,fun i c hi=>?_⟩;cases i with
   |zero=>simp at hi;subst hi;exact⟨b,off,ea,hI,hc⟩
   |succ i=>
    obtain⟨b',off',ea',Wl,zW⟩:=e4 i c (by simpa using hi);exact⟨b',off',ea',Wl,by rw[show s+(i+1)=s+1+i by omega];exact zW⟩
 obtain⟨css,e1,e2,e3,e4⟩:=main xs 0 (fun i x hx=>by simpa using h3 i x hx);refine⟨css,e1,e2,e3,fun ad n c hv i d hd=>?_⟩;cases hv;obtain⟨b,off,ea,hI,hc⟩:=e4 i d hd;cases ea;exact⟨b,off,rfl,hI,by simpa using hc⟩
theorem dJ.snoc{α:Type}{R:fP α}{w:World}{I:Nat→Prop}{x:α}{c:List Value}:∀{xs:List α} {css:List (List Value)},dJ R w I xs css→R w I x c→dJ R w I (xs++[x]) (css++[c])
 |[],[],_,h=>⟨h,trivial⟩
 |_::_,_::_,h,hx=>⟨h.1,dJ.snoc h.2 hx⟩
 |[],_::_,h,_=>h.elim
 |_::_,[],h,_=>h.elim
theorem dJ.keep{α:Type}{R:fP α}(hR:bQ R){w w':World}{I J:Nat→Prop}(hs:Same I w w')(Vd:∀b,I b→J b):∀{xs:List α} {css:List (List Value)},dJ R w I xs css→dJ R w' J xs css
 |[],[],_=>trivial
 |_::_,_::_,h=>⟨hR _ _ _ _ _ _ hs Vd h.1,dJ.keep hR hs Vd h.2⟩
 |[],_::_,h=>h.elim
 |_::_,[],h=>h.elim
theorem SliceOf.inside{α:Type}{k:Nat}{R:fP α}(hR:∀w I x cs,R w I x cs→R w (fun b=>I b∧b<w.heap.size) x cs)(hk:0<k){w:World}{I:Nat→Prop}{v:Value}{xs:List α}(h:SliceOf k R w I v xs):SliceOf k R w (fun b=>I b∧b<w.heap.size) v xs:=by
 obtain⟨a,cap,e,h1,h2,h3⟩:=h;refine⟨a,cap,e,h1,h2,fun i x hx=>?_⟩;obtain⟨b,off,cs,ea,hI,hr,hl,hc⟩:=h3 i x hx;have bZ:b<w.heap.size:=by
  cases cs with
  |nil=>simp at hl;omega
  |cons u r=>exact aG (hc 0 u rfl)
 exact⟨b,off,cs,ea,⟨hI,bZ⟩,hR _ _ _ _ hr,hl,hc⟩
theorem Ep{k:Nat}:∀{css:List (List Value)},(∀c∈css,c.length=k)→css.flatten.length=css.length*k
 |[],_=>by simp
 |c::r,h=>by
  rw[List.flatten_cons,List.length_append,Ep (fun c hc=>h c (List.mem_cons_of_mem _ hc)),h c (by simp),List.length_cons,Nat.succ_mul];omega
theorem Hp{k:Nat}(hk:0<k):∀{css:List (List Value)},(∀c∈css,c.length=k)→∀j u,css.flatten[j]?=some u→∃i r c,css[i]?=some c∧c[r]?=some u∧j=i*k+r
 |[],_,j,u,h=>by simp at h
 |c::t,h,j,u,hu=>by
  have hc:=h c (by simp);rw[List.flatten_cons]at hu;rcases Nat.lt_or_ge j c.length with hj|hj
  · rw[List.getElem?_append_left hj]at hu;exact⟨0,j,c,rfl,hu,by omega⟩
  · rw[List.getElem?_append_right hj]at hu;obtain⟨i,r,d,h1,h2,h3⟩:=Hp hk (fun c hc=>h c (List.mem_cons_of_mem _ hc)) _ _ hu;exact⟨i+1,r,d,by simpa using h1,h2,by rw[Nat.succ_mul];omega⟩
def One{α:Type}(R:fP α):Prop:=∀w I x cs,R w I x cs→∀u∈cs,u.oneCell'=true
theorem One.ins:One tH:=fun _ _ _ _ h u hu=>by subst h;simp at hu;rcases hu with rfl|rfl|rfl|rfl<;>rfl
theorem One.ask:One lC:=fun _ _ _ _ h u hu=>by subst h;simp at hu;rcases hu with rfl|rfl<;>rfl
theorem One.field:One eO:=fun _ _ _ _ h u hu=>by subst h;simp at hu;rcases hu with rfl|rfl|rfl<;>rfl
theorem One.smap:One gM:=fun _ _ _ _ h u hu=>by obtain⟨_,_,_,_,rfl⟩:=h.form;simp at hu;rcases hu with rfl|rfl|rfl<;>rfl
theorem One.acN:One aH:=fun _ _ _ _ h u hu=>by obtain⟨_,_,_,_,_,_,rfl⟩:=h.form;simp at hu;rcases hu with rfl|rfl|rfl|rfl|rfl|rfl|rfl|rfl<;>rfl
theorem One.cls:One aX:=fun _ _ _ _ h u hu=>by obtain⟨_,_,_,_,rfl⟩:=h.form;simp at hu;rcases hu with rfl|rfl|rfl|rfl<;>rfl
theorem One.keep:One az:=fun _ _ _ _ h u hu=>by obtain⟨_,_,_,_,rfl⟩:=h.form;simp at hu;rcases hu with rfl|rfl<;>rfl
theorem dJ.one{α:Type}{R:fP α}(o:One R){w:World}{I:Nat→Prop}:∀{xs:List α} {css:List (List Value)},dJ R w I xs css→∀u∈css.flatten,u.oneCell'=true
 |[],[],_=>by simp
 |_::_,c::css,h=>by
  intro u hu;rw[List.flatten_cons,List.mem_append]at hu;rcases hu with hu|hu
  · exact o _ _ _ _ h.1 u hu
  · exact dJ.one o h.2 u hu
 |[],_::_,h=>h.elim
 |_::_,[],h=>h.elim
theorem dJ.len{α:Type}{R:fP α}{w:World}{I:Nat→Prop}:∀{xs:List α} {css:List (List Value)},dJ R w I xs css→css.length=xs.length
 |[],[],_=>rfl
 |_::_,_::_,h=>by rw[List.length_cons,List.length_cons,dJ.len h.2]
 |[],_::_,h=>h.elim
 |_::_,[],h=>h.elim
theorem dJ.app{α:Type}{R:fP α}{w:World}{I:Nat→Prop}{ys:List α}{zn:List (List Value)}:∀{xs:List α} {css:List (List Value)},dJ R w I xs css→dJ R w I ys zn→dJ R w I (xs++ys) (css++zn)
 |[],[],_,h=>h
 |_::_,_::_,h,hx=>⟨h.1,dJ.app h.2 hx⟩
 |[],_::_,h,_=>h.elim
 |_::_,[],h,_=>h.elim
theorem SliceOf.cells{α:Type}{k:Nat}{R:fP α}(o:One R)(hk:0<k){w:World}{I:Nat→Prop}{a:Option Addr}{n c:Nat}{xs:List α}(h:SliceOf k R w I (.slice a n c) xs):
    ∃css,(∀c∈css,c.length=k)∧dJ R w I xs css∧Flat w k (.slice a n c) n css.flatten:=by
 obtain⟨css,h1,h2,h3,h4⟩:=h.css;have hh:=h;obtain⟨a',cap,e, -, -,h5⟩:=hh;cases e;refine⟨css,h2,h3,by rw[Ep h2,h1],⟨_,_,rfl,fun e=>?_,fun ad' e j u hu=>?_⟩,h3.one o⟩
 · cases xs with
   |nil=>rfl
   |cons x r=>obtain⟨_,_,_,e2,_⟩:=h5 0 x rfl;rw[e]at e2;cases e2
 · subst e;obtain⟨i,r,d,e1,e2,rfl⟩:=Hp hk h2 j u hu;obtain⟨b,off,rfl, -,hc⟩:=h4 ad' _ _ rfl i d e1;have:=hc r u e2;unfold Addr.add;split
   · rename_i h0;have e3:i*k=0:=by omega
     have e4:r=0:=by omega
     rw[e3,e4]at this;exact this
   · simpa [Nat.add_assoc]using this
theorem dJ.at_{α:Type}{R:fP α}{w:World}{I:Nat→Prop}{xs:List α}{css:List (List Value)}(h:dJ R w I xs css){J:Nat→Prop}{w':World}(hR:bQ R)(hs:Same I w w')(Vd:∀b,I b→J b):dJ R w' J xs css:=h.keep hR hs Vd
theorem SliceOf.owned{α:Type}{k:Nat}{R:fP α}{w:World}{I:Nat→Prop}{base e n:Nat}{v:Value}{css:List (List Value)}{xs:List α}(dX:w.ownsRow base e k v n css.flatten)(hk:∀c∈css,c.length=k)(uP:0<k)
    (hR:dJ R w I xs css) (hI:∀b,base≤b→b<w.heap.size→I b) (hlen:xs.length≤4294967296):SliceOf k R w I v xs:=by
 have hn:n=xs.length:=by
  have:=dX.1;rw[Ep hk,hR.len]at this;exact(Nat.eq_of_mul_eq_mul_right uP this).symm
 subst hn;rcases dX.2 with⟨rfl,h0⟩|⟨g,cap,cur,rfl,hg,hb,hle,_,j6,Vo⟩
 · have:xs=[]:=List.length_eq_zero_iff.1 h0;subst this;exact SliceOf.nil _ _ _ _
 · refine SliceOf.row css (g:=g) (cells:=css.flatten) (fun j u hj=>?_) rfl hk hR (hI g hg (Array.getElem?_eq_some_iff.1 hb).1) hle hlen;rw[←Vo,List.getElem?_take]at hj;split at hj
   · simp only[World.cell?,hb];simpa [Nat.zero_add]using hj
   · cases hj
theorem AO{t e k:Nat}(E:Elem t e k)(w:World){ops:Array Oper}{rest:List Oper}{o:Oper}{a:Act}{Q:Exit→Act→World→Prop}(H8:o.guard=none)(s x:Operand)
    (ho:o.op=.call {callee:=.builtin .append,args:=#[s,x],argTypes:=#[t,t]}) {base n c:Nat} {v:Value} {xs:List Value} (hs:a.eval s=v) (dX:w.ownsRow base e k v n xs) (hx:a.eval x=.slice none 0 c)
    (h:wpList Tryz.prog ops Q rest (a.put o.dst v) w):wpList Tryz.prog ops Q (o::rest) a w:=by
 obtain⟨i,z,bytes,ht,hi,hz,j6,PT,Qb,hk,hb⟩:=E;refine wpList_plain H8 fun K hK=>?_;have hr:(Builtin.append_ #[t,t] o.type #[v,.slice none 0 c]).run Tryz.prog w=.ok v w:=by
  rcases dX.2 with⟨rfl,rfl⟩|⟨g,cap,cur,rfl,hg,OP,hle,_⟩
  · simp[Builtin.append_,underlying,ht,sizeOf,typeInfo,hi,Sem.run_bind,Builtin.lenOf,Builtin.firstCells]
  · simp[Builtin.append_,underlying,ht,sizeOf,typeInfo,hi,Sem.run_bind,Builtin.lenOf,Builtin.firstCells,hle,storeCells]
 unfold Oper.wp execOp;simp only[ho,resolve,invoke,builtin,Sem.run_bind,Sem.run_pure,Result.andThen_ok,List.map_toArray,List.map_cons,List.map_nil,hs,hx,hr];exact hK _ _ h
theorem aO{t e k:Nat}(E:Elem t e k)(w:World){ops:Array Oper}{rest:List Oper}{o:Oper}{a:Act}{Q:Exit→Act→World→Prop}(H8:o.guard=none)(s x:Operand)
    (ho:o.op=.call {callee:=.builtin .append,args:=#[s,x],argTypes:=#[t,t]}) (base:Nat) (v:Value) (n:Nat) (xs:List Value) (hs:a.eval s=v) (dX:w.ownsRow base e k v n xs)
    (ad:Option Addr) (m c:Nat) (news:List Value) (hx:a.eval x=.slice ad m c) (hf:Flat w k (.slice ad m c) m news)
    (hn:n+m≤8589934592) (ko:base≤w.heap.size)
    (h:∀v' w',w'.ownsRow base e k v' (n+m) (xs++news)→Kp (fun b=>v.ownBlock=some b) w w'→wpList Tryz.prog ops Q rest (a.put o.dst v') w'):
    wpList Tryz.prog ops Q (o::rest) a w:=by
 cases ad with
 |some ad=>exact iQ E w H8 s x ho base v n xs hs dX ad m c news hx hf hn ko h
 |none=>
  obtain⟨f1,⟨a1,c1,e1,f2, -⟩, -⟩:=hf;cases e1;have hm:=f2 rfl;subst hm;have P6:news=[]:=List.length_eq_zero_iff.1 (by rw[f1,Nat.zero_mul]);subst P6;refine AO E w H8 s x ho hs dX hx (h v w (by simpa using dX) (Kp.refl _ _))
end Go.Proofs.YtcepdbbapgfcdaaGreat
namespace Go.Proofs.YtcepdbbapgfcdaaGreat
open Go Go.RowKit
inductive MT where
 |fin (q:List Nat)
 |one (q:List Nat) (i:Nat) (t:MT)
 |two (q:List Nat) (i j:Nat) (ti tj:MT)
def MT.cost:MT→Nat
 | .fin q=>q.length
 | .one q _ t=>q.length+1+t.cost
 | .two q _ _ ti _=>q.length+1+ti.cost
def MT.ok(md:Region.Mode)(ops:Array Oper)(n:Nat):MT→Array Bool→Bool
 | .fin q,listed=>match Rv md ops n q listed with
  |some L=>Region.seqB md ops (ops.size - n) n L
  |none=>false
 | .one q i t,listed=>match Rv md ops n q listed with
  |some L=>decide (Region.ready md ops L=[i])&&decide (i<n)&&t.ok md ops n (L.setIfInBounds i true)
  |none=>false
 | .two q i j ti tj,listed=>match Rv md ops n q listed with
  |some L=>decide (Region.ready md ops L=[i,j])&&decide (i<n)&&decide (j<n)&&decide (tj.cost=ti.cost)&&ti.ok md ops n (L.setIfInBounds i true)&&tj.ok md ops n (L.setIfInBounds j true)
  |none=>false
def SK(ops:Array Oper)(n:Nat)(t:MT):Bool:=
 Region.noSelect ops&&Az .any ops n&&decide (t.cost=n)&&decide (n≤ops.size)&&t.ok .any ops n (Array.replicate ops.size false)
def DW(P:Program)(l:List Oper)(C:World→Prop)(Q:Exit→Act→World→Prop)(fin:Act→World→Prop):MT→Act→World→Prop
 | .fin q,a,w=>wpQuiet P l.toArray C (fun a'=>fin a' w) (q.filterMap (l[·]?)) a
 | .one q i t,a,w=>wpQuiet P l.toArray C (fun a'=>wpList P l.toArray (Exit.then (fun a'' w'=>C w'∧DW P l C Q fin t a'' w') Q) (l[i]?).toList a' w) (q.filterMap (l[·]?)) a
 | .two q i j ti tj,a,w=>wpQuiet P l.toArray C (fun a'=>wpList P l.toArray (Exit.then (fun a'' w'=>C w'∧DW P l C Q fin ti a'' w') Q) (l[i]?).toList a' w∧wpList P l.toArray (Exit.then (fun a'' w'=>C w'∧DW P l C Q fin tj a'' w') Q) (l[j]?).toList a' w) (q.filterMap (l[·]?)) a
section
variable {P:Program} {ops:Array Oper} {md:Region.Mode} {Q:Exit→Act→World→Prop} {C:World→Prop} {n:Nat}
theorem BM{l:List Oper}{L:Array Bool}{j:Nat}{a:Act}{w:World}{K K':Act→World→Prop}(hr:j∈Region.ready md l.toArray L)
    (hk:wpList P l.toArray (Exit.then K Q) (l[j]?).toList a w) (step:∀a'' w',K a'' w'→K' a'' w'):wpOp P l.toArray Q j K' a w:=by
 cases GY:l[j]? with
 |none=>
  exfalso;obtain⟨_,o,ho,_⟩:=mem_ready.1 hr;simp[GY]at ho
 |some o=>
  rw[GY]at hk;simp only[Option.toList,wpList]at hk;unfold wpOp;have EN:l.toArray[j]?=some o:=by simpa using GY
  simp only[EN];split
  · rename_i hw;rw[if_pos hw]at hk;rcases hk with hk|hk
    · left;exact Oper.wp_mono (fun a'' w' h'=>step a'' w' h') (Pg hk)
    · right;exact hk
  · rename_i hw;rw[if_neg hw]at hk;exact step _ _ hk
theorem uG{l:List Oper}(hs:Region.noSelect l.toArray=true)(ht:Az md l.toArray n=true)(hQ:∀c a d v w,Q (.panic c) (a.put d v) w→Q (.panic c) a w)(hn:n≤l.length):∀(t:MT) (listed:Array Bool) (a:Act) (w:World),C w→
    t.ok md l.toArray n listed=true→DW P l C Q (fun a' w'=>wpList P l.toArray Q (l.drop n) a' w') t a w→rO P md l.toArray n C Q ((l.length - n)+t.cost) listed a w
 | .fin q',listed,a,w,hC,hB,h=>by
  unfold MT.ok at hB;split at hB
  · rename_i L hL;refine lZ hs ht hQ hC _ L (fun a' hk=>?_) q' listed a hL h;have:=y9 (md:=md) (C:=C) (l:=l) (l.drop n) n L a' w (Nat.le_refl _) (fun j=>by simp[List.getElem?_drop]) (by simpa using hB) hk;simpa using this
  · cases hB
 | .one q i t,listed,a,w,hC,hB,h=>by
  unfold MT.ok at hB;split at hB
  · rename_i L hL;simp only[Bool.and_eq_true,decide_eq_true_eq]at hB;obtain⟨⟨hr,Nl⟩,hB⟩:=hB;have e:l.length - n+(MT.one q i t).cost=((l.length - n+t.cost)+1)+q.length:=by simp[MT.cost];omega
    rw[e];refine lZ hs ht hQ hC _ L (fun a' hk=>?_) q listed a hL h;refine⟨fun h1=>(by rw[hr]at h1;cases h1),fun j hj=>?_⟩;have EK:j=i:=by rw[hr]at hj;simpa using hj
    subst EK;exact BM hj hk fun a'' w' h3=>⟨fun _=>h3.1,uG hs ht hQ hn t _ a'' w' h3.1 hB h3.2⟩
  · cases hB
 | .two q i j ti tj,listed,a,w,hC,hB,h=>by
  unfold MT.ok at hB;split at hB
  · rename_i L hL;simp only[Bool.and_eq_true,decide_eq_true_eq]at hB;obtain⟨⟨⟨⟨⟨hr,Nl⟩,hjn⟩,hc⟩,hB1⟩,hB2⟩:=hB;have e:l.length - n+(MT.two q i j ti tj).cost=((l.length - n+ti.cost)+1)+q.length:=by simp[MT.cost];omega
    rw[e];refine lZ hs ht hQ hC _ L (fun a' hk=>?_) q listed a hL h;refine⟨fun h1=>(by rw[hr]at h1;cases h1),fun x hx=>?_⟩;have hx':x=i∨x=j:=by rw[hr]at hx;simpa using hx
    rcases hx' with rfl|rfl
    · exact BM hx hk.1 fun a'' w' h3=>⟨fun _=>h3.1,uG hs ht hQ hn ti _ a'' w' h3.1 hB1 h3.2⟩
    · rw[←hc];exact BM hx hk.2 fun a'' w' h3=>⟨fun _=>h3.1,uG hs ht hQ hn tj _ a'' w' h3.1 hB2 h3.2⟩
  · cases hB
end
section
variable {P:Program} {l:List Oper} {C:World→Prop} {Q:Exit→Act→World→Prop} {fin:Act→World→Prop} {q:List Nat} {i j:Nat} {t ti tj:MT} {a:Act} {w:World} {qs os oj:List Oper}
theorem Xr(he:q.filterMap (l[·]?)=qs)(h:∀K:Act→Prop,(∀a',fin a' w→K a')→wpQuiet P l.toArray C K qs a):DW P l C Q fin (.fin q) a w:=by
 subst he;exact h _ fun _ h=>h
theorem Xt(he:q.filterMap (l[·]?)=qs)(ho:(l[i]?).toList=os)
    (h:∀K:Act→Prop,(∀a',(∀K2:Act→World→Prop,(∀a'' w',C w'→DW P l C Q fin t a'' w'→K2 a'' w')→wpList P l.toArray (Exit.then K2 Q) os a' w)→K a')→wpQuiet P l.toArray C K qs a):DW P l C Q fin (.one q i t) a w:=by
 subst he ho;refine h _ fun a' h2=>?_;exact h2 _ fun _ _ h3 h4=>⟨h3,h4⟩
theorem Xu(he:q.filterMap (l[·]?)=qs)(ho:(l[i]?).toList=os)(hj:(l[j]?).toList=oj)
    (h:∀K:Act→Prop,(∀a',(∀K2:Act→World→Prop,(∀a'' w',C w'→DW P l C Q fin ti a'' w'→K2 a'' w')→wpList P l.toArray (Exit.then K2 Q) os a' w)→(∀K2:Act→World→Prop,(∀a'' w',C w'→DW P l C Q fin tj a'' w'→K2 a'' w')→wpList P l.toArray (Exit.then K2 Q) oj a' w)→K a')→wpQuiet P l.toArray C K qs a):DW P l C Q fin (.two q i j ti tj) a w:=by
 subst he ho hj;refine h _ fun a' h2 h5=>?_;exact⟨h2 _ fun _ _ h3 h4=>⟨h3,h4⟩,h5 _ fun _ _ h3 h4=>⟨h3,h4⟩⟩
end
theorem CS{P:Program}{id:Nat}{Q:Exit→Act→World→Prop}{a:Act}{w:World}{l:List Oper}{T:Type}(f:T→World)(n:Nat)(t:MT)(h0:∃s,w.drew=f s)(hm:P.follows .mixedOrders=true)(hB:SK l.toArray n t=true)
    (hQ:∀c a d v w,Q (.panic c) (a.put d v) w→Q (.panic c) a w)
    (h:DW P l (fun w'=>∃s,w'=f s) Q (fun a' w'=>wpList P l.toArray Q (l.drop n) a' w') t a w.drew):(Code.region id l.toArray true).wp P Q a w:=by
 unfold SK at hB;simp only[Bool.and_eq_true,decide_eq_true_eq]at hB;obtain⟨⟨⟨⟨h1,h2⟩,h3⟩,h4⟩,h5⟩:=hB;refine wp_region_any hm (zh (C:=fun w'=>∃s,w'=f s) (n:=n) _ _ _ _ ?_);have:=uG (C:=fun w'=>∃s,w'=f s) (md:=.any) h1 h2 hQ (by simpa using h4) t _ a w.drew h0 h5 h;have e:l.length - n+t.cost=l.toArray.size:=by
  have:n≤l.length:=by simpa using h4
  simp;omega
 rw[e]at this;exact this
section
variable {P:Program} {l:List Oper} {C:World→Prop} {Q:Exit→Act→World→Prop} {fin:Act→World→Prop} {q:List Nat} {i j:Nat} {t ti tj:MT} {a:Act} {w:World} {o o2:Oper}
theorem pJ(qs:List Oper)(he:q.filterMap (l[·]?)=qs)(ho:(l[i]?).toList=[o])(h:∀K:Act→Prop,(∀a',(∀K2:Act→World→Prop,(∀a'' w',C w'→DW P l C Q fin t a'' w'→K2 a'' w')→wpList P l.toArray (Exit.then K2 Q) [o] a' w)→K a')→wpQuiet P l.toArray C K qs a):DW P l C Q fin (.one q i t) a w:=Xt he ho h
theorem aZ(ho:(l[i]?).toList=[o])(h:∀K2:Act→World→Prop,(∀a'' w',C w'→DW P l C Q fin t a'' w'→K2 a'' w')→wpList P l.toArray (Exit.then K2 Q) [o] a w):DW P l C Q fin (.one [] i t) a w:=pJ [] rfl ho fun _ hK=>qn hK h
theorem Pe(qs:List Oper)(he:q.filterMap (l[·]?)=qs)(h:∀K:Act→Prop,(∀a',fin a' w→K a')→wpQuiet P l.toArray C K qs a):DW P l C Q fin (.fin q) a w:=Xr he h
theorem bY(h:fin a w):DW P l C Q fin (.fin []) a w:=Pe [] rfl fun _ hK=>qn hK h
theorem two(qs:List Oper)(he:q.filterMap (l[·]?)=qs)(ho:(l[i]?).toList=[o])(hj:(l[j]?).toList=[o2])(h:∀K:Act→Prop,(∀a',(∀K2:Act→World→Prop,(∀a'' w',C w'→DW P l C Q fin ti a'' w'→K2 a'' w')→wpList P l.toArray (Exit.then K2 Q) [o] a' w)→(∀K2:Act→World→Prop,(∀a'' w',C w'→DW P l C Q fin tj a'' w'→K2 a'' w')→wpList P l.toArray (Exit.then K2 Q) [o2] a' w)→K a')→wpQuiet P l.toArray C K qs a):DW P l C Q fin (.two q i j ti tj) a w:=Xu he ho hj h
theorem ze(ho:(l[i]?).toList=[o])(hj:(l[j]?).toList=[o2])(h:(∀K2:Act→World→Prop,(∀a'' w',C w'→DW P l C Q fin ti a'' w'→K2 a'' w')→wpList P l.toArray (Exit.then K2 Q) [o] a w))(h2:(∀K2:Act→World→Prop,(∀a'' w',C w'→DW P l C Q fin tj a'' w'→K2 a'' w')→wpList P l.toArray (Exit.then K2 Q) [o2] a w)):DW P l C Q fin (.two [] i j ti tj) a w:=two [] rfl ho hj fun _ hK=>Gu hK h h2
end
theorem l5{P:Program}{id:Nat}{Q:Exit→Act→World→Prop}{a:Act}{w:World}{l:List Oper}{C:World→Prop}{T:Type}{f:T→World}(H:Zs (iq C T f))(n:Nat)(t:MT)(h0:C w.drew)
    (h:DW P l (fun w'=>∃s,w'=f s) Q (fun a' w'=>wpList P l.toArray Q (l.drop n) a' w') t a w.drew) (hm:P.follows .mixedOrders=true:=by kernel_rfl) (hB:SK l.toArray n t=true:=by kernel_rfl)
    (hQ:∀c a d v w,Q (.panic c) (a.put d v) w→Q (.panic c) a w:=by exact fun _ _ d _ _ h=>by cases d<;>exact h):(Code.region id l.toArray true).wp P Q a w:=CS f n t (H.o.o _ h0) hm hB hQ h
end Go.Proofs.YtcepdbbapgfcdaaGreat
