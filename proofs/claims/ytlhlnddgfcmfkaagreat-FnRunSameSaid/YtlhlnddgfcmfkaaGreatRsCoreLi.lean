/- Walks. -/
import Derived.Test.YtlhlnddgfcmfkaaGreatRsCoreLf
import Derived.Deep.DeepCutAuto
import Derived.Sort.LoopGhostIn
set_option maxRecDepth 100000
set_option maxHeartbeats 4000000
set_option linter.all false
namespace Go.Proofs.YtlhlnddgfcmfkaaGreat
open Go Go.RowKit Tryz
theorem Lm {w: World} (I : Nat -> Prop) {cs: List Value} (c : M.Method) (B : jd w I c cs) :Calls prog 197 #[.agg cs.toArray] w fun f w'=>f=.returned (.bool (M.rR c))∧Ext w w':=by
 obtain⟨va,vc,vm,rfl,-,h1,O⟩:=B;obtain⟨ca,cc,rfl,aO,aH⟩:=h1.form;obtain⟨aa,ae,rfl,hn,aG⟩:=O.form;obtain⟨F,K⟩:=Ry (w.alloc (.cells #[c.name,va,c.ret.kind,c.ret.name,c.locals,c.stack,.slice ca c.code.length cc,.slice aa c.maps.length ae] 141));have P:Ext w F:=by rw[K];exact Zx
 have Q:hV F w.heap.size 141 #[c.name,va,c.ret.kind,c.ret.name,c.locals,c.stack,.slice ca c.code.length cc,.slice aa c.maps.length ae]:=by rw[K];exact hV.new _ _ _
 obtain⟨cz,-,-,-,-,-,-,-,c7,-⟩:=Q.ca;have⟨HB,V,s,Y⟩:=jV Q (O.ext kX.stays P) P K;clear P Q K h1 O;by_cases h5:5<c.maps.length
 . have az:(5:Int)<c.maps.length:=by omega
   go_enter func197,ntmps197;go_wp2_with fail;rw[<-Y.o];go_wp2_with fail;go_ret;exact⟨hQ (by unfold M.rR;rw[decide_eq_false Zm];rfl),s.o⟩
 have X:Zz (M.rR c=M.kL c 0 c.maps):=Zy (by unfold M.rR;rw[decide_eq_true Zm];rfl);have az:¬(5:Int)<c.maps.length:=by omega
 go_enter func197,ntmps197;go_wp2_with fail;rw[<-Y.o];go_wp2_with fail;go_loopw [3] (fun S wr=>∃g:Nat,g<=c.maps.length∧S=.int .i64 g∧Ext F wr∧Zz (M.kL c 0 (c.maps.take g)=true)) (fun S _=>c.maps.length - (intOf S).toNat)
 case atStart=>exact⟨0,Nat.zero_le _,rfl,Kp.rr,Zy rfl⟩
 case round =>
  obtain⟨g,hk,rfl,D,N⟩:=hrel;have W:=Zy D;have d7:=D.jb c7;have dz:=iY d7;by_cases ag:g<c.maps.length
  . have dk:(g:Int)<c.maps.length:=by omega
    obtain⟨b,R⟩:∃b,c.maps[g]?=some b:=⟨c.maps[g]'ag,List.getElem?_eq_getElem ag⟩;obtain⟨b',aC,cs,rfl,hI,⟨vl,vs,rfl,T,U⟩,-,hc⟩:=V.o.get R;obtain⟨o,p,rfl,-,aN⟩:=T.form;obtain⟨q,r,rfl,-,aQ⟩:=U.form;obtain⟨g0,g1,g2⟩:=(hc.ext D).three;have gz:=iY g0;obtain⟨G,L⟩:=Ry (wr.alloc (.cells #[.int .i64 b.at_,.slice o b.locals.length p,.slice q b.stack.length r] 146));have af:Ext wr G:=by rw[L];exact Zx
    have b5:hV G wr.heap.size 146 #[.int .i64 b.at_,.slice o b.locals.length p,.slice q b.stack.length r]:=by rw[L];exact hV.new _ _ _
    have j:=Zy (W.o.trans af);have bm:=HB.o.ext j.o;have⟨t,u,ax⟩:=jy (T.ext kE.stays j.o) (U.ext kE.stays j.o) L;obtain⟨aD,ay,aP,C⟩:=kY G;obtain⟨-,x0,x1,x2,-⟩:=hV.lL fun A=>(b5.ext (C.jm A));obtain⟨-,-,-,-,-,m4,m5,m6,m7,-⟩:=hV.lL fun A=>(bm.ext (C.jm A));have a:=Zy C;have HJ:=Zy (fun(i:Nat) (k:M.SMap) (z:c.maps[i]?=some k)=>(show∀A,(ay A).cell? ⟨b',aC+i*3,none⟩=some (.int .i64 k.at_)from fun A=>by
     obtain⟨_,_,aF,e2,_,⟨_,_,rfl,_,_⟩,-,aA⟩:=V.o.get z;cases e2;exact((aA.ext j.o).ext (C.jm A)).three.1))
    have Z:=Zy R;clear C R hc D af L b5 bm T U;obtain⟨q1,ah⟩:∃y,(decide (1<=b.at_)&&decide (b.at_<=(c.code.length:Int) - 1))=y:=⟨_,rfl⟩;have l:=Zy ah;clear ah;obtain⟨q3,ai⟩:∃y,((b.locals.length:Int) !=c.locals)=y:=⟨_,rfl⟩;obtain⟨q4,aj⟩:∃y,decide (c.stack<(b.stack.length:Int))=y:=⟨_,rfl⟩;obtain⟨q5,ak⟩:∃y,b.locals.all M.rU=y:=⟨_,rfl⟩;obtain⟨q6,au⟩:∃y,b.stack.all M.rU=y:=⟨_,rfl⟩;have⟨m,n⟩:=je ak au;clear ak au;obtain⟨q2,E,av⟩:∃q2,((g=0∧q2=false)∨∃i k,g=i+1∧c.maps[i]?=some k∧q2=decide (b.at_<=k.at_))∧M.kL c 0 (c.maps.take (g+1))=(q1&& !q2&& !q3&& !q4&&q5&&q6):=by
     by_cases h0:g=0
     . exact⟨false,.inl ⟨h0,rfl⟩,by rw[M.Fe Z.o N.o (.inl ⟨h0,rfl⟩),l.o,ai,aj,m.o,n.o]⟩
     . obtain⟨i,J⟩:∃i,g=i+1:=⟨g - 1,by omega⟩;obtain⟨k,z⟩:∃k,c.maps[i]?=some k:=⟨c.maps[i]'Zm,List.getElem?_eq_getElem Zm⟩;exact⟨_,.inr ⟨i,k,J,z,rfl⟩,by rw[M.Fe Z.o N.o (.inr ⟨i,k,J,z,rfl⟩),l.o,ai,aj,m.o,n.o]⟩
    have⟨v,H⟩:=je av E;have x:Zz (M.kL c 0 (c.maps.take (g+1))=false->M.rR c=false):=Zy fun f=>X.o.trans (M.M6 f);clear av E;go_wp2_with fail;rw[<-ax.o];cases q1
    . go_wp2_with fail;refine Bl a ?_ ?_;rotate_left;(repeat (go_big_quiet_step ((first|(go_at_call 141;refine(qC).mono ?_;rintro f d ⟨rfl,rfl⟩;rw[l.o];exact⟨rfl,a.o.o _ (a.o.jm _)⟩)|(go_at_call 219;with_reducible refine(kJ I (.slice o b.locals.length p) b.locals (t.o.ext kE.stays (a.o.jm _))).mono ?_;rintro f d ⟨rfl,e⟩;rw[m.o];exact⟨rfl,a.o.o d ((a.o.jm _).trans e)⟩)|(go_at_call 219;with_reducible refine(kJ I (.slice q b.stack.length r) b.stack (u.o.ext kE.stays (a.o.jm _))).mono ?_;rintro f d ⟨rfl,e⟩;rw[n.o];exact⟨rfl,a.o.o d ((a.o.jm _).trans e)⟩)))));refine wpQuiet_nil ?_;(rintro _ ⟨h,rfl⟩);rotate_left
      . exact jf
      go_wp2_with fail;go_ret;exact⟨hQ (x.o (v.o.trans rfl)).symm,(s.o.trans j.o).trans (a.o.jm h)⟩
    by_cases aM:0<g
    . have aB:decide ((0:Int)<(g:Int))=true:=decide_eq_true Zm;obtain⟨i,k,J,z,E⟩:∃i k,g=i+1∧c.maps[i]?=some k∧q2=decide (b.at_<=k.at_):=H.o.resolve_left (fun B=>by have:=B.1;omega);replace E:=E.symm;have aI:IntKind.i64.wrap ((g:Int) - 1)=(i:Int):=by rw[IntWalk.i64_in _ Zm];omega
      have aJ:(g:Int) - 1=(i:Int):=by omega
      have aK:(0:Int)<=(i:Int):=by omega
      have aL:(i:Int)<c.maps.length:=by omega
      have yj:=HJ.o i k z;clear z J;clear H;cases q2;rotate_left
      . go_wp2_with fail;refine Bl a ?_ ?_;rotate_left;(repeat (go_big_quiet_step ((first|(go_at_call 141;refine(qC).mono ?_;rintro f d ⟨rfl,rfl⟩;rw[l.o];exact⟨rfl,a.o.o _ (a.o.jm _)⟩)|(go_at_call 219;with_reducible refine(kJ I (.slice o b.locals.length p) b.locals (t.o.ext kE.stays (a.o.jm _))).mono ?_;rintro f d ⟨rfl,e⟩;rw[m.o];exact⟨rfl,a.o.o d ((a.o.jm _).trans e)⟩)|(go_at_call 219;with_reducible refine(kJ I (.slice q b.stack.length r) b.stack (u.o.ext kE.stays (a.o.jm _))).mono ?_;rintro f d ⟨rfl,e⟩;rw[n.o];exact⟨rfl,a.o.o d ((a.o.jm _).trans e)⟩)))));refine wpQuiet_nil ?_;(rintro _ ⟨h,rfl⟩);rotate_left
        . exact jf
        go_wp2_with fail;go_ret;exact⟨hQ (x.o (v.o.trans rfl)).symm,(s.o.trans j.o).trans (a.o.jm h)⟩
      cases q3;rotate_left
      . go_wp2_with fail;refine Bl a ?_ ?_;rotate_left;(repeat (go_big_quiet_step ((first|(go_at_call 141;refine(qC).mono ?_;rintro f d ⟨rfl,rfl⟩;rw[l.o];exact⟨rfl,a.o.o _ (a.o.jm _)⟩)|(go_at_call 219;with_reducible refine(kJ I (.slice o b.locals.length p) b.locals (t.o.ext kE.stays (a.o.jm _))).mono ?_;rintro f d ⟨rfl,e⟩;rw[m.o];exact⟨rfl,a.o.o d ((a.o.jm _).trans e)⟩)|(go_at_call 219;with_reducible refine(kJ I (.slice q b.stack.length r) b.stack (u.o.ext kE.stays (a.o.jm _))).mono ?_;rintro f d ⟨rfl,e⟩;rw[n.o];exact⟨rfl,a.o.o d ((a.o.jm _).trans e)⟩)))));refine wpQuiet_nil ?_;(rintro _ ⟨h,rfl⟩);rotate_left
        . exact jf
        go_wp2_with fail;go_ret;exact⟨hQ (x.o (v.o.trans rfl)).symm,(s.o.trans j.o).trans (a.o.jm h)⟩
      cases q4;rotate_left
      . go_wp2_with fail;refine Bl a ?_ ?_;rotate_left;(repeat (go_big_quiet_step ((first|(go_at_call 141;refine(qC).mono ?_;rintro f d ⟨rfl,rfl⟩;rw[l.o];exact⟨rfl,a.o.o _ (a.o.jm _)⟩)|(go_at_call 219;with_reducible refine(kJ I (.slice o b.locals.length p) b.locals (t.o.ext kE.stays (a.o.jm _))).mono ?_;rintro f d ⟨rfl,e⟩;rw[m.o];exact⟨rfl,a.o.o d ((a.o.jm _).trans e)⟩)|(go_at_call 219;with_reducible refine(kJ I (.slice q b.stack.length r) b.stack (u.o.ext kE.stays (a.o.jm _))).mono ?_;rintro f d ⟨rfl,e⟩;rw[n.o];exact⟨rfl,a.o.o d ((a.o.jm _).trans e)⟩)))));refine wpQuiet_nil ?_;(rintro _ ⟨h,rfl⟩);rotate_left
        . exact jf
        go_wp2_with fail;go_ret;exact⟨hQ (x.o (v.o.trans rfl)).symm,(s.o.trans j.o).trans (a.o.jm h)⟩
      cases q5
      . go_wp2_with fail;refine Bl a ?_ ?_;rotate_left;(repeat (go_big_quiet_step ((first|(go_at_call 141;refine(qC).mono ?_;rintro f d ⟨rfl,rfl⟩;rw[l.o];exact⟨rfl,a.o.o _ (a.o.jm _)⟩)|(go_at_call 219;with_reducible refine(kJ I (.slice o b.locals.length p) b.locals (t.o.ext kE.stays (a.o.jm _))).mono ?_;rintro f d ⟨rfl,e⟩;rw[m.o];exact⟨rfl,a.o.o d ((a.o.jm _).trans e)⟩)|(go_at_call 219;with_reducible refine(kJ I (.slice q b.stack.length r) b.stack (u.o.ext kE.stays (a.o.jm _))).mono ?_;rintro f d ⟨rfl,e⟩;rw[n.o];exact⟨rfl,a.o.o d ((a.o.jm _).trans e)⟩)))));refine wpQuiet_nil ?_;(rintro _ ⟨h,rfl⟩);rotate_left
        . exact jf
        go_wp2_with fail;go_ret;exact⟨hQ (x.o (v.o.trans rfl)).symm,(s.o.trans j.o).trans (a.o.jm h)⟩
      cases q6
      . go_wp2_with fail;refine Bl a ?_ ?_;rotate_left;(repeat (go_big_quiet_step ((first|(go_at_call 141;refine(qC).mono ?_;rintro f d ⟨rfl,rfl⟩;rw[l.o];exact⟨rfl,a.o.o _ (a.o.jm _)⟩)|(go_at_call 219;with_reducible refine(kJ I (.slice o b.locals.length p) b.locals (t.o.ext kE.stays (a.o.jm _))).mono ?_;rintro f d ⟨rfl,e⟩;rw[m.o];exact⟨rfl,a.o.o d ((a.o.jm _).trans e)⟩)|(go_at_call 219;with_reducible refine(kJ I (.slice q b.stack.length r) b.stack (u.o.ext kE.stays (a.o.jm _))).mono ?_;rintro f d ⟨rfl,e⟩;rw[n.o];exact⟨rfl,a.o.o d ((a.o.jm _).trans e)⟩)))));refine wpQuiet_nil ?_;(rintro _ ⟨h,rfl⟩);rotate_left
        . exact jf
        go_wp2_with fail;go_ret;exact⟨hQ (x.o (v.o.trans rfl)).symm,(s.o.trans j.o).trans (a.o.jm h)⟩
      go_wp2_with fail;refine Bl a ?_ ?_;rotate_left;(repeat (go_big_quiet_step ((first|(go_at_call 141;refine(qC).mono ?_;rintro f d ⟨rfl,rfl⟩;rw[l.o];exact⟨rfl,a.o.o _ (a.o.jm _)⟩)|(go_at_call 219;with_reducible refine(kJ I (.slice o b.locals.length p) b.locals (t.o.ext kE.stays (a.o.jm _))).mono ?_;rintro f d ⟨rfl,e⟩;rw[m.o];exact⟨rfl,a.o.o d ((a.o.jm _).trans e)⟩)|(go_at_call 219;with_reducible refine(kJ I (.slice q b.stack.length r) b.stack (u.o.ext kE.stays (a.o.jm _))).mono ?_;rintro f d ⟨rfl,e⟩;rw[n.o];exact⟨rfl,a.o.o d ((a.o.jm _).trans e)⟩)))));refine wpQuiet_nil ?_;(rintro _ ⟨h,rfl⟩);rotate_left
      . exact jf
      go_wp2_with fail;go_round
      case rel=>exact⟨g+1,by omega,by go_num,j.o.trans (a.o.jm h),Zy (v.o.trans rfl)⟩
      case measure=>simp[intOf];omega
    . have aB:decide ((0:Int)<(g:Int))=false:=decide_eq_false Zm;obtain rfl:q2=false:=by rcases H.o with B|⟨i,k,B,-⟩<;>first|exact B.2|omega
      clear H;cases q3;rotate_left
      . go_wp2_with fail;refine Bl a ?_ ?_;rotate_left;(repeat (go_big_quiet_step ((first|(go_at_call 141;refine(qC).mono ?_;rintro f d ⟨rfl,rfl⟩;rw[l.o];exact⟨rfl,a.o.o _ (a.o.jm _)⟩)|(go_at_call 219;with_reducible refine(kJ I (.slice o b.locals.length p) b.locals (t.o.ext kE.stays (a.o.jm _))).mono ?_;rintro f d ⟨rfl,e⟩;rw[m.o];exact⟨rfl,a.o.o d ((a.o.jm _).trans e)⟩)|(go_at_call 219;with_reducible refine(kJ I (.slice q b.stack.length r) b.stack (u.o.ext kE.stays (a.o.jm _))).mono ?_;rintro f d ⟨rfl,e⟩;rw[n.o];exact⟨rfl,a.o.o d ((a.o.jm _).trans e)⟩)))));refine wpQuiet_nil ?_;(rintro _ ⟨h,rfl⟩);rotate_left
        . exact jf
        go_wp2_with fail;go_ret;exact⟨hQ (x.o (v.o.trans rfl)).symm,(s.o.trans j.o).trans (a.o.jm h)⟩
      cases q4;rotate_left
      . go_wp2_with fail;refine Bl a ?_ ?_;rotate_left;(repeat (go_big_quiet_step ((first|(go_at_call 141;refine(qC).mono ?_;rintro f d ⟨rfl,rfl⟩;rw[l.o];exact⟨rfl,a.o.o _ (a.o.jm _)⟩)|(go_at_call 219;with_reducible refine(kJ I (.slice o b.locals.length p) b.locals (t.o.ext kE.stays (a.o.jm _))).mono ?_;rintro f d ⟨rfl,e⟩;rw[m.o];exact⟨rfl,a.o.o d ((a.o.jm _).trans e)⟩)|(go_at_call 219;with_reducible refine(kJ I (.slice q b.stack.length r) b.stack (u.o.ext kE.stays (a.o.jm _))).mono ?_;rintro f d ⟨rfl,e⟩;rw[n.o];exact⟨rfl,a.o.o d ((a.o.jm _).trans e)⟩)))));refine wpQuiet_nil ?_;(rintro _ ⟨h,rfl⟩);rotate_left
        . exact jf
        go_wp2_with fail;go_ret;exact⟨hQ (x.o (v.o.trans rfl)).symm,(s.o.trans j.o).trans (a.o.jm h)⟩
      cases q5
      . go_wp2_with fail;refine Bl a ?_ ?_;rotate_left;(repeat (go_big_quiet_step ((first|(go_at_call 141;refine(qC).mono ?_;rintro f d ⟨rfl,rfl⟩;rw[l.o];exact⟨rfl,a.o.o _ (a.o.jm _)⟩)|(go_at_call 219;with_reducible refine(kJ I (.slice o b.locals.length p) b.locals (t.o.ext kE.stays (a.o.jm _))).mono ?_;rintro f d ⟨rfl,e⟩;rw[m.o];exact⟨rfl,a.o.o d ((a.o.jm _).trans e)⟩)|(go_at_call 219;with_reducible refine(kJ I (.slice q b.stack.length r) b.stack (u.o.ext kE.stays (a.o.jm _))).mono ?_;rintro f d ⟨rfl,e⟩;rw[n.o];exact⟨rfl,a.o.o d ((a.o.jm _).trans e)⟩)))));refine wpQuiet_nil ?_;(rintro _ ⟨h,rfl⟩);rotate_left
        . exact jf
        go_wp2_with fail;go_ret;exact⟨hQ (x.o (v.o.trans rfl)).symm,(s.o.trans j.o).trans (a.o.jm h)⟩
      cases q6
      . go_wp2_with fail;refine Bl a ?_ ?_;rotate_left;(repeat (go_big_quiet_step ((first|(go_at_call 141;refine(qC).mono ?_;rintro f d ⟨rfl,rfl⟩;rw[l.o];exact⟨rfl,a.o.o _ (a.o.jm _)⟩)|(go_at_call 219;with_reducible refine(kJ I (.slice o b.locals.length p) b.locals (t.o.ext kE.stays (a.o.jm _))).mono ?_;rintro f d ⟨rfl,e⟩;rw[m.o];exact⟨rfl,a.o.o d ((a.o.jm _).trans e)⟩)|(go_at_call 219;with_reducible refine(kJ I (.slice q b.stack.length r) b.stack (u.o.ext kE.stays (a.o.jm _))).mono ?_;rintro f d ⟨rfl,e⟩;rw[n.o];exact⟨rfl,a.o.o d ((a.o.jm _).trans e)⟩)))));refine wpQuiet_nil ?_;(rintro _ ⟨h,rfl⟩);rotate_left
        . exact jf
        go_wp2_with fail;go_ret;exact⟨hQ (x.o (v.o.trans rfl)).symm,(s.o.trans j.o).trans (a.o.jm h)⟩
      go_wp2_with fail;refine Bl a ?_ ?_;rotate_left;(repeat (go_big_quiet_step ((first|(go_at_call 141;refine(qC).mono ?_;rintro f d ⟨rfl,rfl⟩;rw[l.o];exact⟨rfl,a.o.o _ (a.o.jm _)⟩)|(go_at_call 219;with_reducible refine(kJ I (.slice o b.locals.length p) b.locals (t.o.ext kE.stays (a.o.jm _))).mono ?_;rintro f d ⟨rfl,e⟩;rw[m.o];exact⟨rfl,a.o.o d ((a.o.jm _).trans e)⟩)|(go_at_call 219;with_reducible refine(kJ I (.slice q b.stack.length r) b.stack (u.o.ext kE.stays (a.o.jm _))).mono ?_;rintro f d ⟨rfl,e⟩;rw[n.o];exact⟨rfl,a.o.o d ((a.o.jm _).trans e)⟩)))));refine wpQuiet_nil ?_;(rintro _ ⟨h,rfl⟩);rotate_left
      . exact jf
      go_wp2_with fail;go_round
      case rel=>exact⟨g+1,by omega,by go_num,j.o.trans (a.o.jm h),Zy (v.o.trans rfl)⟩
      case measure=>simp[intOf];omega
  . have dk:¬(g:Int)<c.maps.length:=by omega
    clear D;go_wp2_with fail;go_ret;exact⟨hQ (by have:=N.o;rw[List.take_of_length_le Zm]at this;rw[X.o,this]),s.o.trans W.o⟩
theorem hH.DJ{w:World}{g:Nat}{t:TypeId}{cs:Array Value}(a:hV w g t cs)(l:List Value)(e:cs.toList=l):hH w g 0 l:=by
 intro c d b;subst e;rw[Nat.zero_add];exact a.c c d (by simpa using b)
theorem M7(m:M.Method):M.nJ m=(M.jC m.name&&decide (m.args.length<=3)&&M.lD m.ret&&m.args.all M.lD&& decide ((m.args.length:Int)+1<=m.locals)&&decide (m.locals<=6)&&decide (1<=m.stack)&&decide (m.stack<=5)&&M.codeOk m&&M.rR m):=rfl
theorem Qk{w:World}{I:Nat->Prop}{cs:List Value}{m:M.Method}(o:jd w I m cs):Calls prog 150 #[.agg cs.toArray] w fun a V=>a=.returned (.bool (M.nJ m))∧Ext w V:=by
 have S:=Zy o;obtain⟨va,D,E,rfl,L,h2,h3⟩:=o;obtain⟨z,A,rfl,hn,ae⟩:=L.form;have N:Ext w (w.alloc (.cells #[m.name,.slice z m.args.length A,m.ret.kind,m.ret.name,m.locals,m.stack,D,E] 141)):=(jr _);have K:=hV.new w 141 #[m.name,.slice z m.args.length A,m.ret.kind,m.ret.name,m.locals,m.stack,D,E];have J:=Zy (hH.DJ K _ rfl);clear K;have b:=Zy (M7 m);cases t:M.jC m.name
 . have d:=Zy t;clear t;go_enter func150,ntmps150;go_wp2_with (go_at_call 22;refine(mE _ _).mono ?_;rintro a q ⟨rfl,rfl⟩;rw[d.o]);go_ret;exact⟨hQ (by rw[b.o,d.o];rfl),kx⟩
 have d:=Zy t;clear t;by_cases hl:3<m.args.length
 . go_enter func150,ntmps150;go_wp2_with (go_at_call 22;refine(mE _ _).mono ?_;rintro a q ⟨rfl,rfl⟩;rw[d.o]);go_ret;exact⟨hQ (by rw[b.o,decide_eq_false (p:=m.args.length<=3) Zm];simp),kx⟩
 cases u:M.lD m.ret
 . have r:=Zy u;clear u;go_enter func150,ntmps150;go_wp2_with (first|(go_at_call 22;refine(mE _ _).mono ?_;rintro a q ⟨rfl,rfl⟩;rw[d.o])|(go_at_call 149;refine(AU m.ret).mono ?_;rintro a q ⟨rfl,c⟩;rw[r.o]));go_ret;exact⟨hQ (by rw[b.o,r.o];simp),Zv⟩
 have r:=Zy u;clear u;go_enter func150,ntmps150;go_wp2_with fail;refine(mE _ _).mono ?_;rintro a q ⟨rfl,rfl⟩;rw[d.o];go_wp2_with fail;refine(AU m.ret).mono ?_;rintro a q ⟨rfl,c⟩;rw[r.o];generalize (w.alloc (.cells #[m.name,.slice z m.args.length A,m.ret.kind,m.ret.name,m.locals,m.stack,D,E] 141))=w0 at*;have y:=Zy (J.ext c);have O:=N.trans c;clear N c J;obtain⟨v,g,h,i,j,k,l,n⟩:=y.eight;simp only[Nat.zero_add]at g h i j k l n;go_wp2;clear v g h i j k l n;go_loopw [24] (fun C wr=>∃p:Nat,p<=m.args.length∧C=.int .i64 p∧Ext q wr∧Zz ((m.args.take p).all M.lD=true)) (fun C _=>m.args.length - (intOf C).toNat)
 case atStart=>exact⟨0,Nat.zero_le _,rfl,Kp.rr,Zy Zl⟩
 case round =>
  obtain⟨p,hk,rfl,s,x⟩:=hrel;by_cases U:p<m.args.length
  . obtain⟨Q,B⟩:=get_some U;obtain⟨X,af,cs,rfl,hI,rfl,-,P⟩:=L.get B;obtain⟨Y,Z⟩:=((P.ext O).ext s).two;have H:=Zy B;clear B P;cases f:M.lD Q
    all_goals
     have e:=Zy f;clear f;go_wp2_with (go_at_call 149;refine(AU Q).mono ?_;rintro a W ⟨rfl,c⟩;rw[e.o])
    . go_ret;exact⟨hQ (by rw[b.o,rG H.o e.o];simp),Zv⟩
    . go_roundw
      case rel=>exact⟨p+1,by omega,by go_num,Zv,Zy (all_succ x.o H.o e.o)⟩
      case measure=>simp[intOf];omega
  . have R:=Zy (pU x Zm);clear x;obtain⟨v,g,h,i,j,k,l,n⟩:=(y.ext s).eight;simp only[Nat.zero_add]at g h i j k l n;by_cases t1:m.locals<(m.args.length:Int)+1
    . go_wp2;go_ret;exact⟨hQ (by rw[b.o,decide_eq_false (p:=(m.args.length:Int)+1<=m.locals) Zm];simp),Zv⟩
    by_cases t2:6<m.locals
    . go_wp2;go_ret;exact⟨hQ (by rw[b.o,decide_eq_false (p:=m.locals<=6) Zm];simp),Zv⟩
    by_cases t3:m.stack<1
    . go_wp2;go_ret;exact⟨hQ (by rw[b.o,decide_eq_false (p:=1<=m.stack) Zm];simp),Zv⟩
    by_cases t4:5<m.stack
    . go_wp2;go_ret;exact⟨hQ (by rw[b.o,decide_eq_false (p:=m.stack<=5) Zm];simp),Zv⟩
    have F:Zz (M.nJ m=(M.codeOk m&&M.rR m)):=Zy (by
     rw[b.o,d.o,r.o,R.o,decide_eq_true (p:=m.args.length<=3) Zm,decide_eq_true (p:=(m.args.length:Int)+1<=m.locals) Zm,decide_eq_true (p:=m.locals<=6) Zm,decide_eq_true (p:=1<=m.stack) Zm,decide_eq_true (p:=m.stack<=5) Zm];rfl)
    have T:=O.trans s;have G:=Zy (jd.stays _ _ _ _ _ _ (Ext.same T) (fun _ o=>o) S);go_wp2_with fail;refine(Oa G).mono ?_;rintro a W ⟨rfl,c⟩;cases f:M.codeOk m
    . have e:=Zy f;clear f;go_wp2;go_ret;exact⟨hQ (by rw[F.o,e.o];rfl),Zv⟩
    . have e:=Zy f;clear f;clear v g h i j k l n;obtain⟨v,g,h,i,j,k,l,n⟩:=((y.ext s).ext c).eight;simp only[Nat.zero_add]at g h i j k l n;go_wp2_with fail;refine(OC (jd.stays _ _ _ _ _ _ (Ext.same c) (fun _ o=>o) G)).mono ?_;rintro a w3 ⟨rfl,aa⟩;go_wp2;go_ret;exact⟨hQ (by rw[F.o,e.o];rfl),Zv⟩
theorem C8{α:Type}{name:α->ByteArray}{ok:α->Bool}{l:List α}{k:Nat}{x:α}(a:l[k]?=some x):M.jI name ok (l.drop k) ((l.take k).map name)=(ok x&& !(((l.take k).map name).any fun b=>decide (b=name x))&&M.jI name ok (l.drop (k+1)) ((l.take (k+1)).map name)):=by
 rw[drop_at a,List.take_add_one,a,List.map_append];rfl
theorem GY{α:Type}{name:α->ByteArray}{l:List α}{k j:Nat}{x y:α}(c:l[j]?=some y)(b:j<k)(a:name y=name x):(((l.take k).map name).any fun y=>decide (y=name x))=true:=by
 rw[List.any_eq_true];refine⟨name y,List.mem_map.2 ⟨y,?_,rfl⟩,by simp[a]⟩;exact List.mem_of_getElem? (i:=j) (by rw[List.getElem?_take,if_pos b,c])
theorem EX{α:Type}{name:α->ByteArray}{l:List α}{k:Nat}{x:α}(d:∀c a,l[c]?=some a->c<k->name a≠name x):(((l.take k).map name).any fun a=>decide (a=name x))=false:=by
 rw[List.any_eq_false];intro h g;obtain⟨a,f,rfl⟩:=List.mem_map.1 g;obtain⟨c,b⟩:=List.mem_iff_getElem?.1 f;rw[List.getElem?_take]at b;split at b
 . rename_i e;simpa using d c a b e
 . cases b
theorem L8(c:M.Class):M.nV c=(M.jC c.name&&(decide (c.jl=M.none_)|| M.jC c.jl)&&decide (c.fields.length<=3)&&decide (c.methods.length<=4)&&
 M.jI M.Field.name (fun a=>M.jC a.name&&M.lD a.kind) c.fields []&&M.jI M.Method.name M.nJ c.methods []):=rfl
def CL(c:M.Class)(k:Nat):Bool:=M.jI M.Field.name (fun f=>M.jC f.name&&M.lD f.kind) (c.fields.drop k) ((c.fields.take k).map M.Field.name)
def Bv(c:M.Class)(k:Nat):Bool:=M.jI M.Method.name M.nJ (c.methods.drop k) ((c.methods.take k).map M.Method.name)
theorem JY{c:M.Class}{k:Nat}(a:c.fields.length<=k):CL c k=true:=by
 unfold CL;rw[List.drop_of_length_le a];rfl
theorem JZ{c:M.Class}{k:Nat}(a:c.methods.length<=k):Bv c k=true:=by
 unfold Bv;rw[List.drop_of_length_le a];rfl
theorem IC{c:M.Class}{k:Nat}{x:M.Field}(a:c.fields[k]?=some x):CL c k=((M.jC x.name&&M.lD x.kind)&& !(((c.fields.take k).map M.Field.name).any fun b=>decide (b=x.name))&&CL c (k+1)):=C8 a
theorem IG{c:M.Class}{k:Nat}{x:M.Method}(a:c.methods[k]?=some x):Bv c k=(M.nJ x&& !(((c.methods.take k).map M.Method.name).any fun b=>decide (b=x.name))&&Bv c (k+1)):=C8 a
theorem AL (w : World) (I : Nat -> Prop) (cs : List Value) (c : M.Class) (g : jv w I c cs) :Calls prog 102 #[.agg cs.toArray] w fun i w'=>i=.returned (.bool (M.nV c))∧Ext w w':=by
 obtain⟨vf,vm,rfl,h1,h2⟩:=g;obtain⟨J,L,rfl,hn,aW⟩:=h1.form;obtain⟨K,N,rfl,aY,aX⟩:=h2.form;have T:Ext w (w.alloc (.cells #[c.name,c.jl,.slice J c.fields.length L,.slice K c.methods.length N] 95)):=(jr _);have b0:=hV.new w 95 #[c.name,c.jl,.slice J c.fields.length L,.slice K c.methods.length N];have H:=Zy (hH.DJ b0 _ rfl);clear b0;have Y:=Zy (L8 c);cases af:M.jC c.name
 . have x:=Zy af;clear af;go_enter func102,ntmps102;go_wp2_with (go_at_call 22;refine(mE _ _).mono ?_;rintro i f ⟨rfl,rfl⟩;rw[x.o]);go_ret;exact⟨hQ (by rw[Y.o,x.o];rfl),kx⟩
 have x:=Zy af;clear af;by_cases y:(decide (c.jl=M.none_)|| M.jC c.jl)=true
 case neg=>
  have aj:(decide (c.jl=M.none_))=false:=by
   cases hd:decide (c.jl=M.none_)
   . rfl
   . rw[hd]at y;exact absurd rfl y
  have t:M.jC c.jl=false:=by
   cases hd:M.jC c.jl
   . rfl
   . rw[hd]at y;simp at y
  have hs:=(lZ c.jl).trans aj;have aF:=Zy aj;have C:=Zy t;clear aj t y;go_enter func102,ntmps102;go_wp2_with fail;refine(mE _ _).mono ?_;rintro i f ⟨rfl,rfl⟩;rw[x.o];go_wp2_with fail;refine(mE _ _).mono ?_;rintro i f ⟨rfl,rfl⟩;rw[C.o];go_wp2;go_ret;exact⟨hQ (by rw[Y.o,aF.o,C.o];simp),kx⟩
 have ah:=Zy y;clear y;by_cases Z:3<c.fields.length∨4<c.methods.length
 . have r:Zz (M.nV c=false):=Zy (by
    rw[Y.o];rcases Z with g|g
    . rw[decide_eq_false (p:=c.fields.length<=3) Zm];simp
    . rw[decide_eq_false (p:=c.methods.length<=4) Zm];simp)
   have aD:=Zy Z;clear Z;go_enter func102,ntmps102;go_upto_region 1 with(fail);go_cut [25] (fun aA wx=>aA=.bool false∧wx=w.alloc (.cells #[c.name,c.jl,.slice J c.fields.length L,.slice K c.methods.length N] 95))
   case first=>
    go_wp2_with fail;refine(mE _ _).mono ?_;rintro i f ⟨rfl,rfl⟩;rw[x.o];cases hs:c.jl.toList.isEmpty
    . have t:M.jC c.jl=true:=by
       have:=ah.o;rw[<-lZ,hs]at this;exact this
      have C:=Zy t;clear t;go_wp2_with fail;refine(mE _ _).mono ?_;rintro i f ⟨rfl,rfl⟩;rw[C.o];go_wp2_with fail;go_meet;exact⟨rfl,rfl⟩
    . go_wp2_with fail;go_meet;exact⟨rfl,rfl⟩
   case rest=>
    obtain⟨rfl,rfl⟩:=hcut;rcases aD.o with g|g
    . go_wp2;go_ret;exact⟨hQ r.symm,kx⟩
    . by_cases h':3<c.fields.length
      all_goals
       go_wp2;go_ret;exact⟨hQ r.symm,kx⟩
 have aL:c.fields.length<=3:=by omega
 have aM:c.methods.length<=4:=by omega
 clear Z;have r:Zz (M.nV c=(CL c 0&&Bv c 0)):=Zy (by
  rw[Y.o,x.o,ah.o,decide_eq_true aL,decide_eq_true aM];rfl)
 go_enter func102,ntmps102;go_upto_region 1 with(fail);go_cut [25] (fun aA wx=>aA=.bool false∧wx=w.alloc (.cells #[c.name,c.jl,.slice J c.fields.length L,.slice K c.methods.length N] 95))
 case first=>
  go_wp2_with fail;refine(mE _ _).mono ?_;rintro i f ⟨rfl,rfl⟩;rw[x.o];cases hs:c.jl.toList.isEmpty
  . have t:M.jC c.jl=true:=by
     have:=ah.o;rw[<-lZ,hs]at this;exact this
    have C:=Zy t;clear t;go_wp2_with fail;refine(mE _ _).mono ?_;rintro i f ⟨rfl,rfl⟩;rw[C.o];go_wp2_with fail;go_meet;exact⟨rfl,rfl⟩
  . go_wp2_with fail;go_meet;exact⟨rfl,rfl⟩
 case rest =>
  obtain⟨rfl,az⟩:=hcut;rw[<-az]at T;rw[<-az]at H;subst az;generalize aN:(w.alloc (.cells #[c.name,c.jl,.slice J c.fields.length L,.slice K c.methods.length N] 95))=w0 at*;clear aN;obtain⟨u,q,l,m⟩:=H.four;simp only[Nat.zero_add]at q l m;go_wp2;clear u q l m;go_loopw [39] (fun B wr=>∃e:Nat,e<=c.fields.length∧B=.int .i64 e∧Ext w0 wr∧Zz (CL c 0=CL c e)) (fun B _=>c.fields.length - (intOf B).toNat)
  case atStart=>exact⟨0,Nat.zero_le _,rfl,Kp.rr,Zy rfl⟩
  case round =>
   obtain⟨e,hk,rfl,n,j⟩:=hrel;obtain⟨u,q,l,m⟩:=(H.ext n).four;simp only[Nat.zero_add]at q l m;have hz:=iY u;by_cases aa:e<c.fields.length
   . obtain ⟨d, p⟩ := get_some aa; obtain ⟨aH, aO, cs, rfl, hI, rfl,-, V⟩ := h1.get p; have ⟨G, HX, s⟩ := jy ((V.ext T).ext n) p (IC p); clear p V; obtain ⟨P, Q, R⟩ := G.three; cases ae : M.jC d.name
     . have D:=Zy ae;clear ae;go_wp2_with (go_at_call 22;refine(mE _ _).mono ?_;rintro i f ⟨rfl,rfl⟩;rw[D.o]);go_ret;exact⟨hQ (by rw[r.o,j.o,s.o,D.o];simp),Zv⟩
     have D:=Zy ae;clear ae;have B1:=hV.new wr 183 #[d.name,d.kind.kind,d.kind.name];go_wp2_with fail;refine(mE _ _).mono ?_;rintro i f ⟨rfl,rfl⟩;rw[D.o];go_wp2_with fail;refine(AU d.kind).mono ?_;rintro i f ⟨rfl,S⟩;cases o:M.lD d.kind
     . have v:=Zy o;clear o;go_wp2;go_ret;exact⟨hQ (by rw[r.o,j.o,s.o,v.o];simp),Zv⟩
     have v:=Zy o;clear o;have r2:=S.JL l;have O:=(B1.ext S).c 0 _ rfl;have ak:Ext w0 f:=Zv;have aK:=iY O;clear P Q R u q l m;go_wp2;clear r2;obtain⟨X,rfl⟩:∃X:World,X=wr:=⟨_,rfl⟩;go_loopw [59] (fun a wi=>∃b:Nat,b<=e∧a=.int .i64 b∧Ext f wi∧Zz (∀a k,c.fields[a]?=some k->a<b->M.Field.name k≠M.Field.name d)) (fun a _=>e - (intOf a).toNat)
     case atStart=>exact⟨0,Nat.zero_le _,rfl,Kp.rr,Zy (fun a k _ g=>absurd g (Nat.not_lt_zero _))⟩
     case round =>
      obtain⟨b,hq,rfl,U,E⟩:=hrel;have e0:=U.jb O;have aJ:=iY e0;by_cases ay:b<e
      . obtain⟨k,z⟩:=get_some (show b<c.fields.length by omega);obtain⟨b',aP,aI,av,-,rfl,-,W⟩:=h1.get z;cases av;obtain⟨P,Q,R⟩:=(((W.ext T).ext ak).ext U).three;have F:=Zy z;clear z W;cases h:(k.name.toList==d.name.toList)
        . have ag:=Zy h;go_wp2;go_roundw
          case rel=>
           refine⟨b+1,by omega,by go_num,kx,Zy (fun a aB A hj=>?_)⟩;by_cases ax:a<b
           . exact E a aB A ax
           . obtain rfl:a=b:=by omega
             rw[F.o]at A;cases A;rw[nC]at h;simpa using h
          case measure=>simp[intOf];omega
        . have ag:=Zy h;go_wp2;go_ret;rw[nC]at h;exact⟨hQ (by rw[r.o,j.o,s.o,GY F.o ay (by simpa using h)];simp),Zv⟩
      . obtain rfl:b=e:=by omega
        go_wp2;go_roundw
        case rel=>exact⟨b+1,by omega,by go_num,Zv,Zy (by rw[j.o,s.o,D.o,v.o,EX E.o];rfl)⟩
        case measure=>simp[intOf];omega
   . have HM : Zz (M.nV c = Bv c 0) := Zy (by rw [r.o, j.o, JY Zm]; rfl); clear j r; go_wp2; clear u q l m; have au := T.trans n; have P2 := Zy (H.ext n); clear H n T hz; obtain ⟨wl, rfl⟩ : ∃ wl : World, wl = wr := ⟨_, rfl⟩; go_loopw [73] (fun B wr => ∃ e : Nat, e <= c.methods.length ∧ B = .int .i64 e ∧ Ext wl wr ∧ Zz (Bv c 0 = Bv c e)) (fun B _ => c.methods.length - (intOf B).toNat)
     case atStart=>exact⟨0,Nat.zero_le _,rfl,Kp.rr,Zy rfl⟩
     case round =>
      clear aa hk;obtain⟨e,hk,rfl,n,j⟩:=hrel;obtain⟨u,q,l,m⟩:=(P2.ext n).four;simp only[Nat.zero_add]at q l m;have hz:=iY u;by_cases aa:e<c.methods.length
      . obtain ⟨d, p⟩ := get_some aa; obtain ⟨aH, aO, cs, rfl, hI, ai,-, V⟩ := h2.get p; obtain ⟨aQ, aT, aR, aU, aS, aV, rfl⟩ := ai.form; have ⟨aG, G, HX, s⟩ := jV (jd.stays _ _ _ _ _ _ (Ext.same (au.trans n)) (fun _ g => g) ai) ((V.ext au).ext n) p (IG p); clear p V ai; obtain ⟨P, Q, R, g3, g4, g5, g6, g7⟩ := G.eight; have B1 := hV.new wr 141 #[d.name, .slice aQ d.args.length aT, d.ret.kind, d.ret.name, d.locals, d.stack, .slice aR d.code.length aU, .slice aS d.maps.length aV]; go_wp2_with fail; refine (Qk (jd.stays _ _ _ _ _ _ (Ext.same (jr _)) (fun _ g => g) aG)).mono ?_; rintro i f ⟨rfl, S⟩; cases o : M.nJ d
        . have v:=Zy o;clear o;go_wp2;go_ret;exact⟨hQ (by rw[HM.o,j.o,s.o,v.o];simp),Zv⟩
        have v:=Zy o;clear o;have r3:=S.JL m;have O:=(B1.ext S).c 0 _ rfl;have ak:Ext wl f:=Zv;have aK:=iY O;clear P Q R g3 g4 g5 g6 g7 u q l m;go_wp2;clear r3;obtain⟨X,rfl⟩:∃X:World,X=wr:=⟨_,rfl⟩;go_loopw [86] (fun a wi=>∃b:Nat,b<=e∧a=.int .i64 b∧Ext f wi∧Zz (∀a k,c.methods[a]?=some k->a<b->M.Method.name k≠M.Method.name d)) (fun a _=>e - (intOf a).toNat)
        case atStart=>exact⟨0,Nat.zero_le _,rfl,Kp.rr,Zy (fun a k _ g=>absurd g (Nat.not_lt_zero _))⟩
        case round =>
         obtain⟨b,hq,rfl,U,E⟩:=hrel;have e0:=U.jb O;have aJ:=iY e0;by_cases ay:b<e
         . obtain⟨k,z⟩:=get_some (show b<c.methods.length by omega);obtain⟨b',aP,aI,av,-,aC,-,W⟩:=h2.get z;obtain⟨aZ,bn,bf,bq,bg,bu,rfl⟩:=aC.form;cases av;clear aC;obtain⟨P,Q,R,g3,g4,g5,g6,g7⟩:=(((W.ext au).ext ak).ext U).eight;have F:=Zy z;clear z W;cases h:(k.name.toList==d.name.toList)
           . have ag:=Zy h;go_wp2;go_roundw
             case rel=>
              refine⟨b+1,by omega,by go_num,kx,Zy (fun a aB A hj=>?_)⟩;by_cases ax:a<b
              . exact E a aB A ax
              . obtain rfl:a=b:=by omega
                rw[F.o]at A;cases A;rw[nC]at h;simpa using h
             case measure=>simp[intOf];omega
           . have ag:=Zy h;go_wp2;go_ret;rw[nC]at h;exact⟨hQ (by rw[HM.o,j.o,s.o,GY F.o ay (by simpa using h)];simp),Zv⟩
         . obtain rfl:b=e:=by omega
           go_wp2;go_roundw
           case rel=>exact⟨b+1,by omega,by go_num,Zv,Zy (by rw[j.o,s.o,v.o,EX E.o];rfl)⟩
           case measure=>simp[intOf];omega
      . go_wp2;go_ret;exact⟨hQ (by rw[HM.o,j.o,JZ Zm]),Zv⟩
theorem oK{w:World}{l:jh}{p:M.hZ}(b:jg w l p)(k:Int):Calls prog 40 #[some l.L,k] w fun f h=>f=.returned (.bool (M.has p k))∧w=h:=by
 obtain⟨i,j,g,a,c,d,e⟩:=b.cells;have m:=a w (Kp.refl _ w);clear g b a c d e;go_enter func40,ntmps40;go_wp2
 . go_ret;exact⟨hQ (by unfold M.has;rw[decide_eq_true (p:=0<=k) Zm];rfl),rfl⟩
 . go_ret;exact⟨hQ (by unfold M.has;rw[decide_eq_false (p:=0<=k) Zm];rfl),rfl⟩
def lenOf:Value->Nat| .slice _ n _=>n|_=>0
structure QD(p:M.hZ)(n:ByteArray)(k:Int)(f:Nat)(asked:List Int)(cur:Int):Prop where
 fuel:f+asked.length=5
 one:1<=asked.length
 nodup:asked.Nodup
 has:∀q∈asked,M.has p q=true
 last:asked.getLastD 0=cur
 eq:M.path p k n=M.mG p n f asked cur
theorem Dp {w: World} {l: jh} {p: M.hZ} (f : jg w l p) (k : Int) (n : ByteArray) :Calls prog 105 #[some l.L,k,n] w fun d K=>(∃V,d=.returned (.tuple #[V,.int .i64 (M.path p k n).2])∧SliceOf 1 oQ K (fun z=>w<=z) V (M.path p k n).1)∧Ext w K:=by
 cases B:M.has p k
 . have m:=Zy B;clear B;have t:=Zy f;clear f;go_enter func105,ntmps105;go_wp2_with (go_at_call 40;refine(oK t _).mono ?_;rintro d w1 ⟨rfl,rfl⟩;rw[m.o]);go_ret2;refine⟨⟨(),?_,?_⟩,Kp.rr⟩
   . unfold M.path;rw[m.o];rfl
   . unfold M.path;rw[m.o];exact SliceOf.nil _ _ _ _
 . have m := Zy B; clear B; obtain ⟨Y, ak, hs, Z, c1, c2, c3⟩ := f.cells; have U := f.F6; have T := f.F5; have t := Zy f; clear f hs; go_enter func105, ntmps105; go_wp2_with (go_at_call 40; refine (oK t _).mono ?_; rintro d w1 ⟨rfl, rfl⟩; rw [m.o]); have ae : Ext w (w.alloc (.cells #[k] 3)) := (jr _); go_loopw [1, 8] (fun O J wr => ∃ i h a, O = .int .i64 h ∧ wr.ownsRow w 3 1 J a.length (a.map fun b => Value.int .i64 b) ∧ Ext w wr ∧ QD p n k i a h) (fun O J wr => 5 - (lenOf J))
   case atStart=>
    refine⟨4,k,[k],rfl,?_,ae,⟨rfl,by simp,by simp,by simp[m.o],rfl,?_⟩⟩
    . exact World.ownsRow_lit (size:=1) w #[k] 1 (Nat.le_refl _) (by unfold maxLen;omega) rfl
    . unfold M.path;rw[if_pos m.o]
   case round =>
    obtain⟨i,h,a,rfl,G,g,x⟩:=hrel;obtain⟨aa,cp,rfl,hg,aA,ax⟩:=jS G x.one;have d1:=c1 wr g;have d2:=c2 wr g;have D:=U wr g h n;have C:=T wr g h n;have⟨e,E⟩:=je x G;have ag:a.length<=5:=by have:=x.fuel;omega
    clear x G Z c1 c2 c3 U T;have ay:0<i:=by
     have h1:=e.fuel;have h2:=M.KP e.nodup e.has;have h3:=(M.AX t.ok).2;omega
    obtain⟨i,rfl⟩:∃f',i=f'+1:=⟨i - 1,by omega⟩;cases c:M.zh p h n with
    | none =>
     rw[c]at C;simp only[Option.getD_none,Option.isSome_none]at C;have y:=Zy c;clear c;have v:M.path p k n=if M.owned p ⟨h,n⟩then(a,1)else([],2):=by
      rw[e.o.eq];unfold M.mG;rw[y.o]
     have u:=Zy v;clear v;rw[M.Hs]at D;cases r:M.owned p ⟨h,n⟩
     . rw[r]at D;have F:=Zy r;clear r;go_wp2;go_ret2;have d:M.path p k n=([],2):=by rw[u.o,F.o];rfl
       rw[d];exact⟨⟨(),rfl,SliceOf.nil _ _ _ _⟩,g⟩
     . rw[r]at D;have F:=Zy r;clear r;go_wp2;go_ret2;have d:M.path p k n=(a,1):=by rw[u.o,F.o];rfl
       rw[d];exact⟨⟨_,rfl,SliceOf.lJ (fun b=>[Value.int .i64 b]) E rfl (Hj) (fun _ _=>rfl) (fun _ _=>rfl) (fun z o _=>o) (Nat.le_trans ag Zm)⟩,g⟩
    | some next =>
     rw[c]at C;simp only[Option.getD_some,Option.isSome_some]at C;have y:=Zy c;clear c D;have v:M.path p k n=if a.contains next then([],3)else M.mG p n i (a++[next]) next:=by
      rw[e.o.eq];conv=>lhs;unfold M.mG
      rw[y.o]
     have u:=Zy v;clear v;go_wp2;go_loop [36] (fun I=>∃b:Nat,b<=a.length∧I=.int .i64 b∧Zz (∀j s,a[j]?=some s->j<b->s≠next)) (fun I=>a.length - (intOf I).toNat)
     case atStart=>exact⟨0,Nat.zero_le _,rfl,Zy (fun _ _ _ f=>absurd f (Nat.not_lt_zero _))⟩
     case round =>
      obtain⟨b,c,rfl,L⟩:=hrel;by_cases ah:b<a.length
      . obtain⟨s,H⟩:=get_some ah;have av:wr.cell? (aa,b)=some (.int .i64 s):=by
         rw[E.o.cellAt b Zm];simp[H]
        have N:=Zy H;clear H;by_cases S:s=next
        . subst S;go_wp2;go_ret2;have A:a.contains s=true:=by simp[List.mem_of_getElem? N.o]
          have d:M.path p k n=([],3):=by rw[u.o,if_pos A]
          rw[d];exact⟨⟨(),rfl,SliceOf.nil _ _ _ _⟩,g⟩
        . go_wp2;go_round
          case rel=>
           refine⟨b+1,by omega,by go_num,Zy (fun j aj q aC=>?_)⟩;by_cases af:j<b
           . exact L j aj q af
           . obtain rfl:j=b:=by omega
             rw[N.o]at q;cases q;exact S
          case measure=>simp[intOf];omega
      . go_wp2_with (at_builtin;refine uS zO _ rfl _ _ rfl w _ _ _ rfl (E.alloc _) wr 1 [next] rfl rfl ?c1 ?c2 ?c3 ?c4 ?_)
        case c1=>exact hH.DJ (hV.new _ _ _) _ rfl
        case c2=>simp[Value.oneCell']
        case c3=>omega
        case c4=>have:=g.size;simp;omega
        obtain rfl:b=a.length:=by omega
        intro v' K R P g1 au ai az aB;subst ai;have X:=Zy R;have W:=Zy P;clear R P;go_wp2;go_roundw
        case rel =>
         refine⟨i,next,a++[next],rfl,by simpa using X.o,?_,?_⟩
         . refine(g.alloc _).own W ?_;intro z o;simp only[Value.ownBlock,Option.some.injEq]at o;omega
         . have A:a.contains next=false:=by
            cases Q:a.contains next
            . rfl
            . rw[List.contains_iff_mem]at Q;obtain⟨j,q⟩:=List.mem_iff_getElem?.1 Q;exact absurd rfl (L.o j next q (List.getElem?_eq_some_iff.1 q).1)
           refine⟨by have:=e.fuel;simp;omega,by simp,?_,?_,by simp,by rw[u.o,A];rfl⟩
           . rw[List.nodup_append];refine⟨e.nodup,by simp,fun Y ha z o d=>?_⟩;simp only[List.mem_singleton]at o;subst o d;have:=List.contains_iff_mem.2 ha;rw[A]at this;cases this
           . intro b c;rcases List.mem_append.1 c with c|c
             . exact e.has b c
             . rw[List.mem_singleton]at c;subst c;exact M.Db t.ok y
        case measure=>have:=e.fuel;simp[lenOf];omega
theorem KY{p:M.hZ}{k:Int}{n:ByteArray}(a:(M.path p k n).2=1):(M.path p k n).1≠[]:=by
 have e:∀c (b:List Int) k,b≠[]->(M.mG p n c b k).2=1->(M.mG p n c b k).1≠[]:=by
  intro c;induction c with
  |zero=>intro b k _ a;simp[M.mG]at a
  |succ c i=>
   intro b k g a;unfold M.mG at a ⊢;split at a
   . split at a
     . rename_i f d;simp[d,g]
     . simp at a
   . rename_i next f
     split at a
     . simp at a
     . rename_i d;rw[if_neg d];exact i _ _ Zl a
 unfold M.path at a ⊢;split at a
 . rename_i h;rw[if_pos h];exact e _ _ _ Zl a
 . simp at a
theorem yZ{w:World}{l:jh}{p:M.hZ}(o:jg w l p){k:Int}{n:ByteArray}:Calls prog 103 #[some l.L,k,n] w fun j D=>j=.returned (.tuple #[.agg #[.int .i64 (M.resolve p k n).1.keeper,.string (M.resolve p k n).1.name],.int .i64 (M.resolve p k n).2])∧Ext w D:=by
 have t:=Zy (o.ext ((Kp.refl _ w).alloc (.cells #[.int .i64 0, ""] 63)));clear o;have x:=hV.new w 63 #[.int .i64 0, ""];have I:Ext w (w.alloc (.cells #[.int .i64 0, ""] 63)):=(jr _);go_enter func103,ntmps103;go_wp2_with fail;refine(Dp t _ _).mono ?_;rintro j O ⟨⟨v,rfl,b⟩,A⟩;have g:=x.ext A;obtain⟨-,h,i,-⟩:=g.ca;obtain⟨G,H,-⟩:=g.fz;by_cases a:(M.path p k n).2=1
 . have r:=KY a;obtain⟨u,y,e,C,B⟩:=b.form;subst e;have L:=List.length_pos_iff.2 r;obtain⟨s,f⟩:=get_some (l:=(M.path p k n).1) (k:=(M.path p k n).1.length - 1) Zm;obtain⟨E,N,F,rfl,J,rfl,-,q⟩:=b.get f;have z:=q.one;rw[Nat.mul_one]at z;have d:Zz (M.resolve p k n=(⟨s,n⟩,1)):=Zy (by
    unfold M.resolve;rw[if_pos a,List.getLastD_eq_getLast?,List.getLast?_eq_getElem?,f];rfl)
   rw[a];clear f b r q a;generalize (M.path p k n).1.length=m at*;go_wp2;refine bodyPost_ret (v:=.tuple #[.agg #[s,n],.int .i64 1]) (by simp[results,results103,go_sem,h,i]) rfl ?_;exact⟨by rw[d.o],Zw⟩
 . have d:Zz (M.resolve p k n=(M.vB,(M.path p k n).2)):=Zy (by unfold M.resolve;rw[if_neg a]);have K:=beq_eq_false_iff_ne.2 a;obtain⟨u,y,e,C,B⟩:=b.form;subst e;clear b a;generalize (M.path p k n).2=c at*;generalize (M.path p k n).1.length=m at*;go_wp2;refine bodyPost_ret (v:=.tuple #[.agg #[.int .i64 0, ""],c]) (by simp[results,results103,go_sem,h,i]) rfl ?_;exact⟨by rw[d.o];rfl,Zw⟩
theorem om{P:Program}{Q:Exit->Act->World->Prop}{w:World}{id:Nat}{l:List Oper}{a:Act}(n:Nat)(e:P.follows .mixedOrders=true)(d:Region.lexTailB .any l.toArray n=true)(c:wpStill P l.toArray w.drew (fun b=>wpList P l.toArray Q (l.drop n) b w.drew) (l.take n) a):(Code.region id l.toArray true).wp P Q a w:=wp_region_still_tail n e d c
theorem sO{w:World}(l:jh)(p:M.hZ)(a:jg w l p)(k:Int)(n:ByteArray)(c:M.Class)(h:M.cls? p ⟨k,n⟩=some c):Calls prog 51 #[some l.L,.agg #[k,n]] w fun E N=>(∃f,jv w (· <l.O) c f∧E=.returned (.agg f.toArray))∧Ext w N:=by
 obtain⟨K,J,e,r,u,ai⟩:=M.AO h;obtain⟨d,s⟩:=M.Cw h;simp only at d s;obtain⟨k,rfl⟩:=Int.eq_ofNat_of_zero_le d;have t:p[k]?=some K:=by
  unfold M.pI at e;rw[if_pos d]at e;exact e
 obtain⟨S,W,v,j,m,C,D⟩:=a.cells;have y:=a.MM;obtain⟨U,av,f,rfl,hI,I,-,o⟩:=v.get t;obtain⟨vo,va,rfl,i,L⟩:=I;obtain⟨T,X,rfl,ak,ah⟩:=i.form;obtain⟨V,ax,Y,rfl,aa,g,-,q⟩:=i.get u;obtain⟨O,Q,P,R,rfl⟩:=g.form;obtain⟨G,g1⟩:=o.two;obtain⟨F,e1,e2,e3⟩:=q.four;have x:∀b,Ext w b->(Instr.lookup 125 (.map (some l.O)) (.agg #[.int .i64 (k:Int),n]) false).run prog b=.ok J b:=by
  intro b H;rw[y b H,r];rfl
 have au:(p.length:Int)<=3:=by have:=(M.AX a.ok).2;omega
 have l2:=fun(A B:Obj)=>x _ ((((Kp.refl _ w).alloc A).alloc B).drew);clear x;have z:=Zy g;have af:=iY G;have ag:=iY F;have ae:=a.lt;have Z:=j _ (Kp.refl _ w);have d1:=m _ (Kp.refl _ w);have hO:=a.ord;clear y g v i L o q j m C D t u e r h a;have aj:k<p.length:=by omega
 clear d s;go_enter func51,ntmps51;go_wp2;refine om 17 Zo Zo ?_;(simp only[List.take_succ_cons,List.take_zero,List.drop_succ_cons,List.drop_zero]);(repeat still_step);refine wpStill_nil ?_;go_wp2;refine bodyPost_ret (v:=.agg #[c.name,c.jl,.slice O c.fields.length Q,.slice P c.methods.length R]) (by simp[results,results51,go_sem]) rfl ?_;exact⟨⟨_,z,rfl⟩,kx⟩
attribute [local go_sem] Oper.semAt_some
theorem Ha{w:World}{a:Addr}{k:Int}{n:ByteArray}:Calls prog 151 #[.pointer (some a),.agg #[k,n]] w fun b c=>b=.returned (.func (.func 178) #[] #[.pointer (some ⟨w+1,0,none⟩),some w])∧c=(w.alloc (.cells #[.pointer (some a)] 58)).alloc (.cells #[k,n] 63):=by
 go_enter func151,ntmps151;go_wp2;go_ret;exact⟨rfl,rfl⟩
def items(p:M.hZ):Nat->M.Ref->List (Option M.Ref)
 |0,_=>[]
 |n+1,r=>some r::(if M.jl p r=M.none_ then []else if(M.resolve p r.keeper (M.jl p r)).2=1 then items p n (M.resolve p r.keeper (M.jl p r)).1 else [none])
def zR:Option M.Ref->Array Value
 |some r=>#[.agg #[.int .i64 r.keeper,.string r.name],.bool true]
 |none=>#[.agg #[.int .i64 0,.string M.none_],.bool false]
theorem mK{p:M.hZ}{k:Int}{n:ByteArray}(b:(M.resolve p k n).2=1):∃a,M.cls? p (M.resolve p k n).1=some a:=M.mK b
theorem IJ (l : jh) (p : M.hZ) (j : M.Ref) (e q : Nat) {z: Nat -> Prop} (hBd : ∀ g, z g -> l.L < g ∧ g ≠ e ∧ g ≠ q) (hRL : e ≠ q) (hR : l.L < e) (D : Nat) (aG : ∃ c, M.cls? p j = some c) :Iter prog 178 #[some e,some q] zR (·=e) z (fun xs=>∀b,items p (xs.length+b) j=xs) (fun d=>∃b k,items p b j=d++k) (fun aM=>aM.length<=D) (fun m=>jg m l p∧hV m e 63 #[j.keeper,j.name]∧hV m q 58 #[some l.L]):=by
 intro lp aA Jx m ⟨E,J,I⟩ hJ aa hN G aB;refine callsIn_of_wp func178 rfl trivial ?_ rfl;simp only[ntmps178,List.size_toArray,List.length_cons,List.length_nil,Nat.reduceAdd,Nat.reduceSub,Array.replicate_succ,Array.replicate_zero,List.push_toArray,List.append_toArray,List.nil_append,List.cons_append];gi_wp2;gi_loopg [4] (D+1) (fun aJ _ wr=>∃(d:List (Option M.Ref)) (a:M.Ref),aJ+d.length=D+1∧aA d wr∧jg wr l p∧hV wr e 63 #[a.keeper,a.name]∧hV wr q 58 #[some l.L]∧
     Zz (∀b,items p (d.length+b) j=d++items p b a)∧Zz (∃c,M.cls? p a=some c))
 case atStart=>exact⟨[],j,by simp,aB,E,J,I,Zy Zl,Zy aG⟩
 case round =>
  obtain⟨d,a,hm,O,hl,i,K,u,HO⟩:=hrel;have aY:=hN _ _ O;obtain⟨c,hc⟩:=HO.o;obtain⟨fn,bf,aP,aR,hy,hR⟩:=G d (some a) wr trivial O;simp only[zR]at hy hR;obtain⟨-,aK,aL,-⟩:=i.ca;have aI:=K.c 0 (some l.L) rfl;have⟨HL,S,HY,v,B,V⟩:=nZ hl (And.intro i K) G (And.intro hJ aa) (And.intro hBd (And.intro E (And.intro J I))) hc;clear hl i K G hJ aa hBd E J I hc hN;gi_wp2_with fail;refine hR.mono ?_;rintro o W1 ⟨t,(⟨rfl,P⟩|⟨rfl,aD⟩)⟩
  . have Q : ∀ g, g <= l.L -> ¬ z g := fun g w i => absurd (B.o.1 g i).1 Zm; have aj := HL.kp t Q; have H := S.1.kp t (fun i => (B.1 _ i).2.1 rfl); have L := S.2.kp t (fun i => (B.1 _ i).2.2 rfl); obtain ⟨-, q0, q1,-⟩ := H.ca; have q2 := L.c 0 (some l.L) rfl; have ⟨X, T, HK⟩ := jy aj (And.intro H L) (And.intro t Q); clear aj H L t Q aK aL aI hy hR; gi_wp2_with fail; refine ⟨trivial, ?_⟩; refine (callsIn_wide.2 (sO _ _ X _ _ _ V)).mono ?_; rintro o W2 ⟨⟨cs, N, rfl⟩, n⟩; obtain ⟨y1, z1, y2, z2, rfl⟩ := N.form; have s0 := n.jb q0; have s1 := n.jb q1; have s2 := n.jb q2; have aV : ∀ m, (Instr.field 95 (.agg #[.string c.name, .string c.jl, .slice y1 c.fields.length z1, .slice y2 c.methods.length z2]) 1).run prog m = .ok (.string c.jl) m := fun m => by kernel_rfl
    have R:M.jl p a=c.jl:=by unfold M.jl;rw[V.o];rfl
    by_cases y:c.jl.toList.isEmpty=true
    . gi_wp2_with fail;refine RA ?_;refine⟨⟨_,rfl⟩,.inl ⟨d++[some a],fun b=>?_,v.1 _ _ _ P n.any⟩⟩;rw[List.length_append,Nat.add_assoc,u.o];congr 1;show items p (1+b) a=[some a]
      rw[Nat.add_comm];unfold items;rw[R,if_pos (by rw[lZ]at y;simpa using y)]
    . have au:c.jl.toList.isEmpty=false:=by simpa using y
      have Z:Zz (∀b,items p (b+1) a=some a::if(M.resolve p a.keeper c.jl).2=1 then items p b (M.resolve p a.keeper c.jl).1 else [none]):=Zy (by
       intro b;conv=>lhs;unfold items
       rw[R,if_neg (by rw[lZ]at au;simpa using au)])
      have⟨aN,A⟩:=je N n;have ak:=X.ext n;have Y:=Zy ak;clear y R N n ak q0 q1 q2;gi_wp2_with fail;refine⟨trivial,?_⟩;refine(callsIn_wide.2 (yZ Y)).mono ?_;rintro o r ⟨rfl,h⟩;have u0:=h.jb s0;have u1:=h.jb s1;have u2:=h.jb s2;have s:=((T.1.ext A).ext h);have af:=((T.2.ext A).ext h);have f0:=s.frozen 0;have f1:=s.frozen 1;have aZ:=s.lt;have ah:=v.1 _ _ _ P ((A.any).trans h.any);have⟨U,ay,aO,W⟩:=jV (And.intro s af) (Y.ext h) h ah;clear s af h ah s0 s1 s2 P O;by_cases f:(M.resolve p a.keeper c.jl).2=1
      . obtain⟨c',ag⟩:=mK f;have C:Zz (∀b,items p (b+1) a=some a::items p b (M.resolve p a.keeper c.jl).1):=Zy (by
         intro b;rw[Z.o,if_pos f])
        rw[f];clear f;generalize (M.resolve p a.keeper c.jl).1=nx at*;have ax:Zz (∃c,M.cls? p nx=some c):=Zy ⟨c',ag⟩;clear ag;gi_wp2_with fail;gi_roundg (gk - 1)
        case measure=>omega
        case rel=>
         have w:Kp (·=e) r (((r.setCell e nx.keeper).setCell (e,1) nx.name).alloc (.cells #[nx.keeper,nx.name] 63)):=
          (((Kp.refl (·=e) r).setCell (p:=⟨e,0,none⟩) (fun _=>rfl) _).setCell (p:=⟨e,1,none⟩) (fun _=>rfl) _).alloc _
         refine⟨d++[some a],nx,by simp;omega,v.o.1 _ _ _ W.o w,ay.o.kp w (fun g aW o=>by omega),?_,U.o.2.kp w (fun o=>hRL o.symm),Zy (fun b=>?_),ax⟩
         . exact((U.1.jk 0 nx.keeper).jk 1 nx.name).ext (jr _)
         . rw[List.length_append,Nat.add_assoc,u.o,Nat.add_comm,show [some a].length=1 from rfl,C.o,List.append_assoc];rfl
      . have C:Zz (∀b,items p (b+2) a=[some a,none]):=Zy (by
         intro b;rw[Z.o (b+1),if_neg f])
        have aU:=beq_eq_false_iff_ne.2 f;have av:M.resolve p a.keeper c.jl=(M.vB,(M.resolve p a.keeper c.jl).2):=by
         unfold M.resolve at f ⊢;split
         . rename_i h1;rw[if_pos h1]at f;exact absurd rfl f
         . rfl
        rw[av];have ai:=v.1 _ _ _ W (((Kp.refl _ r).alloc (.cells #[.int .i64 0, ""] 63)):Kp (·=e) r _);obtain⟨aT,bg,aQ,aS,aH,F⟩:=HY.o (d++[some a]) none _ trivial ai;simp only[zR]at aH F;have az:=Zy F;clear av f ai F;generalize (M.resolve p a.keeper c.jl).2=code at*;simp only[M.vB];gi_wp2_with fail;refine az.mono ?_;have ae:∀b,items p ((d++[some a]++[none]).length+b) j=d++[some a]++[none]:=by
         intro b;rw[List.length_append,List.length_append,Nat.add_assoc,Nat.add_assoc,u.o,show [some a].length+([none (α:=M.Ref)].length+b)=b+2 from by simp;omega,C.o,List.append_assoc];rfl
        rintro o W5 ⟨aX,(⟨rfl,aC⟩|⟨rfl,aF⟩)⟩
        . gi_wp2_with fail;refine RA ?_;exact⟨⟨_,rfl⟩,.inl ⟨d++[some a]++[none],ae,aC⟩⟩
        . gi_wp2_with fail;refine RA ?_;exact⟨⟨_,rfl⟩,.inr ⟨d++[some a]++[none],⟨(d++[some a]++[none]).length+0,[],by rw[ae 0,List.append_nil]⟩,aF⟩⟩
  . have x:∃k,items p (d.length+1) j=(d++[some a])++k:=by
     obtain⟨k,hr⟩:∃k,items p 1 a=some a::k:=⟨_,rfl⟩;exact⟨k,by rw[u.o,hr,List.append_assoc];rfl⟩
    obtain⟨k,x⟩:=x;have HP:=Zy x;clear x;gi_wp2_with fail;refine RA ?_;exact⟨⟨_,rfl⟩,.inr ⟨d++[some a],⟨_,k,HP⟩,aD⟩⟩
end Go.Proofs.YtlhlnddgfcmfkaaGreat
