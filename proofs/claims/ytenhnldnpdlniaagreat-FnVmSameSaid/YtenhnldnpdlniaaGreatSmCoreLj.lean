/- Walks. -/
import Derived.Test.YtenhnldnpdlniaaGreatSmCoreLf
import Derived.Test.YtenhnldnpdlniaaGreatSmCoreLg
import Derived.Sort.LoopGhostIn
set_option maxRecDepth 100000
set_option maxHeartbeats 4000000
set_option linter.all false
namespace Go.Proofs.YtenhnldnpdlniaaGreat
open Go Go.RowKit Tryz M
variable {n: ByteArray}{c: Class}{m x: M.Method}{k: Nat}{α: Type}{w: World}{l: jB}{p: jl}
theorem NA(I:Nat->Prop){cs:List Value}(c:M.Method)(B:jy w I c cs):Calls prog 198 #[.agg cs.toArray] w fun f w'=>f=.returned (.bool (sw c))/\Ext w w':=by
 obtain⟨va,vc,vm,rfl,-,h1,O⟩:=B;obtain⟨ca,cc,rfl,aO,aH⟩:=h1.form;obtain⟨aa,ae,rfl,hn,aG⟩:=O.form;obtain⟨F,K⟩:=S9 (w.alloc (.cells #[c.name,va,c.ret.kind,c.ret.name,c.locals,c.stack,.slice ca c.code.length cc,.slice aa c.maps.length ae] 113));have P:Ext w F:=by rw[K];exact Zx
 have Q:jq F w.heap.size 113 #[c.name,va,c.ret.kind,c.ret.name,c.locals,c.stack,.slice ca c.code.length cc,.slice aa c.maps.length ae]:=by rw[K];exact jq.new _ _ _
 obtain⟨cz,-,-,-,-,-,-,-,c7,-⟩:=Q.ca;have⟨HB,V,s,Y⟩:=kD Q (O.ext mI.stays P) P K;clear P Q K h1 O;by_cases h5:5<c.maps.length
 . have az:(5:Int)<c.maps.length:=by omega
   go_enter func198,ntmps198;go_wp2_with fail;rw[<-Y.o];go_wp2;go_ret;exact⟨hV (by unfold sw;rw[SS Zm];rfl),s.o⟩
 have X:Zz (sw c=lC c 0 c.maps):=Zy (by unfold sw;rw[Tw Zm];rfl);have az:¬(5:Int)<c.maps.length:=by omega
 go_enter func198,ntmps198;go_wp2_with fail;rw[<-Y.o];go_wp2;go_loopw [3] (fun S wr=>∃g:Nat,g<=c.maps.length/\S=.int .i64 g/\Ext F wr/\Zz (lC c 0 (c.maps.take g)=true)) (fun S _=>c.maps.length - (intOf S).toNat)
 case atStart=>exact⟨0,Tz _,rfl,Kp.rr,Zy rfl⟩
 case round=>
  obtain⟨g,hk,rfl,D,N⟩:=hrel;have W:=Zy D;have d7:=D.jm c7;have dz:=jv d7;by_cases ag:g<c.maps.length
  . have dk:(g:Int)<c.maps.length:=by omega
    obtain⟨b,R⟩:∃b,c.maps[g]?=some b:=⟨c.maps[g]'ag,CU ag⟩;obtain⟨b',aC,cs,rfl,hI,⟨vl,vs,rfl,T,U⟩,-,hc⟩:=V.o.get R;obtain⟨o,p,rfl,-,aN⟩:=T.form;obtain⟨q,r,rfl,-,aQ⟩:=U.form;obtain⟨g0,g1,g2⟩:=(hc.ext D).three;have gz:=jv g0;obtain⟨G,L⟩:=S9 (wr.alloc (.cells #[.int .i64 b.at_,.slice o b.locals.length p,.slice q b.stack.length r] 198));have af:Ext wr G:=by rw[L];exact Zx
    have b5:jq G wr.heap.size 198 #[.int .i64 b.at_,.slice o b.locals.length p,.slice q b.stack.length r]:=by rw[L];exact jq.new _ _ _
    have j:=Zy (W.o.trans af);have bm:=HB.o.ext j.o;have⟨t,u,ax⟩:=jI (T.ext jZ.stays j.o) (U.ext jZ.stays j.o) L;obtain⟨aD,ay,aP,C⟩:=lL G;obtain⟨-,x0,x1,x2,-⟩:=jq.pq fun A=>(b5.ext (C.jC A));obtain⟨-,-,-,-,-,m4,m5,m6,m7,-⟩:=jq.pq fun A=>(bm.ext (C.jC A));have a:=Zy C;have HJ:=Zy (fun(i:Nat) (k:SMap) (z:c.maps[i]?=some k)=>(show∀A,(ay A).cell? ⟨b',aC+i*3,none⟩=some (.int .i64 k.at_)from fun A=>by
     obtain⟨_,_,aF,e2,_,⟨_,_,rfl,_,_⟩,-,aA⟩:=V.o.get z;cases e2;exact((aA.ext j.o).ext (C.jC A)).three.1))
    have Z:=Zy R;clear C R hc D af L b5 bm T U;obtain⟨q1,ah⟩:∃y,(decide (1<=b.at_)&&decide (b.at_<=(c.code.length:Int) - 1))=y:=⟨_,rfl⟩;have l:=Zy ah;clear ah;obtain⟨q3,ai⟩:∃y,((b.locals.length:Int) !=c.locals)=y:=⟨_,rfl⟩;obtain⟨q4,aj⟩:∃y,decide (c.stack<(b.stack.length:Int))=y:=⟨_,rfl⟩;obtain⟨q5,ak⟩:∃y,b.locals.all tH=y:=⟨_,rfl⟩;obtain⟨q6,au⟩:∃y,b.stack.all tH=y:=⟨_,rfl⟩;have⟨m,n⟩:=jw ak au;clear ak au;obtain⟨q2,E,av⟩:∃q2,((g=0/\q2=false)\/∃i k,g=i+1/\c.maps[i]?=some k/\q2=decide (b.at_<=k.at_))/\lC c 0 (c.maps.take (g+1))=(q1&& !q2&& !q3&& !q4&&q5&&q6):=by
     by_cases h0:g=0
     . exact⟨false,.inl ⟨h0,rfl⟩,by rw[GA Z.o N.o (.inl ⟨h0,rfl⟩),l.o,ai,aj,m.o,n.o]⟩
     . obtain⟨i,J⟩:∃i,g=i+1:=⟨g - 1,by omega⟩;obtain⟨k,z⟩:∃k,c.maps[i]?=some k:=⟨c.maps[i]'Zm,CU Zm⟩;exact⟨_,.inr ⟨i,k,J,z,rfl⟩,by rw[GA Z.o N.o (.inr ⟨i,k,J,z,rfl⟩),l.o,ai,aj,m.o,n.o]⟩
    have⟨v,H⟩:=jw av E;have x:Zz (lC c 0 (c.maps.take (g+1))=false->sw c=false):=Zy fun f=>X.o.trans (Pk f);clear av E;go_wp2_with fail;rw[<-ax.o];cases q1
    . go_wp2_with fail;refine zJ a ?_ ?_;rotate_left;(repeat (go_big_quiet_step ((first|(go_at_call 76;refine(rD).mono ?_;rintro f d ⟨rfl,rfl⟩;rw[l.o];exact⟨rfl,a.o.o _ (a.o.jC _)⟩)|(go_at_call 226;with_reducible refine(lu I (.slice o b.locals.length p) b.locals (t.o.ext jZ.stays (a.o.jC _))).mono ?_;rintro f d ⟨rfl,e⟩;rw[m.o];exact⟨rfl,a.o.o d ((a.o.jC _).trans e)⟩)|(go_at_call 226;with_reducible refine(lu I (.slice q b.stack.length r) b.stack (u.o.ext jZ.stays (a.o.jC _))).mono ?_;rintro f d ⟨rfl,e⟩;rw[n.o];exact⟨rfl,a.o.o d ((a.o.jC _).trans e)⟩)))));refine TP ?_;(rintro _ ⟨h,rfl⟩);rotate_left
      . exact jA
      go_wp2;go_ret;exact⟨hV (x.o (v.o.trans rfl)).symm,(s.o.trans j.o).trans (a.o.jC h)⟩
    by_cases aM:0<g
    . have aB:decide ((0:Int)<(g:Int))=true:=Tw Zm;obtain⟨i,k,J,z,E⟩:∃i k,g=i+1/\c.maps[i]?=some k/\q2=decide (b.at_<=k.at_):=H.o.resolve_left (fun B=>by have:=B.1;omega);replace E:=E.symm;have aI:IntKind.i64.wrap ((g:Int) - 1)=(i:Int):=by rw[TM _ Zm];omega
      have aJ:(g:Int) - 1=(i:Int):=by omega
      have aK:(0:Int)<=(i:Int):=by omega
      have aL:(i:Int)<c.maps.length:=by omega
      have yj:=HJ.o i k z;clear z J;clear H;cases q2;rotate_left
      . go_wp2_with fail;refine zJ a ?_ ?_;rotate_left;(repeat (go_big_quiet_step ((first|(go_at_call 76;refine(rD).mono ?_;rintro f d ⟨rfl,rfl⟩;rw[l.o];exact⟨rfl,a.o.o _ (a.o.jC _)⟩)|(go_at_call 226;with_reducible refine(lu I (.slice o b.locals.length p) b.locals (t.o.ext jZ.stays (a.o.jC _))).mono ?_;rintro f d ⟨rfl,e⟩;rw[m.o];exact⟨rfl,a.o.o d ((a.o.jC _).trans e)⟩)|(go_at_call 226;with_reducible refine(lu I (.slice q b.stack.length r) b.stack (u.o.ext jZ.stays (a.o.jC _))).mono ?_;rintro f d ⟨rfl,e⟩;rw[n.o];exact⟨rfl,a.o.o d ((a.o.jC _).trans e)⟩)))));refine TP ?_;(rintro _ ⟨h,rfl⟩);rotate_left
        . exact jA
        go_wp2;go_ret;exact⟨hV (x.o (v.o.trans rfl)).symm,(s.o.trans j.o).trans (a.o.jC h)⟩
      cases q3;rotate_left
      . go_wp2_with fail;refine zJ a ?_ ?_;rotate_left;(repeat (go_big_quiet_step ((first|(go_at_call 76;refine(rD).mono ?_;rintro f d ⟨rfl,rfl⟩;rw[l.o];exact⟨rfl,a.o.o _ (a.o.jC _)⟩)|(go_at_call 226;with_reducible refine(lu I (.slice o b.locals.length p) b.locals (t.o.ext jZ.stays (a.o.jC _))).mono ?_;rintro f d ⟨rfl,e⟩;rw[m.o];exact⟨rfl,a.o.o d ((a.o.jC _).trans e)⟩)|(go_at_call 226;with_reducible refine(lu I (.slice q b.stack.length r) b.stack (u.o.ext jZ.stays (a.o.jC _))).mono ?_;rintro f d ⟨rfl,e⟩;rw[n.o];exact⟨rfl,a.o.o d ((a.o.jC _).trans e)⟩)))));refine TP ?_;(rintro _ ⟨h,rfl⟩);rotate_left
        . exact jA
        go_wp2;go_ret;exact⟨hV (x.o (v.o.trans rfl)).symm,(s.o.trans j.o).trans (a.o.jC h)⟩
      cases q4;rotate_left
      . go_wp2_with fail;refine zJ a ?_ ?_;rotate_left;(repeat (go_big_quiet_step ((first|(go_at_call 76;refine(rD).mono ?_;rintro f d ⟨rfl,rfl⟩;rw[l.o];exact⟨rfl,a.o.o _ (a.o.jC _)⟩)|(go_at_call 226;with_reducible refine(lu I (.slice o b.locals.length p) b.locals (t.o.ext jZ.stays (a.o.jC _))).mono ?_;rintro f d ⟨rfl,e⟩;rw[m.o];exact⟨rfl,a.o.o d ((a.o.jC _).trans e)⟩)|(go_at_call 226;with_reducible refine(lu I (.slice q b.stack.length r) b.stack (u.o.ext jZ.stays (a.o.jC _))).mono ?_;rintro f d ⟨rfl,e⟩;rw[n.o];exact⟨rfl,a.o.o d ((a.o.jC _).trans e)⟩)))));refine TP ?_;(rintro _ ⟨h,rfl⟩);rotate_left
        . exact jA
        go_wp2;go_ret;exact⟨hV (x.o (v.o.trans rfl)).symm,(s.o.trans j.o).trans (a.o.jC h)⟩
      cases q5
      . go_wp2_with fail;refine zJ a ?_ ?_;rotate_left;(repeat (go_big_quiet_step ((first|(go_at_call 76;refine(rD).mono ?_;rintro f d ⟨rfl,rfl⟩;rw[l.o];exact⟨rfl,a.o.o _ (a.o.jC _)⟩)|(go_at_call 226;with_reducible refine(lu I (.slice o b.locals.length p) b.locals (t.o.ext jZ.stays (a.o.jC _))).mono ?_;rintro f d ⟨rfl,e⟩;rw[m.o];exact⟨rfl,a.o.o d ((a.o.jC _).trans e)⟩)|(go_at_call 226;with_reducible refine(lu I (.slice q b.stack.length r) b.stack (u.o.ext jZ.stays (a.o.jC _))).mono ?_;rintro f d ⟨rfl,e⟩;rw[n.o];exact⟨rfl,a.o.o d ((a.o.jC _).trans e)⟩)))));refine TP ?_;(rintro _ ⟨h,rfl⟩);rotate_left
        . exact jA
        go_wp2;go_ret;exact⟨hV (x.o (v.o.trans rfl)).symm,(s.o.trans j.o).trans (a.o.jC h)⟩
      cases q6
      . go_wp2_with fail;refine zJ a ?_ ?_;rotate_left;(repeat (go_big_quiet_step ((first|(go_at_call 76;refine(rD).mono ?_;rintro f d ⟨rfl,rfl⟩;rw[l.o];exact⟨rfl,a.o.o _ (a.o.jC _)⟩)|(go_at_call 226;with_reducible refine(lu I (.slice o b.locals.length p) b.locals (t.o.ext jZ.stays (a.o.jC _))).mono ?_;rintro f d ⟨rfl,e⟩;rw[m.o];exact⟨rfl,a.o.o d ((a.o.jC _).trans e)⟩)|(go_at_call 226;with_reducible refine(lu I (.slice q b.stack.length r) b.stack (u.o.ext jZ.stays (a.o.jC _))).mono ?_;rintro f d ⟨rfl,e⟩;rw[n.o];exact⟨rfl,a.o.o d ((a.o.jC _).trans e)⟩)))));refine TP ?_;(rintro _ ⟨h,rfl⟩);rotate_left
        . exact jA
        go_wp2;go_ret;exact⟨hV (x.o (v.o.trans rfl)).symm,(s.o.trans j.o).trans (a.o.jC h)⟩
      go_wp2_with fail;refine zJ a ?_ ?_;rotate_left;(repeat (go_big_quiet_step ((first|(go_at_call 76;refine(rD).mono ?_;rintro f d ⟨rfl,rfl⟩;rw[l.o];exact⟨rfl,a.o.o _ (a.o.jC _)⟩)|(go_at_call 226;with_reducible refine(lu I (.slice o b.locals.length p) b.locals (t.o.ext jZ.stays (a.o.jC _))).mono ?_;rintro f d ⟨rfl,e⟩;rw[m.o];exact⟨rfl,a.o.o d ((a.o.jC _).trans e)⟩)|(go_at_call 226;with_reducible refine(lu I (.slice q b.stack.length r) b.stack (u.o.ext jZ.stays (a.o.jC _))).mono ?_;rintro f d ⟨rfl,e⟩;rw[n.o];exact⟨rfl,a.o.o d ((a.o.jC _).trans e)⟩)))));refine TP ?_;(rintro _ ⟨h,rfl⟩);rotate_left
      . exact jA
      go_wp2;go_round
      case rel=>exact⟨g+1,by omega,by go_num,j.o.trans (a.o.jC h),Zy (v.o.trans rfl)⟩
      case measure=>simp[intOf];omega
    . have aB:decide ((0:Int)<(g:Int))=false:=SS Zm;obtain rfl:q2=false:=by rcases H.o with B|⟨i,k,B,-⟩<;>first|exact B.2|omega
      clear H;cases q3;rotate_left
      . go_wp2_with fail;refine zJ a ?_ ?_;rotate_left;(repeat (go_big_quiet_step ((first|(go_at_call 76;refine(rD).mono ?_;rintro f d ⟨rfl,rfl⟩;rw[l.o];exact⟨rfl,a.o.o _ (a.o.jC _)⟩)|(go_at_call 226;with_reducible refine(lu I (.slice o b.locals.length p) b.locals (t.o.ext jZ.stays (a.o.jC _))).mono ?_;rintro f d ⟨rfl,e⟩;rw[m.o];exact⟨rfl,a.o.o d ((a.o.jC _).trans e)⟩)|(go_at_call 226;with_reducible refine(lu I (.slice q b.stack.length r) b.stack (u.o.ext jZ.stays (a.o.jC _))).mono ?_;rintro f d ⟨rfl,e⟩;rw[n.o];exact⟨rfl,a.o.o d ((a.o.jC _).trans e)⟩)))));refine TP ?_;(rintro _ ⟨h,rfl⟩);rotate_left
        . exact jA
        go_wp2;go_ret;exact⟨hV (x.o (v.o.trans rfl)).symm,(s.o.trans j.o).trans (a.o.jC h)⟩
      cases q4;rotate_left
      . go_wp2_with fail;refine zJ a ?_ ?_;rotate_left;(repeat (go_big_quiet_step ((first|(go_at_call 76;refine(rD).mono ?_;rintro f d ⟨rfl,rfl⟩;rw[l.o];exact⟨rfl,a.o.o _ (a.o.jC _)⟩)|(go_at_call 226;with_reducible refine(lu I (.slice o b.locals.length p) b.locals (t.o.ext jZ.stays (a.o.jC _))).mono ?_;rintro f d ⟨rfl,e⟩;rw[m.o];exact⟨rfl,a.o.o d ((a.o.jC _).trans e)⟩)|(go_at_call 226;with_reducible refine(lu I (.slice q b.stack.length r) b.stack (u.o.ext jZ.stays (a.o.jC _))).mono ?_;rintro f d ⟨rfl,e⟩;rw[n.o];exact⟨rfl,a.o.o d ((a.o.jC _).trans e)⟩)))));refine TP ?_;(rintro _ ⟨h,rfl⟩);rotate_left
        . exact jA
        go_wp2;go_ret;exact⟨hV (x.o (v.o.trans rfl)).symm,(s.o.trans j.o).trans (a.o.jC h)⟩
      cases q5
      . go_wp2_with fail;refine zJ a ?_ ?_;rotate_left;(repeat (go_big_quiet_step ((first|(go_at_call 76;refine(rD).mono ?_;rintro f d ⟨rfl,rfl⟩;rw[l.o];exact⟨rfl,a.o.o _ (a.o.jC _)⟩)|(go_at_call 226;with_reducible refine(lu I (.slice o b.locals.length p) b.locals (t.o.ext jZ.stays (a.o.jC _))).mono ?_;rintro f d ⟨rfl,e⟩;rw[m.o];exact⟨rfl,a.o.o d ((a.o.jC _).trans e)⟩)|(go_at_call 226;with_reducible refine(lu I (.slice q b.stack.length r) b.stack (u.o.ext jZ.stays (a.o.jC _))).mono ?_;rintro f d ⟨rfl,e⟩;rw[n.o];exact⟨rfl,a.o.o d ((a.o.jC _).trans e)⟩)))));refine TP ?_;(rintro _ ⟨h,rfl⟩);rotate_left
        . exact jA
        go_wp2;go_ret;exact⟨hV (x.o (v.o.trans rfl)).symm,(s.o.trans j.o).trans (a.o.jC h)⟩
      cases q6
      . go_wp2_with fail;refine zJ a ?_ ?_;rotate_left;(repeat (go_big_quiet_step ((first|(go_at_call 76;refine(rD).mono ?_;rintro f d ⟨rfl,rfl⟩;rw[l.o];exact⟨rfl,a.o.o _ (a.o.jC _)⟩)|(go_at_call 226;with_reducible refine(lu I (.slice o b.locals.length p) b.locals (t.o.ext jZ.stays (a.o.jC _))).mono ?_;rintro f d ⟨rfl,e⟩;rw[m.o];exact⟨rfl,a.o.o d ((a.o.jC _).trans e)⟩)|(go_at_call 226;with_reducible refine(lu I (.slice q b.stack.length r) b.stack (u.o.ext jZ.stays (a.o.jC _))).mono ?_;rintro f d ⟨rfl,e⟩;rw[n.o];exact⟨rfl,a.o.o d ((a.o.jC _).trans e)⟩)))));refine TP ?_;(rintro _ ⟨h,rfl⟩);rotate_left
        . exact jA
        go_wp2;go_ret;exact⟨hV (x.o (v.o.trans rfl)).symm,(s.o.trans j.o).trans (a.o.jC h)⟩
      go_wp2_with fail;refine zJ a ?_ ?_;rotate_left;(repeat (go_big_quiet_step ((first|(go_at_call 76;refine(rD).mono ?_;rintro f d ⟨rfl,rfl⟩;rw[l.o];exact⟨rfl,a.o.o _ (a.o.jC _)⟩)|(go_at_call 226;with_reducible refine(lu I (.slice o b.locals.length p) b.locals (t.o.ext jZ.stays (a.o.jC _))).mono ?_;rintro f d ⟨rfl,e⟩;rw[m.o];exact⟨rfl,a.o.o d ((a.o.jC _).trans e)⟩)|(go_at_call 226;with_reducible refine(lu I (.slice q b.stack.length r) b.stack (u.o.ext jZ.stays (a.o.jC _))).mono ?_;rintro f d ⟨rfl,e⟩;rw[n.o];exact⟨rfl,a.o.o d ((a.o.jC _).trans e)⟩)))));refine TP ?_;(rintro _ ⟨h,rfl⟩);rotate_left
      . exact jA
      go_wp2;go_round
      case rel=>exact⟨g+1,by omega,by go_num,j.o.trans (a.o.jC h),Zy (v.o.trans rfl)⟩
      case measure=>simp[intOf];omega
  . have dk:¬(g:Int)<c.maps.length:=by omega
    clear D;go_wp2;go_ret;exact⟨hV (by have:=N.o;rw[Tq Zm]at this;rw[X.o,this]),s.o.trans W.o⟩
theorem hQ.EJ{g:Nat}{t:TypeId}{cs:Array Value}(b:jq w g t cs)(l:List Value)(a:cs.toList=l):hQ w g 0 l:=by
 intro d e c;subst a;rw[Tk];exact b.c d e (by simpa using c)
theorem Po(m:M.Method):nR m=(jL m.name&&decide (m.args.length<=3)&&mg m.ret&&m.args.all mg&& decide ((m.args.length:Int)+1<=m.locals)&&decide (m.locals<=6)&&decide (1<=m.stack)&&decide (m.stack<=5)&&codeOk m&&sw m):=rfl
theorem RF{I:Nat->Prop}{cs:List Value}(o:jy w I m cs):Calls prog 139 #[.agg cs.toArray] w fun a V=>a=.returned (.bool (nR m))/\Ext w V:=by
 have S:=Zy o;obtain⟨va,D,E,rfl,L,h2,h3⟩:=o;obtain⟨z,A,rfl,hn,ae⟩:=L.form;have N:Ext w (w.alloc (.cells #[m.name,.slice z m.args.length A,m.ret.kind,m.ret.name,m.locals,m.stack,D,E] 113)):=(jJ _);have K:=jq.new w 113 #[m.name,.slice z m.args.length A,m.ret.kind,m.ret.name,m.locals,m.stack,D,E];have J:=Zy (hQ.EJ K _ rfl);clear K;have b:=Zy (Po m);cases t:jL m.name
 . have d:=Zy t;clear t;go_enter func139,ntmps139;go_wp2_with (go_at_call 17;refine(og _ _).mono ?_;rintro a q ⟨rfl,rfl⟩;rw[d.o]);go_ret;exact⟨hV (by rw[b.o,d.o];rfl),kx⟩
 have d:=Zy t;clear t;by_cases hl:3<m.args.length
 . go_enter func139,ntmps139;go_wp2_with (go_at_call 17;refine(og _ _).mono ?_;rintro a q ⟨rfl,rfl⟩;rw[d.o]);go_ret;exact⟨hV (by rw[b.o,SS (p:=m.args.length<=3) Zm];simp),kx⟩
 cases u:mg m.ret
 . have r:=Zy u;clear u;go_enter func139,ntmps139;go_wp2_with (first|(go_at_call 17;refine(og _ _).mono ?_;rintro a q ⟨rfl,rfl⟩;rw[d.o])|(go_at_call 138;refine(BK m.ret).mono ?_;rintro a q ⟨rfl,c⟩;rw[r.o]));go_ret;exact⟨hV (by rw[b.o,r.o];simp),Zv⟩
 have r:=Zy u;clear u;go_enter func139,ntmps139;go_wp2_with fail;refine(og _ _).mono ?_;rintro a q ⟨rfl,rfl⟩;rw[d.o];go_wp2_with fail;refine(BK m.ret).mono ?_;rintro a q ⟨rfl,c⟩;rw[r.o];generalize (w.alloc (.cells #[m.name,.slice z m.args.length A,m.ret.kind,m.ret.name,m.locals,m.stack,D,E] 113))=w0 at*;have y:=Zy (J.ext c);have O:=N.trans c;clear N c J;obtain⟨v,g,h,i,j,k,l,n⟩:=y.eight;simp only[Tk]at g h i j k l n;go_wp2;clear v g h i j k l n;go_loopw [24] (fun C wr=>∃p:Nat,p<=m.args.length/\C=.int .i64 p/\Ext q wr/\Zz ((m.args.take p).all mg=true)) (fun C _=>m.args.length - (intOf C).toNat)
 case atStart=>exact⟨0,Tz _,rfl,Kp.rr,Zy Zl⟩
 case round=>
  obtain⟨p,hk,rfl,s,x⟩:=hrel;by_cases U:p<m.args.length
  . obtain⟨Q,B⟩:=get_some U;obtain⟨X,af,cs,rfl,hI,rfl,-,P⟩:=L.get B;obtain⟨Y,Z⟩:=((P.ext O).ext s).two;have H:=Zy B;clear B P;cases f:mg Q
    all_goals
     have e:=Zy f;clear f;go_wp2_with (go_at_call 138;refine(BK Q).mono ?_;rintro a W ⟨rfl,c⟩;rw[e.o])
    . go_ret;exact⟨hV (by rw[b.o,sj H.o e.o];simp),Zv⟩
    . go_roundw
      case rel=>exact⟨p+1,Zm,Zk,Zv,Zy (all_succ x.o H.o e.o)⟩
      case measure=>exact Zj
  . have R:=Zy (qG x Zm);clear x;obtain⟨v,g,h,i,j,k,l,n⟩:=(y.ext s).eight;simp only[Tk]at g h i j k l n;by_cases t1:m.locals<(m.args.length:Int)+1
    . go_wp2;go_ret;exact⟨hV (by rw[b.o,SS (p:=(m.args.length:Int)+1<=m.locals) Zm];simp),Zv⟩
    by_cases t2:6<m.locals
    . go_wp2;go_ret;exact⟨hV (by rw[b.o,SS (p:=m.locals<=6) Zm];simp),Zv⟩
    by_cases t3:m.stack<1
    . go_wp2;go_ret;exact⟨hV (by rw[b.o,SS (p:=1<=m.stack) Zm];simp),Zv⟩
    by_cases t4:5<m.stack
    . go_wp2;go_ret;exact⟨hV (by rw[b.o,SS (p:=m.stack<=5) Zm];simp),Zv⟩
    have F:Zz (nR m=(codeOk m&&sw m)):=Zy (by
     rw[b.o,d.o,r.o,R.o,Tw (p:=m.args.length<=3) Zm,Tw (p:=(m.args.length:Int)+1<=m.locals) Zm,Tw (p:=m.locals<=6) Zm,Tw (p:=1<=m.stack) Zm,Tw (p:=m.stack<=5) Zm];rfl)
    have T:=O.trans s;have G:=Zy (jy.stays _ _ _ _ _ _ (Ext.same T) (fun _ o=>o) S);go_wp2_with fail;refine(Qf G).mono ?_;rintro a W ⟨rfl,c⟩;cases f:codeOk m
    . have e:=Zy f;clear f;go_wp2;go_ret;exact⟨hV (by rw[F.o,e.o];rfl),Zv⟩
    . have e:=Zy f;clear f;clear v g h i j k l n;obtain⟨v,g,h,i,j,k,l,n⟩:=((y.ext s).ext c).eight;simp only[Tk]at g h i j k l n;go_wp2_with fail;refine(Qz (jy.stays _ _ _ _ _ _ (Ext.same c) (fun _ o=>o) G)).mono ?_;rintro a w3 ⟨rfl,aa⟩;go_wp2;go_ret;exact⟨hV (by rw[F.o,e.o];rfl),Zv⟩
theorem Ei{name:α->ByteArray}{ok:α->Bool}{l:List α}{x:α}(a:l[k]?=some x):jU name ok (l.drop k) ((l.take k).map name)=(ok x&& !(((l.take k).map name).any fun b=>decide (b=name x))&&jU name ok (l.drop (k+1)) ((l.take (k+1)).map name)):=by
 rw[drop_at a,Td,a,Ux];rfl
theorem Jc{name:α->ByteArray}{l:List α}{j: Nat}{x y:α}(c:l[j]?=some y)(b:j<k)(a:name y=name x):(((l.take k).map name).any fun y=>decide (y=name x))=true:=by
 rw[VC];refine⟨name y,V5.2 ⟨y,?_,rfl⟩,by simp[a]⟩;exact Tx (i:=j) (by rw[Ub,Ty b,c])
theorem Gt{name:α->ByteArray}{l:List α}{x:α}(d:∀c a,l[c]?=some a->c<k->name a≠name x):(((l.take k).map name).any fun a=>decide (a=name x))=false:=by
 rw[Vl];intro h g;obtain⟨a,f,rfl⟩:=V5.1 g;obtain⟨c,b⟩:=VY.1 f;rw[Ub]at b;split at b
 . rename_i e;simpa using d c a b e
 . cases b
theorem Ol(c:Class):o9 c=(jL c.name&&(decide (c.jE=none_)|| jL c.jE)&&decide (c.fields.length<=3)&&decide (c.methods.length<=4)&&
 jU M.Field.name (fun a=>jL a.name&&mg a.kind) c.fields []&&jU M.Method.name nR c.methods []):=rfl
def DK(c:Class)(k:Nat):Bool:=jU M.Field.name (fun f=>jL f.name&&mg f.kind) (c.fields.drop k) ((c.fields.take k).map M.Field.name)
def Cr(c:Class)(k:Nat):Bool:=jU M.Method.name nR (c.methods.drop k) ((c.methods.take k).map M.Method.name)
theorem Mg(a:c.fields.length<=k):DK c k=true:=by
 unfold DK;rw[U6 a];rfl
theorem Mh(a:c.methods.length<=k):Cr c k=true:=by
 unfold Cr;rw[U6 a];rfl
theorem J9{x:M.Field}(a:c.fields[k]?=some x):DK c k=((jL x.name&&mg x.kind)&& !(((c.fields.take k).map M.Field.name).any fun b=>decide (b=x.name))&&DK c (k+1)):=Ei a
theorem Kb(a:c.methods[k]?=some x):Cr c k=(nR x&& !(((c.methods.take k).map M.Method.name).any fun b=>decide (b=x.name))&&Cr c (k+1)):=Ei a
theorem BC(w:World)(I:Nat->Prop)(cs:List Value)(c:Class)(g:jT w I c cs):Calls prog 91 #[.agg cs.toArray] w fun i w'=>i=.returned (.bool (o9 c))/\Ext w w':=by
 obtain⟨vf,vm,rfl,h1,h2⟩:=g;obtain⟨J,L,rfl,hn,aW⟩:=h1.form;obtain⟨K,N,rfl,aY,aX⟩:=h2.form;have T:Ext w (w.alloc (.cells #[c.name,c.jE,.slice J c.fields.length L,.slice K c.methods.length N] 38)):=(jJ _);have b0:=jq.new w 38 #[c.name,c.jE,.slice J c.fields.length L,.slice K c.methods.length N];have H:=Zy (hQ.EJ b0 _ rfl);clear b0;have Y:=Zy (Ol c);cases af:jL c.name
 . have x:=Zy af;clear af;go_enter func91,ntmps91;go_wp2_with (go_at_call 17;refine(og _ _).mono ?_;rintro i f ⟨rfl,rfl⟩;rw[x.o]);go_ret;exact⟨hV (by rw[Y.o,x.o];rfl),kx⟩
 have x:=Zy af;clear af;by_cases y:(decide (c.jE=none_)|| jL c.jE)=true
 case neg=>
  have aj:(decide (c.jE=none_))=false:=by
   cases hd:decide (c.jE=none_)
   . rfl
   . rw[hd]at y;exact absurd rfl y
  have t:jL c.jE=false:=by
   cases hd:jL c.jE
   . rfl
   . rw[hd]at y;simp at y
  have hs:=(l7 c.jE).trans aj;have aF:=Zy aj;have C:=Zy t;clear aj t y;go_enter func91,ntmps91;go_wp2_with fail;refine(og _ _).mono ?_;rintro i f ⟨rfl,rfl⟩;rw[x.o];go_wp2_with fail;refine(og _ _).mono ?_;rintro i f ⟨rfl,rfl⟩;rw[C.o];go_wp2;go_ret;exact⟨hV (by rw[Y.o,aF.o,C.o];simp),kx⟩
 have ah:=Zy y;clear y;by_cases Z:3<c.fields.length\/4<c.methods.length
 . have r:Zz (o9 c=false):=Zy (by
    rw[Y.o];rcases Z with g|g
    . rw[SS (p:=c.fields.length<=3) Zm];simp
    . rw[SS (p:=c.methods.length<=4) Zm];simp)
   have aD:=Zy Z;clear Z;go_enter func91,ntmps91;go_upto_region 1 with(fail);go_cut [25] (fun aA wx=>aA=.bool false/\wx=w.alloc (.cells #[c.name,c.jE,.slice J c.fields.length L,.slice K c.methods.length N] 38))
   case first=>
    go_wp2_with fail;refine(og _ _).mono ?_;rintro i f ⟨rfl,rfl⟩;rw[x.o];cases hs:c.jE.toList.isEmpty
    . have t:jL c.jE=true:=by
       have:=ah.o;rw[<-l7,hs]at this;exact this
      have C:=Zy t;clear t;go_wp2_with fail;refine(og _ _).mono ?_;rintro i f ⟨rfl,rfl⟩;rw[C.o];go_wp2;go_meet;exact⟨rfl,rfl⟩
    . go_wp2;go_meet;exact⟨rfl,rfl⟩
   case rest=>
    obtain⟨rfl,rfl⟩:=hcut;rcases aD.o with g|g
    . go_wp2;go_ret;exact⟨hV r.symm,kx⟩
    . by_cases h':3<c.fields.length
      all_goals
       go_wp2;go_ret;exact⟨hV r.symm,kx⟩
 have aL:c.fields.length<=3:=Zm
 have aM:c.methods.length<=4:=Zm
 clear Z;have r:Zz (o9 c=(DK c 0&&Cr c 0)):=Zy (by
  rw[Y.o,x.o,ah.o,Tw aL,Tw aM];rfl)
 go_enter func91,ntmps91;go_upto_region 1 with(fail);go_cut [25] (fun aA wx=>aA=.bool false/\wx=w.alloc (.cells #[c.name,c.jE,.slice J c.fields.length L,.slice K c.methods.length N] 38))
 case first=>
  go_wp2_with fail;refine(og _ _).mono ?_;rintro i f ⟨rfl,rfl⟩;rw[x.o];cases hs:c.jE.toList.isEmpty
  . have t:jL c.jE=true:=by
     have:=ah.o;rw[<-l7,hs]at this;exact this
    have C:=Zy t;clear t;go_wp2_with fail;refine(og _ _).mono ?_;rintro i f ⟨rfl,rfl⟩;rw[C.o];go_wp2;go_meet;exact⟨rfl,rfl⟩
  . go_wp2;go_meet;exact⟨rfl,rfl⟩
 case rest=>
  obtain⟨rfl,az⟩:=hcut;rw[<-az]at T;rw[<-az]at H;subst az;generalize aN:(w.alloc (.cells #[c.name,c.jE,.slice J c.fields.length L,.slice K c.methods.length N] 38))=w0 at*;clear aN;obtain⟨u,q,l,m⟩:=H.four;simp only[Tk]at q l m;go_wp2;clear u q l m;go_loopw [39] (fun B wr=>∃e:Nat,e<=c.fields.length/\B=.int .i64 e/\Ext w0 wr/\Zz (DK c 0=DK c e)) (fun B _=>c.fields.length - (intOf B).toNat)
  case atStart=>exact⟨0,Tz _,rfl,Kp.rr,Zy rfl⟩
  case round=>
   obtain⟨e,hk,rfl,n,j⟩:=hrel;obtain⟨u,q,l,m⟩:=(H.ext n).four;simp only[Tk]at q l m;have hz:=jv u;by_cases aa:e<c.fields.length
   . obtain ⟨d, p⟩ := get_some aa; obtain ⟨aH, aO, cs, rfl, hI, rfl,-, V⟩ := h1.get p; have ⟨G, HX, s⟩ := jI ((V.ext T).ext n) p (J9 p); clear p V; obtain ⟨P, Q, R⟩ := G.three; cases ae : jL d.name
     . have D:=Zy ae;clear ae;go_wp2_with (go_at_call 17;refine(og _ _).mono ?_;rintro i f ⟨rfl,rfl⟩;rw[D.o]);go_ret;exact⟨hV (by rw[r.o,j.o,s.o,D.o];simp),Zv⟩
     have D:=Zy ae;clear ae;have B1:=jq.new wr 154 #[d.name,d.kind.kind,d.kind.name];go_wp2_with fail;refine(og _ _).mono ?_;rintro i f ⟨rfl,rfl⟩;rw[D.o];go_wp2_with fail;refine(BK d.kind).mono ?_;rintro i f ⟨rfl,S⟩;cases o:mg d.kind
     . have v:=Zy o;clear o;go_wp2;go_ret;exact⟨hV (by rw[r.o,j.o,s.o,v.o];simp),Zv⟩
     have v:=Zy o;clear o;have r2:=S.LY l;have O:=(B1.ext S).c 0 _ rfl;have ak:Ext w0 f:=Zv;have aK:=jv O;clear P Q R u q l m;go_wp2;clear r2;obtain⟨X,rfl⟩:∃X:World,X=wr:=⟨_,rfl⟩;go_loopw [59] (fun a wi=>∃b:Nat,b<=e/\a=.int .i64 b/\Ext f wi/\Zz (∀a k,c.fields[a]?=some k->a<b->M.Field.name k≠M.Field.name d)) (fun a _=>e - (intOf a).toNat)
     case atStart=>exact⟨0,Tz _,rfl,Kp.rr,Zy (fun a k _ g=>absurd g (Wd _))⟩
     case round=>
      obtain⟨b,hq,rfl,U,E⟩:=hrel;have e0:=U.jm O;have aJ:=jv e0;by_cases ay:b<e
      . obtain⟨k,z⟩:=get_some (show b<c.fields.length by omega);obtain⟨b',aP,aI,av,-,rfl,-,W⟩:=h1.get z;cases av;obtain⟨P,Q,R⟩:=(((W.ext T).ext ak).ext U).three;have F:=Zy z;clear z W;cases h:(k.name.toList==d.name.toList)
        . have ag:=Zy h;go_wp2;go_roundw
          case rel=>
           refine⟨b+1,Zm,Zk,kx,Zy (fun a aB A hj=>?_)⟩;by_cases ax:a<b
           . exact E a aB A ax
           . obtain rfl:a=b:=Zm
             rw[F.o]at A;cases A;rw[oP]at h;simpa using h
          case measure=>exact Zj
        . have ag:=Zy h;go_wp2;go_ret;rw[oP]at h;exact⟨hV (by rw[r.o,j.o,s.o,Jc F.o ay (by simpa using h)];simp),Zv⟩
      . obtain rfl:b=e:=Zm
        go_wp2;go_roundw
        case rel=>exact⟨b+1,Zm,Zk,Zv,Zy (by rw[j.o,s.o,D.o,v.o,Gt E.o];rfl)⟩
        case measure=>exact Zj
   . have HM:Zz (o9 c=Cr c 0):=Zy (by rw[r.o,j.o,Mg Zm];rfl);clear j r;go_wp2;clear u q l m;have au:=T.trans n;have P2:=Zy (H.ext n);clear H n T hz;obtain⟨wl,rfl⟩:∃wl:World,wl=wr:=⟨_,rfl⟩;go_loopw [73] (fun B wr=>∃e:Nat,e<=c.methods.length/\B=.int .i64 e/\Ext wl wr/\Zz (Cr c 0=Cr c e)) (fun B _=>c.methods.length - (intOf B).toNat)
     case atStart=>exact⟨0,Tz _,rfl,Kp.rr,Zy rfl⟩
     case round=>
      clear aa hk;obtain⟨e,hk,rfl,n,j⟩:=hrel;obtain⟨u,q,l,m⟩:=(P2.ext n).four;simp only[Tk]at q l m;have hz:=jv u;by_cases aa:e<c.methods.length
      . obtain ⟨d, p⟩ := get_some aa; obtain ⟨aH, aO, cs, rfl, hI, ai,-, V⟩ := h2.get p; obtain ⟨aQ, aT, aR, aU, aS, aV, rfl⟩ := ai.form; have ⟨aG, G, HX, s⟩ := kD (jy.stays _ _ _ _ _ _ (Ext.same (au.trans n)) (fun _ g => g) ai) ((V.ext au).ext n) p (Kb p); clear p V ai; obtain ⟨P, Q, R, g3, g4, g5, g6, g7⟩ := G.eight; have B1 := jq.new wr 113 #[d.name, .slice aQ d.args.length aT, d.ret.kind, d.ret.name, d.locals, d.stack, .slice aR d.code.length aU, .slice aS d.maps.length aV]; go_wp2_with fail; refine (RF (jy.stays _ _ _ _ _ _ (Ext.same (jJ _)) (fun _ g => g) aG)).mono ?_; rintro i f ⟨rfl, S⟩; cases o : nR d
        . have v:=Zy o;clear o;go_wp2;go_ret;exact⟨hV (by rw[HM.o,j.o,s.o,v.o];simp),Zv⟩
        have v:=Zy o;clear o;have r3:=S.LY m;have O:=(B1.ext S).c 0 _ rfl;have ak:Ext wl f:=Zv;have aK:=jv O;clear P Q R g3 g4 g5 g6 g7 u q l m;go_wp2;clear r3;obtain⟨X,rfl⟩:∃X:World,X=wr:=⟨_,rfl⟩;go_loopw [86] (fun a wi=>∃b:Nat,b<=e/\a=.int .i64 b/\Ext f wi/\Zz (∀a k,c.methods[a]?=some k->a<b->M.Method.name k≠M.Method.name d)) (fun a _=>e - (intOf a).toNat)
        case atStart=>exact⟨0,Tz _,rfl,Kp.rr,Zy (fun a k _ g=>absurd g (Wd _))⟩
        case round=>
         obtain⟨b,hq,rfl,U,E⟩:=hrel;have e0:=U.jm O;have aJ:=jv e0;by_cases ay:b<e
         . obtain⟨k,z⟩:=get_some (show b<c.methods.length by omega);obtain⟨b',aP,aI,av,-,aC,-,W⟩:=h2.get z;obtain⟨aZ,bn,bf,bq,bg,bu,rfl⟩:=aC.form;cases av;clear aC;obtain⟨P,Q,R,g3,g4,g5,g6,g7⟩:=(((W.ext au).ext ak).ext U).eight;have F:=Zy z;clear z W;cases h:(k.name.toList==d.name.toList)
           . have ag:=Zy h;go_wp2;go_roundw
             case rel=>
              refine⟨b+1,Zm,Zk,kx,Zy (fun a aB A hj=>?_)⟩;by_cases ax:a<b
              . exact E a aB A ax
              . obtain rfl:a=b:=Zm
                rw[F.o]at A;cases A;rw[oP]at h;simpa using h
             case measure=>exact Zj
           . have ag:=Zy h;go_wp2;go_ret;rw[oP]at h;exact⟨hV (by rw[HM.o,j.o,s.o,Jc F.o ay (by simpa using h)];simp),Zv⟩
         . obtain rfl:b=e:=Zm
           go_wp2;go_roundw
           case rel=>exact⟨b+1,Zm,Zk,Zv,Zy (by rw[j.o,s.o,v.o,Gt E.o];rfl)⟩
           case measure=>exact Zj
      . go_wp2;go_ret;exact⟨hV (by rw[HM.o,j.o,Mh Zm]),Zv⟩
theorem tY(b:jD w l p)(k:Int):Calls prog 19 #[some l.L,k] w fun f h=>f=.returned (.bool (has p k))/\w=h:=by
 obtain⟨i,j,g,a,c,d,e⟩:=b.cells;have m:=a w (Kp.refl _ w);clear g b a c d e;go_enter func19,ntmps19;go_wp2
 . go_ret;exact⟨hV (by unfold has;rw[Tw (p:=0<=k) Zm];rfl),rfl⟩
 . go_ret;exact⟨hV (by unfold has;rw[SS (p:=0<=k) Zm];rfl),rfl⟩
def lenOf:Value->Nat| .slice _ n _=>n|_=>0
structure RY(p:jl)(n:ByteArray)(k:Int)(f:Nat)(asked:List Int)(cur:Int):Prop where
 fuel:f+asked.length=5
 one:1<=asked.length
 nodup:asked.Nodup
 has:∀q∈asked,M.has p q=true
 last:asked.getLastD 0=cur
 eq:path p k n=pK p n f asked cur
theorem KI (f : jD w l p){k: Int}{n: ByteArray} :Calls prog 140 #[some l.L,k,n] w fun d K=>(∃V,d=.returned (.tuple #[V,.int .i64 (path p k n).2])/\SliceOf 1 qx K (fun z=>w<=z) V (path p k n).1)/\Ext w K:=by
 cases B:has p k
 . have m:=Zy B;clear B;have t:=Zy f;clear f;go_enter func140,ntmps140;go_wp2_with (go_at_call 19;refine(tY t _).mono ?_;rintro d w1 ⟨rfl,rfl⟩;rw[m.o]);go_ret2;refine⟨⟨(),?_,?_⟩,Kp.rr⟩
   . unfold path;rw[m.o];rfl
   . unfold path;rw[m.o];exact SliceOf.nil _ _ _ _
 . have m:=Zy B;clear B;obtain⟨Y,ak,hs,Z,c1,c2,c3⟩:=f.cells;have U:=f.Ho;have T:=f.Hn;have t:=Zy f;clear f hs;go_enter func140,ntmps140;go_wp2_with (go_at_call 19;refine(tY t _).mono ?_;rintro d w1 ⟨rfl,rfl⟩;rw[m.o]);have ae:Ext w (w.alloc (.cells #[k] 3)):=(jJ _);go_loopw [1,8] (fun O J wr=>∃i h a,O=.int .i64 h/\wr.ownsRow w 3 1 J a.length (a.map fun b=>Value.int .i64 b)/\Ext w wr/\RY p n k i a h) (fun O J wr=>5 - (lenOf J))
   case atStart=>
    refine⟨4,k,[k],rfl,?_,ae,⟨rfl,Zl,Zl,by simp[m.o],rfl,?_⟩⟩
    . exact VV (size:=1) w #[k] 1 (Tu _) (by unfold maxLen;omega) rfl
    . unfold path;rw[Ty m.o]
   case round=>
    obtain⟨i,h,a,rfl,G,g,x⟩:=hrel;obtain⟨aa,cp,rfl,hg,aA,ax⟩:=ky G x.one;have d1:=c1 wr g;have d2:=c2 wr g;have D:=U wr g h n;have C:=T wr g h n;have⟨e,E⟩:=jw x G;have ag:a.length<=5:=Te x.fuel
    clear x G Z c1 c2 c3 U T;have ay:0<i:=by
     have h1:=e.fuel;have h2:=Na e.nodup e.has;have h3:=(wN t.ok).2;omega
    obtain⟨i,rfl⟩:∃f',i=f'+1:=⟨i - 1,Zm⟩;cases c:ve p h n with
    | none =>
     rw[c]at C;simp only[Vv,Ua]at C;have y:=Zy c;clear c;have v:path p k n=if owned p ⟨h,n⟩then(a,1)else([],2):=by
      rw[e.o.eq];unfold pK;rw[y.o]
     have u:=Zy v;clear v;rw[Jz]at D;cases r:owned p ⟨h,n⟩
     . rw[r]at D;have F:=Zy r;clear r;go_wp2;go_ret2;have d:path p k n=([],2):=by rw[u.o,F.o];rfl
       rw[d];exact⟨⟨(),rfl,SliceOf.nil _ _ _ _⟩,g⟩
     . rw[r]at D;have F:=Zy r;clear r;go_wp2;go_ret2;have d:path p k n=(a,1):=by rw[u.o,F.o];rfl
       rw[d];exact⟨⟨_,rfl,SliceOf.mD (fun b=>[Value.int .i64 b]) E rfl (Jq) (fun _ _=>rfl) (fun _ _=>rfl) (fun z o _=>o) (TV ag Zm)⟩,g⟩
    | some next =>
     rw[c]at C;simp only[TC,Ul]at C;have y:=Zy c;clear c D;have v:path p k n=if a.contains next then([],3)else pK p n i (a++[next]) next:=by
      rw[e.o.eq];conv=>lhs;unfold pK
      rw[y.o]
     have u:=Zy v;clear v;go_wp2;go_loop [36] (fun I=>∃b:Nat,b<=a.length/\I=.int .i64 b/\Zz (∀j s,a[j]?=some s->j<b->s≠next)) (fun I=>a.length - (intOf I).toNat)
     case atStart=>exact⟨0,Tz _,rfl,Zy (fun _ _ _ f=>absurd f (Wd _))⟩
     case round=>
      obtain⟨b,c,rfl,L⟩:=hrel;by_cases ah:b<a.length
      . obtain⟨s,H⟩:=get_some ah;have av:wr.cell? (aa,b)=some (.int .i64 s):=by
         rw[E.o.cellAt b Zm];simp[H]
        have N:=Zy H;clear H;by_cases S:s=next
        . subst S;go_wp2;go_ret2;have A:a.contains s=true:=by simp[Tx N.o]
          have d:path p k n=([],3):=by rw[u.o,Ty A]
          rw[d];exact⟨⟨(),rfl,SliceOf.nil _ _ _ _⟩,g⟩
        . go_wp2;go_round
          case rel=>
           refine⟨b+1,Zm,Zk,Zy (fun j aj q aC=>?_)⟩;by_cases af:j<b
           . exact L j aj q af
           . obtain rfl:j=b:=Zm
             rw[N.o]at q;cases q;exact S
          case measure=>exact Zj
      . go_wp2_with (at_builtin;refine tJ D7 _ rfl _ _ rfl w _ _ _ rfl (E.alloc _) wr 1 [next] rfl rfl ?c1 ?c2 ?c3 ?c4 ?_)
        case c1=>exact hQ.EJ (jq.new _ _ _) _ rfl
        case c2=>simp[Value.oneCell']
        case c3=>omega
        case c4=>have:=g.size;simp;omega
        obtain rfl:b=a.length:=Zm
        intro v' K R P g1 au ai az aB;subst ai;have X:=Zy R;have W:=Zy P;clear R P;go_wp2;go_roundw
        case rel=>
         refine⟨i,next,a++[next],rfl,by simpa using X.o,?_,?_⟩
         . refine(g.alloc _).own W ?_;intro z o;simp only[Value.ownBlock,TQ]at o;omega
         . have A:a.contains next=false:=by
            cases Q:a.contains next
            . rfl
            . rw[Vr]at Q;obtain⟨j,q⟩:=VY.1 Q;exact absurd rfl (L.o j next q (Tt.1 q).1)
           refine⟨by have:=e.fuel;simp;omega,Zl,?_,?_,Zl,by rw[u.o,A];rfl⟩
           . rw[Wq];refine⟨e.nodup,Zl,fun Y ha z o d=>?_⟩;simp only[U4]at o;subst o d;have:=Vr.2 ha;rw[A]at this;cases this
           . intro b c;rcases TU.1 c with c|c
             . exact e.has b c
             . rw[U4]at c;subst c;exact El t.ok y
        case measure=>have:=e.fuel;simp[lenOf];omega
theorem Ng{k:Int}(a:(path p k n).2=1):(path p k n).1≠[]:=by
 have e:∀c (b:List Int) k,b≠[]->(pK p n c b k).2=1->(pK p n c b k).1≠[]:=by
  intro c;induction c with
  |zero=>intro b k _ a;simp[pK]at a
  |succ c i=>
   intro b k g a;unfold pK at a |-;split at a
   . split at a
     . rename_i f d;simp[d,g]
     . simp at a
   . rename_i next f
     split at a
     . simp at a
     . rename_i d;rw[T9 d];exact i _ _ Zl a
 unfold path at a |-;split at a
 . rename_i h;rw[Ty h];exact e _ _ _ Zl a
 . simp at a
theorem zZ(o:jD w l p){k:Int}{n:ByteArray}:Calls prog 92 #[some l.L,k,n] w fun j D=>j=.returned (.tuple #[.agg #[.int .i64 (M.resolve p k n).1.keeper,.string (M.resolve p k n).1.name],.int .i64 (M.resolve p k n).2])/\Ext w D:=by
 have t:=Zy (o.ext ((Kp.refl _ w).alloc (.cells #[Tj,""] 64)));clear o;have x:=jq.new w 64 #[Tj,""];have I:Ext w (w.alloc (.cells #[Tj,""] 64)):=(jJ _);go_enter func92,ntmps92;go_wp2_with fail;refine(KI t).mono ?_;rintro j O ⟨⟨v,rfl,b⟩,A⟩;have g:=x.ext A;obtain⟨-,h,i,-⟩:=g.ca;obtain⟨G,H,-⟩:=g.fz;by_cases a:(path p k n).2=1
 . have r:=Ng a;obtain⟨u,y,e,C,B⟩:=b.form;subst e;have L:=VO.2 r;obtain⟨s,f⟩:=get_some (l:=(path p k n).1) (k:=(path p k n).1.length - 1) Zm;obtain⟨E,N,F,rfl,J,rfl,-,q⟩:=b.get f;have z:=q.one;rw[Vi]at z;have d:Zz (M.resolve p k n=(⟨s,n⟩,1)):=Zy (by
    unfold M.resolve;rw[Ty a,List.getLastD_eq_getLast?,List.getLast?_eq_getElem?,f];rfl)
   rw[a];clear f b r q a;generalize (path p k n).1.length=m at*;go_wp2;refine PG (v:=.tuple #[.agg #[s,n],.int .i64 1]) (by simp[results,results92,go_sem,h,i]) rfl ?_;exact⟨by rw[d.o],Zw⟩
 . have d:Zz (M.resolve p k n=(q9,(path p k n).2)):=Zy (by unfold M.resolve;rw[T9 a]);have K:=SK.2 a;obtain⟨u,y,e,C,B⟩:=b.form;subst e;clear b a;generalize (path p k n).2=c at*;generalize (path p k n).1.length=m at*;go_wp2;refine PG (v:=.tuple #[.agg #[Tj,""],c]) (by simp[results,results92,go_sem,h,i]) rfl ?_;exact⟨by rw[d.o];rfl,Zw⟩
theorem pI{P:Program}{Q:Exit->Act->World->Prop}{id:Nat}{l:List Oper}{a:Act}(n:Nat)(e:P.follows .mixedOrders=true)(d:Region.lexTailB .any l.toArray n=true)(c:wpStill P l.toArray w.drew (fun b=>wpList P l.toArray Q (l.drop n) b w.drew) (l.take n) a):(Code.region id l.toArray true).wp P Q a w:=wp_region_still_tail n e d c
theorem sI(l:jB)(p:jl)(a:jD w l p)(k:Int)(n:ByteArray)(c:Class)(h:cls? p ⟨k,n⟩=some c):Calls prog 74 #[some l.L,.agg #[k,n]] w fun E N=>(∃f,jT w (· <l.O) c f/\E=.returned (.agg f.toArray))/\Ext w N:=by
 obtain⟨K,J,e,r,u,ai⟩:=BD h;obtain⟨d,s⟩:=Aw h;simp only at d s;obtain⟨k,rfl⟩:=Int.eq_ofNat_of_zero_le d;have t:p[k]?=some K:=by
  unfold mQ at e;rw[Ty d]at e;exact e
 obtain⟨S,W,v,j,m,C,D⟩:=a.cells;have y:=a.O5;obtain⟨U,av,f,rfl,hI,I,-,o⟩:=v.get t;obtain⟨vo,va,rfl,i,L⟩:=I;obtain⟨T,X,rfl,ak,ah⟩:=i.form;obtain⟨V,ax,Y,rfl,aa,g,-,q⟩:=i.get u;obtain⟨O,Q,P,R,rfl⟩:=g.form;obtain⟨G,g1⟩:=o.two;obtain⟨F,e1,e2,e3⟩:=q.four;have x:∀b,Ext w b->(Instr.lookup 97 (.map (some l.O)) (.agg #[.int .i64 (k:Int),n]) false).run prog b=.ok J b:=by
  intro b H;rw[y b H,r];rfl
 have au:(p.length:Int)<=3:=Te ((wN a.ok).2)
 have l2:=fun(A B:Obj)=>x _ ((((Kp.refl _ w).alloc A).alloc B).drew);clear x;have z:=Zy g;have af:=jv G;have ag:=jv F;have ae:=a.lt;have Z:=j _ (Kp.refl _ w);have d1:=m _ (Kp.refl _ w);have hO:=a.ord;clear y g v i L o q j m C D t u e r h a;have aj:k<p.length:=Zm
 clear d s;go_enter func74,ntmps74;go_wp2;refine pI 17 Zo Zo ?_;(simp only[Uh,UO,Ug,UF]);(repeat still_step);refine Vd ?_;go_wp2;refine PG (v:=.agg #[c.name,c.jE,.slice O c.fields.length Q,.slice P c.methods.length R]) (by simp[results,results74,go_sem]) rfl ?_;exact⟨⟨_,z,rfl⟩,kx⟩
attribute [local go_sem] Oper.semAt_some
theorem Jg{a:Addr}{k:Int}:Calls prog 141 #[.pointer (some a),.agg #[k,n]] w fun b c=>b=.returned (.func (.func 173) #[] #[.pointer (some ⟨w+1,0,none⟩),some w])/\c=(w.alloc (.cells #[.pointer (some a)] 58)).alloc (.cells #[k,n] 64):=by
 go_enter func141,ntmps141;go_wp2;go_ret;exact⟨rfl,rfl⟩
def items(p:jl):Nat->Ref->List (Option Ref)
 |0,_=>[]
 |n+1,r=>some r::(if jE p r=none_ then []else if(M.resolve p r.keeper (jE p r)).2=1 then items p n (M.resolve p r.keeper (jE p r)).1 else [none])
def AL:Option Ref->Array Value
 |some r=>#[.agg #[.int .i64 r.keeper,.string r.name],.bool true]
 |none=>#[.agg #[.int .i64 0,.string none_],.bool false]
theorem nN{k:Int}(b:(M.resolve p k n).2=1):∃a,cls? p (M.resolve p k n).1=some a:=M.nN b
theorem Kc(l:jB)(p:jl)(j:Ref)(e q:Nat){z:Nat->Prop}(hBd:∀g,z g->l.L<g/\g≠e/\g≠q)(hRL:e≠q)(hR:l.L<e)(D:Nat)(aG:∃c,cls? p j=some c):Iter prog 173 #[some e,some q] AL (·=e) z (fun xs=>∀b,items p (xs.length+b) j=xs) (fun d=>∃b k,items p b j=d++k) (fun aM=>aM.length<=D) (fun m=>jD m l p/\jq m e 64 #[j.keeper,j.name]/\jq m q 58 #[some l.L]):=by
 intro lp aA Jx m ⟨E,J,I⟩ hJ aa hN G aB;refine callsIn_of_wp func173 rfl trivial ?_ rfl;simp only[ntmps173,UE,TL,U8,Nat.reduceAdd,Nat.reduceSub,Un,Um,UR,Uf,TZ,TR];gi_wp2;gi_loopg [4] (D+1) (fun aJ _ wr=>∃(d:List (Option Ref))(a:Ref),aJ+d.length=D+1/\aA d wr/\jD wr l p/\jq wr e 64 #[a.keeper,a.name]/\jq wr q 58 #[some l.L]/\
     Zz (∀b,items p (d.length+b) j=d++items p b a)/\Zz (∃c,cls? p a=some c))
 case atStart=>exact⟨[],j,Zl,aB,E,J,I,Zy Zl,Zy aG⟩
 case round=>
  obtain⟨d,a,hm,O,hl,i,K,u,HO⟩:=hrel;have aY:=hN _ _ O;obtain⟨c,hc⟩:=HO.o;obtain⟨fn,bf,aP,aR,hy,hR⟩:=G d (some a) wr trivial O;simp only[AL]at hy hR;obtain⟨-,aK,aL,-⟩:=i.ca;have aI:=K.c 0 (some l.L) rfl;have⟨HL,S,HY,v,B,V⟩:=pR hl (Tm i K) G (Tm hJ aa) (Tm hBd (Tm E (Tm J I))) hc;clear hl i K G hJ aa hBd E J I hc hN;gi_wp2_with fail;refine hR.mono ?_;rintro o W1 ⟨t,(⟨rfl,P⟩|⟨rfl,aD⟩)⟩
  . have Q:∀g,g<=l.L->¬z g:=fun g w i=>absurd (B.o.1 g i).1 Zm;have aj:=HL.kp t Q;have H:=S.1.kp t (fun i=>(B.1 _ i).2.1 rfl);have L:=S.2.kp t (fun i=>(B.1 _ i).2.2 rfl);obtain⟨-,q0,q1,-⟩:=H.ca;have q2:=L.c 0 (some l.L) rfl;have⟨X,T,HK⟩:=jI aj (Tm H L) (Tm t Q);clear aj H L t Q aK aL aI hy hR;gi_wp2_with fail;refine⟨trivial,?_⟩;refine(Ut.2 (sI _ _ X _ _ _ V)).mono ?_;rintro o W2 ⟨⟨cs,N,rfl⟩,n⟩;obtain⟨y1,z1,y2,z2,rfl⟩:=N.form;have s0:=n.jm q0;have s1:=n.jm q1;have s2:=n.jm q2;have aV:∀m,(Instr.field 38 (.agg #[.string c.name,.string c.jE,.slice y1 c.fields.length z1,.slice y2 c.methods.length z2]) 1).run prog m=.ok (.string c.jE) m:=fun m=>by kernel_rfl
    have R:jE p a=c.jE:=by unfold jE;rw[V.o];rfl
    by_cases y:c.jE.toList.isEmpty=true
    . gi_wp2_with fail;refine Ti ?_;refine⟨⟨_,rfl⟩,.inl ⟨d++[some a],fun b=>?_,v.1 _ _ _ P n.any⟩⟩;rw[TK,Uj,u.o];congr 1;show items p (1+b) a=[some a]
      rw[VG];unfold items;rw[R,Ty (by rw[l7]at y;simpa using y)]
    . have au:c.jE.toList.isEmpty=false:=by simpa using y
      have Z:Zz (∀b,items p (b+1) a=some a::if(M.resolve p a.keeper c.jE).2=1 then items p b (M.resolve p a.keeper c.jE).1 else [none]):=Zy (by
       intro b;conv=>lhs;unfold items
       rw[R,T9 (by rw[l7]at au;simpa using au)])
      have⟨aN,A⟩:=jw N n;have ak:=X.ext n;have Y:=Zy ak;clear y R N n ak q0 q1 q2;gi_wp2_with fail;refine⟨trivial,?_⟩;refine(Ut.2 (zZ Y)).mono ?_;rintro o r ⟨rfl,h⟩;have u0:=h.jm s0;have u1:=h.jm s1;have u2:=h.jm s2;have s:=((T.1.ext A).ext h);have af:=((T.2.ext A).ext h);have f0:=s.frozen 0;have f1:=s.frozen 1;have aZ:=s.lt;have ah:=v.1 _ _ _ P ((A.any).trans h.any);have⟨U,ay,aO,W⟩:=kD (Tm s af) (Y.ext h) h ah;clear s af h ah s0 s1 s2 P O;by_cases f:(M.resolve p a.keeper c.jE).2=1
      . obtain⟨c',ag⟩:=nN f;have C:Zz (∀b,items p (b+1) a=some a::items p b (M.resolve p a.keeper c.jE).1):=Zy (by
         intro b;rw[Z.o,Ty f])
        rw[f];clear f;generalize (M.resolve p a.keeper c.jE).1=nx at*;have ax:Zz (∃c,cls? p nx=some c):=Zy ⟨c',ag⟩;clear ag;gi_wp2_with fail;gi_roundg (gk - 1)
        case measure=>omega
        case rel=>
         have w:Kp (·=e) r (((r.setCell e nx.keeper).setCell (e,1) nx.name).alloc (.cells #[nx.keeper,nx.name] 64)):=
          (((Kp.refl (·=e) r).setCell (p:=⟨e,0,none⟩) (fun _=>rfl) _).setCell (p:=⟨e,1,none⟩) (fun _=>rfl) _).alloc _
         refine⟨d++[some a],nx,by simp;omega,v.o.1 _ _ _ W.o w,ay.o.kp w (fun g aW o=>Zm),?_,U.o.2.kp w (fun o=>hRL o.symm),Zy (fun b=>?_),ax⟩
         . exact((U.1.jR 0 nx.keeper).jR 1 nx.name).ext (jJ _)
         . rw[TK,Uj,u.o,VG,show [some a].length=1 from rfl,C.o,TG];rfl
      . have C:Zz (∀b,items p (b+2) a=[some a,none]):=Zy (by
         intro b;rw[Z.o (b+1),T9 f])
        have aU:=SK.2 f;have av:M.resolve p a.keeper c.jE=(q9,(M.resolve p a.keeper c.jE).2):=by
         unfold M.resolve at f |-;split
         . rename_i h1;rw[Ty h1]at f;exact absurd rfl f
         . rfl
        rw[av];have ai:=v.1 _ _ _ W (((Kp.refl _ r).alloc (.cells #[Tj,""] 64)):Kp (·=e) r _);obtain⟨aT,bg,aQ,aS,aH,F⟩:=HY.o (d++[some a]) none _ trivial ai;simp only[AL]at aH F;have az:=Zy F;clear av f ai F;generalize (M.resolve p a.keeper c.jE).2=code at*;simp only[q9];gi_wp2_with fail;refine az.mono ?_;have ae:∀b,items p ((d++[some a]++[none]).length+b) j=d++[some a]++[none]:=by
         intro b;rw[TK,TK,Uj,Uj,u.o,show [some a].length+([none (α:=Ref)].length+b)=b+2 from by simp;omega,C.o,TG];rfl
        rintro o W5 ⟨aX,(⟨rfl,aC⟩|⟨rfl,aF⟩)⟩
        . gi_wp2_with fail;refine Ti ?_;exact⟨⟨_,rfl⟩,.inl ⟨d++[some a]++[none],ae,aC⟩⟩
        . gi_wp2_with fail;refine Ti ?_;exact⟨⟨_,rfl⟩,.inr ⟨d++[some a]++[none],⟨(d++[some a]++[none]).length+0,[],by rw[ae 0,List.append_nil]⟩,aF⟩⟩
  . have x:∃k,items p (d.length+1) j=(d++[some a])++k:=by
     obtain⟨k,hr⟩:∃k,items p 1 a=some a::k:=⟨_,rfl⟩;exact⟨k,by rw[u.o,hr,TG];rfl⟩
    obtain⟨k,x⟩:=x;have HP:=Zy x;clear x;gi_wp2_with fail;refine Ti ?_;exact⟨⟨_,rfl⟩,.inr ⟨d++[some a],⟨_,k,HP⟩,aD⟩⟩
end Go.Proofs.YtenhnldnpdlniaaGreat
