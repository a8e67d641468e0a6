/- Walks. -/
import Derived.Test.YtlhlnddgfcmfkaaGreatRsCoreLi
import Derived.Test.YtlhlnddgfcmfkaaGreatRsCoreLg
import Derived.Deep.CutRange
set_option maxRecDepth 100000
set_option maxHeartbeats 4000000
set_option linter.all false
namespace Go.Proofs.YtlhlnddgfcmfkaaGreat
open Go Go.RowKit Tryz
theorem NG{w:World}(I:Nat->Prop){cs:List Value}(c:M.Method)(h:jd w I c cs):Calls prog 186 #[.agg cs.toArray] w fun b e=>b=.returned (.bool (M.nJ c))∧Ext w e:=by
 obtain⟨va,vc,vm,rfl,n,i,j⟩:=h;obtain⟨u,u1,rfl,aB,ay⟩:=n.form;obtain⟨v,u2,rfl,aC,az⟩:=i.form;obtain⟨x,u3,rfl,aD,aA⟩:=j.form;obtain⟨q,p⟩:=Ry (w.alloc (.cells #[c.name,.slice u c.args.length u1,c.ret.kind,c.ret.name,c.locals,c.stack,.slice v c.code.length u2,.slice x c.maps.length u3] 141));have ae:Ext w q:=by rw[p];exact Zx
 have C:hV q w 141 #[c.name,.slice u c.args.length u1,c.ret.kind,c.ret.name,c.locals,c.stack,.slice v c.code.length u2,.slice x c.maps.length u3]:=by rw[p];exact hV.new _ _ _
 obtain⟨cz,c0,c1,c2,c3,c4,c5,c6,c7,-⟩:=C.ca;have HB:=Zy C;have V:Zz (jd w I c [c.name,.slice u c.args.length u1,c.ret.kind,c.ret.name,c.locals,c.stack,.slice v c.code.length u2,.slice x c.maps.length u3]):=Zy ⟨_,_,_,rfl,n,i,j⟩;have⟨HK,r,t⟩:=jy n ae p;have m:=fun ak=>Zy (kF c.name ak);clear ae C p n i j;cases G:M.jC c.name<;>simp only[G]at m
 . go_enter func186,ntmps186;go_wp2_with fail;rw[<-t.o];go_wp2_with fail;refine(m _).o.mono ?_;rintro b e ⟨rfl,rfl⟩;go_wp2_with fail;go_ret;exact⟨hQ (by unfold M.nJ;rw[G];simp),r⟩
 by_cases o:3<c.args.length
 . have au:decide ((3:Int)<c.args.length)=true:=decide_eq_true Zm;go_enter func186,ntmps186;go_wp2_with fail;rw[<-t.o];go_wp2_with fail;refine(m _).o.mono ?_;rintro b e ⟨rfl,rfl⟩;go_wp2_with fail;go_ret;exact⟨hQ (by unfold M.nJ;rw[decide_eq_false (show¬c.args.length<=3 by omega)];simp),r⟩
 have H3:Zz (c.args.length<=3):=Zy Zm;have aj:=Zy G;have au:decide ((3:Int)<c.args.length)=false:=decide_eq_false Zm;go_enter func186,ntmps186;go_wp2_with fail;rw[<-t.o];go_wp2_with fail;refine(m _).o.mono ?_;rintro b e ⟨rfl,rfl⟩;go_wp2_with fail;refine(Bo c.ret.kind c.ret.name).mono ?_;rintro b w2 ⟨rfl,z⟩;obtain⟨q2,H⟩:∃a,M.lD ⟨c.ret.kind,c.ret.name⟩=a:=⟨_,rfl⟩;have W:=Zy H;rw[H];clear H;have g:=Zy (r.trans z);have D:=HB.ext z;have ah:=Zy D;clear z c0 c1 c2 c3 c4 c5 c6 c7 cz;obtain⟨dz,d0,d1,d2,d3,d4,d5,d6,d7,-⟩:=D.ca;clear D;cases q2
 . go_wp2_with fail;go_ret;exact⟨hQ (by unfold M.nJ;rw[W.o];simp),g⟩
 go_wp2_with fail;refine(qC).mono ?_;rintro b e ⟨rfl,rfl⟩;obtain⟨q3,J⟩:∃a,(decide ((c.args.length:Int)+1<=c.locals)&&decide (c.locals<=6))=a:=⟨_,rfl⟩;have X:=Zy J;rw[J];clear J;cases q3
 . go_wp2_with fail;go_ret;exact⟨hQ (by have:=X.o;unfold M.nJ;cases i:decide ((c.args.length:Int)+1<=c.locals)<;>cases j:decide (c.locals<=6)<;>simp_all),g⟩
 go_wp2_with fail;refine(qC).mono ?_;rintro b e ⟨rfl,rfl⟩;obtain⟨q4,K⟩:∃a,(decide ((1:Int)<=c.stack)&&decide (c.stack<=5))=a:=⟨_,rfl⟩;have Y:=Zy K;rw[K];clear K;cases q4
 . go_wp2_with fail;go_ret;exact⟨hQ (by have:=Y.o;unfold M.nJ;cases i:decide ((1:Int)<=c.stack)<;>cases j:decide (c.stack<=5)<;>simp_all),g⟩
 go_wp2_with fail;refine(Ll I c (jd.stays _ _ _ _ _ _ (Ext.same g) (fun _ h=>h) V)).mono ?_;rintro b w3 ⟨rfl,A⟩;obtain⟨q5,L⟩:∃a,M.codeOk c=a:=⟨_,rfl⟩;have Z:=Zy L;rw[L];clear L;have s:=Zy (g.trans A);have E:=ah.ext A;have ai:=Zy E;clear A d0 d1 d2 d3 d4 d5 d6 d7 dz;obtain⟨ez,e0,e1,e2,e3,e4,e5,e6,e7,-⟩:=E.ca;clear E;cases q5
 . go_wp2_with fail;go_ret;exact⟨hQ (by unfold M.nJ;rw[Z.o];simp),s⟩
 go_wp2_with fail;refine(Lm I c (jd.stays _ _ _ _ _ _ (Ext.same s) (fun _ h=>h) V)).mono ?_;rintro b w4 ⟨rfl,B⟩;obtain⟨q6,N⟩:∃a,M.rR c=a:=⟨_,rfl⟩;have aa:=Zy N;rw[N];clear N;have l:=Zy (s.trans B);have F:=ai.ext B;clear B e0 e1 e2 e3 e4 e5 e6 e7 ez;obtain⟨fz,-,f1,-⟩:=F.ca;have ax:=Zy F;clear F;cases q6
 . go_wp2_with fail;go_ret;exact⟨hQ (by unfold M.nJ;rw[aa.o];simp),l⟩
 have S:Zz (M.nJ c=c.args.all M.lD):=Zy (by
  have o:=X.o;have y:=Y.o;simp only[Bool.and_eq_true,decide_eq_true_eq]at o y;unfold M.nJ;rw[aj.o,W.o,Z.o,aa.o,decide_eq_true H3.o,decide_eq_true o.1,decide_eq_true o.2,decide_eq_true y.1,decide_eq_true y.2];simp)
 go_wp2_with fail;go_loopw [3] (fun Q wr=>∃d:Nat,d<=c.args.length∧Q=.int .i64 d∧Ext w4 wr∧Zz ((c.args.take d).all M.lD=true)) (fun Q _=>c.args.length - (intOf Q).toNat)
 case atStart=>exact⟨0,Nat.zero_le _,rfl,Kp.rr,Zy Zl⟩
 case round =>
  obtain⟨d,hk,rfl,k,R⟩:=hrel;have T:=Zy k;have g1:=k.jb f1;have gz:=iY g1;by_cases ag:d<c.args.length
  . have dk:(d:Int)<c.args.length:=by omega
    obtain⟨f,P⟩:∃f,c.args[d]?=some f:=⟨c.args[d]'ag,List.getElem?_eq_getElem ag⟩;obtain⟨b',aF,cs,rfl,hI,rfl,-,hc⟩:=HK.get P;obtain⟨y0,y1⟩:=(hc.ext (l.trans k)).two;have yz:=iY y0;have HX:=Zy P;clear P hc k;go_wp2_with fail;refine(Bo f.kind f.name).mono ?_;rintro b w5 ⟨rfl,af⟩;obtain⟨av,O⟩:∃a,M.lD ⟨f.kind,f.name⟩=a:=⟨_,rfl⟩;have HT:=Zy O;rw[O];clear O;have U:=Zy (T.trans af);clear af;cases av
    . go_wp2_with fail;go_ret;exact⟨hQ (by rw[S.o,M.Ct HX.o HT.o]),l.trans U⟩
    . go_wp2_with fail;go_round
      case rel=>exact⟨d+1,by omega,by go_num,U.o,Zy (M.CS HX.o HT.o R.o)⟩
      case measure=>simp[intOf];omega
  . have dk:¬(d:Int)<c.args.length:=by omega
    clear k;go_wp2_with fail;go_ret;exact⟨hQ (by have:=R.o;rw[List.take_of_length_le Zm]at this;rw[S.o,this]),l.trans T⟩
theorem ND{w:World}(I:Nat->Prop){cs:List Value}(c:M.Class)(N:jv w I c cs):Calls prog 170 #[.agg cs.toArray] w fun f o=>f=.returned (.bool (M.nV c))∧Ext w o:=by
 obtain⟨vf,vm,rfl,Y,Z⟩:=N;obtain⟨a1,m1,rfl,aT,aR⟩:=Y.form;obtain⟨a2,m2,rfl,aU,aS⟩:=Z.form;obtain⟨w0,aD,az,F⟩:=nu w #[c.name,c.jl,.slice a1 c.fields.length m1,.slice a2 c.methods.length m2] 95;obtain⟨cz,c0,c1,c2,c3,-⟩:=F.ca;have⟨HF,HM,p,aI⟩:=jV Y Z az aD;clear az F aD Y Z;go_enter func170,ntmps170;go_upto_region 1 with(fail);rw[<-aI.o];go_cut [31] (fun aP wx=>aP=.bool (!(M.jC c.name&&(decide (c.jl=M.none_)|| M.jC c.jl)&&decide (c.fields.length<=3)&&decide (c.methods.length<=4)))∧wx=w0)
 case first=>
  obtain⟨qn,aj⟩:∃d,M.jC c.name=d:=⟨_,rfl⟩;obtain⟨qs,aO⟩:∃d,(c.jl.toList==[])=d:=⟨_,rfl⟩;obtain⟨qp,ak⟩:∃d,M.jC c.jl=d:=⟨_,rfl⟩;obtain⟨qf,ah⟩:∃d,decide (c.fields.length<=3)=d:=⟨_,rfl⟩;obtain⟨qm,ai⟩:∃d,decide (c.methods.length<=4)=d:=⟨_,rfl⟩;have v:Zz ((!(M.jC c.name&&(decide (c.jl=M.none_)|| M.jC c.jl)&&decide (c.fields.length<=3)&&decide (c.methods.length<=4)))= !(qn&&(qs || qp)&&qf&&qm)):=Zy (by rw[aj,pO,aO,ak,ah,ai]);have k:=fun V=>Zy (kF c.name V);have E:=fun V=>Zy (kF c.jl V);have⟨Q,R⟩:=je ah ai;simp only[aj]at k;simp only[ak]at E;clear aj ak ah ai;cases qn
  . go_wp2_with fail;refine(k _).o.mono ?_;rintro f o ⟨rfl,rfl⟩;go_wp2_with fail;go_meet;exact⟨by rw[v.o];rfl,rfl⟩
  cases qs
  . cases qp
    . go_wp2_with fail;refine(k _).o.mono ?_;rintro f o ⟨rfl,rfl⟩;go_wp2_with fail;refine(E _).o.mono ?_;rintro f o ⟨rfl,rfl⟩;go_wp2_with fail;go_meet;exact⟨by rw[v.o];rfl,rfl⟩
    cases qf
    . have aa:decide ((3:Int)<c.fields.length)=true:=decide_eq_true (by have:=of_decide_eq_false Q;omega);go_wp2_with fail;refine(k _).o.mono ?_;rintro f o ⟨rfl,rfl⟩;go_wp2_with fail;refine(E _).o.mono ?_;rintro f o ⟨rfl,rfl⟩;go_wp2_with fail;go_meet;exact⟨by rw[v.o];rfl,rfl⟩
    have aa:decide ((3:Int)<c.fields.length)=false:=decide_eq_false (by have:=of_decide_eq_true Q;omega);cases qm
    . have ae:decide ((4:Int)<c.methods.length)=true:=decide_eq_true (by have:=of_decide_eq_false R;omega);go_wp2_with fail;refine(k _).o.mono ?_;rintro f o ⟨rfl,rfl⟩;go_wp2_with fail;refine(E _).o.mono ?_;rintro f o ⟨rfl,rfl⟩;go_wp2_with fail;go_meet;exact⟨by rw[v.o];rfl,rfl⟩
    have ae:decide ((4:Int)<c.methods.length)=false:=decide_eq_false (by have:=of_decide_eq_true R;omega);go_wp2_with fail;refine(k _).o.mono ?_;rintro f o ⟨rfl,rfl⟩;go_wp2_with fail;refine(E _).o.mono ?_;rintro f o ⟨rfl,rfl⟩;go_wp2_with fail;go_meet;exact⟨by rw[v.o];rfl,rfl⟩
  . clear E;cases qf
    . have aa:decide ((3:Int)<c.fields.length)=true:=decide_eq_true (by have:=of_decide_eq_false Q;omega);go_wp2_with fail;refine(k _).o.mono ?_;rintro f o ⟨rfl,rfl⟩;go_wp2_with fail;go_meet;exact⟨by rw[v.o];rfl,rfl⟩
    have aa:decide ((3:Int)<c.fields.length)=false:=decide_eq_false (by have:=of_decide_eq_true Q;omega);cases qm
    . have ae:decide ((4:Int)<c.methods.length)=true:=decide_eq_true (by have:=of_decide_eq_false R;omega);go_wp2_with fail;refine(k _).o.mono ?_;rintro f o ⟨rfl,rfl⟩;go_wp2_with fail;go_meet;exact⟨by rw[v.o];rfl,rfl⟩
    have ae:decide ((4:Int)<c.methods.length)=false:=decide_eq_false (by have:=of_decide_eq_true R;omega);go_wp2_with fail;refine(k _).o.mono ?_;rintro f o ⟨rfl,rfl⟩;go_wp2_with fail;go_meet;exact⟨by rw[v.o];rfl,rfl⟩
 obtain⟨rfl,aF⟩:=hcut;rw[aF];clear aF;obtain⟨S,F⟩:∃S,(M.jC c.name&&(decide (c.jl=M.none_)|| M.jC c.jl)&&decide (c.fields.length<=3)&&decide (c.methods.length<=4))=S:=⟨_,rfl⟩;have T:Zz (M.nV c=(S&&M.jI M.Field.name (fun m=>M.jC m.name&&M.lD m.kind) c.fields []&&M.jI M.Method.name M.nJ c.methods [])):=Zy (by unfold M.nV;rw[F]);rw[F];clear F;cases S
 . simp only[Bool.not_false];go_wp2_with fail;go_ret;exact⟨hQ (by rw[T.o];rfl),p⟩
 simp only[Bool.not_true];go_wp2_with fail;go_loopw [3] (fun i wr=>∃g:Nat,g<=c.fields.length∧i=.int .i64 g∧Ext w0 wr∧Zz (M.jI M.Field.name (fun m=>M.jC m.name&&M.lD m.kind) (c.fields.take g) []=true)) (fun i _=>c.fields.length - (intOf i).toNat)
 case atStart=>exact⟨0,Nat.zero_le _,rfl,Kp.rr,Zy rfl⟩
 case round =>
  obtain⟨g,hk,rfl,x,B⟩:=hrel;have G:=Zy x;have X:=x.jb c2;have d3:=x.jb c3;have dz:=iY X;clear c0 c1 c2 c3 cz;by_cases aB:g<c.fields.length
  . have dk:(g:Int)<c.fields.length:=by omega
    obtain⟨l,A⟩:∃l,c.fields[g]?=some l:=⟨c.fields[g]'aB,List.getElem?_eq_getElem aB⟩;obtain⟨W,av,cs,rfl,hI,rfl,-,O⟩:=HF.get A;obtain⟨J,K,L⟩:=(O.ext (p.trans x)).three;have U:=Zy ((HF.take (i:=g) Zm).ext lh.stays (p.trans x));have P:(c.fields.take g).length=g:=by rw[List.length_take];omega
    obtain⟨aJ,m,aN,h⟩:=kY wr;have y0:=fun b=>(h.jm b).jb J;have y1:=fun b=>(h.jm b).jb K;have y2:=fun b=>(h.jm b).jb L;have y3:=fun b=>(h.jm b).jb X;have⟨j,aG,u⟩:=jy h P (M.wC (name:=M.Field.name) (ok:=fun m=>M.jC m.name&&M.lD m.kind) A);have C:Zz (M.jI M.Field.name (fun m=>M.jC m.name&&M.lD m.kind) (c.fields.take (g+1)) []=false->M.nV c=false):=Zy fun f=>by rw[T.o,M.yD f];rfl
    clear h x O A J K L dz P;have r:Ext wr wr.drew:=jf;go_wp2_with fail;refine kD j 32 [([0,1,2,3,4,5],6),([7,8,9,10,11,12,13,14],15),([16,17,18,19,20,21,22,23,24,25,26,27,28],29)] [30,31] ?_ ?_
    . exact jf
    refine lS ?_;intro e a;go_wp2_with fail;refine(kF _ _).mono ?_;rintro f w1 ⟨rfl,rfl⟩;obtain⟨q1,ag⟩:∃d,M.jC l.name=d:=⟨_,rfl⟩;have ay:=Zy ag;rw[ag];clear ag;cases q1
    . go_wp2_with fail;refine kk j a r ?_;clear a e;refine lS ?_;intro e a;go_wp2_with fail;refine kk j a r ?_;clear a e;refine lS ?_;intro e a;go_wp2_with fail;refine kk j a r ?_;clear a e;refine sK ?_;go_wp2_with fail;go_ret;exact⟨hQ (C (by rw[u.o,ay.o];simp)).symm,(p.trans G).trans r⟩
    go_wp2_with fail;refine kk j a r ?_;clear a e;refine lS ?_;intro e a;go_wp2_with fail;refine(Bo l.kind.kind l.kind.name).mono ?_;rintro f w2 ⟨rfl,y⟩;obtain⟨q2,z⟩:∃d,M.lD ⟨l.kind.kind,l.kind.name⟩=d:=⟨_,rfl⟩;have H:=Zy z;rw[z];clear z;have n:=r.trans y;cases q2
    . go_wp2_with fail;refine kk j a n ?_;clear a e;refine lS ?_;intro e a;go_wp2_with fail;refine kk j a n ?_;clear a e;refine sK ?_;go_wp2_with fail;go_ret;exact⟨hQ (C (by rw[u.o,H.o];simp)).symm,(p.trans G).trans n⟩
    go_wp2_with fail;refine kk j a n ?_;clear a e;refine lS ?_;intro e a;go_wp2_with fail;refine(Js I (.slice (some ⟨W,av,none⟩) g m1) (c.fields.take g) (U.ext lh.stays n) l.name).mono ?_;rintro f w3 ⟨⟨au,rfl,t⟩,af⟩;have s:=n.trans af;obtain⟨d,hq⟩:∃d,decide (0<=au)=d:=⟨_,rfl⟩;simp only[nC]at t;rw[hq]at t;have k:=Zy t;clear t;cases d
    . go_wp2_with fail;refine kk j a s ?_;clear a e;refine sK ?_;go_wp2_with fail;go_round
      case rel=>exact⟨g+1,by omega,by go_num,G.o.trans s,Zy (by rw[u.o,B.o,ay.o,H.o,<-k.o];rfl)⟩
      case measure=>simp[intOf];omega
    . go_wp2_with fail;refine kk j a s ?_;clear a e;refine sK ?_;go_wp2_with fail;go_ret;exact⟨hQ (C (by rw[u.o,<-k.o];simp)).symm,(p.trans G).trans s⟩
  . have dk : ¬ (g : Int) < c.fields.length := by omega
    obtain⟨wo,rfl⟩:∃wo:World,wo=wr:=⟨_,rfl⟩;have ax:Zz (M.nV c=M.jI M.Method.name M.nJ c.methods []):=Zy (by have:=B.o;rw[List.take_of_length_le Zm]at this;rw[T.o,this];rfl);clear x B;go_wp2_with fail;go_loopw [4] (fun i wr=>∃g:Nat,g<=c.methods.length∧i=.int .i64 g∧Ext wo wr∧Zz (M.jI M.Method.name M.nJ (c.methods.take g) []=true)) (fun i _=>c.methods.length - (intOf i).toNat)
    case atStart=>exact⟨0,Nat.zero_le _,rfl,Kp.rr,Zy rfl⟩
    case round =>
     obtain⟨q,aQ,rfl,y,B⟩:=hrel;have⟨D,aM⟩:=je (G.trans y) y;have e3:=y.jb d3;have ez:=iY e3;clear X d3 dz;by_cases aC:q<c.methods.length
     . have aK:(q:Int)<c.methods.length:=by omega
       obtain⟨l,A⟩:∃l,c.methods[q]?=some l:=⟨c.methods[q]'aC,List.getElem?_eq_getElem aC⟩;obtain⟨W,av,cs,rfl,hI,hM,-,O⟩:=HM.get A;obtain⟨ma,mu,mb,mv,md,mw,rfl⟩:=hM.form;have aA:=jd.stays _ _ _ _ _ _ (Ext.same (p.trans D)) (fun _ N=>N) hM;obtain⟨J,K,L,g3,g4,g5,g6,g7⟩:=(O.ext (p.trans D)).eight;have U:=Zy ((HM.take (i:=q) Zm).ext jd.stays (p.trans D));have P:(c.methods.take q).length=q:=by rw[List.length_take];omega
       obtain⟨aJ,m,aN,h⟩:=kY wr;have y0:=fun b=>(h.jm b).jb J;have y1:=fun b=>(h.jm b).jb K;have y2:=fun b=>(h.jm b).jb L;have y3:=fun b=>(h.jm b).jb g3;have y4:=fun b=>(h.jm b).jb g4;have y5:=fun b=>(h.jm b).jb g5;have y6:=fun b=>(h.jm b).jb g6;have y7:=fun b=>(h.jm b).jb g7;have ye:=fun b=>(h.jm b).jb e3;have j:=Zy h;have aH:=Zy aA;have⟨aG,u⟩:=je P (M.wC (name:=M.Method.name) (ok:=M.nJ) A);have C:Zz (M.jI M.Method.name M.nJ (c.methods.take (q+1)) []=false->M.nV c=false):=Zy fun f=>by rw[ax.o,M.yD f]
       clear h y O A J K L g3 g4 g5 g6 g7 ez P hM aA;have r:Ext wr wr.drew:=jf;go_wp2_with fail;refine kD j 21 [([0,1,2,3,4],5),([6,7,8,9,10,11,12,13,14,15,16,17],18)] [19,20] ?_ ?_
       . exact jf
       refine lS ?_;intro e a;go_wp2_with fail;refine(NG I l (jd.stays _ _ _ _ _ _ (Ext.same r) (fun _ N=>N) aH)).mono ?_;rintro f w2 ⟨rfl,aL⟩;obtain⟨q2,z⟩:∃d,M.nJ l=d:=⟨_,rfl⟩;have H:=Zy z;rw[z];clear z;have n:=r.trans aL;cases q2
       . go_wp2_with fail;refine kk j a n ?_;clear a e;refine lS ?_;intro e a;go_wp2_with fail;refine kk j a n ?_;clear a e;refine sK ?_;go_wp2_with fail;go_ret;exact⟨hQ (C (by rw[u.o,H.o];simp)).symm,(p.trans D).trans n⟩
       go_wp2_with fail;refine kk j a n ?_;clear a e;refine lS ?_;intro e a;go_wp2_with fail;refine(Ie I (.slice (some ⟨W,av,none⟩) q m2) (c.methods.take q) (U.ext jd.stays n) l.name).mono ?_;rintro f w3 ⟨⟨au,rfl,t⟩,af⟩;have s:=n.trans af;obtain⟨d,hq⟩:∃d,decide (0<=au)=d:=⟨_,rfl⟩;simp only[nC]at t;rw[hq]at t;have k:=Zy t;clear t;cases d
       . go_wp2_with fail;refine kk j a s ?_;clear a e;refine sK ?_;go_wp2_with fail;go_round
         case rel=>exact⟨q+1,by omega,by go_num,(aM.o).trans s,Zy (by rw[u.o,B.o,H.o,<-k.o];rfl)⟩
         case measure=>simp[intOf];omega
       . go_wp2_with fail;refine kk j a s ?_;clear a e;refine sK ?_;go_wp2_with fail;go_ret;exact⟨hQ (C (by rw[u.o,<-k.o];simp)).symm,(p.trans D).trans s⟩
     . have aK:¬(q:Int)<c.methods.length:=by omega
       clear y;go_wp2_with fail;go_ret;exact⟨hQ (by have:=B.o;rw[List.take_of_length_le Zm]at this;rw[ax.o,this]),p.trans D⟩
end Go.Proofs.YtlhlnddgfcmfkaaGreat
