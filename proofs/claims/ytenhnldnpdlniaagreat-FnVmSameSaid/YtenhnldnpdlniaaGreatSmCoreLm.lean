/- Walks. -/
import Derived.Test.YtenhnldnpdlniaaGreatSmCoreLj
import Derived.Test.YtenhnldnpdlniaaGreatSmCoreLh
set_option maxRecDepth 100000
set_option maxHeartbeats 4000000
set_option linter.all false
namespace Go.Proofs.YtenhnldnpdlniaaGreat
open Go Go.RowKit Tryz M
variable {w: World}
theorem PR(I:Nat->Prop){cs:List Value}(c:M.Method)(h:jy w I c cs):Calls prog 154 #[.agg cs.toArray] w fun b e=>b=.returned (.bool (nR c))/\Ext w e:=by
 obtain⟨va,vc,vm,rfl,n,i,j⟩:=h;obtain⟨u,u1,rfl,aB,ay⟩:=n.form;obtain⟨v,u2,rfl,aC,az⟩:=i.form;obtain⟨x,u3,rfl,aD,aA⟩:=j.form;obtain⟨q,p⟩:=S9 (w.alloc (.cells #[c.name,.slice u c.args.length u1,c.ret.kind,c.ret.name,c.locals,c.stack,.slice v c.code.length u2,.slice x c.maps.length u3] 113));have ae:Ext w q:=by rw[p];exact Zx
 have C:jq q w 113 #[c.name,.slice u c.args.length u1,c.ret.kind,c.ret.name,c.locals,c.stack,.slice v c.code.length u2,.slice x c.maps.length u3]:=by rw[p];exact jq.new _ _ _
 obtain⟨cz,c0,c1,c2,c3,c4,c5,c6,c7,-⟩:=C.ca;have HB:=Zy C;have V:Zz (jy w I c [c.name,.slice u c.args.length u1,c.ret.kind,c.ret.name,c.locals,c.stack,.slice v c.code.length u2,.slice x c.maps.length u3]):=Zy ⟨_,_,_,rfl,n,i,j⟩;have⟨HK,r,t⟩:=jI n ae p;have m:=fun ak=>Zy (kT c.name ak);clear ae C p n i j;cases G:jL c.name<;>simp only[G]at m
 . go_enter func154,ntmps154;go_wp2_with fail;rw[<-t.o];go_wp2_with fail;refine(m _).o.mono ?_;rintro b e ⟨rfl,rfl⟩;go_wp2;go_ret;exact⟨hV (by unfold nR;rw[G];simp),r⟩
 by_cases o:3<c.args.length
 . have au:decide ((3:Int)<c.args.length)=true:=Tw Zm;go_enter func154,ntmps154;go_wp2_with fail;rw[<-t.o];go_wp2_with fail;refine(m _).o.mono ?_;rintro b e ⟨rfl,rfl⟩;go_wp2;go_ret;exact⟨hV (by unfold nR;rw[SS (show¬c.args.length<=3 by omega)];simp),r⟩
 have H3:Zz (c.args.length<=3):=Zy Zm;have aj:=Zy G;have au:decide ((3:Int)<c.args.length)=false:=SS Zm;go_enter func154,ntmps154;go_wp2_with fail;rw[<-t.o];go_wp2_with fail;refine(m _).o.mono ?_;rintro b e ⟨rfl,rfl⟩;go_wp2_with fail;refine(zL c.ret.kind c.ret.name _).mono ?_;rintro b w2 ⟨rfl,z⟩;obtain⟨q2,H⟩:∃a,mg ⟨c.ret.kind,c.ret.name⟩=a:=⟨_,rfl⟩;have W:=Zy H;rw[H];clear H;have g:=Zy (r.trans z);have D:=HB.ext z;have ah:=Zy D;clear z c0 c1 c2 c3 c4 c5 c6 c7 cz;obtain⟨dz,d0,d1,d2,d3,d4,d5,d6,d7,-⟩:=D.ca;clear D;cases q2
 . go_wp2;go_ret;exact⟨hV (by unfold nR;rw[W.o];simp),g⟩
 go_wp2_with fail;refine(rD).mono ?_;rintro b e ⟨rfl,rfl⟩;obtain⟨q3,J⟩:∃a,(decide ((c.args.length:Int)+1<=c.locals)&&decide (c.locals<=6))=a:=⟨_,rfl⟩;have X:=Zy J;rw[J];clear J;cases q3
 . go_wp2;go_ret;exact⟨hV (by have:=X.o;unfold nR;cases i:decide ((c.args.length:Int)+1<=c.locals)<;>cases j:decide (c.locals<=6)<;>simp_all),g⟩
 go_wp2_with fail;refine(rD).mono ?_;rintro b e ⟨rfl,rfl⟩;obtain⟨q4,K⟩:∃a,(decide ((1:Int)<=c.stack)&&decide (c.stack<=5))=a:=⟨_,rfl⟩;have Y:=Zy K;rw[K];clear K;cases q4
 . go_wp2;go_ret;exact⟨hV (by have:=Y.o;unfold nR;cases i:decide ((1:Int)<=c.stack)<;>cases j:decide (c.stack<=5)<;>simp_all),g⟩
 go_wp2_with fail;refine(Nz I c (jy.stays _ _ _ _ _ _ (Ext.same g) (fun _ h=>h) V)).mono ?_;rintro b w3 ⟨rfl,A⟩;obtain⟨q5,L⟩:∃a,codeOk c=a:=⟨_,rfl⟩;have Z:=Zy L;rw[L];clear L;have s:=Zy (g.trans A);have E:=ah.ext A;have ai:=Zy E;clear A d0 d1 d2 d3 d4 d5 d6 d7 dz;obtain⟨ez,e0,e1,e2,e3,e4,e5,e6,e7,-⟩:=E.ca;clear E;cases q5
 . go_wp2;go_ret;exact⟨hV (by unfold nR;rw[Z.o];simp),s⟩
 go_wp2_with fail;refine(NA I c (jy.stays _ _ _ _ _ _ (Ext.same s) (fun _ h=>h) V)).mono ?_;rintro b w4 ⟨rfl,B⟩;obtain⟨q6,N⟩:∃a,sw c=a:=⟨_,rfl⟩;have aa:=Zy N;rw[N];clear N;have l:=Zy (s.trans B);have F:=ai.ext B;clear B e0 e1 e2 e3 e4 e5 e6 e7 ez;obtain⟨fz,-,f1,-⟩:=F.ca;have ax:=Zy F;clear F;cases q6
 . go_wp2;go_ret;exact⟨hV (by unfold nR;rw[aa.o];simp),l⟩
 have S:Zz (nR c=c.args.all mg):=Zy (by
  have o:=X.o;have y:=Y.o;simp only[RV,Tv]at o y;unfold nR;rw[aj.o,W.o,Z.o,aa.o,Tw H3.o,Tw o.1,Tw o.2,Tw y.1,Tw y.2];simp)
 go_wp2;go_loopw [3] (fun Q wr=>∃d:Nat,d<=c.args.length/\Q=.int .i64 d/\Ext w4 wr/\Zz ((c.args.take d).all mg=true)) (fun Q _=>c.args.length - (intOf Q).toNat)
 case atStart=>exact⟨0,Tz _,rfl,Kp.rr,Zy Zl⟩
 case round=>
  obtain⟨d,hk,rfl,k,R⟩:=hrel;have T:=Zy k;have g1:=k.jm f1;have gz:=jv g1;by_cases ag:d<c.args.length
  . have dk:(d:Int)<c.args.length:=Zm
    obtain⟨f,P⟩:∃f,c.args[d]?=some f:=⟨c.args[d]'ag,CU ag⟩;obtain⟨b',aF,cs,rfl,hI,rfl,-,hc⟩:=HK.get P;obtain⟨y0,y1⟩:=(hc.ext (l.trans k)).two;have yz:=jv y0;have HX:=Zy P;clear P hc k;go_wp2_with fail;refine(zL f.kind f.name _).mono ?_;rintro b w5 ⟨rfl,af⟩;obtain⟨av,O⟩:∃a,mg ⟨f.kind,f.name⟩=a:=⟨_,rfl⟩;have HT:=Zy O;rw[O];clear O;have U:=Zy (T.trans af);clear af;cases av
    . go_wp2;go_ret;exact⟨hV (by rw[S.o,Dn HX.o HT.o]),l.trans U⟩
    . go_wp2;go_round
      case rel=>exact⟨d+1,Zm,Zk,U.o,Zy (DT HX.o HT.o R.o)⟩
      case measure=>exact Zj
  . have dk:¬(d:Int)<c.args.length:=Zm
    clear k;go_wp2;go_ret;exact⟨hV (by have:=R.o;rw[Tq Zm]at this;rw[S.o,this]),l.trans T⟩
theorem PQ(I:Nat->Prop){cs:List Value}(c:Class)(N:jT w I c cs):Calls prog 115 #[.agg cs.toArray] w fun f o=>f=.returned (.bool (o9 c))/\Ext w o:=by
 obtain⟨vf,vm,rfl,Y,Z⟩:=N;obtain⟨a1,m1,rfl,aT,aR⟩:=Y.form;obtain⟨a2,m2,rfl,aU,aS⟩:=Z.form;obtain⟨w0,aD,az,F⟩:=nu w #[c.name,c.jE,.slice a1 c.fields.length m1,.slice a2 c.methods.length m2] 38;obtain⟨cz,c0,c1,c2,c3,-⟩:=F.ca;have⟨HF,HM,p,aI⟩:=kD Y Z az aD;clear az F aD Y Z;go_enter func115,ntmps115;go_upto_region 1 with(fail);rw[<-aI.o];go_cut [31] (fun aP wx=>aP=.bool (!(jL c.name&&(decide (c.jE=none_)|| jL c.jE)&&decide (c.fields.length<=3)&&decide (c.methods.length<=4)))/\wx=w0)
 case first=>
  obtain⟨qn,aj⟩:∃d,jL c.name=d:=⟨_,rfl⟩;obtain⟨qs,aO⟩:∃d,(c.jE.toList==[])=d:=⟨_,rfl⟩;obtain⟨qp,ak⟩:∃d,jL c.jE=d:=⟨_,rfl⟩;obtain⟨qf,ah⟩:∃d,decide (c.fields.length<=3)=d:=⟨_,rfl⟩;obtain⟨qm,ai⟩:∃d,decide (c.methods.length<=4)=d:=⟨_,rfl⟩;have v:Zz ((!(jL c.name&&(decide (c.jE=none_)|| jL c.jE)&&decide (c.fields.length<=3)&&decide (c.methods.length<=4)))= !(qn&&(qs || qp)&&qf&&qm)):=Zy (by rw[aj,qY,aO,ak,ah,ai]);have k:=fun V=>Zy (kT c.name V);have E:=fun V=>Zy (kT c.jE V);have⟨Q,R⟩:=jw ah ai;simp only[aj]at k;simp only[ak]at E;clear aj ak ah ai;cases qn
  . go_wp2_with fail;refine(k _).o.mono ?_;rintro f o ⟨rfl,rfl⟩;go_wp2;go_meet;exact⟨by rw[v.o];rfl,rfl⟩
  cases qs
  . cases qp
    . go_wp2_with fail;refine(k _).o.mono ?_;rintro f o ⟨rfl,rfl⟩;go_wp2_with fail;refine(E _).o.mono ?_;rintro f o ⟨rfl,rfl⟩;go_wp2;go_meet;exact⟨by rw[v.o];rfl,rfl⟩
    cases qf
    . have aa:decide ((3:Int)<c.fields.length)=true:=Tw (Te (Va Q));go_wp2_with fail;refine(k _).o.mono ?_;rintro f o ⟨rfl,rfl⟩;go_wp2_with fail;refine(E _).o.mono ?_;rintro f o ⟨rfl,rfl⟩;go_wp2;go_meet;exact⟨by rw[v.o];rfl,rfl⟩
    have aa:decide ((3:Int)<c.fields.length)=false:=SS (Te (U0 Q));cases qm
    . have ae:decide ((4:Int)<c.methods.length)=true:=Tw (Te (Va R));go_wp2_with fail;refine(k _).o.mono ?_;rintro f o ⟨rfl,rfl⟩;go_wp2_with fail;refine(E _).o.mono ?_;rintro f o ⟨rfl,rfl⟩;go_wp2;go_meet;exact⟨by rw[v.o];rfl,rfl⟩
    have ae:decide ((4:Int)<c.methods.length)=false:=SS (Te (U0 R));go_wp2_with fail;refine(k _).o.mono ?_;rintro f o ⟨rfl,rfl⟩;go_wp2_with fail;refine(E _).o.mono ?_;rintro f o ⟨rfl,rfl⟩;go_wp2;go_meet;exact⟨by rw[v.o];rfl,rfl⟩
  . clear E;cases qf
    . have aa:decide ((3:Int)<c.fields.length)=true:=Tw (Te (Va Q));go_wp2_with fail;refine(k _).o.mono ?_;rintro f o ⟨rfl,rfl⟩;go_wp2;go_meet;exact⟨by rw[v.o];rfl,rfl⟩
    have aa:decide ((3:Int)<c.fields.length)=false:=SS (Te (U0 Q));cases qm
    . have ae:decide ((4:Int)<c.methods.length)=true:=Tw (Te (Va R));go_wp2_with fail;refine(k _).o.mono ?_;rintro f o ⟨rfl,rfl⟩;go_wp2;go_meet;exact⟨by rw[v.o];rfl,rfl⟩
    have ae:decide ((4:Int)<c.methods.length)=false:=SS (Te (U0 R));go_wp2_with fail;refine(k _).o.mono ?_;rintro f o ⟨rfl,rfl⟩;go_wp2;go_meet;exact⟨by rw[v.o];rfl,rfl⟩
 obtain⟨rfl,aF⟩:=hcut;rw[aF];clear aF;obtain⟨S,F⟩:∃S,(jL c.name&&(decide (c.jE=none_)|| jL c.jE)&&decide (c.fields.length<=3)&&decide (c.methods.length<=4))=S:=⟨_,rfl⟩;have T:Zz (o9 c=(S&&jU M.Field.name (fun m=>jL m.name&&mg m.kind) c.fields []&&jU M.Method.name nR c.methods [])):=Zy (by unfold o9;rw[F]);rw[F];clear F;cases S
 . simp only[Bool.not_false];go_wp2;go_ret;exact⟨hV (by rw[T.o];rfl),p⟩
 simp only[Bool.not_true];go_wp2;go_loopw [3] (fun i wr=>∃g:Nat,g<=c.fields.length/\i=.int .i64 g/\Ext w0 wr/\Zz (jU M.Field.name (fun m=>jL m.name&&mg m.kind) (c.fields.take g) []=true)) (fun i _=>c.fields.length - (intOf i).toNat)
 case atStart=>exact⟨0,Tz _,rfl,Kp.rr,Zy rfl⟩
 case round=>
  obtain⟨g,hk,rfl,x,B⟩:=hrel;have G:=Zy x;have X:=x.jm c2;have d3:=x.jm c3;have dz:=jv X;clear c0 c1 c2 c3 cz;by_cases aB:g<c.fields.length
  . have dk:(g:Int)<c.fields.length:=Zm
    obtain⟨l,A⟩:∃l,c.fields[g]?=some l:=⟨c.fields[g]'aB,CU aB⟩;obtain⟨W,av,cs,rfl,hI,rfl,-,O⟩:=HF.get A;obtain⟨J,K,L⟩:=(O.ext (p.trans x)).three;have U:=Zy ((HF.take (i:=g) Zm).ext lI.stays (p.trans x));have P:(c.fields.take g).length=g:=by rw[TN];omega
    obtain⟨aJ,m,aN,h⟩:=lL wr;have y0:=fun b=>(h.jC b).jm J;have y1:=fun b=>(h.jC b).jm K;have y2:=fun b=>(h.jC b).jm L;have y3:=fun b=>(h.jC b).jm X;have⟨j,aG,u⟩:=jI h P (xe (name:=M.Field.name) (ok:=fun m=>jL m.name&&mg m.kind) A);have C:Zz (jU M.Field.name (fun m=>jL m.name&&mg m.kind) (c.fields.take (g+1)) []=false->o9 c=false):=Zy fun f=>by rw[T.o,zt f];rfl
    clear h x O A J K L dz P;have r:Ext wr wr.drew:=jA;go_wp2_with fail;refine lq j 32 [([0,1,2,3,4,5],6),([7,8,9,10,11,12,13,14],15),([16,17,18,19,20,21,22,23,24,25,26,27,28],29)] [30,31] ?_ ?_
    . exact jA
    refine nE ?_;intro e a;go_wp2_with fail;refine(kT _ _).mono ?_;rintro f w1 ⟨rfl,rfl⟩;obtain⟨q1,ag⟩:∃d,jL l.name=d:=⟨_,rfl⟩;have ay:=Zy ag;rw[ag];clear ag;cases q1
    . go_wp2_with fail;refine kk j a r ?_;clear a e;refine nE ?_;intro e a;go_wp2_with fail;refine kk j a r ?_;clear a e;refine nE ?_;intro e a;go_wp2_with fail;refine kk j a r ?_;clear a e;refine uC ?_;go_wp2;go_ret;exact⟨hV (C (by rw[u.o,ay.o];simp)).symm,(p.trans G).trans r⟩
    go_wp2_with fail;refine kk j a r ?_;clear a e;refine nE ?_;intro e a;go_wp2_with fail;refine(zL l.kind.kind l.kind.name _).mono ?_;rintro f w2 ⟨rfl,y⟩;obtain⟨q2,z⟩:∃d,mg ⟨l.kind.kind,l.kind.name⟩=d:=⟨_,rfl⟩;have H:=Zy z;rw[z];clear z;have n:=r.trans y;cases q2
    . go_wp2_with fail;refine kk j a n ?_;clear a e;refine nE ?_;intro e a;go_wp2_with fail;refine kk j a n ?_;clear a e;refine uC ?_;go_wp2;go_ret;exact⟨hV (C (by rw[u.o,H.o];simp)).symm,(p.trans G).trans n⟩
    go_wp2_with fail;refine kk j a n ?_;clear a e;refine nE ?_;intro e a;go_wp2_with fail;refine(Lj I (.slice (some ⟨W,av,none⟩) g m1) (c.fields.take g) (U.ext lI.stays n) l.name).mono ?_;rintro f w3 ⟨⟨au,rfl,t⟩,af⟩;have s:=n.trans af;obtain⟨d,hq⟩:∃d,decide (0<=au)=d:=⟨_,rfl⟩;simp only[oP]at t;rw[hq]at t;have k:=Zy t;clear t;cases d
    . go_wp2_with fail;refine kk j a s ?_;clear a e;refine uC ?_;go_wp2;go_round
      case rel=>exact⟨g+1,Zm,Zk,G.o.trans s,Zy (by rw[u.o,B.o,ay.o,H.o,<-k.o];rfl)⟩
      case measure=>exact Zj
    . go_wp2_with fail;refine kk j a s ?_;clear a e;refine uC ?_;go_wp2;go_ret;exact⟨hV (C (by rw[u.o,<-k.o];simp)).symm,(p.trans G).trans s⟩
  . have dk:¬(g:Int)<c.fields.length:=Zm
    obtain⟨wo,rfl⟩:∃wo:World,wo=wr:=⟨_,rfl⟩;have ax:Zz (o9 c=jU M.Method.name nR c.methods []):=Zy (by have:=B.o;rw[Tq Zm]at this;rw[T.o,this];rfl);clear x B;go_wp2;go_loopw [4] (fun i wr=>∃g:Nat,g<=c.methods.length/\i=.int .i64 g/\Ext wo wr/\Zz (jU M.Method.name nR (c.methods.take g) []=true)) (fun i _=>c.methods.length - (intOf i).toNat)
    case atStart=>exact⟨0,Tz _,rfl,Kp.rr,Zy rfl⟩
    case round=>
     obtain⟨q,aQ,rfl,y,B⟩:=hrel;have⟨D,aM⟩:=jw (G.trans y) y;have e3:=y.jm d3;have ez:=jv e3;clear X d3 dz;by_cases aC:q<c.methods.length
     . have aK:(q:Int)<c.methods.length:=Zm
       obtain⟨l,A⟩:∃l,c.methods[q]?=some l:=⟨c.methods[q]'aC,CU aC⟩;obtain⟨W,av,cs,rfl,hI,hM,-,O⟩:=HM.get A;obtain⟨ma,mu,mb,mv,md,mw,rfl⟩:=hM.form;have aA:=jy.stays _ _ _ _ _ _ (Ext.same (p.trans D)) (fun _ N=>N) hM;obtain⟨J,K,L,g3,g4,g5,g6,g7⟩:=(O.ext (p.trans D)).eight;have U:=Zy ((HM.take (i:=q) Zm).ext jy.stays (p.trans D));have P:(c.methods.take q).length=q:=by rw[TN];omega
       obtain⟨aJ,m,aN,h⟩:=lL wr;have y0:=fun b=>(h.jC b).jm J;have y1:=fun b=>(h.jC b).jm K;have y2:=fun b=>(h.jC b).jm L;have y3:=fun b=>(h.jC b).jm g3;have y4:=fun b=>(h.jC b).jm g4;have y5:=fun b=>(h.jC b).jm g5;have y6:=fun b=>(h.jC b).jm g6;have y7:=fun b=>(h.jC b).jm g7;have ye:=fun b=>(h.jC b).jm e3;have j:=Zy h;have aH:=Zy aA;have⟨aG,u⟩:=jw P (xe (name:=M.Method.name) (ok:=nR) A);have C:Zz (jU M.Method.name nR (c.methods.take (q+1)) []=false->o9 c=false):=Zy fun f=>by rw[ax.o,zt f]
       clear h y O A J K L g3 g4 g5 g6 g7 ez P hM aA;have r:Ext wr wr.drew:=jA;go_wp2_with fail;refine lq j 21 [([0,1,2,3,4],5),([6,7,8,9,10,11,12,13,14,15,16,17],18)] [19,20] ?_ ?_
       . exact jA
       refine nE ?_;intro e a;go_wp2_with fail;refine(PR I l (jy.stays _ _ _ _ _ _ (Ext.same r) (fun _ N=>N) aH)).mono ?_;rintro f w2 ⟨rfl,aL⟩;obtain⟨q2,z⟩:∃d,nR l=d:=⟨_,rfl⟩;have H:=Zy z;rw[z];clear z;have n:=r.trans aL;cases q2
       . go_wp2_with fail;refine kk j a n ?_;clear a e;refine nE ?_;intro e a;go_wp2_with fail;refine kk j a n ?_;clear a e;refine uC ?_;go_wp2;go_ret;exact⟨hV (C (by rw[u.o,H.o];simp)).symm,(p.trans D).trans n⟩
       go_wp2_with fail;refine kk j a n ?_;clear a e;refine nE ?_;intro e a;go_wp2_with fail;refine(JI I (.slice (some ⟨W,av,none⟩) q m2) (c.methods.take q) (U.ext jy.stays n) l.name).mono ?_;rintro f w3 ⟨⟨au,rfl,t⟩,af⟩;have s:=n.trans af;obtain⟨d,hq⟩:∃d,decide (0<=au)=d:=⟨_,rfl⟩;simp only[oP]at t;rw[hq]at t;have k:=Zy t;clear t;cases d
       . go_wp2_with fail;refine kk j a s ?_;clear a e;refine uC ?_;go_wp2;go_round
         case rel=>exact⟨q+1,Zm,Zk,(aM.o).trans s,Zy (by rw[u.o,B.o,H.o,<-k.o];rfl)⟩
         case measure=>exact Zj
       . go_wp2_with fail;refine kk j a s ?_;clear a e;refine uC ?_;go_wp2;go_ret;exact⟨hV (C (by rw[u.o,<-k.o];simp)).symm,(p.trans D).trans s⟩
     . have aK:¬(q:Int)<c.methods.length:=Zm
       clear y;go_wp2;go_ret;exact⟨hV (by have:=B.o;rw[Tq Zm]at this;rw[ax.o,this]),p.trans D⟩
end Go.Proofs.YtenhnldnpdlniaaGreat
