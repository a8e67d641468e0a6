/- Walks. -/
import Derived.Test.YtenhnldnpdlniaaGreatOtCoreLj
import Derived.Test.YtenhnldnpdlniaaGreatOtCoreLg
import Derived.Test.YtenhnldnpdlniaaGreatOtCoreLi
import Derived.Sort.LoopGhostIn
set_option maxRecDepth 100000
set_option maxHeartbeats 4000000
set_option linter.all false
namespace Go.Proofs.YtenhnldnpdlniaaGreat
open Go Go.RowKit Tryz M
variable {a n s: ByteArray}{k: Int}{z: Nat}{α: Type}{w: World}
theorem PH(I:Nat->Prop){cs:List Value}(c:M.Method)(h:jb w I c cs):Calls prog 154 #[.agg cs.toArray] w fun b e=>b=.returned (.bool (ng c))/\Ext w e:=by
 obtain⟨va,vc,vm,rfl,n,i,j⟩:=h;obtain⟨u,u1,rfl,aB,ay⟩:=n.form;obtain⟨v,u2,rfl,aC,az⟩:=i.form;obtain⟨x,u3,rfl,aD,aA⟩:=j.form;obtain⟨q,p⟩:=SH (w.alloc (.cells #[c.name,.slice u c.args.length u1,c.ret.kind,c.ret.name,c.locals,c.stack,.slice v c.code.length u2,.slice x c.maps.length u3] 113));have ae:Ext w q:=by rw[p];exact Zx
 have C:h9 q w 113 #[c.name,.slice u c.args.length u1,c.ret.kind,c.ret.name,c.locals,c.stack,.slice v c.code.length u2,.slice x c.maps.length u3]:=by rw[p];exact h9.new _ _ _
 obtain⟨cz,c0,c1,c2,c3,c4,c5,c6,c7,-⟩:=C.ca;have HB:=Zy C;have V:Zz (jb w I c [c.name,.slice u c.args.length u1,c.ret.kind,c.ret.name,c.locals,c.stack,.slice v c.code.length u2,.slice x c.maps.length u3]):=Zy ⟨_,_,_,rfl,n,i,j⟩;have⟨HK,r,t⟩:=jr n ae p;have m:=fun ak=>Zy (kg c.name ak);clear ae C p n i j;cases G:jf c.name<;>simp only[G]at m
 . go_enter func154,ntmps154;go_wp2_with fail;rw[<-t.o];go_wp2_with fail;refine(m _).o.mono ?_;rintro b e ⟨rfl,rfl⟩;go_wp2;go_ret;exact⟨hQ (by unfold ng;rw[G];simp),r⟩
 by_cases o:3<c.args.length
 . have au:decide ((3:Int)<c.args.length)=true:=SY Zm;go_enter func154,ntmps154;go_wp2_with fail;rw[<-t.o];go_wp2_with fail;refine(m _).o.mono ?_;rintro b e ⟨rfl,rfl⟩;go_wp2;go_ret;exact⟨hQ (by unfold ng;rw[RN (show¬c.args.length<=3 by omega)];simp),r⟩
 have H3:Zz (c.args.length<=3):=Zy Zm;have aj:=Zy G;have au:decide ((3:Int)<c.args.length)=false:=RN Zm;go_enter func154,ntmps154;go_wp2_with fail;rw[<-t.o];go_wp2_with fail;refine(m _).o.mono ?_;rintro b e ⟨rfl,rfl⟩;go_wp2_with fail;refine(zI c.ret.kind c.ret.name).mono ?_;rintro b w2 ⟨rfl,z⟩;obtain⟨q2,H⟩:∃a,kY ⟨c.ret.kind,c.ret.name⟩=a:=⟨_,rfl⟩;have W:=Zy H;rw[H];clear H;have g:=Zy (r.trans z);have D:=HB.ext z;have ah:=Zy D;clear z c0 c1 c2 c3 c4 c5 c6 c7 cz;obtain⟨dz,d0,d1,d2,d3,d4,d5,d6,d7,-⟩:=D.ca;clear D;cases q2
 . go_wp2;go_ret;exact⟨hQ (by unfold ng;rw[W.o];simp),g⟩
 go_wp2_with fail;refine(ry).mono ?_;rintro b e ⟨rfl,rfl⟩;obtain⟨q3,J⟩:∃a,(decide ((c.args.length:Int)+1<=c.locals)&&decide (c.locals<=6))=a:=⟨_,rfl⟩;have X:=Zy J;rw[J];clear J;cases q3
 . go_wp2;go_ret;exact⟨hQ (by have:=X.o;unfold ng;cases i:decide ((c.args.length:Int)+1<=c.locals)<;>cases j:decide (c.locals<=6)<;>simp_all),g⟩
 go_wp2_with fail;refine(ry).mono ?_;rintro b e ⟨rfl,rfl⟩;obtain⟨q4,K⟩:∃a,(decide ((1:Int)<=c.stack)&&decide (c.stack<=5))=a:=⟨_,rfl⟩;have Y:=Zy K;rw[K];clear K;cases q4
 . go_wp2;go_ret;exact⟨hQ (by have:=Y.o;unfold ng;cases i:decide ((1:Int)<=c.stack)<;>cases j:decide (c.stack<=5)<;>simp_all),g⟩
 go_wp2_with fail;refine(NA I c (jb.stays _ _ _ _ _ _ (Ext.same g) (fun _ h=>h) V)).mono ?_;rintro b w3 ⟨rfl,A⟩;obtain⟨q5,L⟩:∃a,codeOk c=a:=⟨_,rfl⟩;have Z:=Zy L;rw[L];clear L;have s:=Zy (g.trans A);have E:=ah.ext A;have ai:=Zy E;clear A d0 d1 d2 d3 d4 d5 d6 d7 dz;obtain⟨ez,e0,e1,e2,e3,e4,e5,e6,e7,-⟩:=E.ca;clear E;cases q5
 . go_wp2;go_ret;exact⟨hQ (by unfold ng;rw[Z.o];simp),s⟩
 go_wp2_with fail;refine(NB I c (jb.stays _ _ _ _ _ _ (Ext.same s) (fun _ h=>h) V)).mono ?_;rintro b w4 ⟨rfl,B⟩;obtain⟨q6,N⟩:∃a,qU c=a:=⟨_,rfl⟩;have aa:=Zy N;rw[N];clear N;have l:=Zy (s.trans B);have F:=ai.ext B;clear B e0 e1 e2 e3 e4 e5 e6 e7 ez;obtain⟨fz,-,f1,-⟩:=F.ca;have ax:=Zy F;clear F;cases q6
 . go_wp2;go_ret;exact⟨hQ (by unfold ng;rw[aa.o];simp),l⟩
 have S:Zz (ng c=c.args.all kY):=Zy (by
  have o:=X.o;have y:=Y.o;simp only[S9,SF]at o y;unfold ng;rw[aj.o,W.o,Z.o,aa.o,SY H3.o,SY o.1,SY o.2,SY y.1,SY y.2];simp)
 go_wp2;go_loopw [3] (fun Q wr=>∃d:Nat,d<=c.args.length/\Q=.int .i64 d/\Ext w4 wr/\Zz ((c.args.take d).all kY=true)) (fun Q _=>c.args.length - (intOf Q).toNat)
 case atStart=>exact⟨0,T9 _,rfl,Kp.rr,Zy Zl⟩
 case round =>
  obtain⟨d,hk,rfl,k,R⟩:=hrel;have T:=Zy k;have g1:=k.iW f1;have gz:=iV g1;by_cases ag:d<c.args.length
  . have dk:(d:Int)<c.args.length:=Zm
    obtain⟨f,P⟩:∃f,c.args[d]?=some f:=⟨c.args[d]'ag,Dj ag⟩;obtain⟨b',aF,cs,rfl,hI,rfl,-,hc⟩:=HK.get P;obtain⟨y0,y1⟩:=(hc.ext (l.trans k)).two;have yz:=iV y0;have HX:=Zy P;clear P hc k;go_wp2_with fail;refine(zI f.kind f.name).mono ?_;rintro b w5 ⟨rfl,af⟩;obtain⟨av,O⟩:∃a,kY ⟨f.kind,f.name⟩=a:=⟨_,rfl⟩;have HT:=Zy O;rw[O];clear O;have U:=Zy (T.trans af);clear af;cases av
    . go_wp2;go_ret;exact⟨hQ (by rw[S.o,Da HX.o HT.o]),l.trans U⟩
    . go_wp2;go_round
      case rel=>exact⟨d+1,Zm,by go_num,U.o,Zy (Dt HX.o HT.o R.o)⟩
      case measure=>simp[intOf];omega
  . have dk:¬(d:Int)<c.args.length:=Zm
    clear k;go_wp2;go_ret;exact⟨hQ (by have:=R.o;rw[Tu Zm]at this;rw[S.o,this]),l.trans T⟩
theorem PG(I:Nat->Prop){cs:List Value}(c:Class)(N:jB w I c cs):Calls prog 115 #[.agg cs.toArray] w fun f o=>f=.returned (.bool (mY c))/\Ext w o:=by
 obtain⟨vf,vm,rfl,Y,Z⟩:=N;obtain⟨a1,m1,rfl,aT,aR⟩:=Y.form;obtain⟨a2,m2,rfl,aU,aS⟩:=Z.form;obtain⟨w0,aD,az,F⟩:=nu w #[c.name,c.je,.slice a1 c.fields.length m1,.slice a2 c.methods.length m2] 38;obtain⟨cz,c0,c1,c2,c3,-⟩:=F.ca;have⟨HF,HM,p,aI⟩:=kQ Y Z az aD;clear az F aD Y Z;go_enter func115,ntmps115;go_upto_region 1 with(fail);rw[<-aI.o];go_cut [31] (fun aP wx=>aP=.bool (!(jf c.name&&(decide (c.je=none_)|| jf c.je)&&decide (c.fields.length<=3)&&decide (c.methods.length<=4)))/\wx=w0)
 case first=>
  obtain⟨qn,aj⟩:∃d,jf c.name=d:=⟨_,rfl⟩;obtain⟨qs,aO⟩:∃d,(c.je.toList==[])=d:=⟨_,rfl⟩;obtain⟨qp,ak⟩:∃d,jf c.je=d:=⟨_,rfl⟩;obtain⟨qf,ah⟩:∃d,decide (c.fields.length<=3)=d:=⟨_,rfl⟩;obtain⟨qm,ai⟩:∃d,decide (c.methods.length<=4)=d:=⟨_,rfl⟩;have v:Zz ((!(jf c.name&&(decide (c.je=none_)|| jf c.je)&&decide (c.fields.length<=3)&&decide (c.methods.length<=4)))= !(qn&&(qs || qp)&&qf&&qm)):=Zy (by rw[aj,qo,aO,ak,ah,ai]);have k:=fun V=>Zy (kg c.name V);have E:=fun V=>Zy (kg c.je V);have⟨Q,R⟩:=jc ah ai;simp only[aj]at k;simp only[ak]at E;clear aj ak ah ai;cases qn
  . go_wp2_with fail;refine(k _).o.mono ?_;rintro f o ⟨rfl,rfl⟩;go_wp2;go_meet;exact⟨by rw[v.o];rfl,rfl⟩
  cases qs
  . cases qp
    . go_wp2_with fail;refine(k _).o.mono ?_;rintro f o ⟨rfl,rfl⟩;go_wp2_with fail;refine(E _).o.mono ?_;rintro f o ⟨rfl,rfl⟩;go_wp2;go_meet;exact⟨by rw[v.o];rfl,rfl⟩
    cases qf
    . have aa:decide ((3:Int)<c.fields.length)=true:=SY (SK (VX Q));go_wp2_with fail;refine(k _).o.mono ?_;rintro f o ⟨rfl,rfl⟩;go_wp2_with fail;refine(E _).o.mono ?_;rintro f o ⟨rfl,rfl⟩;go_wp2;go_meet;exact⟨by rw[v.o];rfl,rfl⟩
    have aa:decide ((3:Int)<c.fields.length)=false:=RN (SK (TE Q));cases qm
    . have ae:decide ((4:Int)<c.methods.length)=true:=SY (SK (VX R));go_wp2_with fail;refine(k _).o.mono ?_;rintro f o ⟨rfl,rfl⟩;go_wp2_with fail;refine(E _).o.mono ?_;rintro f o ⟨rfl,rfl⟩;go_wp2;go_meet;exact⟨by rw[v.o];rfl,rfl⟩
    have ae:decide ((4:Int)<c.methods.length)=false:=RN (SK (TE R));go_wp2_with fail;refine(k _).o.mono ?_;rintro f o ⟨rfl,rfl⟩;go_wp2_with fail;refine(E _).o.mono ?_;rintro f o ⟨rfl,rfl⟩;go_wp2;go_meet;exact⟨by rw[v.o];rfl,rfl⟩
  . clear E;cases qf
    . have aa:decide ((3:Int)<c.fields.length)=true:=SY (SK (VX Q));go_wp2_with fail;refine(k _).o.mono ?_;rintro f o ⟨rfl,rfl⟩;go_wp2;go_meet;exact⟨by rw[v.o];rfl,rfl⟩
    have aa:decide ((3:Int)<c.fields.length)=false:=RN (SK (TE Q));cases qm
    . have ae:decide ((4:Int)<c.methods.length)=true:=SY (SK (VX R));go_wp2_with fail;refine(k _).o.mono ?_;rintro f o ⟨rfl,rfl⟩;go_wp2;go_meet;exact⟨by rw[v.o];rfl,rfl⟩
    have ae:decide ((4:Int)<c.methods.length)=false:=RN (SK (TE R));go_wp2_with fail;refine(k _).o.mono ?_;rintro f o ⟨rfl,rfl⟩;go_wp2;go_meet;exact⟨by rw[v.o];rfl,rfl⟩
 obtain⟨rfl,aF⟩:=hcut;rw[aF];clear aF;obtain⟨S,F⟩:∃S,(jf c.name&&(decide (c.je=none_)|| jf c.je)&&decide (c.fields.length<=3)&&decide (c.methods.length<=4))=S:=⟨_,rfl⟩;have T:Zz (mY c=(S&&jw M.Field.name (fun m=>jf m.name&&kY m.kind) c.fields []&&jw M.Method.name ng c.methods [])):=Zy (by unfold mY;rw[F]);rw[F];clear F;cases S
 . simp only[Bool.not_false];go_wp2;go_ret;exact⟨hQ (by rw[T.o];rfl),p⟩
 simp only[Bool.not_true];go_wp2;go_loopw [3] (fun i wr=>∃g:Nat,g<=c.fields.length/\i=.int .i64 g/\Ext w0 wr/\Zz (jw M.Field.name (fun m=>jf m.name&&kY m.kind) (c.fields.take g) []=true)) (fun i _=>c.fields.length - (intOf i).toNat)
 case atStart=>exact⟨0,T9 _,rfl,Kp.rr,Zy rfl⟩
 case round =>
  obtain⟨g,hk,rfl,x,B⟩:=hrel;have G:=Zy x;have X:=x.iW c2;have d3:=x.iW c3;have dz:=iV X;clear c0 c1 c2 c3 cz;by_cases aB:g<c.fields.length
  . have dk:(g:Int)<c.fields.length:=Zm
    obtain⟨l,A⟩:∃l,c.fields[g]?=some l:=⟨c.fields[g]'aB,Dj aB⟩;obtain⟨W,av,cs,rfl,hI,rfl,-,O⟩:=HF.get A;obtain⟨J,K,L⟩:=(O.ext (p.trans x)).three;have U:=Zy ((HF.take (i:=g) Zm).ext lq.stays (p.trans x));have P:(c.fields.take g).length=g:=by rw[Tf];omega
    obtain⟨aJ,m,aN,h⟩:=mJ wr;have y0:=fun b=>(h.jv b).iW J;have y1:=fun b=>(h.jv b).iW K;have y2:=fun b=>(h.jv b).iW L;have y3:=fun b=>(h.jv b).iW X;have⟨j,aG,u⟩:=jr h P (wZ (name:=M.Field.name) (ok:=fun m=>jf m.name&&kY m.kind) A);have C:Zz (jw M.Field.name (fun m=>jf m.name&&kY m.kind) (c.fields.take (g+1)) []=false->mY c=false):=Zy fun f=>by rw[T.o,zn f];rfl
    clear h x O A J K L dz P;have r:Ext wr wr.drew:=jg;go_wp2_with fail;refine kT j 32 [([0,1,2,3,4,5],6),([7,8,9,10,11,12,13,14],15),([16,17,18,19,20,21,22,23,24,25,26,27,28],29)] [30,31] ?_ ?_
    . exact jg
    refine mP ?_;intro e a;go_wp2_with fail;refine(kg _ _).mono ?_;rintro f w1 ⟨rfl,rfl⟩;obtain⟨q1,ag⟩:∃d,jf l.name=d:=⟨_,rfl⟩;have ay:=Zy ag;rw[ag];clear ag;cases q1
    . go_wp2_with fail;refine kk j a r ?_;clear a e;refine mP ?_;intro e a;go_wp2_with fail;refine kk j a r ?_;clear a e;refine mP ?_;intro e a;go_wp2_with fail;refine kk j a r ?_;clear a e;refine uG ?_;go_wp2;go_ret;exact⟨hQ (C (by rw[u.o,ay.o];simp)).symm,(p.trans G).trans r⟩
    go_wp2_with fail;refine kk j a r ?_;clear a e;refine mP ?_;intro e a;go_wp2_with fail;refine(zI l.kind.kind l.kind.name).mono ?_;rintro f w2 ⟨rfl,y⟩;obtain⟨q2,z⟩:∃d,kY ⟨l.kind.kind,l.kind.name⟩=d:=⟨_,rfl⟩;have H:=Zy z;rw[z];clear z;have n:=r.trans y;cases q2
    . go_wp2_with fail;refine kk j a n ?_;clear a e;refine mP ?_;intro e a;go_wp2_with fail;refine kk j a n ?_;clear a e;refine uG ?_;go_wp2;go_ret;exact⟨hQ (C (by rw[u.o,H.o];simp)).symm,(p.trans G).trans n⟩
    go_wp2_with fail;refine kk j a n ?_;clear a e;refine mP ?_;intro e a;go_wp2_with fail;refine(Lg I (.slice (some ⟨W,av,none⟩) g m1) (c.fields.take g) (U.ext lq.stays n) l.name).mono ?_;rintro f w3 ⟨⟨au,rfl,t⟩,af⟩;have s:=n.trans af;obtain⟨d,hq⟩:∃d,decide (0<=au)=d:=⟨_,rfl⟩;simp only[nU]at t;rw[hq]at t;have k:=Zy t;clear t;cases d
    . go_wp2_with fail;refine kk j a s ?_;clear a e;refine uG ?_;go_wp2;go_round
      case rel=>exact⟨g+1,Zm,by go_num,G.o.trans s,Zy (by rw[u.o,B.o,ay.o,H.o,<-k.o];rfl)⟩
      case measure=>simp[intOf];omega
    . go_wp2_with fail;refine kk j a s ?_;clear a e;refine uG ?_;go_wp2;go_ret;exact⟨hQ (C (by rw[u.o,<-k.o];simp)).symm,(p.trans G).trans s⟩
  . have dk : ¬ (g : Int) < c.fields.length := by omega
    obtain⟨wo,rfl⟩:∃wo:World,wo=wr:=⟨_,rfl⟩;have ax:Zz (mY c=jw M.Method.name ng c.methods []):=Zy (by have:=B.o;rw[Tu Zm]at this;rw[T.o,this];rfl);clear x B;go_wp2;go_loopw [4] (fun i wr=>∃g:Nat,g<=c.methods.length/\i=.int .i64 g/\Ext wo wr/\Zz (jw M.Method.name ng (c.methods.take g) []=true)) (fun i _=>c.methods.length - (intOf i).toNat)
    case atStart=>exact⟨0,T9 _,rfl,Kp.rr,Zy rfl⟩
    case round =>
     obtain⟨q,aQ,rfl,y,B⟩:=hrel;have⟨D,aM⟩:=jc (G.trans y) y;have e3:=y.iW d3;have ez:=iV e3;clear X d3 dz;by_cases aC:q<c.methods.length
     . have aK:(q:Int)<c.methods.length:=Zm
       obtain⟨l,A⟩:∃l,c.methods[q]?=some l:=⟨c.methods[q]'aC,Dj aC⟩;obtain⟨W,av,cs,rfl,hI,hM,-,O⟩:=HM.get A;obtain⟨ma,mu,mb,mv,md,mw,rfl⟩:=hM.form;have aA:=jb.stays _ _ _ _ _ _ (Ext.same (p.trans D)) (fun _ N=>N) hM;obtain⟨J,K,L,g3,g4,g5,g6,g7⟩:=(O.ext (p.trans D)).eight;have U:=Zy ((HM.take (i:=q) Zm).ext jb.stays (p.trans D));have P:(c.methods.take q).length=q:=by rw[Tf];omega
       obtain⟨aJ,m,aN,h⟩:=mJ wr;have y0:=fun b=>(h.jv b).iW J;have y1:=fun b=>(h.jv b).iW K;have y2:=fun b=>(h.jv b).iW L;have y3:=fun b=>(h.jv b).iW g3;have y4:=fun b=>(h.jv b).iW g4;have y5:=fun b=>(h.jv b).iW g5;have y6:=fun b=>(h.jv b).iW g6;have y7:=fun b=>(h.jv b).iW g7;have ye:=fun b=>(h.jv b).iW e3;have j:=Zy h;have aH:=Zy aA;have⟨aG,u⟩:=jc P (wZ (name:=M.Method.name) (ok:=ng) A);have C:Zz (jw M.Method.name ng (c.methods.take (q+1)) []=false->mY c=false):=Zy fun f=>by rw[ax.o,zn f]
       clear h y O A J K L g3 g4 g5 g6 g7 ez P hM aA;have r:Ext wr wr.drew:=jg;go_wp2_with fail;refine kT j 21 [([0,1,2,3,4],5),([6,7,8,9,10,11,12,13,14,15,16,17],18)] [19,20] ?_ ?_
       . exact jg
       refine mP ?_;intro e a;go_wp2_with fail;refine(PH I l (jb.stays _ _ _ _ _ _ (Ext.same r) (fun _ N=>N) aH)).mono ?_;rintro f w2 ⟨rfl,aL⟩;obtain⟨q2,z⟩:∃d,ng l=d:=⟨_,rfl⟩;have H:=Zy z;rw[z];clear z;have n:=r.trans aL;cases q2
       . go_wp2_with fail;refine kk j a n ?_;clear a e;refine mP ?_;intro e a;go_wp2_with fail;refine kk j a n ?_;clear a e;refine uG ?_;go_wp2;go_ret;exact⟨hQ (C (by rw[u.o,H.o];simp)).symm,(p.trans D).trans n⟩
       go_wp2_with fail;refine kk j a n ?_;clear a e;refine mP ?_;intro e a;go_wp2_with fail;refine(JM I (.slice (some ⟨W,av,none⟩) q m2) (c.methods.take q) (U.ext jb.stays n) l.name).mono ?_;rintro f w3 ⟨⟨au,rfl,t⟩,af⟩;have s:=n.trans af;obtain⟨d,hq⟩:∃d,decide (0<=au)=d:=⟨_,rfl⟩;simp only[nU]at t;rw[hq]at t;have k:=Zy t;clear t;cases d
       . go_wp2_with fail;refine kk j a s ?_;clear a e;refine uG ?_;go_wp2;go_round
         case rel=>exact⟨q+1,Zm,by go_num,(aM.o).trans s,Zy (by rw[u.o,B.o,H.o,<-k.o];rfl)⟩
         case measure=>simp[intOf];omega
       . go_wp2_with fail;refine kk j a s ?_;clear a e;refine uG ?_;go_wp2;go_ret;exact⟨hQ (C (by rw[u.o,<-k.o];simp)).symm,(p.trans D).trans s⟩
     . have aK:¬(q:Int)<c.methods.length:=Zm
       clear y;go_wp2;go_ret;exact⟨hQ (by have:=B.o;rw[Tu Zm]at this;rw[ax.o,this]),p.trans D⟩
theorem Jt:Calls prog 89 #[.agg #[k,s]] w fun h n=>h=.returned (.string (og ⟨k,s⟩))/\Ext w n:=by
 obtain⟨d,f⟩:∃d,kY ⟨k,s⟩=d:=⟨_,rfl⟩;have b:=Zy f;obtain⟨g,e⟩:∃g,og ⟨k,s⟩=g:=⟨_,rfl⟩;have c:=Zy e;rw[e];clear e;go_enter func89,ntmps89;go_wp2_with fail;refine(zI k s).mono ?_;rintro h r ⟨rfl,i⟩;rw[f];have l:=Zy i;clear i;cases d
 . go_wp2;go_ret;exact⟨by rw[<-c.o];unfold og;rw[b.o];rfl,Zx⟩
 . have j:=(h9.new w 109 #[k,s]).ext l;obtain⟨-,o,p,-⟩:=j.ca;clear j f;by_cases a:k=1
   . subst a;go_wp2;go_ret;exact⟨by rw[<-c.o];unfold og;rw[b.o];rfl,Zx⟩
   . have q:(k==1)=false:=SI.2 a;have m:=Zy a;clear a;go_wp2;go_ret;exact⟨by rw[<-c.o];unfold og;rw[SV b.o,SX m.o];rfl,Zx⟩
theorem M.Lj{t:Tag}(a:oZ t=true):t.kind=0\/t.kind=1\/t.kind=2\/t.kind=3:=by
 unfold oZ at a;split at a
 . omega
 . split at a
   . omega
   . cases a
theorem Jy:Calls prog 169 #[.agg #[k,s]] w fun g m=>g=.returned (.string (qL ⟨k,s⟩))/\Ext w m:=by
 obtain⟨b,a⟩:∃b,oZ ⟨k,s⟩=b:=⟨_,rfl⟩;have d:=Zy a;obtain⟨f,c⟩:∃f,qL ⟨k,s⟩=f:=⟨_,rfl⟩;have e:=Zy c;rw[c];clear c;go_enter func169,ntmps169;go_wp2_with fail;refine(Gp k s).mono ?_;rintro g q ⟨rfl,h⟩;rw[a];have l:=Zy h;clear h;cases b
 . go_wp2;go_ret;exact⟨by rw[<-e.o];unfold qL;rw[d.o];rfl,Zx⟩
 . have i:=(h9.new w 236 #[k,s]).ext l;have j:=Lj a;simp only at j;obtain⟨p,n,o,-⟩:=i.ca;clear i a;rcases j with rfl|rfl|rfl|rfl
   all_goals
    go_wp2;go_ret;exact⟨by rw[<-e.o];unfold qL;rw[d.o];rfl,Zx⟩
theorem Pn(s:ByteArray){w:World}:Calls prog 88 #[s] w fun d e=>d=.returned (rW s)/\Ext w e:=by
 obtain⟨b,c⟩:∃b,(s.toList==[])=b:=⟨_,rfl⟩;go_enter func88,ntmps88;cases b
 . have a:=Zy (kr (b:=none_) c (by decide+kernel));go_wp2;go_ret;exact⟨by unfold rW;rw[SX a.o];rfl,Kp.rr⟩
 . have a:=Zy (eq_of_beq (b:=none_) c (by decide+kernel));go_wp2;go_ret;exact⟨by unfold rW;rw[SV a.o];rfl,Kp.rr⟩
theorem M.pI{k:Kind}(a:k.name.size<=z)(b:1<=z):(og k).size<=z:=by
 unfold og;split
 . split
   . exact b
   . exact a
 . exact T9 _
theorem M.xN{k:Tag}(b:k.name.size<=z)(a:1<=z):(qL k).size<=z:=by
 unfold qL;split
 . split
   . exact a
   . split
     . exact a
     . split
       . exact a
       . exact b
 . exact T9 _
theorem M.yY(a:s.size<=z)(b:1<=z):(rW s).size<=z:=by
 unfold rW;split
 . exact b
 . exact a
theorem yX(f:α->ByteArray){z:Nat}:∀(l:List α) (s:ByteArray),(∀x∈l,(f x).size<=z)->(l.foldl (fun s x=>s++M.Fe++f x) s).size<=s.size+(z+1)*l.length
 |[],s,_=>by simp
 |x::l,s,h=>by
  rw[List.foldl_cons];refine TD (yX f l _ fun b a=>h b (by simp[a])) ?_;have c:=h x Zl;rw[Tj,Tj,Tc,Nat.mul_succ,show M.Fe.size=1 from rfl];omega
theorem FZ{a: Type}{f:a->α->a}{l:List α}{k:Nat}{x:α}(b:l[k]?=some x)(s:a):(l.take (k+1)).foldl f s=f ((l.take k).foldl f s) x:=by
 obtain⟨c,d⟩:=Tv.1 b;rw[Tm,b,List.foldl_append];rfl
theorem xB{x:Kind}(c:og x=a){w:World}:Calls prog 89 #[.agg #[x.kind,x.name]] w fun b d=>b=.returned a/\Ext w d:=by
 subst c;exact Jt
theorem Hs{x:Tag}(c:qL x=a){w:World}:Calls prog 169 #[.agg #[x.kind,x.name]] w fun b d=>b=.returned a/\Ext w d:=by
 subst c;exact Jy
theorem LY(w:World){I:Nat->Prop}{v:Value}{l:List Tag}(p:SliceOf 2 kU w I v l)(hl:l.length<=1000)(g:∀F∈l,F.name.size<=1000):Calls prog 137 #[v] w fun o G=>o=.returned (o9 l)/\Ext w G:=by
 obtain⟨H,K,rfl,U,S⟩:=p.form;have u:Zz (∀a,(o9 (l.take a)).size<=2000000):=Zy fun a=>by
  have:=yX (z:=1000) qL (l.take a) none_ fun c b=>xN (g c (U2 b)) Zm;have B:(l.take a).length<=1000:=by rw[Tf];omega
  have P:=Nat.mul_le_mul_left 1001 B;unfold o9;have Q:none_.size=0:=rfl;omega
 have y:=Zy g;clear g;go_enter func137,ntmps137;go_wp2;go_loopw [3,4] (fun E h wr=>∃a:Nat,a<=l.length/\h=.int .i64 a/\E=.string (o9 (l.take a))/\Ext w wr) (fun _ h _=>l.length - (intOf h).toNat)
 case atStart=>exact⟨0,T9 _,rfl,rfl,Kp.rr⟩
 case round=>
  obtain⟨a,T,rfl,rfl,d⟩:=hrel;have i:=Zy d;have C:=u.o a;obtain⟨m,e⟩:∃m,o9 (l.take a)=m:=⟨_,rfl⟩;rw[e]at C |-;have j:=Zy e;clear e;by_cases s:a<l.length
  . have z:(a:Int)<l.length:=Zm
    obtain⟨c,b⟩:∃c,l[a]?=some c:=⟨l[a]'s,Dj s⟩;obtain⟨J,W,L,rfl,R,rfl,-,r⟩:=p.get b;obtain⟨A,N⟩:=(r.ext d).two;have O:=iV A;have x:=Zy b;have D:=xN (y c (Sy b)) Zm;have V:(ByteArray.mk #[32]).size=1:=rfl;obtain⟨n,f⟩:∃n,qL c=n:=⟨_,rfl⟩;rw[f]at D;have k:=Zy f;clear b r d f;go_wp2_with fail;refine(Hs k).mono ?_;rintro o X ⟨rfl,q⟩;have t:=Zy (i.trans q);clear q;go_wp2;go_round
    case rel=>exact⟨a+1,Zm,by go_num,by unfold o9;rw[FZ x.o,<-j.o,<-k.o];rfl,t⟩
    case measure=>simp[intOf];omega
  . have z:¬(a:Int)<l.length:=Zm
    go_wp2;go_ret;exact⟨by rw[<-j.o,Tu Zm];rfl,i⟩
attribute [local go_sem] Oper.semAt_some
theorem I7{a:Addr}:Calls prog 141 #[.pointer (some a),.agg #[k,n]] w fun b c=>b=.returned (.func (.func 173) #[] #[.pointer (some ⟨w+1,0,none⟩),some w])/\c=(w.alloc (.cells #[.pointer (some a)] 58)).alloc (.cells #[k,n] 64):=by
 go_enter func141,ntmps141;go_wp2;go_ret;exact⟨rfl,rfl⟩
def items(p:hZ):Nat->Ref->List (Option Ref)
 |0,_=>[]
 |n+1,r=>some r::(if je p r=none_ then []else if(M.resolve p r.keeper (je p r)).2=1 then items p n (M.resolve p r.keeper (je p r)).1 else [none])
def Ay:Option Ref->Array Value
 |some r=>#[.agg #[.int .i64 r.keeper,.string r.name],.bool true]
 |none=>#[.agg #[.int .i64 0,.string none_],.bool false]
theorem lD{p:hZ}(b:(M.resolve p k n).2=1):∃a,cls? p (M.resolve p k n).1=some a:=M.lD b
theorem Kb (l : iZ) (p : hZ) (j : Ref) (e q : Nat) {z: Nat -> Prop} (hBd : ∀ g, z g -> l.L < g /\ g ≠ e /\ g ≠ q) (hRL : e ≠ q) (hR : l.L < e) (D : Nat) (aG : ∃ c, cls? p j = some c) :Iter prog 173 #[some e,some q] Ay (·=e) z (fun xs=>∀b,items p (xs.length+b) j=xs) (fun d=>∃b k,items p b j=d++k) (fun aM=>aM.length<=D) (fun m=>ja m l p/\h9 m e 64 #[j.keeper,j.name]/\h9 m q 58 #[some l.L]):=by
 intro lp aA Jx m ⟨E,J,I⟩ hJ aa hN G aB;refine callsIn_of_wp func173 rfl trivial ?_ rfl;simp only[ntmps173,UQ,Tc,U6,Nat.reduceAdd,Nat.reduceSub,U9,Uz,Uf,Uq,Ti,Td];gi_wp2;gi_loopg [4] (D+1) (fun aJ _ wr=>∃(d:List (Option Ref)) (a:Ref),aJ+d.length=D+1/\aA d wr/\ja wr l p/\h9 wr e 64 #[a.keeper,a.name]/\h9 wr q 58 #[some l.L]/\
     Zz (∀b,items p (d.length+b) j=d++items p b a)/\Zz (∃c,cls? p a=some c))
 case atStart=>exact⟨[],j,by simp,aB,E,J,I,Zy Zl,Zy aG⟩
 case round =>
  obtain⟨d,a,hm,O,hl,i,K,u,HO⟩:=hrel;have aY:=hN _ _ O;obtain⟨c,hc⟩:=HO.o;obtain⟨fn,bf,aP,aR,hy,hR⟩:=G d (some a) wr trivial O;simp only[Ay]at hy hR;obtain⟨-,aK,aL,-⟩:=i.ca;have aI:=K.c 0 (some l.L) rfl;have⟨HL,S,HY,v,B,V⟩:=rX hl (Tt i K) G (Tt hJ aa) (Tt hBd (Tt E (Tt J I))) hc;clear hl i K G hJ aa hBd E J I hc hN;gi_wp2_with fail;refine hR.mono ?_;rintro o W1 ⟨t,(⟨rfl,P⟩|⟨rfl,aD⟩)⟩
  . have Q : ∀ g, g <= l.L -> ¬ z g := fun g w i => absurd (B.o.1 g i).1 Zm; have aj := HL.kp t Q; have H := S.1.kp t (fun i => (B.1 _ i).2.1 rfl); have L := S.2.kp t (fun i => (B.1 _ i).2.2 rfl); obtain ⟨-, q0, q1,-⟩ := H.ca; have q2 := L.c 0 (some l.L) rfl; have ⟨X, T, HK⟩ := jr aj (Tt H L) (Tt t Q); clear aj H L t Q aK aL aI hy hR; gi_wp2_with fail; refine ⟨trivial, ?_⟩; refine (U5.2 (rQ _ _ X _ _ _ V)).mono ?_; rintro o W2 ⟨⟨cs, N, rfl⟩, n⟩; obtain ⟨y1, z1, y2, z2, rfl⟩ := N.form; have s0 := n.iW q0; have s1 := n.iW q1; have s2 := n.iW q2; have aV : ∀ m, (Instr.field 38 (.agg #[.string c.name, .string c.je, .slice y1 c.fields.length z1, .slice y2 c.methods.length z2]) 1).run prog m = .ok (.string c.je) m := fun m => by kernel_rfl
    have R:je p a=c.je:=by unfold je;rw[V.o];rfl
    by_cases y:c.je.toList.isEmpty=true
    . gi_wp2_with fail;refine SQ ?_;refine⟨⟨_,rfl⟩,.inl ⟨d++[some a],fun b=>?_,v.1 _ _ _ P n.any⟩⟩;rw[TL,Ul,u.o];congr 1;show items p (1+b) a=[some a]
      rw[VR];unfold items;rw[R,SV (by rw[l7]at y;simpa using y)]
    . have au:c.je.toList.isEmpty=false:=by simpa using y
      have Z:Zz (∀b,items p (b+1) a=some a::if(M.resolve p a.keeper c.je).2=1 then items p b (M.resolve p a.keeper c.je).1 else [none]):=Zy (by
       intro b;conv=>lhs;unfold items
       rw[R,SX (by rw[l7]at au;simpa using au)])
      have⟨aN,A⟩:=jc N n;have ak:=X.ext n;have Y:=Zy ak;clear y R N n ak q0 q1 q2;gi_wp2_with fail;refine⟨trivial,?_⟩;refine(U5.2 (zT Y)).mono ?_;rintro o r ⟨rfl,h⟩;have u0:=h.iW s0;have u1:=h.iW s1;have u2:=h.iW s2;have s:=((T.1.ext A).ext h);have af:=((T.2.ext A).ext h);have f0:=s.frozen 0;have f1:=s.frozen 1;have aZ:=s.lt;have ah:=v.1 _ _ _ P ((A.any).trans h.any);have⟨U,ay,aO,W⟩:=kQ (Tt s af) (Y.ext h) h ah;clear s af h ah s0 s1 s2 P O;by_cases f:(M.resolve p a.keeper c.je).2=1
      . obtain⟨c',ag⟩:=lD f;have C:Zz (∀b,items p (b+1) a=some a::items p b (M.resolve p a.keeper c.je).1):=Zy (by
         intro b;rw[Z.o,SV f])
        rw[f];clear f;generalize (M.resolve p a.keeper c.je).1=nx at*;have ax:Zz (∃c,cls? p nx=some c):=Zy ⟨c',ag⟩;clear ag;gi_wp2_with fail;gi_roundg (gk - 1)
        case measure=>omega
        case rel=>
         have w:Kp (·=e) r (((r.setCell e nx.keeper).setCell (e,1) nx.name).alloc (.cells #[nx.keeper,nx.name] 64)):=
          (((Kp.refl (·=e) r).setCell (p:=⟨e,0,none⟩) (fun _=>rfl) _).setCell (p:=⟨e,1,none⟩) (fun _=>rfl) _).alloc _
         refine⟨d++[some a],nx,by simp;omega,v.o.1 _ _ _ W.o w,ay.o.kp w (fun g aW o=>Zm),?_,U.o.2.kp w (fun o=>hRL o.symm),Zy (fun b=>?_),ax⟩
         . exact((U.1.jE 0 nx.keeper).jE 1 nx.name).ext (jh _)
         . rw[TL,Ul,u.o,VR,show [some a].length=1 from rfl,C.o,Te];rfl
      . have C:Zz (∀b,items p (b+2) a=[some a,none]):=Zy (by
         intro b;rw[Z.o (b+1),SX f])
        have aU:=SI.2 f;have av:M.resolve p a.keeper c.je=(vV,(M.resolve p a.keeper c.je).2):=by
         unfold M.resolve at f |-;split
         . rename_i h1;rw[SV h1]at f;exact absurd rfl f
         . rfl
        rw[av];have ai:=v.1 _ _ _ W (((Kp.refl _ r).alloc (.cells #[SS, ""] 64)):Kp (·=e) r _);obtain⟨aT,bg,aQ,aS,aH,F⟩:=HY.o (d++[some a]) none _ trivial ai;simp only[Ay]at aH F;have az:=Zy F;clear av f ai F;generalize (M.resolve p a.keeper c.je).2=code at*;simp only[vV];gi_wp2_with fail;refine az.mono ?_;have ae:∀b,items p ((d++[some a]++[none]).length+b) j=d++[some a]++[none]:=by
         intro b;rw[TL,TL,Ul,Ul,u.o,show [some a].length+([none (α:=Ref)].length+b)=b+2 from by simp;omega,C.o,Te];rfl
        rintro o W5 ⟨aX,(⟨rfl,aC⟩|⟨rfl,aF⟩)⟩
        . gi_wp2_with fail;refine SQ ?_;exact⟨⟨_,rfl⟩,.inl ⟨d++[some a]++[none],ae,aC⟩⟩
        . gi_wp2_with fail;refine SQ ?_;exact⟨⟨_,rfl⟩,.inr ⟨d++[some a]++[none],⟨(d++[some a]++[none]).length+0,[],by rw[ae 0,List.append_nil]⟩,aF⟩⟩
  . have x:∃k,items p (d.length+1) j=(d++[some a])++k:=by
     obtain⟨k,hr⟩:∃k,items p 1 a=some a::k:=⟨_,rfl⟩;exact⟨k,by rw[u.o,hr,Te];rfl⟩
    obtain⟨k,x⟩:=x;have HP:=Zy x;clear x;gi_wp2_with fail;refine SQ ?_;exact⟨⟨_,rfl⟩,.inr ⟨d++[some a],⟨_,k,HP⟩,aD⟩⟩
end Go.Proofs.YtenhnldnpdlniaaGreat
namespace Go.Proofs.YtenhnldnpdlniaaGreat
open Go Go.RowKit Tryz M
variable {xs: List Value}{c k n: Nat}{v: Value}{w: World}{p: hZ}
attribute [local go_sem] Oper.semAt_some
def wW(r:Ref):List Value:=[.int .i64 r.keeper,.string r.name]
theorem KA:∀(f:Nat) (b:List Ref) (r:Ref),(∀a,items p (b.length+a) r=b.map some)->b.length<=f->jN p f r=some b:=by
 intro f;induction f with
 |zero=>
  intro b r d j;have k:b=[]:=Ua.1 Zm;subst k;have:=d 1;simp[items]at this
 | succ f l =>
  intro b r d j;cases b with
  |nil=>have:=d 1;simp[items]at this
  | cons h c =>
   have m:=d;have g:∀a,(if je p r=none_ then []else if(M.resolve p r.keeper (je p r)).2=1 then items p (c.length+a) (M.resolve p r.keeper (je p r)).1 else [none])=c.map some/\h=r:=by
    intro a;have:=d a;rw[Tc,show c.length+1+a=(c.length+a)+1 from by omega]at this;simp only[items,TH,TG,TF]at this;exact⟨this.2,this.1.symm⟩
   obtain rfl:=(g 0).2;unfold jN;by_cases e:je p h=none_
   . rw[SV e];have:=(g 0).1;rw[SV e]at this;have:c=[]:=by
      cases c with
      |nil=>rfl
      |cons _ _=>simp at this
     rw[this]
   . rw[SX e];by_cases i:(M.resolve p h.keeper (je p h)).2=1
     . rw[SV i,l c _ (fun a=>by have:=(g a).1;rw[SX e,SV i]at this;exact this) (by simpa using j)];rfl
     . have:=(g 0).1;rw[SX e,SX i]at this;cases c<;>simp at this
def Q8(pre:List (Option Ref)):Prop:=(∃refs:List Ref,pre=refs.map some++[none])\/(∃refs:List Ref,pre=refs.map some/\refs.length=7)
theorem F8 : ∀ (f : Nat) (c : List Ref) (t : List (Option Ref)) (r : Ref) (n : Nat), items p n r = c.map some ++ t -> (t.head? = some none \/ f < c.length) -> jN p f r = none := by
 intro f;induction f with
 |zero=>intro c t r n _ _;rfl
 | succ f i =>
  intro c t r n b a;cases n with
  |zero=>
   simp only[items]at b;cases c with
   | nil => rcases a with a | a
            . simp at b;rw[b]at a;simp at a
            . simp at a
   |cons _ _=>simp at b
  | succ n =>
   cases c with
   |nil=>
    simp only[items,Vm,Ti]at b;rcases a with a|a
    . rw[<-b]at a;simp at a
    . simp at a
   |cons k j=>
    simp only[items,TH,Td,TG,TF]at b;obtain⟨rfl,d⟩:=b;unfold jN;by_cases h:je p r=none_
    . rw[SV h]at d;have e:=congrArg List.length d;rcases a with a|a
      . cases t with
        |nil=>simp at a
        |cons _ _=>simp at e
      . simp at e;simp at a;omega
    . rw[SX h]at d |-;by_cases g:(M.resolve p r.keeper (je p r)).2=1
      . rw[SV g]at d |-;rw[i j t _ n d (a.imp id fun b=>by simpa using b)];rfl
      . rw[SX g]
theorem KY{base: Nat}(d:w.ownsRow base c k v n xs){b:Nat}(a:v.ownBlock=some b):base<=b:=by
 rcases d.2 with⟨rfl,_⟩|⟨h,f,g,rfl,e,_⟩
 . cases a
 . cases a;exact e
theorem KZ{base: Nat}(d:w.ownsRow base c k v n xs):∃a b,v=.slice a n b:=by
 rcases d.2 with⟨rfl,e⟩|⟨h,f,g,rfl,i,_⟩
 . exact⟨none,0,by rw[e]⟩
 . exact⟨_,_,rfl⟩
def NP(w W0:World)(B4 B5 B6:Nat)(pre:List (Option Ref))(W:World):Prop:=∃(refs:List Ref) (v:Value),pre=refs.map some/\refs.length<=6/\h9 W B6 80 #[v]/\W.ownsRow (W0.heap.size+2) 64 2 v refs.length (refs.flatMap wW)/\h9 W B4 80 #[.slice none 0 0]/\h9 W B5 4 #[.bool false]/\Ext w W
def Q9(w:World)(B4 B5:Nat)(c:Code)(pre:List (Option Ref))(W:World):Prop:=c=.ret/\Q8 pre/\h9 W B4 80 #[.slice none 0 0]/\h9 W B5 4 #[.bool false]/\Ext w W
def FN(x:Option Ref):Ref:=x.getD vV
theorem Kr(x:Option Ref):Ay x=#[.agg #[.int .i64 (FN x).keeper,.string (FN x).name],.bool x.isSome]:=by cases x<;>rfl
theorem Cv{l:iZ}(F:ja w l p){r:Ref}(aT:∃ax,cls? p r=some ax):Calls prog 93 #[some l.L,.agg #[r.keeper,r.name]] w fun aI w'=>(∃e,aI=.returned (.tuple #[e,.bool (om p r).isSome])/\SliceOf 2 z8 w' (fun au=>w<=au) e ((om p r).getD []))/\Ext w w':=by
 have bf:=F.lt;have aP:=Zy F;clear F;refine(U5 (n:=10)).1 ?_;refine callsIn_of_wp_marks func93 rfl trivial ?_ rfl;simp only[ntmps93,UQ,Tc,U6,Nat.reduceAdd,Nat.reduceSub,U9,Uz,Uf,Uq,Ti,Td];gi_wp2_with fail;refine⟨trivial,?_⟩;refine(U5.2 (I7)).mono ?_;rintro aI w1 ⟨rfl,aU⟩;gi_wp2_with fail;have b3:=h9.new w 64 #[r.keeper,r.name];have K:=h9.new (w.alloc (.cells #[r.keeper,r.name] 64)) 80 #[()];have H:=h9.new ((w.alloc (.cells #[r.keeper,r.name] 64)).alloc (.cells #[()] 80)) 4 #[.bool false];have D:=h9.new (((w.alloc (.cells #[r.keeper,r.name] 64)).alloc (.cells #[()] 80)).alloc (.cells #[.bool false] 4)) 80 #[()];have B:=h9.new ((((w.alloc (.cells #[r.keeper,r.name] 64)).alloc (.cells #[()] 80)).alloc (.cells #[.bool false] 4)).alloc (.cells #[()] 80)) 58 #[some l.L];have E:=h9.new (((((w.alloc (.cells #[r.keeper,r.name] 64)).alloc (.cells #[()] 80)).alloc (.cells #[.bool false] 4)).alloc (.cells #[()] 80)).alloc (.cells #[some l.L] 58)) 64 #[r.keeper,r.name];replace K:=K.ext (((jh (.cells #[.bool false] 4)).alloc (.cells #[()] 80)).alloc (.cells #[some l.L] 58)|>.alloc (.cells #[r.keeper,r.name] 64));replace H:=H.ext ((jh (.cells #[()] 80)).alloc (.cells #[some l.L] 58)|>.alloc (.cells #[r.keeper,r.name] 64));replace D:=D.ext ((jh (.cells #[some l.L] 58))|>.alloc (.cells #[r.keeper,r.name] 64));replace B:=B.ext (jh (.cells #[r.keeper,r.name] 64));clear b3;have aJ:Ext w ((((((w.alloc (.cells #[r.keeper,r.name] 64)).alloc (.cells #[()] 80)).alloc (.cells #[.bool false] 4)).alloc (.cells #[()] 80)).alloc (.cells #[some l.L] 58)).alloc (.cells #[r.keeper,r.name] 64)):=kx;have ak:((((((w.alloc (.cells #[r.keeper,r.name] 64)).alloc (.cells #[()] 80)).alloc (.cells #[.bool false] 4)).alloc (.cells #[()] 80)).alloc (.cells #[some l.L] 58)).alloc (.cells #[r.keeper,r.name] 64)).heap.size=w+6:=by simp
 generalize ((((((w.alloc (.cells #[r.keeper,r.name] 64)).alloc (.cells #[()] 80)).alloc (.cells #[.bool false] 4)).alloc (.cells #[()] 80)).alloc (.cells #[some l.L] 58)).alloc (.cells #[r.keeper,r.name] 64))=W0 at*;simp only[Tw]at K H D B E;obtain⟨b,ay⟩:∃b,b=w.heap.size+1:=⟨_,rfl⟩;rw[<-ay]at K H D B E |-;obtain⟨c,az⟩:∃c,c=b+1:=⟨_,rfl⟩;rw[<-az]at H D B E |-;obtain⟨i,ae⟩:∃i,i=c+1:=⟨_,rfl⟩;rw[<-ae]at D B E |-;obtain⟨W,aA⟩:∃W,W=i+1:=⟨_,rfl⟩;rw[<-aA]at B E |-;obtain⟨J,aB⟩:∃J,J=W+1:=⟨_,rfl⟩;rw[<-aB]at E |-;clear aU;have y:=Zy (Tt ay (Tt az (Tt ae (Tt aA (Tt aB ak)))));have bq:b≠i:=Zm
 have bn:b≠c:=Zm
 have bu:c≠i:=Zm
 have aQ:=Zy (aP.ext aJ);have g0:W0.heap.size=J+1:=Zm
 have k:=Zy g0;clear ay az ae aA aB ak g0;refine Ez (gf:=173) (lb:=#[.pointer (some ⟨J,0,none⟩),.pointer (some ⟨W,0,none⟩)]) (α:=Option Ref) rfl (enters_of func173 Zo rfl) (encs:=Ay)
  (fun j=>by cases j<;>rfl) (Bb:=fun a=>a=b\/a=c\/a=i\/W0+2<=a)
  (Kb l p r J W ?hBd ?hRL ?hR 6 aT) ?hIt ?hD1 ?hD2 ?hB1 ?hB2
  (NP w W0 b c i) (Q9 w b c) ?hI ?hIx ?h0 ?hIB
  (fun ah j g a₁ W₁=>NP w W0 b c i ah g/\
   (W0:Nat)+1<(g:Nat)/\W₁=g.alloc (.cells #[.int .i64 (FN j).keeper,.string (FN j).name] 64)/\
   a₁={tmps:=#[some l.L,.agg #[r.keeper,r.name],undef,some w,.pointer (some ⟨b,0,none⟩),.pointer (some ⟨c,0,none⟩),.pointer (some ⟨i,0,none⟩),some g,.bool j.isSome,
    some l.L,.agg #[r.keeper,r.name],.func (.func 173) #[] #[.pointer (some ⟨J,0,none⟩),.pointer (some ⟨W,0,none⟩)],.agg #[.int .i64 (FN j).keeper,.string (FN j).name],.bool j.isSome,
    undef,undef,undef,undef,undef,undef,undef,undef,undef,undef,undef,undef],defers:=[]}) ?hassign ?hAx ?hbody ?hdone ?hstop
 case hBd=>
  obtain⟨q,s,t,u,v,h⟩:=y.o;have x:=k.o;intro a f;have bg:(a=b\/a=c\/a=i\/W0+2<=a)\/a=W0+1:=f;omega
 case hRL=>obtain⟨q,s,t,u,v,h⟩:=y.o;have x:=k.o;omega
 case hR=>obtain⟨q,s,t,u,v,h⟩:=y.o;have x:=k.o;omega
 case hIt=>exact fun g hW=>⟨aQ.ext hW,E.ext hW,B.ext hW⟩
 case hD1=>have:=k.o;show¬W0.heap.size=J;omega
 case hD2=>have:=k.o;show¬W0.heap.size+1=J;omega
 case hB1=>obtain⟨q,s,t,u,v,h⟩:=y.o;have x:=k.o;show¬(W0.heap.size=b\/W0.heap.size=c\/W0.heap.size=i\/(W0:Nat)+2<=(W0:Nat));omega
 case hB2=>obtain⟨q,s,t,u,v,h⟩:=y.o;have x:=k.o;show¬(W0.heap.size+1=b\/W0.heap.size+1=c\/W0.heap.size+1=i\/(W0:Nat)+2<=(W0:Nat)+1);omega
 case hI=>
  obtain⟨q,s,t,u,v,h⟩:=y.o;have x:=k.o;rintro aN aG aO ⟨d,e,T,O,P,Q,m,o,z⟩ f;exact⟨d,e,T,O,P.kp f Zm,iY Q f (fun aa _ U=>Zm),m.kp f Zm,o.kp f Zm,z.own f (fun a f=>Zm)⟩
 case hIx=>
  obtain⟨q,s,t,u,v,h⟩:=y.o;have x:=k.o;rintro ax aN aG aO ⟨T,O,m,o,z⟩ f;exact⟨T,O,m.kp f Zm,o.kp f Zm,z.own f (fun a f=>Zm)⟩
 case h0=>exact⟨[],(),rfl,by simp,D,U8 _ _ _ _,K,H,aJ⟩
 case hIB=>
  rintro aN aG ⟨d,e,rfl,O,_⟩;simpa using O
 case hassign=>
  intro ah j g aX _ hi aS R;rw[Kr];gi_wp2
 case hAx=>
  rintro ah j g a₁ W₁ ⟨_,_,rfl,_⟩;exact((Kp.refl _ g).alloc _)
 case hbody=>
  rintro ah j g a₁ W₁ G ⟨⟨d,e,T,O,P,Q,m,o,z⟩,aS,rfl,rfl⟩ V aD;obtain⟨q,s,t,u,v,h⟩:=y.o;have x:=k.o;have c3:=(P.ext (jh _)).kp V Zm;have c5:=(m.ext (jh _)).kp V Zm;have c6:=(o.ext (jh _)).kp V Zm;have c4:=iY (iY Q ((Kp.refl (fun _=>False) g).alloc (.cells #[.int .i64 (FN j).keeper,.string (FN j).name] 64)) (fun _ _ _ F=>F)) V (fun aa _ U=>Zm);have c7:=(z.alloc _).own V (fun a f=>Zm);have cb:=(h9.new g 64 #[.int .i64 (FN j).keeper,.string (FN j).name]).kp V Zm;simp only[Tw]at aD;have C:=Zy (Tt c3 (Tt c4 (Tt c5 (Tt c6 (Tt c7 cb)))));have k3:=c3.c 0 e rfl;have f3:=c3.frozen 0;have k5:=c5.c 0 () rfl;have f5:=c5.frozen 0;have k6:=c6.c 0 (.bool false) rfl;have f6:=c6.frozen 0;obtain⟨aR,aV,aW,-⟩:=cb.ca;have ae:i<G.heap.size:=c3.lt;have ak:=Zy aD;clear P Q m o z c3 c4 c5 c6 c7 cb V aD K H D B E q s t u v h x;have aC:∀(A e:Value),Kp (fun a=>a=b\/a=c\/a=i\/W0+2<=a) G ((G.setCell ⟨b,0,none⟩ A).setCell ⟨c,0,none⟩ e):=fun A e=>
   ((Kp.refl _ G).setCell (p:=⟨b,0,none⟩) (fun _=>.inl rfl) A).setCell (p:=⟨c,0,none⟩) (fun _=>.inr (.inl rfl)) e
  have aL:∀(A e:Value),h9 ((G.setCell ⟨b,0,none⟩ A).setCell ⟨c,0,none⟩ e) b 80 #[A]/\h9 ((G.setCell ⟨b,0,none⟩ A).setCell ⟨c,0,none⟩ e) c 4 #[e]/\Ext w ((G.setCell ⟨b,0,none⟩ A).setCell ⟨c,0,none⟩ e):=fun A e=>by
   obtain⟨q,s,t,u,v,h⟩:=y.o;have x:=k.o;refine⟨?_,?_,C.2.2.2.2.1.own (aC A e) (fun a f=>Zm)⟩
   . exact(C.2.2.1.jE 0 A).kp ((Kp.refl (·=c) _).setCell (p:=⟨c,0,none⟩) (fun _=>rfl) e) Zm
   . exact(C.2.2.2.1.kp ((Kp.refl (·=b) _).setCell (p:=⟨b,0,none⟩) (fun _=>rfl) A) Zm).jE 0 e
  have X:=Zy (Tt aC aL);clear aC aL;cases j with
  |none=>
   gi_wp2;exact⟨X.1 _ _,rfl,.inl ⟨d,by rw[T]⟩,X.2 _ _⟩
  | some aF =>
   have hv:∃aH cp,e=.slice aH d.length cp:=by
    rcases C.o.2.1.2 with⟨rfl,h0⟩|⟨aa,aY,aZ,rfl,_⟩
    . exact⟨none,0,by rw[h0]⟩
    . exact⟨_,_,rfl⟩
   obtain⟨aH,cp,rfl⟩:=hv;by_cases h:d.length=6
   . have ai:((d.length:Int)==6)=true:=by simp[h]
     have H6:=Zy h;clear h;gi_wp2;exact⟨X.1 _ _,rfl,.inr ⟨d++[aF],by rw[T];simp,by simp[H6.o]⟩,X.2 _ _⟩
   . have ai:((d.length:Int)==6)=false:=SI.2 Zm;have H6:=Zy h;gi_wp2_with (gi_at_builtin;refine zM II _ rfl _ _ rfl (W0+2) _ _ _ rfl (C.2.1.alloc _) G 1 (wW aF) rfl rfl ?c1 ?c2 ?c3 ?c4 ?_)
     case c1=>exact hH.Eo (h9.new ..) _ rfl
     case c2=>simp[wW,Value.oneCell']
     case c3=>omega
     case c4=>have:=ak.o;simp only[Tw];omega
     intro v' w' aM R g' c' hv U hl;subst hv;have Z:=((Kp.refl _ G).alloc _).trans (R.weak fun a _ f=>KY C.2.1 f);obtain⟨q,s,t,u,v,ai⟩:=y.o;have x:=k.o;have L:=C.1.kp Z Zm;have Y:=C.2.2.1.kp Z Zm;have N:=C.2.2.2.1.kp Z Zm;have I:=C.2.2.2.2.1.own Z (fun a f=>Zm);obtain⟨qz,q3,-⟩:=L.ca;have qf:=L.frozen 0;have⟨HD,HG⟩:=jc (Tt L (Tt Y (Tt N (Tt I (Tt aM Z))))) (Tt U hl);clear L Y N I q s t u v ai x aM R Z U hl k3 f3 k5 f5 k6 f6 aV aW ae aR h;gi_wp2;have ag:Kp (·=i) w' (w'.setCell ⟨i,0,none⟩ (g',d.length+1,c')):=qA;obtain⟨q,s,t,u,v,ai⟩:=y.o;have x:=k.o;obtain⟨L,Y,N,I,d8,d9⟩:=HD.o;refine⟨(d9.weak fun _ _ F=>.inr (.inr (.inr F))).trans (ag.weak fun _ _ F=>.inr (.inr (.inl F))),d++[aF],_,by rw[T];simp,by have:=H6.o;simp;omega,L.jE 0 _,?_,Y.kp ag Zm,N.kp ag Zm,I.own ag (fun a f=>Zm)⟩;have:=iY d8 ag (fun aa _ U=>Zm);simpa using this
 case hdone=>
  rintro xs g hS ⟨d,e,rfl,O,P,Q,m,o,z⟩ R;have k3:=P.c 0 e rfl;obtain⟨z5,k5,-⟩:=m.ca;have f5:=m.frozen 0;obtain⟨z6,k6,-⟩:=o.ca;have f6:=o.frozen 0;have⟨HD,X⟩:=jc (Tt P (Tt Q (Tt m (Tt o z)))) hS;have hv:=KZ Q;clear P Q m o z hS K H D B E;obtain⟨av,cv,rfl⟩:=hv;simp only[Exit.inBlock,Exit.then];gi_wp2;obtain⟨q,s,t,u,v,h⟩:=y.o;have x:=k.o;obtain⟨L,Y,N,d6,I⟩:=HD.o;have aj:Kp (fun a=>a=b\/a=c) g ((g.setCell ⟨b,0,none⟩ (.slice av d.length cv)).setCell ⟨c,0,none⟩ (.bool true)):=
   ((Kp.refl (fun a=>a=b\/a=c) g).setCell (p:=⟨b,0,none⟩) (fun _=>.inl rfl) _).setCell (p:=⟨c,0,none⟩) (fun _=>.inr rfl) _
  have g5:=(N.jE 0 (.slice av d.length cv)).kp ((Kp.refl (·=c) _).setCell (p:=⟨c,0,none⟩) (fun _=>rfl) (.bool true)) Zm;have g6:=(d6.kp ((Kp.refl (·=b) g).setCell (p:=⟨b,0,none⟩) (fun _=>rfl) (.slice av d.length cv)) Zm).jE 0 (.bool true);have aK:=(aj.block W0 (by have:=I.size;have:=L.lt;exact(Tk.1 R).1) Zm).trans R;generalize (g.setCell ⟨b,0,none⟩ (.slice av d.length cv)).setCell ⟨c,0,none⟩ (.bool true)=W5 at aj g5 g6 aK |-;refine⟨by simp,.inl ⟨_,_,rfl,run_takeDeferred aK,?_⟩⟩;have S:=Kp.putObj W5 W0 (.deferred none);have m5:=(g5.kp S Zm).c 0 _ rfl;have m6:=(g6.kp S Zm).c 0 _ rfl;have af:om p r=some d:=KA 6 d r (fun n=>by have:=X.o n;rwa[Uu]at this) O;refine⟨.tuple #[.slice av d.length cv,.bool true],?_,⟨_,by rw[af];rfl,?_⟩,?_⟩
  . simp[results,Tryz.f93,go_sem,m5,m6]
  . rw[af];refine SliceOf.l5 wW (iY (iY Y aj (fun aa _ U=>Zm)) S (fun aa _ U=>Zm)) rfl rfl (fun _ _=>rfl) (fun _ _=>rfl) (fun au F h'=>by show w.heap.size<=au;omega) (by show d.length<=_;omega)
  . exact(I.own aj (fun a f=>Zm)).own S (fun a f=>Zm)
 case hstop=>
  rintro ax ah g hS ⟨rfl,hb,m,o,z⟩ R;have HD:=Zy (Tt m (Tt o z));clear m o z K H D B E;gi_wp2;obtain⟨q,s,t,u,v,h⟩:=y.o;have x:=k.o;obtain⟨N,d6,I⟩:=HD.o;refine⟨by simp,.inl ⟨_,_,rfl,run_takeDeferred R,?_⟩⟩;have S:=Kp.putObj g W0 (.deferred none);have m5:=(N.kp S Zm).c 0 _ rfl;have m6:=(d6.kp S Zm).c 0 _ rfl;obtain⟨n,bz,hit⟩:=hS;have af:om p r=none:=by
   rcases hb with⟨d,rfl⟩|⟨d,rfl,hl⟩
   . exact F8 6 d _ r n (by rw[hit,Te]) (.inl rfl)
   . exact F8 6 d _ r n hit (.inr Zm)
  refine⟨.tuple #[(),.bool false],?_,⟨_,by rw[af];rfl,?_⟩,?_⟩
  . simp[results,Tryz.f93,go_sem,m5,m6]
  . rw[af];exact SliceOf.nil _ _ _ _
  . exact I.own S (fun a f=>Zm)
end Go.Proofs.YtenhnldnpdlniaaGreat
namespace Go.Proofs.YtenhnldnpdlniaaGreat
open Go Go.RowKit Tryz M
variable {c: Class}{cs: List Value}{m x: M.Method}{b k: Nat}{I: Nat->Prop}{r: Ref}{α: Type}{v y z: Value}{w: World}{p: hZ}{l: iZ}
theorem pJ(w:World)(l:iZ)(p:hZ)(y:ja w l p)(k:Int)(n:ByteArray):Calls prog 42 #[some l.L,k,n] w fun m H=>m=.returned (.tuple #[.agg #[.int .i64 (find p k n).1.keeper,.string (find p k n).1.name],.int .i64 (find p k n).2])/\Ext w H:=by
 have F:Ext w (w.alloc (.cells #[SS, ""] 64)):=(jh _);have q:=Zy (y.ext F);clear y;have e:=h9.new w 64 #[SS, ""];go_enter func42,ntmps42;go_wp2_with fail;refine(zT q).mono ?_;rintro m D ⟨rfl,z⟩;have c:=e.ext z;obtain⟨G,i,j,-⟩:=c.ca;obtain⟨u,x,-⟩:=c.fz;by_cases a:(M.resolve p k n).2=1
 . obtain⟨h,o⟩:=lD a;have E:=Zy (q.ext z);have b:Zz (find p k n=if(om p (M.resolve p k n).1).isSome then((M.resolve p k n).1,1)else(vV,4)):=Zy (by unfold find;rw[SV a]);rw[a];clear a;generalize (M.resolve p k n).1=r at*;have f:=h9.new D 64 #[r.keeper,r.name];go_wp2_with fail;refine(Cv (E.ext (jh _)) ⟨h,o⟩).mono ?_;rintro m Q ⟨⟨v,rfl,C⟩,A⟩;have d:=(c.ext (jh (.cells #[r.keeper,r.name] 64))).ext A;have g:=f.ext A;obtain⟨P,s,t,-⟩:=d.ca;obtain⟨K,L,-⟩:=d.fz;obtain⟨-,I,J,-⟩:=g.ca;have O:¬(D:Nat)=w:=Zm
   cases B:(om p r).isSome
   . rw[B]at b;clear i j u x C o e c f d g;go_wp2;refine Px (v:=.tuple #[.agg #[SS, ""],.int .i64 4]) (by simp[results,results42,go_sem,s,t]) rfl ?_;exact⟨by rw[b.o];rfl,Zw⟩
   . rw[B]at b;clear i j u x C o e c f d g;go_wp2;refine Px (v:=.tuple #[.agg #[r.keeper,r.name],.int .i64 1]) (by simp[results,results42,go_sem,s,t]) rfl ?_;exact⟨by rw[b.o];rfl,Zw⟩
 . have b:Zz (find p k n=(vV,(M.resolve p k n).2)):=Zy (by unfold find;rw[SX a]);have N:=SI.2 a;clear a;generalize (M.resolve p k n).2=h at*;go_wp2;refine Px (v:=.tuple #[.agg #[SS, ""],h]) (by simp[results,results42,go_sem,i,j,G]) rfl ?_;exact⟨by rw[b.o];rfl,Zw⟩
theorem rP (a : ja w l p) (r : Ref) :Calls prog 73 #[some l.L,.agg #[r.keeper,r.name]] w fun m u=>(∃v,m=.returned v/\SliceOf 2 z8 u (fun j=>w<=j) v (chain p r))/\Ext w u:=by
 have E:Ext w (w.alloc (.cells #[r.keeper,r.name] 64)):=(jh _);have o:=Zy (a.ext E);clear a;have k:=h9.new w 64 #[r.keeper,r.name];obtain⟨-,z,A,-⟩:=k.ca;go_enter func73,ntmps73;go_wp2_with fail;refine(pJ _ _ _ o _ _).mono ?_;rintro m Q ⟨rfl,n⟩;have y:=k.ext n;obtain⟨P,I,J,-⟩:=y.ca;have x:=Zy (o.ext n);clear k z A;have c:Zz (chain p r=if(find p r.keeper r.name).2=1/\(find p r.keeper r.name).1=r then(om p r).getD []else []):=Zy (by
  unfold chain lv;simp)
 have hF:Zz ((find p r.keeper r.name).2=1->(find p r.keeper r.name).1=r->∃f,cls? p r=some f):=Zy (by
  intro d h;unfold find at d h;by_cases b:(M.resolve p r.keeper r.name).2=1
  . rw[SV b]at d h;obtain⟨f,i⟩:=lD b;split at d
    . rename_i D;rw[SV D]at h;have C:(M.resolve p r.keeper r.name).1=r:=h;rw[C]at i;exact⟨f,i⟩
    . simp at d
  . rw[SX b]at d;exact absurd d b)
 generalize find p r.keeper r.name=F at*;obtain⟨⟨q,s⟩,B⟩:=F;simp only at*;by_cases b:B=1
 . subst b;by_cases g:q=r.keeper/\s=r.name
   . obtain⟨rfl,rfl⟩:=g;obtain⟨f,i⟩:=hF.o rfl rfl;have e:Zz (chain p r=(om p r).getD []):=Zy (by rw[c.o,SV ⟨rfl,rfl⟩]);clear c hF;go_wp2_with fail;refine(Cv (x.ext (jh _)) ⟨f,i⟩).mono ?_;rintro m R ⟨⟨v,rfl,H⟩,K⟩;go_wp2;refine Px (v:=v) (by simp[results,results73,go_sem]) rfl ?_;refine⟨⟨v,rfl,?_⟩,Zv⟩;rw[e.o];exact H.keep z8.stays (fun _ _ _ _ a=>a) (fun j G=>by have:=n.size;simp only[Tw]at G this;show w.heap.size<=j;omega)
   . have e:Zz (chain p r=[]):=Zy (by
      rw[c.o,SX];rintro⟨-,a⟩;exact g ⟨congrArg Ref.keeper a,congrArg Ref.name a⟩)
     by_cases t:q=r.keeper
     . subst t;have O:(s.toList==r.name.toList)=false:=by
        rw[nU];exact RN (fun a=>g ⟨rfl,a⟩)
       clear c hF g;go_wp2;refine Px (v:=()) (by simp[results,results73,go_sem]) rfl ?_;refine⟨⟨_,rfl,?_⟩,Zv⟩;rw[e.o];exact SliceOf.nil _ _ _ _
     . have N:=SI.2 t;clear c hF g;go_wp2;refine Px (v:=()) (by simp[results,results73,go_sem]) rfl ?_;refine⟨⟨_,rfl,?_⟩,Zv⟩;rw[e.o];exact SliceOf.nil _ _ _ _
 . have e:Zz (chain p r=[]):=Zy (by rw[c.o,SX (fun a=>b a.1)]);have L:=TP.2 b;clear c hF b;go_wp2;refine Px (v:=()) (by simp[results,results73,go_sem]) rfl ?_;refine⟨⟨_,rfl,?_⟩,Zv⟩;rw[e.o];exact SliceOf.nil _ _ _ _
theorem zG(a b:Int)(m n:ByteArray):(a=b/\m=n)\/(a=b/\(m.toList==n.toList)=false/\m≠n)\/((a==b)=false/\a≠b):=by
 by_cases c:a=b
 . by_cases d:m=n
   . exact .inl ⟨c,d⟩
   . exact .inr (.inl ⟨c,by rw[nU];exact RN d,d⟩)
 . exact .inr (.inr ⟨SI.2 c,c⟩)
theorem Hn [BEq α] [LawfulBEq α]{l:List α}{x:α}(a:∀d∈l.take k,d≠x)(c:l.length<=k):l.contains x=false:=by
 rw[Tu c]at a;cases b:l.contains x
 . rfl
 . exact absurd rfl (a x (by simpa using b))
theorem vI(a:ja w l p)(r t:Ref):Calls prog 113 #[some l.L,.agg #[r.keeper,r.name],.agg #[t.keeper,t.name]] w fun s E=>s=.returned (.bool (under p r t))/\Ext w E:=by
 have k:Ext w ((w.alloc (.cells #[r.keeper,r.name] 64)).alloc (.cells #[t.keeper,t.name] 64)):=kx;have A:=Zy (a.ext k);clear a;have c:=h9.new (w.alloc (.cells #[r.keeper,r.name] 64)) 64 #[t.keeper,t.name];simp only[Tw]at c;go_enter func113,ntmps113;go_wp2_with fail;refine(rP A _).mono ?_;rintro s F ⟨⟨aa,rfl,m⟩,j⟩;replace c:=c.ext j;obtain⟨J,L,rfl,V,S⟩:=m.form;have v:Zz (under p r t=(chain p r).contains t):=Zy rfl;have Q:=k.trans j;clear k j;generalize chain p r=f at*;go_wp2;go_loopw [13] (fun o wr=>∃b:Nat,b<=f.length/\o=.int .i64 b/\Ext F wr/\Zz (∀e∈f.take b,e≠t)) (fun o _=>f.length - (intOf o).toNat)
 case atStart=>exact⟨0,T9 _,rfl,Kp.rr,Zy Zl⟩
 case round =>
  obtain⟨b,T,rfl,u,g⟩:=hrel;have q:=c.ext u;obtain⟨X,Z,t1,-⟩:=q.ca;by_cases B:b<f.length
  . obtain⟨G,n⟩:=get_some B;obtain⟨K,Y,N,rfl,R,rfl,-,x⟩:=m.get n;obtain⟨O,P⟩:=(x.ext u).two;have i:=Zy n;clear n x m c q;obtain⟨H,I⟩:=G;obtain⟨C,D⟩:=t;simp only at*;rcases zG H C I D with⟨rfl,rfl⟩|⟨rfl,W,z⟩|⟨U,y⟩
    . go_wp2;go_ret;exact⟨hQ (by rw[v.o];simpa using Sy i.o),Zv⟩
    . have h:=Zy z;clear z;go_wp2;go_roundw
      case rel=>
       refine⟨b+1,Zm,by go_num,kx,Zy ?_⟩;intro e d;rw[Tm,i.o]at d;rcases Ty.1 d with a|a
       . exact g e a
       . simp at a;subst a;intro a;exact h (congrArg Ref.name a)
      case measure=>simp[intOf];omega
    . have h:=Zy y;clear y;go_wp2;go_roundw
      case rel=>
       refine⟨b+1,Zm,by go_num,kx,Zy ?_⟩;intro e d;rw[Tm,i.o]at d;rcases Ty.1 d with a|a
       . exact g e a
       . simp at a;subst a;intro a;exact h (congrArg Ref.keeper a)
      case measure=>simp[intOf];omega
  . go_wp2;go_ret;exact⟨hQ (by rw[v.o];exact(Hn g Zm).symm),Zv⟩
theorem yI(i:ja w l p)(a b:Int)(k:Kind):Calls prog 144 #[some l.L,a,b,.agg #[k.kind,k.name]] w fun h I=>h=.returned (.bool (agree p a b k))/\Ext w I:=by
 have F:Ext w (w.alloc (.cells #[k.kind,k.name] 109)):=kx;by_cases f:k.kind=1
 . have e:Zz (agree p a b k=true):=Zy (by unfold agree;rw[f];rfl);have u:=Ub.2 f;clear f i;go_enter func144,ntmps144;go_wp2;go_ret;exact⟨hQ e.symm,kx⟩
 have j:=Zy (i.ext F);clear i;have m:=h9.new w 109 #[k.kind,k.name];have u:=SI.2 f;have e:Zz (agree p a b k=(if(find p a k.name).2=1/\(find p b k.name).2=1 then decide ((find p a k.name).1=(find p b k.name).1)
  else decide ((find p a k.name).2≠1)&&decide ((find p b k.name).2≠1))):=Zy (by unfold agree;rw[u];rfl)
 clear f;go_enter func144,ntmps144;go_wp2_with fail;refine(pJ _ _ _ j _ _).mono ?_;rintro h J ⟨rfl,t⟩;have n:=m.ext t;obtain⟨G,-,H,-⟩:=n.ca;have y:=Zy (j.ext t);generalize find p a k.name=F1 at*;obtain⟨⟨r,s⟩,A⟩:=F1;simp only at*;go_wp2_with fail;refine(pJ _ _ _ (y.ext (jh _)) _ _).mono ?_;rintro h P ⟨rfl,E⟩;have o:=(h9.new J 64 #[r,s]).ext E;obtain⟨O,q0,q1,-⟩:=o.ca;generalize find p b k.name=F2 at*;obtain⟨⟨B,C⟩,q⟩:=F2;simp only at*;clear H n m o G;by_cases g:A=1
 . subst g;by_cases c:q=1
   . subst c;rcases zG r B s C with⟨rfl,rfl⟩|⟨rfl,N,x⟩|⟨L,v⟩
     . go_wp2;go_ret;exact⟨hQ (by rw[e.o];simp),Zv⟩
     . have d:=Zy x;clear x;go_wp2;go_ret;exact⟨hQ (by rw[e.o];simp[d.o]),Zv⟩
     . have d:=Zy v;clear v;go_wp2;go_ret;exact⟨hQ (by rw[e.o];simp[d.o]),Zv⟩
   . have D:=TP.2 c;have d:=Zy c;clear c;go_wp2;go_ret;exact⟨hQ (by rw[e.o];simp[d.o]),Zv⟩
 . have K:=TP.2 g;have d:=Zy g;clear g;by_cases c:q=1
   . subst c;go_wp2;go_ret;exact⟨hQ (by rw[e.o];simp[d.o]),Zv⟩
   . have D:=TP.2 c;have z:=Zy c;clear c;go_wp2;go_ret;exact⟨hQ (by rw[e.o];simp[d.o,z.o]),Zv⟩
theorem vH(t:ja w l p)(a b:Int){I:Nat->Prop}{cs:List Value}{m:M.Method}(F:jb w I m cs):Calls prog 97 #[some l.L,a,b,.agg cs.toArray] w fun h P=>h=.returned (.bool (jQ p a b m))/\Ext w P:=by
 obtain⟨va,k,n,rfl,y,-,-⟩:=F;obtain⟨f,g,rfl,X,V⟩:=y.form;have u:Ext w (w.alloc (.cells #[m.name,.slice f m.args.length g,m.ret.kind,m.ret.name,m.locals,m.stack,k,n] 113)):=(jh _);have q:=Zy (t.ext u);clear t;have B:=Zy (hH.Eo (h9.new w 113 #[m.name,.slice f m.args.length g,m.ret.kind,m.ret.name,m.locals,m.stack,k,n]) _ rfl);go_enter func97,ntmps97;go_wp2;generalize (w.alloc (.cells #[m.name,.slice f m.args.length g,m.ret.kind,m.ret.name,m.locals,m.stack,k,n] 113))=w0 at*;go_loopw [14] (fun j wr=>∃c:Nat,c<=m.args.length/\j=.int .i64 c/\Ext w0 wr/\Zz ((m.args.take c).all (agree p a b)=true)) (fun j _=>m.args.length - (intOf j).toNat)
 case atStart=>exact⟨0,T9 _,rfl,Kp.rr,Zy Zl⟩
 case round =>
  obtain⟨c,W,rfl,d,r⟩:=hrel;by_cases E:c<m.args.length
  . obtain⟨o,i⟩:=get_some E;obtain⟨R,Y,cs,rfl,U,rfl,-,v⟩:=y.get i;obtain⟨S,T⟩:=((v.ext u).ext d).two;have⟨s,z⟩:=jc i (q.ext (d.alloc (.cells #[o.kind,o.name] 109)));clear i v;cases x:agree p a b o
    all_goals
     have e:=Zy x;clear x;go_wp2_with fail;refine(yI z _ _ _).mono ?_;rintro h Q ⟨rfl,D⟩;rw[e.o];go_wp2
    . go_ret;exact⟨hQ (by unfold jQ;rw[rJ s.o e.o];rfl),Zv⟩
    . go_roundw
      case rel=>exact⟨c+1,Zm,by go_num,Zv,Zy (all_succ r.o s.o e.o)⟩
      case measure=>simp[intOf];omega
  . have A:Zz (jQ p a b m=agree p a b m.ret):=Zy (by unfold jQ;rw[qc r.o Zm];rfl);have C:=Zy (B.ext d);obtain⟨Z,G,H,J,K,L,N,O⟩:=C.eight;simp only[Tq]at G H J K L N O;go_wp2_with fail;refine(yI (q.ext d) _ _ m.ret).mono ?_;rintro h Q ⟨rfl,D⟩;go_wp2;go_ret;exact⟨hQ A.symm,Zv⟩
def PV(o:Option Nat):Int:=o.elim (-1) fun n=>n
theorem Cq{f:α->Bool}{l:List α}{x:α}(b:∀i∈l.take k,f i=false)(g:l[k]?=some x)(c:f x=true):l.findIdx? f=some k:=by
 obtain⟨e,h⟩:=Tv.1 g;rw[Ut];refine⟨e,by rw[h];exact c,fun a d=>?_⟩;have:=b l[a] (by rw[VN];exact⟨a,by rw[Uv,SV d];exact Dj _⟩);rw[this];decide
theorem AA{f:α->Bool}{l:List α}(a:∀c∈l.take k,f c=false)(b:l.length<=k):l.findIdx? f=none:=by
 rw[Tu b]at a;rw[List.findIdx?_eq_none_iff];exact a
theorem Be{f:α->Bool}{l:List α}{x:α}(d:∀a∈l.take k,f a=false)(g:l[k]?=some x)(e:f x=false):∀a∈l.take (k+1),f a=false:=by
 intro a c;rw[Tm,g]at c;rcases Ty.1 c with b|b
 . exact d a b
 . simp at b;subst b;exact e
theorem M5(d:jb w I m cs){b:Nat}{n:ByteArray}(c:w.cell? b=some (.string n)):Calls prog 177 #[.agg cs.toArray,some b] w fun a e=>a=.returned (.bool (decide (m.name=n)))/\Ext w e:=by
 obtain⟨g,h,i,rfl,-,-,-⟩:=d;have f:=iV c;go_enter func177,ntmps177;go_wp2;go_ret;exact⟨hQ (nU _ _),kx⟩
theorem Oj{f:M.Field}{n:ByteArray}(c:w.cell? b=some (.string n)):Calls prog 215 #[.agg #[f.name,f.kind.kind,f.kind.name],some b] w fun a d=>a=.returned (.bool (decide (f.name=n)))/\Ext w d:=by
 have e:=iV c;go_enter func215,ntmps215;go_wp2;go_ret;exact⟨hQ (nU _ _),kx⟩
theorem MK{l:List M.Method}(c:SliceOf 8 jb w I v l){b:Nat}{n:ByteArray}(q:w.cell? b=some (.string n)):Calls prog 176 #[v,.func (.func 177) #[] #[some b]] w fun j u=>j=.returned (.int .i64 (PV (l.findIdx? fun t=>decide (t.name=n))))/\Ext w u:=by
 obtain⟨z,B,rfl,R,P⟩:=c.form;go_enter func176,ntmps176;go_wp2;go_loopw [8] (fun h wr=>∃a:Nat,a<=l.length/\h=.int .i64 a/\Ext w wr/\Zz (∀y∈l.take a,decide (M.Method.name y=n)=false)) (fun h _=>l.length - (intOf h).toNat)
 case atStart=>exact⟨0,T9 _,rfl,Kp.rr,Zy Zl⟩
 case round =>
  obtain⟨a,Q,rfl,f,d⟩:=hrel;by_cases s:a<l.length
  . obtain⟨x,g⟩:=get_some s;obtain⟨A,S,C,rfl,O,m,-,k⟩:=c.get g;have p:=Zy (jb.stays _ _ _ _ _ _ f.same (fun _ c=>c) m);obtain⟨T,U,V,rfl,-,-,-⟩:=m;obtain⟨D,E,F,G,H,J,K,L⟩:=(k.ext f).eight;have r:=f.iW q;have i:=Zy g;clear g k;cases o:decide (x.name=n)
    all_goals
     have e:=Zy o;clear o;go_wp2_with (go_at_call 177;refine(M5 p r).mono ?_;rintro j W ⟨rfl,N⟩;rw[e.o])
    . go_roundw
      case rel=>exact⟨a+1,Zm,by go_num,Zv,Zy (Be d.o i.o e.o)⟩
      case measure=>simp[intOf];omega
    . go_ret;exact⟨by rw[Cq d.o i.o e.o];rfl,Zv⟩
  . go_wp2;go_ret;exact⟨by rw[AA d.o Zm];rfl,kx⟩
theorem OH{l:List M.Field}(i:SliceOf 3 lq w I v l){b:Nat}{n:ByteArray}(o:w.cell? b=some (.string n)):Calls prog 214 #[v,.func (.func 215) #[] #[some b]] w fun h s=>h=.returned (.int .i64 (PV (l.findIdx? fun r=>decide (M.Field.name r=n))))/\Ext w s:=by
 obtain⟨x,z,rfl,J,G⟩:=i.form;go_enter func214,ntmps214;go_wp2;go_loopw [8] (fun f wr=>∃a:Nat,a<=l.length/\f=.int .i64 a/\Ext w wr/\Zz (∀u∈l.take a,decide (M.Field.name u=n)=false)) (fun f _=>l.length - (intOf f).toNat)
 case atStart=>exact⟨0,T9 _,rfl,Kp.rr,Zy Zl⟩
 case round =>
  obtain⟨a,H,rfl,j,c⟩:=hrel;by_cases q:a<l.length
  . obtain⟨t,e⟩:=get_some q;obtain⟨y,K,A,rfl,F,rfl,-,k⟩:=i.get e;obtain⟨B,C,D⟩:=(k.ext j).three;have p:=j.iW o;have g:=Zy e;clear e k;cases m:decide (t.name=n)
    all_goals
     have d:=Zy m;clear m;go_wp2_with (go_at_call 215;refine(Oj p).mono ?_;rintro h L ⟨rfl,E⟩;rw[d.o])
    . go_roundw
      case rel=>exact⟨a+1,Zm,by go_num,Zv,Zy (Be c.o g.o d.o)⟩
      case measure=>simp[intOf];omega
    . go_ret;exact⟨by rw[Cq c.o g.o d.o];rfl,Zv⟩
  . go_wp2;go_ret;exact⟨by rw[AA c.o Zm];rfl,kx⟩
theorem BI(f:jB w I c cs){n:ByteArray}:Calls prog 143 #[.agg cs.toArray,n] w fun b i=>b=.returned (PV (q8 c n))/\Ext w i:=by
 obtain⟨d,e,rfl,k,h⟩:=f;have g:Ext w ((w.alloc (.cells #[c.name,c.je,d,e] 38)).alloc (.cells #[n] 9)):=kx;have a:=(h9.new (w.alloc (.cells #[c.name,c.je,d,e] 38)) 9 #[n]).c 0 n rfl;simp only[Tw]at a;go_enter func143,ntmps143;go_wp2_with fail;refine(MK (h.ext jb.stays g) a).mono ?_;rintro b l ⟨rfl,j⟩;go_wp2;go_ret;exact⟨rfl,Zv⟩
theorem IL(f:jB w I c cs){n:ByteArray}:Calls prog 174 #[.agg cs.toArray,n] w fun b i=>b=.returned (PV (wX c n))/\Ext w i:=by
 obtain⟨d,e,rfl,h,k⟩:=f;have g:Ext w ((w.alloc (.cells #[c.name,c.je,d,e] 38)).alloc (.cells #[n] 9)):=kx;have a:=(h9.new (w.alloc (.cells #[c.name,c.je,d,e] 38)) 9 #[n]).c 0 n rfl;simp only[Tw]at a;go_enter func174,ntmps174;go_wp2_with fail;refine(OH (h.ext lq.stays g) a).mono ?_;rintro b l ⟨rfl,j⟩;go_wp2;go_ret;exact⟨rfl,Zv⟩
theorem Kt{a b:List α}(hl:a.length=b.length){k:Nat}(h:∀c f g,c<k->a[c]?=some f->b[c]?=some g->f=g)(j:a.length<=k):a=b:=by
 apply List.ext_getElem?;intro c;by_cases i:c<a.length
 . have d:=Dj i;have e:b[c]?=some b[c]:=Dj Zm;rw[d,e,h c _ _ Zm d e]
 . rw[TS Zm,TS Zm]
theorem Cu {I J: Nat -> Prop} {B: Value} {l m: List Kind} (a : SliceOf 2 oD w I v l) (q : SliceOf 2 oD w J B m) :Calls prog 175 #[v,B] w fun C G=>C=.returned (.bool (decide (l=m)))/\Ext w G:=by
 obtain⟨O,S,rfl,hn,aa⟩:=a.form;obtain⟨P,T,rfl,ag,ae⟩:=q.form;by_cases i:l.length=m.length
 . have p := Zy i; have E : (l.length : Int) = m.length := by omega
   clear i;go_enter func175,ntmps175;go_wp2;go_loopw [13] (fun n wr=>∃b:Nat,b<=l.length/\n=.int .i64 b/\Ext w wr/\Zz (∀c d e,c<b->l[c]?=some d->m[c]?=some e->d=e)) (fun n _=>l.length - (intOf n).toNat)
   case atStart=>exact⟨0,T9 _,rfl,Kp.rr,Zy Zm⟩
   case round =>
    obtain⟨b,hk,rfl,t,o⟩:=hrel;by_cases z:b<l.length
    . have F:b<m.length:=by rw[<-p.o];exact z
      obtain⟨d,j⟩:=get_some z;obtain⟨e,k⟩:=get_some F;obtain⟨Q,ai,U,rfl,Y,rfl,-,u⟩:=a.get j;obtain⟨R,aj,V,rfl,Z,rfl,-,x⟩:=q.get k;obtain⟨W,X⟩:=(u.ext t).two;obtain⟨q0,q1⟩:=(x.ext t).two;have⟨g,h⟩:=jc j k;clear j u k x;obtain⟨H,K⟩:=d;obtain⟨L,N⟩:=e;simp only at*;rcases zG H L K N with⟨rfl,rfl⟩|⟨rfl,ah,A⟩|⟨af,y⟩
      . go_wp2_with (first|(go_region_with (fail))|fail)
        all_goals
         go_roundw
         case rel=>
          refine⟨b+1,Zm,by go_num,kx,Zy (fun c d e hj r s=>?_)⟩;by_cases D:c=b
          . subst D;exact Vd ((r.symm.trans g).trans (h.symm.trans s))
          . exact o c d e Zm r s
         case measure=>simp[intOf];omega
      . have f:Zz (decide (l=m)=false):=Zy (RN (fun a=>A (by
         subst a;exact congrArg Kind.name (Vd (g.symm.trans h)))))
        clear A;go_wp2_with (first|(go_region_with (fail))|fail)
        all_goals
         go_ret;exact⟨hQ f.symm,kx⟩
      . have f:Zz (decide (l=m)=false):=Zy (RN (fun a=>y (by
         subst a;exact congrArg Kind.kind (Vd (g.symm.trans h)))))
        clear y;go_wp2_with (first|(go_region_with (fail))|fail)
        all_goals
         go_ret;exact⟨hQ f.symm,kx⟩
    . go_wp2;go_ret;exact⟨hQ (SY (Kt p o Zm)).symm,kx⟩
 . have E:((l.length:Int)==m.length)=false:=SI.2 Zm;go_enter func175,ntmps175;go_wp2;go_ret;exact⟨hQ (RN (fun a=>i (congrArg List.length a))).symm,kx⟩
theorem hH.SC{x c: Value}(h0:w.cell? b=some x)(d:w.cell? (b,1)=some y)(e:w.cell? (b,2)=some z)(f:w.cell? (b,3)=some c):hH w b 0 [x,y,z,c]:=by
 intro g h a;rw[Tq];match g,a with
 |0,a=>cases a;exact h0
 |1,a=>cases a;exact d
 |2,a=>cases a;exact e
 |3,a=>cases a;exact f
theorem hH.Ov{x a: Value}(c:hH w b 0 [x,y,z,a]):w.cell? b=some x/\w.cell? (b,1)=some y/\w.cell? (b,2)=some z/\w.cell? (b,3)=some a:=c.four
theorem jK.ext{R:mH α}(hR:jK R){w b:World}{I:Nat->Prop}{x:α}{cs:List Value}(c:Ext w b)(a:R w I x cs):R b I x cs:=hR _ _ _ _ _ _ (Ext.same c) (fun _ a=>a) a
theorem jK.kp{R:mH α}(hR:jK R){D:Nat->Prop}{w c:World}{I:Nat->Prop}{x:α}{cs:List Value}(d:Kp D w c)(hI:∀b,I b->¬D b)(a:R w I x cs):R c I x cs:=hR _ _ _ _ _ _ (Kp.same d hI) (fun _ a=>a) a
theorem jb.args{a e b c f g j k:Value}(h:jb w I x [a,e,b,c,f,g,j,k]):SliceOf 2 oD w I e x.args:=by
 obtain⟨l,m,n,d,i,-,-⟩:=h;simp only[TG,Vw,Ve]at d;obtain⟨-,rfl,-⟩:=d;exact i
theorem DC{f:α->Bool}{l:List α}{a:Option Nat}(b:l.findIdx? f=a):l.find? f=a.bind (l[·]?):=by
 subst b;induction l with
 |nil=>rfl
 |cons e d c=>
  rw[List.find?_cons,Vb];cases g:f e
  . rw[c];cases d.findIdx? f<;>simp
  . simp
set_option maxHeartbeats 20000000 in theorem D5 (s : ja w l p) (d b : Ref) {c g: Class} (aH : cls? p d = some c) (aF : cls? p b = some g) :Calls prog 142 #[some l.L,.agg #[d.keeper,d.name],.agg #[b.keeper,b.name]] w fun o w'=>o=.returned (.bool (nX p d b))/\Ext w w':=by
 have ah:Ext w ((w.alloc (.cells #[d.keeper,d.name] 64)).alloc (.cells #[b.keeper,b.name] 64)):=Zx;have z:=Zy (s.ext ah);clear s;have W:=(h9.new w 64 #[d.keeper,d.name]).ext (jh (.cells #[b.keeper,b.name] 64));have I:=h9.new (w.alloc (.cells #[d.keeper,d.name] 64)) 64 #[b.keeper,b.name];simp only[Tw]at I;have F:=Zy (Tt aH aF);clear aH aF;go_enter func142,ntmps142;go_upto_region 1 with(fail);generalize ((w.alloc (.cells #[d.keeper,d.name] 64)).alloc (.cells #[b.keeper,b.name] 64))=w0 at*;go_cut [7,8] (fun s7 s8 R=>∃b7 b8 vf vm uf um,s7=.pointer (some ⟨b7,0,none⟩)/\s8=.pointer (some ⟨b8,0,none⟩)/\hH R b7 0 [c.name,c.je,vf,vm]/\
  hH R b8 0 [g.name,g.je,uf,um]/\jB R (· <l.O) c [c.name,c.je,vf,vm]/\jB R (· <l.O) g [g.name,g.je,uf,um]/\Ext w0 R)
 case first=>
  obtain⟨-,p0,p1,-⟩:=W.ca;obtain⟨-,q0,q1,-⟩:=I.ca;clear W I;have hS:∀k,Ext w0 k->(Ext w0 k/\k.cell? w=some (.int .i64 d.keeper)/\k.cell? (w,1)=some (.string d.name)/\k.cell? ⟨w+1,0,none⟩=some (.int .i64 b.keeper)/\k.cell? ⟨w+1,1,none⟩=some (.string b.name)):=
   fun k J=>⟨J,J.iW p0,J.iW p1,J.iW q0,J.iW q1⟩
  have HS:=Zy hS;have bL:l.O<=w0:=SL z.lt z.ord
  clear hS;go_region_held3 (fun k=>Ext w0 k/\k.cell? w=some (.int .i64 d.keeper)/\k.cell? (w,1)=some (.string d.name)/\k.cell? ⟨w+1,0,none⟩=some (.int .i64 b.keeper)/\k.cell? ⟨w+1,1,none⟩=some (.string b.name))
   ((refine HS _ ?_;repeat (first|with_reducible exact Kp.rr|with_reducible assumption|with_reducible refine Kp.alloc ?_ _|with_reducible refine Kp.drew ?_|with_reducible refine Kp.drewN ?_ _|with_reducible refine Kp.setCell ?_ (fun s=>absurd s Zs) _|with_reducible refine Kp.trans ?_ Zu)))
   (first|(go_at_call 74;first|(have bn:=i;clear bn;refine(rQ l p (z.ext Zx) b.keeper b.name g F.2).mono ?_;rintro o y ⟨⟨bf,aD,rfl⟩,u⟩;obtain⟨bD,bF,bE,bG,rfl⟩:=aD.form;have cZ:=u.size;obtain⟨bN,bP⟩:=Ir u;(have cK:(n:Nat)<=y:=by have:=u.size;(try simp at this);omega);(try have bZ:(w0:Nat)<y:=by have:=u.size;(try simp at this);omega);(try have cu:(w0:Nat)+1<(y:Nat):=by have:=u.size;(try simp at this);omega);(try have cz:(n:Nat)<y:=by have:=u.size;(try simp at this);omega);(try have cB:(n:Nat)+1<(y:Nat):=by have:=u.size;(try simp at this);omega))|(refine(rQ l p (z.o.ext Zx) d.keeper d.name c F.o.1).mono ?_;rintro o n ⟨⟨cs,aC,rfl⟩,i⟩;obtain⟨y1,z1,y2,z2,rfl⟩:=aC.form;have cO:=i.size;obtain⟨bM,bO⟩:=Ir i;(have bW:(w0:Nat)<=n:=by have:=i.size;(try simp at this);omega);(try have bX:(w0:Nat)<n:=by have:=i.size;(try simp at this);omega);(try have bY:(w0:Nat)+1<(n:Nat):=by have:=i.size;(try simp at this);omega))))
  all_goals (go_wp2_with fail)
  all_goals
   go_meet;refine⟨_,_,.slice y1 c.fields.length z1,.slice y2 c.methods.length z2,.slice bD g.fields.length bF,.slice bE g.methods.length bG,rfl,rfl,hH.SC (by(try simp[go_sem, *])<;>refine World.cell?_setCell_same' _ _ _ (by simp[go_sem, *])) (by(try simp[go_sem, *])<;>refine World.cell?_setCell_same' _ _ _ (by simp[go_sem, *])) (by(try simp[go_sem, *])<;>refine World.cell?_setCell_same' _ _ _ (by simp[go_sem, *])) (by(try simp[go_sem, *])<;>refine World.cell?_setCell_same' _ _ _ (by simp[go_sem, *])),hH.SC (by(try simp[go_sem, *])<;>refine World.cell?_setCell_same' _ _ _ (by simp[go_sem, *])) (by(try simp[go_sem, *])<;>refine World.cell?_setCell_same' _ _ _ (by simp[go_sem, *])) (by(try simp[go_sem, *])<;>refine World.cell?_setCell_same' _ _ _ (by simp[go_sem, *])) (by(try simp[go_sem, *])<;>refine World.cell?_setCell_same' _ _ _ (by simp[go_sem, *])),jK.kp (D:=fun f=>l.O<=f) jB.stays (by repeat (first|with_reducible exact Kp.rr|with_reducible refine Kp.alloc ?_ _|with_reducible refine Kp.drew ?_|with_reducible refine Kp.setCell ?_ (fun _=>by first|omega|(simp;done)|(simp;omega)) _|with_reducible refine Kp.trans ?_ (Kp.any Zu))) (fun _ s h'=>absurd s (Nat.not_lt_of_le h')) aC,jK.kp (D:=fun f=>l.O<=f) jB.stays (by repeat (first|with_reducible exact Kp.rr|with_reducible refine Kp.alloc ?_ _|with_reducible refine Kp.drew ?_|with_reducible refine Kp.setCell ?_ (fun _=>by first|omega|(simp;done)|(simp;omega)) _|with_reducible refine Kp.trans ?_ (Kp.any Zu))) (fun _ s h'=>absurd s (Nat.not_lt_of_le h')) aD,Zx⟩
 case rest =>
  obtain⟨b7,b8,vf,vm,uf,um,rfl,rfl,k7,k8,hc,hd,e⟩:=hcut;obtain⟨dx,dz,N,sf,sm⟩:=hc;simp only[TG,Vw,Ve]at N;obtain⟨rfl,rfl⟩:=N;obtain⟨fa,fc,rfl,bz,bQ⟩:=sf.form;obtain⟨ma,mc,rfl,bT,bS⟩:=sm.form;have⟨HD,HE⟩:=jc hd e;have B:Zz (nX p d b=(c.fields.all (fun ag=>(wX g ag.name).isNone)&&c.methods.all (kS p d b))):=Zy (by
   unfold nX cls;rw[F.o.1,F.o.2];rfl)
  have ak:Zz (∀E,kS p d b E=match g.methods.find? (fun P=>P.name=E.name)with
   |none=>true
   |some P=>decide (E.ret=P.ret)&&decide (E.args=P.args)&&jQ p d.keeper b.keeper E):=Zy (fun E=>by
   unfold kS cls;rw[F.o.2];rfl)
  have r7:=k7.Ov.2.2.1;have az:=ah.trans e;have j4:=W.ext e;have j5:=I.ext e;clear hd e W I ah;go_wp2;go_loopw [24] (fun x wr=>∃f:Nat,f<=c.fields.length/\x=.int .i64 f/\Ext wc wr/\Zz ((c.fields.take f).all (fun ag=>(wX g ag.name).isNone)=true)) (fun x _=>c.fields.length - (intOf x).toNat)
  case atStart=>exact⟨0,T9 _,rfl,Kp.rr,Zy Zl⟩
  case round =>
   obtain⟨f,hk,rfl,e,t⟩:=hrel;have O:=k8.ext e;obtain⟨Q,s1,s2,s3⟩:=O.Ov;have aJ:=iV Q;by_cases ai:f<c.fields.length
   . obtain⟨a,v⟩:=get_some ai;obtain⟨aW,bB,cs,rfl,hI,rfl,-,L⟩:=sf.get v;obtain⟨g0,g1,g2⟩:=(L.ext e).three;have⟨r,A⟩:=jc v (jK.ext jB.stays (e.alloc (.cells #[a.name,a.kind.kind,a.kind.name] 154)) HD);clear v L;cases j:wX g a.name
     . have q:Zz ((wX g a.name).isNone=true):=Zy (by rw[j];rfl);have H:=Zy j;clear j;go_wp2_with (go_at_call 174;refine(IL A).mono ?_;rintro o n ⟨rfl,i⟩;rw[H.o];simp only[PV,Option.elim]);go_roundw
       case rel=>exact⟨f+1,Zm,by go_num,Zx,Zy (all_succ t.o r.o q.o)⟩
       case measure=>simp[intOf];omega
     . rename_i af;have q:Zz ((wX g a.name).isNone=false):=Zy (by rw[j];rfl);have H:=Zy j;clear j;go_wp2_with (go_at_call 174;refine(IL A).mono ?_;rintro o n ⟨rfl,i⟩;rw[H.o];simp only[PV,Option.elim]);go_ret;exact⟨hQ (by rw[B.o,rJ r.o q.o];rfl),Zx⟩
   . have HF := Zy (qc t (by omega : c.fields.length <= f)); have dm := (k7.ext e).Ov.2.2.2; clear Q s1 s2 s3 O aJ; have bJ := az.trans e; have aO := Zy (jK.ext jB.stays e HD); have bC := sm.ext jb.stays e; have aL := k8.ext e; have bA := j4.ext e; have aK := j5.ext e; have aQ := Zy (z.ext (HE.trans e)); clear t az HE z HD sm sf k8 k7 e bz j4 j5 r7; obtain ⟨wo, rfl⟩ : ∃ wo : World, wo = wr := ⟨_, rfl⟩; go_wp2; go_loopw [37] (fun x wr => ∃ f : Nat, f <= c.methods.length /\ x = .int .i64 f /\ Ext wo wr /\ Zz ((c.methods.take f).all (kS p d b) = true)) (fun x _ => c.methods.length - (intOf x).toNat)
     case atStart=>exact⟨0,T9 _,rfl,Kp.rr,Zy Zl⟩
     case round =>
      obtain⟨f,hk,rfl,e,t⟩:=hrel;by_cases ai:f<c.methods.length
      . obtain ⟨a, v⟩ := get_some ai; obtain ⟨aW, bB, cs, rfl, hI, aa,-, L⟩ := bC.get v; have ⟨r, aS⟩ := jc v (jK.ext jb.stays e aa); obtain ⟨T, X, U, Y, V, Z, rfl⟩ := aa.form; have ha := aa.args; clear aa; obtain ⟨g0, g1, g2, g3, g4, g5, g6, g7⟩ := (L.ext e).eight; have O := aL.ext e; obtain ⟨Q, s1, s2, s3⟩ := O.Ov; have aJ := iV Q; have HW := Zy (e.alloc (.cells #[a.name, .slice T a.args.length X, a.ret.kind, a.ret.name, a.locals, a.stack, .slice U a.code.length Y, .slice V a.maps.length Z] 113)); have A := Zy (jK.ext jB.stays HW aO); clear v L O; cases j : q8 g a.name
        . have q:Zz (kS p d b a=true):=Zy (by rw[ak.o,DC j];rfl);have H:=Zy j;clear j;go_wp2_with (go_at_call 143;refine(BI A).mono ?_;rintro o n ⟨rfl,i⟩;rw[H.o];simp only[PV,Option.elim]);go_roundw
          case rel=>exact⟨f+1,Zm,by go_num,Zx,Zy (all_succ t.o r.o q.o)⟩
          case measure=>simp[intOf];omega
        . rename_i af;go_wp2_with fail;refine(BI A).mono ?_;rintro o n ⟨rfl,i⟩;rw[j];simp only[PV,Option.elim];have bu:af<g.methods.length:=by
           have:=Ut.1 j;exact this.1
          obtain⟨h,hy⟩:=get_some bu;have q:Zz (kS p d b a=(decide (a.ret=h.ret)&&decide (a.args=h.args)&&jQ p d.keeper b.keeper a)):=Zy (by
           rw[ak.o,DC j];show(match g.methods[af]? with|none=>true|some P=>_)=_
           rw[hy])
          have bq:=jK.ext jB.stays i A;obtain⟨dn,dw,N,-,tm⟩:=bq;simp only[TG,Vw,Ve]at N;obtain⟨rfl,rfl⟩:=N;obtain⟨na,nc,rfl,bV,-⟩:=tm.form;obtain⟨b',di,bf,rfl,bK,aj,-,aB⟩:=tm.get hy;obtain⟨aT,aX,aU,aY,aV,aZ,rfl⟩:=aj.form;have aA:=aj.args;clear aj;obtain⟨q0,q1,q2,q3,q4,q5,q6,q7⟩:=aB.eight;have S:=Zy (Tt (ha) aA);have K:=HW.trans i;have ax:=Zy (((Kp.refl _ wr).alloc (.cells #[a.name,.slice T a.args.length X,a.ret.kind,a.ret.name,a.locals,a.stack,.slice U a.code.length Y,.slice V a.maps.length Z] 113):Ext wr _).trans i);have aM:=aL.ext K;have t3:=aM.Ov.2.2.2;have df:=iV t3;have bm:=(h9.new wr 113 #[a.name,.slice T a.args.length X,a.ret.kind,a.ret.name,a.locals,a.stack,.slice U a.code.length Y,.slice V a.maps.length Z]).ext i;obtain⟨dh,m0,m1,m2,m3,m4,m5,m6,m7,-⟩:=bm.ca;clear hy aB tm ha aA Q s1 s2 s3 g0 g1 g2 g3 g4 g5 g6 g7 aM j bm;have aN:=Zy (jK.ext jb.stays ((Kp.refl _ wr).alloc (.cells #[a.name,.slice T a.args.length X,a.ret.kind,a.ret.name,a.locals,a.stack,.slice U a.code.length Y,.slice V a.maps.length Z] 113)) aS |> jK.ext jb.stays i);have o0:=((bA.ext K).c 0 d.keeper rfl);have o1:=((aK.ext K).c 0 b.keeper rfl);have oz:=(aK.ext K).lt;have HR:Zz (decide (a.ret=h.ret)=decide (a.ret.kind=h.ret.kind/\a.ret.name=h.ret.name)):=Zy (Ug.2 Kind.nW);rcases zG a.ret.kind h.ret.kind a.ret.name h.ret.name with⟨C,e2⟩|⟨C,bU,aI⟩|⟨bR,aG⟩
          . have bg:=Ub.2 C;have bH:(a.ret.name.toList==h.ret.name.toList)=true:=by rw[e2];simp
            have au:Zz (kS p d b a=(decide (a.args=h.args)&&jQ p d.keeper b.keeper a)):=Zy (by rw[q.o,HR.o];simp[C,e2]);clear C e2;cases D:decide (a.args=h.args)
            . have G:Zz (kS p d b a=false):=Zy (by rw[au.o,D];rfl);have HQ:=Zy D;clear D;go_wp2_with fail;refine(Cu ((S.1.ext oD.stays (e.trans ax)).ext oD.stays (jh _)) (S.2.ext oD.stays (jh _))).mono ?_;rintro o y ⟨rfl,ay⟩;rw[HQ.o];go_wp2;go_ret;exact⟨hQ (by rw[B.o,rJ r.o G.o];simp),Zx⟩
            . have av:Zz (kS p d b a=jQ p d.keeper b.keeper a):=Zy (by rw[au.o,D];rfl);have HQ:=Zy D;clear D;go_wp2_with fail;refine(Cu ((S.1.ext oD.stays (e.trans ax)).ext oD.stays (jh _)) (S.2.ext oD.stays (jh _))).mono ?_;rintro o y ⟨rfl,ay⟩;rw[HQ.o];have m:=Zy (((Kp.refl _ n).alloc (.cells #[h.name,.slice aT h.args.length aX,h.ret.kind,h.ret.name,h.locals,h.stack,.slice aU h.code.length aY,.slice aV h.maps.length aZ] 113):Ext n _).trans ay);have n0:=m.iW m0;have n1:=m.iW m1;have n2:=m.iW m2;have n3:=m.iW m3;have n4:=m.iW m4;have n5:=m.iW m5;have n6:=m.iW m6;have n7:=m.iW m7;have u0:=m.iW o0;have u1:=m.iW o1;have⟨aR,aP⟩:=jc (jK.ext jb.stays m aN) (aQ.ext (K.trans m));clear m0 m1 m2 m3 m4 m5 m6 m7 q0 q1 q2 q3 q4 q5 q6 q7 o0 o1 t3;cases hm:jQ p d.keeper b.keeper a
              all_goals
               have ae:=Zy hm;clear hm;go_wp2_with fail;refine(vH aP _ _ aR).mono ?_;rintro o w3 ⟨rfl,bI⟩;rw[ae.o];go_wp2
              . go_ret;exact⟨hQ (by rw[B.o,rJ r.o (av.o.trans ae.o)];simp),Zx⟩
              . go_roundw
                case rel=>exact⟨f+1,Zm,by go_num,Zx,Zy (all_succ t.o r.o (av.o.trans ae.o))⟩
                case measure=>simp[intOf];omega
          . have G:Zz (kS p d b a=false):=Zy (by rw[q.o,HR.o];simp[aI]);have bg:=Ub.2 C;clear aI C;go_wp2;go_ret;exact⟨hQ (by rw[B.o,rJ r.o G.o];simp),Zx⟩
          . have G:Zz (kS p d b a=false):=Zy (by rw[q.o,HR.o];simp[aG]);clear aG;go_wp2;go_ret;exact⟨hQ (by rw[B.o,rJ r.o G.o];simp),Zx⟩
      . go_wp2;go_ret;exact⟨hQ (by rw[B.o,HF.o,qc t.o Zm];rfl),Zx⟩
theorem SliceOf.drop{R:mH α}{c n a: Nat}{xs:List α}(h:SliceOf k R w I (.slice (some ⟨b,c,none⟩) n a) xs){i:Nat}(x:i<=xs.length):SliceOf k R w I (.slice (some ⟨b,c+i*k,none⟩) (xs.length - i) (a - i)) (xs.drop i):=by
 obtain⟨r,t,f,u,v,j⟩:=h;cases f;refine⟨some ⟨b,c+i*k,none⟩,a - i,by rw[Uj],by rw[Uj];omega,by rw[Uj];omega,fun y q d=>?_⟩;rw[UM]at d;obtain⟨s,z,e,g,l,p,o,m⟩:=j _ q d;cases g;refine⟨b,_,e,rfl,l,p,o,?_⟩;rw[Ul,<-Nat.add_mul];exact m
theorem pV{xs:List α}{x:α}(b:xs[k]?=some x):xs.drop k=x::xs.drop (k+1):=by
 obtain⟨a,rfl⟩:=Tv.1 b;exact Uy a
theorem xY (B : ja w l p) {I: Nat -> Prop} {v: Value} {xs: List Ref} (q : SliceOf 2 z8 w I v xs) (J : ∀ e ∈ xs, ∃ o, cls? p e = some o) :Calls prog 94 #[some l.L,v] w fun A w'=>A=.returned (.bool (kM p xs))/\Ext w w':=by
 have L:=Zy B;clear B;have u:=Zy J;clear J;obtain⟨ai,z,rfl,hn,au⟩:=q.form;go_enter func94,ntmps94;go_wp2;go_loopw [11] (fun i wr=>∃k:Nat,k<=xs.length/\i=.int .i64 k/\Ext w wr/\Zz (kM p xs=kM p (xs.drop k))) (fun i _=>xs.length - (intOf i).toNat)
 case atStart=>exact⟨0,T9 _,rfl,Kp.rr,Zy rfl⟩
 case round =>
  obtain⟨k,hk,rfl,Y,s⟩:=hrel;by_cases aa:k<xs.length
  . obtain ⟨a, d⟩ := get_some aa; obtain ⟨T, af, cs, rfl, hI, rfl,-, D⟩ := q.get d; obtain ⟨W, X⟩ := (D.ext Y).two; have HX := Zy d; have ax : (0 : Int) <= (k : Int) + 1 := by omega
    have ay:(k:Int)+1<=xs.length:=Zm
    have az:(xs.length:Int)<=z:=Zm
    have g:Zz (kM p xs=((xs.drop (k+1)).all (nX p a)&&kM p (xs.drop (k+1)))):=Zy (by
     rw[s.o,pV d];rfl)
    obtain⟨cx,F⟩:=u.o a (Sy d);have O:=Zy F;clear d D F;by_cases av:z=k+1
    . have hz:xs.length - (k+1)=0:=Zm
      have ae:Zz (xs.drop (k+1)=[]):=Zy (TW Zm);go_wp2;go_loopw [21] (fun i r=>i=.int .i64 0/\Ext wr r) (fun i _=>0)
      case atStart=>exact⟨rfl,kx⟩
      case round=>
       obtain⟨rfl,h⟩:=hrel;go_wp2;go_roundw
       case rel=>exact⟨k+1,Zm,by go_num,Zv,Zy (by rw[g.o,ae.o];rfl)⟩
       case measure=>simp[intOf];omega
    . have sd := q.drop (i := k + 1) Zm; have H : (xs.drop (k + 1)).length = xs.length - (k + 1) := Uj; have S : Zz (∀ e ∈ xs.drop (k + 1), ∃ o, cls? p e = some o) := Zy (fun e hr => u.o e (Vs hr)); have ah : Zz (kM p xs = ((xs.drop (k + 1)).all (nX p a) && kM p (xs.drop (k + 1)))) := g; obtain ⟨c, rfl⟩ : ∃ c : World, c = wr := ⟨_, rfl⟩; go_wp2; have V := h9.new c 64 #[a.keeper, a.name]; have C : Ext w (c.alloc (.cells #[a.keeper, a.name] 64)) := kx; have R := Zy (L.ext C); have aA : (c.alloc (.cells #[a.keeper, a.name] 64)).heap.size = c + 1 := by simp
      go_loopw [21] (fun i r=>∃b:Nat,b<=xs.length - (k+1)/\i=.int .i64 b/\Ext (c.alloc (.cells #[a.keeper,a.name] 64)) r/\Zz (((xs.drop (k+1)).take b).all (nX p a)=true)) (fun i _=>xs.length - (k+1) - (intOf i).toNat)
      case atStart=>exact⟨0,T9 _,rfl,Kp.rr,Zy Zl⟩
      case round =>
       obtain⟨b,hj,rfl,h,t⟩:=hrel;by_cases Z:b<xs.length - (k+1)
       . obtain⟨f,m⟩:=get_some (l:=xs.drop (k+1)) (k:=b) (by rw[H];exact Z);obtain⟨U,ag,aj,j,ak,rfl,-,E⟩:=sd.get m;obtain⟨rfl,rfl⟩:U=T/\ag=af+(k+1)*2:=by simp only[TF,Addr.mk.injEq,Vw]at j;exact⟨j.1.symm,j.2.symm⟩
         obtain⟨q0,q1⟩:=(E.ext (C.trans h)).two;have y:=V.ext h;obtain⟨zx,x0,x1,-⟩:=y.ca;obtain⟨cy,G⟩:=S.o f (Sy m);have⟨P,x,Q⟩:=jr G m ((R.ext h).ext (jh (.cells #[f.keeper,f.name] 64)));clear E j y G m W X;cases K:nX p a f
         all_goals
          have n:=Zy K;clear K;go_wp2_with fail;refine(D5 Q a f O P).mono ?_;rintro A w1 ⟨rfl,hB⟩;rw[n.o];go_wp2
         . go_ret;exact⟨hQ (by rw[g.o,rJ x.o n.o];rfl),Zv⟩
         . go_roundw
           case rel=>exact⟨b+1,Zm,by go_num,Zv,Zy (all_succ t.o x.o n.o)⟩
           case measure=>simp[intOf];omega
       . have N:=Zy (qc t (by rw[H];omega));go_wp2;go_roundw
         case rel=>exact⟨k+1,Zm,by go_num,Zv,Zy (by rw[g.o,N.o];rfl)⟩
         case measure=>simp[intOf];omega
  . go_wp2;go_ret;exact⟨hQ (by rw[s.o,TW Zm];rfl),kx⟩
theorem Fh:∀(f:Nat) (r:Ref) (c:List Ref),jN p f r=some c->(∃d,cls? p r=some d)->∀g∈c,∃d,cls? p g=some d:=by
 intro f;induction f with
 |zero=>intro r c a;simp[jN]at a
 |succ f j=>
  intro r c a h g b;unfold jN at a;split at a
  . cases a;simp at b;subst b;exact h
  . split at a
    . rename_i i;cases e:jN p f (M.resolve p r.keeper (je p r)).1 with
      |none=>rw[e]at a;simp at a
      |some k=>
       rw[e]at a;simp at a;subst a;rcases TI.1 b with rfl|b
       . exact h
       . exact j _ _ e (lD i) g b
    . cases a
theorem DZ(a:lv p r=true):∃c,cls? p r=some c:=by
 unfold lv find at a;by_cases b:(M.resolve p r.keeper r.name).2=1
 . rw[SV b]at a;split at a
   . simp at a;rw[<-a];exact lD b
   . simp at a
 . rw[SX b]at a;simp at a;exact absurd a.1 b
theorem kI:∀c∈chain p r,∃d,cls? p c=some d:=by
 intro c a;unfold chain at a;split at a
 . rename_i e;cases b:om p r with
   |none=>rw[b]at a;simp at a
   |some f=>
    rw[b]at a;exact Fh 6 r f b (DZ e) c (by simpa using a)
 . simp at a
theorem ja.QD{f: World}(a:ja w l p)(c:Kp (·=l.D) w f)(n:∃b,oF f l.D b/\∀h i j,look b (h,i)=some j->j=if jD p ⟨h,i⟩then 1 else 2):ja f l p:=by
 obtain⟨s,t,u⟩:=a.ord;refine⟨a.ok,a.ord,?_,?_,?_,n⟩
 . obtain⟨k,m,g,o⟩:=a.blk;exact⟨k,m,g.kp c Zm,o.keep iX.stays (Kp.same c fun q g r=>Zm) fun _ a=>a⟩
 . obtain⟨b,d,e⟩:=a.own;exact⟨b,d.kp c Zm,e⟩
 . obtain⟨b,d,e⟩:=a.ask;exact⟨b,d.kp c Zm,e⟩
theorem mM(h:ja w l p)(r:Ref):Calls prog 43 #[some l.L,.agg #[r.keeper,r.name]] w fun y Y=>y=.returned (.bool (jD p r))/\ja Y l p/\Kp (·=l.D) w Y:=by
 obtain⟨u,s,q⟩:=h.laid;have z:Ext w (w.alloc (.cells #[r.keeper,r.name] 64)).drew:=kx;have t:=Ai (s.kp z fun a=>a) r.keeper r.name;obtain⟨au,av,f,c0,c1,c2,x⟩:=h.cells;have R:=x _ (Kp.refl _ w);have aB:=iV R;have⟨D,aa⟩:=jc h (h.ext z);have O:=(h9.new w 64 #[r.keeper,r.name]);clear f c0 c1 c2 h;cases m:look u (r.keeper,r.name)with
 | some L =>
  have g:=q _ _ _ m;rw[m]at t;simp only[U7]at t;have d:=Zy (Tt s q);clear s q m x;cases I:jD p r
  all_goals
   have S:jD p ⟨r.keeper,r.name⟩=_:=I;rw[S]at g;have HC:=Zy I;clear I S;simp at g;subst g;go_enter func43,ntmps43;go_wp2;refine oK 6 Zo Zo ?_;(simp only[Us,UT,Ur,UI]);(repeat still_step);refine Vz ?_;go_wp2;go_ret;exact⟨rfl,D.ext kx |> fun h=>h,(kx:Ext w _).any⟩
 | none =>
  rw[m]at t;simp only[Vk]at t;have⟨d,E⟩:=jc (Tt s (Tt q m)) x;clear s q m x;go_enter func43,ntmps43;go_wp2;refine oK 6 Zo Zo ?_;(simp only[Us,UT,Ur,UI]);(repeat still_step);refine Vz ?_;go_wp2_with fail;refine(rP aa _).mono ?_;rintro y w1 ⟨⟨L,rfl,f⟩,H⟩;obtain⟨a',ax,rfl,hn,ay⟩:=f.form;have e:=z.trans H;have Q:=E.o _ e;have⟨N,ae⟩:=jc (D.ext e) (d.1.kp e fun a=>a);have P:=((O.ext (jg)).ext H);obtain⟨W,q0,q1,-⟩:=P.ca;have J:Zz (jD p r=(!(chain p r).isEmpty&&kM p (chain p r))):=Zy rfl;have T:Zz (∀a∈chain p r,∃af,cls? p a=some af):=Zy kI;have j:Zz (∀G v,Ext w G->oF v l.D (u++[((r.keeper,r.name),if jD p r then 1 else 2)])->Kp (·=l.D) G v->ja v l p):=Zy (fun G v hW ai ag=>(D.ext hW).QD ag ⟨_,ai,fun V X L g=>by
   by_cases A:((V,X):Key)=(r.keeper,r.name)
   . rw[A,yL d.o.2.2]at g;cases g;simp only[Wu]at A;obtain⟨rfl,rfl⟩:=A;rfl
   . rw[x8 A]at g;exact d.2.1 V X L g⟩)
  clear H O P t R z;generalize chain p r=xs at*;cases xs with
  |nil=>
   have c:jD p r=false:=J.o;rw[c]at j;have n:=Zy c;clear c;clear f;go_wp2;refine oK 5 Zo Zo ?_;(simp only[Us,UT,Ur,UI]);(repeat still_step);refine Vz ?_;refine ny rfl rfl l.D u r.keeper r.name 2 rfl rfl rfl (ae.kp ((Kp.refl (fun _=>False) _).drew) fun a=>a) d.2.2 ?_;intro Z aj U aA;go_wp2;go_ret;exact⟨hQ n.symm,j _ _ ((e).drew) aj U,((e.drew).any:Kp (·=l.D) w _).trans U⟩
  |cons B C=>
   have ah:((B::C).length:Int)≠0:=by simp;omega
   have az:=SI.2 ah;cases k:kM p (B::C)
   . have c:jD p r=false:=by rw[J.o,k];rfl
     rw[c]at j;have⟨n,F⟩:=jc c k;clear c k;generalize (B::C)=xs at*;go_wp2_with fail;refine(xY N f T).mono ?_;rintro y Z ⟨rfl,b⟩;rw[F.o];have d2:=E.o _ (e.trans b);have p0:=b.iW q0;have p1:=b.iW q1;have i:=e.trans b;clear q0 q1 Q b W f;go_wp2;refine oK 5 Zo Zo ?_;(simp only[Us,UT,Ur,UI]);(repeat still_step);refine Vz ?_;refine ny rfl rfl l.D u r.keeper r.name 2 rfl rfl rfl ((d.1.kp i fun a=>a).kp ((Kp.refl (fun _=>False) _).drew) fun a=>a) d.2.2 ?_;intro w3 K o ak;go_wp2;go_ret;exact⟨hQ n.symm,j _ _ ((i).drew) K o,((i.drew).any:Kp (·=l.D) w _).trans o⟩
   . have c:jD p r=true:=by rw[J.o,k];rfl
     rw[c]at j;have⟨n,F⟩:=jc c k;clear c k;generalize (B::C)=xs at*;go_wp2_with fail;refine(xY N f T).mono ?_;rintro y Z ⟨rfl,b⟩;rw[F.o];have d2:=E.o _ (e.trans b);have p0:=b.iW q0;have p1:=b.iW q1;have i:=e.trans b;clear q0 q1 Q b W f;go_wp2;refine oK 5 Zo Zo ?_;(simp only[Us,UT,Ur,UI]);(repeat still_step);refine Vz ?_;refine ny rfl rfl l.D u r.keeper r.name 1 rfl rfl rfl ((d.1.kp i fun a=>a).kp ((Kp.refl (fun _=>False) _).drew) fun a=>a) d.2.2 ?_;intro w3 K o ak;go_wp2;go_ret;exact⟨hQ n.symm,j _ _ ((i).drew) K o,((i.drew).any:Kp (·=l.D) w _).trans o⟩
end Go.Proofs.YtenhnldnpdlniaaGreat
