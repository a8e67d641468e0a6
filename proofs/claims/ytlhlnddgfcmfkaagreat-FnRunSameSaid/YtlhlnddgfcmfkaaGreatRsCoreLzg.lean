/- Walks. -/
import Derived.Test.YtlhlnddgfcmfkaaGreatRsCoreH
import Derived.Test.YtlhlnddgfcmfkaaGreatRsCoreLze
set_option maxRecDepth 100000
set_option maxHeartbeats 4000000
set_option linter.all false
namespace Go.Proofs.YtlhlnddgfcmfkaaGreat
open Go Go.RowKit Tryz M
theorem M4(w:World)(I J:Nat->Prop){k l:Value}(xs:List _)(c:SliceOf 2 l7 w I k xs)(d:SliceOf 2 l7 w J l xs):Calls prog 134 #[k,l] w fun o v=>o=.returned (.bool true)/\Ext w v:=by
 obtain⟨x,D,rfl,-,C⟩:=c.form;obtain⟨y,E,rfl,-,-⟩:=d.form;have⟨m,n⟩:=je c d;clear c d;go_enter func134,ntmps134;go_wp2_with fail;go_loopw [5] (fun f wr=>∃a:Nat,a<=xs.length/\f=.int .i64 a/\Ext w wr) (fun f _=>xs.length - (intOf f).toNat)
 case atStart=>exact⟨0,R4 _,rfl,Kp.rr⟩
 case round=>
  obtain⟨a,B,rfl,b⟩:=hrel;have g:=Zy b;by_cases r:a<xs.length
  . obtain⟨H,e⟩:=get_some r;obtain⟨z,F,_,p,-,rfl,-,h⟩:=(m.ext l7.stays b).get e;obtain⟨A,G,_,q,-,rfl,-,i⟩:=(n.ext l7.stays b).get e;subst p q;obtain⟨j,s⟩:=h.two;obtain⟨q0,q1⟩:=i.two;have t:=iY j;have u:=iY q0;clear e h i b;go_upto_region 6 with(fail);go_quiet (fail);clear j s q0 q1 t u;go_wp2_with fail;exact⟨⟨a+1,Zm,by go_num,g.o.drewN _⟩,by simp[intOf];omega⟩
  . obtain rfl:a=xs.length:=Zm
    clear b;go_wp2_with fail;go_ret;exact⟨rfl,g⟩
theorem JP(w:World)(I J:Nat->Prop){k l:Value}(xs:List _)(c:SliceOf 2 kE w I k xs)(d:SliceOf 2 kE w J l xs):Calls prog 135 #[k,l] w fun o v=>o=.returned (.bool true)/\Ext w v:=by
 obtain⟨x,D,rfl,-,C⟩:=c.form;obtain⟨y,E,rfl,-,-⟩:=d.form;have⟨m,n⟩:=je c d;clear c d;go_enter func135,ntmps135;go_wp2_with fail;go_loopw [5] (fun f wr=>∃a:Nat,a<=xs.length/\f=.int .i64 a/\Ext w wr) (fun f _=>xs.length - (intOf f).toNat)
 case atStart=>exact⟨0,R4 _,rfl,Kp.rr⟩
 case round=>
  obtain⟨a,B,rfl,b⟩:=hrel;have g:=Zy b;by_cases r:a<xs.length
  . obtain⟨H,e⟩:=get_some r;obtain⟨z,F,_,p,-,rfl,-,h⟩:=(m.ext kE.stays b).get e;obtain⟨A,G,_,q,-,rfl,-,i⟩:=(n.ext kE.stays b).get e;subst p q;obtain⟨j,s⟩:=h.two;obtain⟨q0,q1⟩:=i.two;have t:=iY j;have u:=iY q0;clear e h i b;go_upto_region 6 with(fail);go_quiet (fail);clear j s q0 q1 t u;go_wp2_with fail;exact⟨⟨a+1,Zm,by go_num,g.o.drewN _⟩,by simp[intOf];omega⟩
  . obtain rfl:a=xs.length:=Zm
    clear b;go_wp2_with fail;go_ret;exact⟨rfl,g⟩
theorem KI(w:World)(I J:Nat->Prop){ca cb:List Value}(x:M.Method)(ha:jd w I x ca)(hb:jd w J x cb):Calls prog 90 #[.agg ca.toArray,.agg cb.toArray] w fun F w'=>F=.returned (.bool true)/\Ext w w':=by
 obtain⟨va,vc,vm,rfl,S,T,U⟩:=ha;obtain⟨wa,wc,wm,rfl,Z,k2,k3⟩:=hb;obtain⟨a1,a2,rfl,-,n1⟩:=S.form;obtain⟨a3,a4,rfl,-,n2⟩:=T.form;obtain⟨a5,a6,rfl,-,n3⟩:=U.form;obtain⟨b1,b2,rfl,-,-⟩:=Z.form;obtain⟨b3,b4,rfl,-,-⟩:=k2.form;obtain⟨b5,b6,rfl,-,-⟩:=k3.form;obtain⟨g,E⟩:=Ry ((w.alloc (.cells #[x.name,.slice a1 x.args.length a2,x.ret.kind,x.ret.name,x.locals,x.stack,.slice a3 x.code.length a4,.slice a5 x.maps.length a6] 141)).alloc (.cells #[x.name,.slice b1 x.args.length b2,x.ret.kind,x.ret.name,x.locals,x.stack,.slice b3 x.code.length b4,.slice b5 x.maps.length b6] 141));have f:Ext w g:=by rw[E];exact kx
 have O:hV g w.heap.size 141 #[x.name,.slice a1 x.args.length a2,x.ret.kind,x.ret.name,x.locals,x.stack,.slice a3 x.code.length a4,.slice a5 x.maps.length a6]:=by rw[E];exact(hV.new _ _ _).ext kx
 have P:hV g (w.heap.size+1) 141 #[x.name,.slice b1 x.args.length b2,x.ret.kind,x.ret.name,x.locals,x.stack,.slice b3 x.code.length b4,.slice b5 x.maps.length b6]:=by rw[E];exact hV.newAt _ _ Zl
 obtain⟨-,p0,p1,p2,p3,p4,p5,p6,p7,-⟩:=O.ca;obtain⟨-,q0,q1,q2,q3,q4,q5,q6,q7,-⟩:=P.ca;have⟨HK,H2,K2,H3,K3,ae,L,N,ah⟩:=vL (M4 g I J x.args (S.ext l7.stays f) (Z.ext l7.stays f)) (T.ext uE.stays f) (k2.ext uE.stays f) (U.ext kX.stays f) (k3.ext kX.stays f) f O P E;clear E f O P S T U Z k2 k3;go_enter func90,ntmps90;go_upto_region 1 with(fail);rw[<-ah.o];go_wp2_with fail;refine HK.o.mono ?_;rintro F w1 ⟨rfl,G⟩;obtain⟨-,n,o,p,q,r,s,t,k,-⟩:=(L.o.ext G).ca;obtain⟨-,u,v,y,z,A,B,C,l,-⟩:=(N.o.ext G).ca;have af:=Zy G;clear G p0 p1 p2 p3 p4 p5 p6 p7 q0 q1 q2 q3 q4 q5 q6 q7;go_wp2_with fail;go_loopw [5] (fun e wr=>∃d:Nat,d<=x.code.length/\e=.int .i64 d/\Ext g wr) (fun e _=>x.code.length - (intOf e).toNat)
 case atStart=>exact⟨0,R4 _,rfl,af.o⟩
 case round=>
  obtain⟨d,hk,rfl,b⟩:=hrel;have D:=Zy b;clear n o p q r s t k u v y z A B C l;obtain⟨-,n,o,p,q,r,s,t,k,-⟩:=(L.o.ext b).ca;obtain⟨-,u,v,y,z,A,B,C,l,-⟩:=(N.o.ext b).ca;by_cases W:d<x.code.length
  . obtain⟨e,j⟩:=get_some W;obtain⟨d1,o1,_,Q,-,rfl,-,h⟩:=(H2.o.ext uE.stays b).get j;obtain⟨d2,o2,_,R,-,rfl,-,i⟩:=(K2.o.ext uE.stays b).get j;subst Q R;obtain⟨H,X,Y,j3⟩:=h.four;obtain⟨K,l1,l2,l3⟩:=i.four;have jz:=iY H;have lz:=iY K;clear j h i b;go_upto_region 6 with(fail);go_quiet (fail);clear H X Y j3 K l1 l2 l3 jz lz n o p q r s t k u v y z A B C l;go_wp2_with fail;exact⟨⟨d+1,Zm,by go_num,D.o.drewN _⟩,by simp[intOf];omega⟩
  . obtain rfl:d=x.code.length:=Zm
    clear b;go_wp2_with fail;go_loopw [6] (fun e wr=>∃d:Nat,d<=x.maps.length/\e=.int .i64 d/\Ext g wr) (fun e _=>x.maps.length - (intOf e).toNat)
    case atStart=>exact⟨0,R4 _,rfl,D.o⟩
    case round=>
     obtain⟨d,hk,rfl,b⟩:=hrel;have D:=Zy b;clear n o p q r s t k u v y z A B C l;obtain⟨-,n,o,p,q,r,s,t,k,-⟩:=(L.o.ext b).ca;obtain⟨-,u,v,y,z,A,B,C,l,-⟩:=(N.o.ext b).ca;by_cases W:d<x.maps.length
     . obtain⟨e,j⟩:=get_some W;obtain⟨d1,o1,_,Q,-,⟨u1,u2,rfl,g1,g2⟩,-,h⟩:=(H3.o.ext kX.stays b).get j;obtain⟨d2,o2,_,R,-,⟨v1,v2,rfl,g3,g4⟩,-,i⟩:=(K3.o.ext kX.stays b).get j;subst Q R;go_upto_region 11 with(fail);obtain⟨ai,aa,aj,c⟩:=kY wr;have H:=fun a=>(c.jm a).jb h.three.1;have X:=fun a=>(c.jm a).jb h.three.2.1;have Y:=fun a=>(c.jm a).jb h.three.2.2;have K:=fun a=>(c.jm a).jb i.three.1;have l1:=fun a=>(c.jm a).jb i.three.2.1;have l2:=fun a=>(c.jm a).jb i.three.2.2;have r6:=fun a=>(c.jm a).jb k;have r7:=fun a=>(c.jm a).jb l;have⟨HL,HS,m⟩:=jy (fun a=>JP (aa a) I J e.locals (g1.ext kE.stays (c.jm a)) (g3.ext kE.stays (c.jm a))) (fun a=>JP (aa a) I J e.stack (g2.ext kE.stays (c.jm a)) (g4.ext kE.stays (c.jm a))) c;clear c j h i b g1 g2 g3 g4;refine Bl m ?_ ?_;rotate_left;(repeat (go_big_quiet_step ((go_at_call 135;first|(with_reducible refine(HL.o _).mono ?_;rintro F w6 ⟨rfl,V⟩;exact⟨rfl,m.o.o _ ((m.o.jm _).trans V)⟩)|(with_reducible refine(HS.o _).mono ?_;rintro F w6 ⟨rfl,V⟩;exact⟨rfl,m.o.o _ ((m.o.jm _).trans V)⟩)))));refine Sw ?_;(rintro _ ⟨sW,rfl⟩);rotate_left
       . exact jf
       have ag:=Zy (m.o.jm sW);clear H X Y K l1 l2 r6 r7 n o p q r s t k u v y z A B C l;go_wp2_with fail;exact⟨⟨d+1,Zm,by go_num,D.o.trans ag.o⟩,by simp[intOf];omega⟩
     . obtain rfl:d=x.maps.length:=Zm
       clear b;go_wp2_with fail;go_ret;exact⟨rfl,ae.o.trans D.o⟩
theorem M3(w:World)(I J:Nat->Prop){ca cb:List Value}(x:Class)(ha:jv w I x ca)(hb:jv w J x cb):Calls prog 33 #[.agg ca.toArray,.agg cb.toArray] w fun aa w'=>aa=.returned (.bool true)/\Ext w w':=by
 obtain⟨va,vc,rfl,G,H⟩:=ha;obtain⟨wa,wc,rfl,O,P⟩:=hb;obtain⟨T,U,rfl,-,n1⟩:=G.form;obtain⟨V,W,rfl,-,n2⟩:=H.form;obtain⟨X,Y,rfl,-,-⟩:=O.form;obtain⟨Z,b4,rfl,-,-⟩:=P.form;obtain⟨k,v⟩:=Ry ((w.alloc (.cells #[x.name,x.jl,.slice T x.fields.length U,.slice V x.methods.length W] 95)).alloc (.cells #[x.name,x.jl,.slice X x.fields.length Y,.slice Z x.methods.length b4] 95));have l:Ext w k:=by rw[v];exact kx
 have z:hV k w 95 #[x.name,x.jl,.slice T x.fields.length U,.slice V x.methods.length W]:=by rw[v];exact(hV.new _ _ _).ext kx
 have A:hV k (w+1) 95 #[x.name,x.jl,.slice X x.fields.length Y,.slice Z x.methods.length b4]:=by rw[v];exact hV.newAt _ _ Zl
 obtain⟨-,m,n,o,i,-⟩:=z.ca;obtain⟨-,p,q,r,j,-⟩:=A.ca;have⟨H2,K2,H3,K3,ae,R,S,ag⟩:=xJ (G.ext lh.stays l) (O.ext lh.stays l) (H.ext jd.stays l) (P.ext jd.stays l) l z A v;clear v l z A G H O P;go_enter func33,ntmps33;go_upto_region 1 with(fail);rw[<-ag.o];go_wp2_with fail;go_loopw [5] (fun d wr=>∃b:Nat,b<=x.fields.length/\d=.int .i64 b/\Ext k wr) (fun d _=>x.fields.length - (intOf d).toNat)
 case atStart=>exact⟨0,R4 _,rfl,Kp.rr⟩
 case round=>
  obtain⟨b,hk,rfl,a⟩:=hrel;have s:=Zy a;clear m n o i p q r j;obtain⟨-,m,n,o,i,-⟩:=(R.ext a).ca;obtain⟨-,p,q,r,j,-⟩:=(S.ext a).ca;by_cases L:b<x.fields.length
  . obtain⟨d,h⟩:=get_some L;obtain⟨d1,o1,_,B,-,rfl,-,t⟩:=(H2.ext lh.stays a).get h;obtain⟨d2,o2,_,C,-,rfl,-,u⟩:=(K2.ext lh.stays a).get h;subst B C;obtain⟨j0,j1,j2⟩:=t.three;obtain⟨l0,l1,l2⟩:=u.three;have jz:=iY j0;have lz:=iY l0;clear h t u a;go_upto_region 6 with(fail);go_quiet (fail);clear j0 j1 j2 l0 l1 l2 jz lz m n o i p q r j;go_wp2_with fail;exact⟨⟨b+1,Zm,by go_num,s.o.drewN _⟩,by simp[intOf];omega⟩
  . obtain rfl:b=x.fields.length:=Zm
    clear a;go_wp2_with fail;go_loopw [6] (fun d wr=>∃b:Nat,b<=x.methods.length/\d=.int .i64 b/\Ext k wr) (fun d _=>x.methods.length - (intOf d).toNat)
    case atStart=>exact⟨0,R4 _,rfl,s⟩
    case round=>
     obtain⟨b,hk,rfl,a⟩:=hrel;have s:=Zy a;clear m n o i p q r j;obtain⟨-,m,n,o,i,-⟩:=(R.ext a).ca;obtain⟨-,p,q,r,j,-⟩:=(S.ext a).ca;by_cases L:b<x.methods.length
     . obtain⟨d,h⟩:=get_some L;obtain⟨d1,o1,_,B,-,D,-,t⟩:=(H3.ext jd.stays a).get h;obtain⟨d2,o2,_,C,-,E,-,u⟩:=(K3.ext jd.stays a).get h;obtain⟨u1,u2,u3,u4,u5,u6,rfl⟩:=jd.form D;obtain⟨v1,v2,v3,v4,v5,v6,rfl⟩:=jd.form E;subst B C;go_upto_region 11 with(fail);obtain⟨aj,ah,ak,g⟩:=kY wr;have r6:=fun c=>(g.jm c).jb i;have r7:=fun c=>(g.jm c).jb j;have e:=fun N Q K c=>(g.jm c).jb (t N Q K);have f:=fun N Q K c=>(g.jm c).jb (u N Q K);have x0:=e 0 _ rfl;have x1:=e 1 _ rfl;have x2:=e 2 _ rfl;have x3:=e 3 _ rfl;have x4:=e 4 _ rfl;have x5:=e 5 _ rfl;have x6:=e 6 _ rfl;have x7:=e 7 _ rfl;have y0:=f 0 _ rfl;have y1:=f 1 _ rfl;have y2:=f 2 _ rfl;have y3:=f 3 _ rfl;have y4:=f 4 _ rfl;have y5:=f 5 _ rfl;have y6:=f 6 _ rfl;have y7:=f 7 _ rfl;simp only[Sb]at x0 y0;have⟨HL,y⟩:=je (fun c=>KI (ah c) I J d (jd.stays _ _ _ _ _ _ (Ext.same (g.jm c)) (fun _ F=>F) D) (jd.stays _ _ _ _ _ _ (Ext.same (g.jm c)) (fun _ F=>F) E)) g;clear g h t u a D E e f;refine Bl y ?_ ?_;rotate_left;(repeat (go_big_quiet_step ((go_at_call 90;(refine(HL _).mono ?_;rintro aa w6 ⟨rfl,ai⟩;exact⟨rfl,y.o.o _ ((y.jm _).trans ai)⟩)))));refine Sw ?_;(rintro _ ⟨sW,rfl⟩);rotate_left
       . exact jf
       have af:=Zy (y.jm sW);clear x0 x1 x2 x3 x4 x5 x6 x7 y0 y1 y2 y3 y4 y5 y6 y7 r6 r7 m n o i p q r j;go_wp2_with fail;exact⟨⟨b+1,Zm,by go_num,s.o.trans af.o⟩,by simp[intOf];omega⟩
     . obtain rfl:b=x.methods.length:=Zm
       clear a;go_wp2_with fail;go_ret;exact⟨rfl,ae.trans s⟩
theorem OB (w : World) {I J: Nat -> Prop} {va vb: Value} (p : hZ) (S : SliceOf 2 jc w I va p) (T : SliceOf 2 jc w J vb p) :Calls prog 10 #[.agg #[va],.agg #[vb]] w fun ai w'=>ai=.returned (.bool true)/\Ext w w':=by
 obtain⟨a1,a2,rfl,-,n1⟩:=S.form;obtain⟨b1,b2,rfl,-,-⟩:=T.form;obtain⟨t,A⟩:=Ry ((w.alloc (.cells #[.slice a1 p.length a2] 25)).alloc (.cells #[.slice b1 p.length b2] 25));have F:Ext w t:=by rw[A];exact kx
 have K:hV t w 25 #[.slice a1 p.length a2]:=by rw[A];exact(hV.new _ _ _).ext kx
 have L:hV t (w+1) 25 #[.slice b1 p.length b2]:=by rw[A];exact hV.newAt _ _ Zl
 obtain⟨-,s0,-⟩:=K.ca;obtain⟨-,t0,-⟩:=L.ca;have⟨HA,HB,au,aj,ak,ay⟩:=nZ (S.ext jc.stays F) (T.ext jc.stays F) F K L A;clear A F K L S T;go_enter func10,ntmps10;go_upto_region 1 with(fail);rw[<-ay.o];go_wp2_with fail;go_loopw [5] (fun c wr=>∃s:Nat,s<=p.length/\c=.int .i64 s/\Ext t wr) (fun c _=>p.length - (intOf c).toNat)
 case atStart=>exact⟨0,R4 _,rfl,Kp.rr⟩
 case round=>
  obtain⟨s,hk,rfl,a⟩:=hrel;have HE:=Zy a;clear s0 t0;obtain⟨sz,s0,-⟩:=(aj.ext a).ca;obtain⟨tz,t0,-⟩:=(ak.ext a).ca;by_cases z:s<p.length
  . obtain⟨b,V⟩:=get_some z;obtain⟨d1,o1,_,x,-,⟨u1,u2,rfl,m,n⟩,-,k⟩:=(HA.ext jc.stays a).get V;obtain⟨d2,o2,_,y,-,⟨v1,v2,rfl,P,Q⟩,-,l⟩:=(HB.ext jc.stays a).get V;obtain⟨q1,m1,rfl,-,aF⟩:=m.form;obtain⟨q2,m2,rfl,-,aG⟩:=n.form;obtain⟨q3,m3,rfl,-,-⟩:=P.form;obtain⟨q4,m4,rfl,-,-⟩:=Q.form;subst x y;obtain⟨C,X⟩:=k.two;obtain⟨D,Z⟩:=l.two;have Y:=iY C;have lz:=iY D;obtain⟨q,B⟩:=Ry ((wr.alloc (.cells #[.slice q1 b.owns.length m1,.slice q2 b.asks.length m2] 90)).alloc (.cells #[.slice q3 b.owns.length m3,.slice q4 b.asks.length m4] 90));have r:Ext wr q:=by rw[B];exact kx
    have N:hV q wr 90 #[.slice q1 b.owns.length m1,.slice q2 b.asks.length m2]:=by rw[B];exact(hV.new _ _ _).ext kx
    have O:hV q (wr+1) 90 #[.slice q3 b.owns.length m3,.slice q4 b.asks.length m4]:=by rw[B];exact hV.newAt _ _ Zl
    have⟨ag,ah,az,av,G1,G2,G3,G4⟩:=xJ N O B (a.trans r) (m.ext jv.stays r) (n.ext rW.stays r) (P.ext jv.stays r) (Q.ext rW.stays r);obtain⟨-,e,h,-⟩:=N.ca;obtain⟨-,f,i,-⟩:=O.ca;have HP:=Zy (RJ e (RJ h (RJ f i)));clear V k l a N O B r m n P Q e h f i;go_upto_region 8 with(fail);rw[<-az.o];clear s0 t0 sz tz C X D Z Y lz;obtain⟨e,h,f,i⟩:=HP.o;have G:=iY e;have H:=iY f;go_wp2_with fail;obtain⟨wo,rfl⟩:∃wo:World,wo=wr:=⟨_,rfl⟩;go_loopw [8] (fun c wr=>∃d:Nat,d<=b.owns.length/\c=.int .i64 d/\Ext q wr) (fun c _=>b.owns.length - (intOf c).toNat)
    case atStart=>exact⟨0,R4 _,rfl,Kp.rr⟩
    case round=>
     obtain⟨d,hn,rfl,a⟩:=hrel;have ae:=Zy a;clear e h f i G H;obtain⟨G,e,h,-⟩:=(ag.ext a).ca;obtain⟨H,f,i,-⟩:=(ah.ext a).ca;by_cases z:d<b.owns.length
     . obtain⟨c,o⟩:=get_some z;obtain⟨d3,o3,_,x,-,m,-,k⟩:=(G1.ext jv.stays a).get o;obtain⟨d4,o4,_,y,-,n,-,l⟩:=(G3.ext jv.stays a).get o;obtain⟨u1,u2,u3,u4,rfl⟩:=jv.form m;obtain⟨v1,v2,v3,v4,rfl⟩:=jv.form n;subst x y;go_upto_region 13 with(fail);obtain⟨aC,aA,aD,j⟩:=kY wr;have y0:=fun g=>(j.jm g).jb e;have y1:=fun g=>(j.jm g).jb f;have u:=fun W aa U g=>(j.jm g).jb (k W aa U);have v:=fun W aa U g=>(j.jm g).jb (l W aa U);have x0:=u 0 _ rfl;have x1:=u 1 _ rfl;have x2:=u 2 _ rfl;have x3:=u 3 _ rfl;have x4:=v 0 _ rfl;have x5:=v 1 _ rfl;have x6:=v 2 _ rfl;have x7:=v 3 _ rfl;simp only[Sb]at x0 x4;have⟨HL,E⟩:=je (fun g=>M3 (aA g) I J c (jv.stays _ _ _ _ _ _ (Ext.same (j.jm g)) (fun _ R=>R) m) (jv.stays _ _ _ _ _ _ (Ext.same (j.jm g)) (fun _ R=>R) n)) j;clear j o k l a m n u v;refine Bl E ?_ ?_;rotate_left;(repeat (go_big_quiet_step ((go_at_call 33;(refine(HL _).mono ?_;rintro ai w6 ⟨rfl,aB⟩;exact⟨rfl,E.o.o _ ((E.jm _).trans aB)⟩)))));refine Sw ?_;(rintro _ ⟨sW,rfl⟩);rotate_left
       . exact jf
       have ax:=Zy (E.jm sW);clear x0 x1 x2 x3 x4 x5 x6 x7 y0 y1 e h f i;go_wp2_with fail;exact⟨⟨d+1,Zm,by go_num,ae.o.trans ax.o⟩,by simp[intOf];omega⟩
     . obtain rfl:d=b.owns.length:=Zm
       clear a;go_wp2_with fail;go_loopw [9] (fun c wr=>∃d:Nat,d<=b.asks.length/\c=.int .i64 d/\Ext q wr) (fun c _=>b.asks.length - (intOf c).toNat)
       case atStart=>exact⟨0,R4 _,rfl,ae⟩
       case round=>
        obtain⟨d,hn,rfl,a⟩:=hrel;have af:=Zy a;clear e h f i G H;obtain⟨G,e,h,-⟩:=(ag.ext a).ca;obtain⟨H,f,i,-⟩:=(ah.ext a).ca;by_cases z:d<b.asks.length
        . obtain⟨c,o⟩:=get_some z;obtain⟨d3,o3,_,x,-,rfl,-,k⟩:=(G2.ext rW.stays a).get o;obtain⟨d4,o4,_,y,-,rfl,-,l⟩:=(G4.ext rW.stays a).get o;subst x y;obtain⟨C,X⟩:=k.two;obtain⟨D,Z⟩:=l.two;have Y:=iY C;have lz:=iY D;clear o k l a;go_upto_region 18 with(fail);go_quiet (fail);clear C X D Z Y lz e h f i;go_wp2_with fail;exact⟨⟨d+1,Zm,by go_num,af.o.drewN _⟩,by simp[intOf];omega⟩
        . obtain rfl:d=b.asks.length:=Zm
          clear a;go_wp2_with fail;exact⟨⟨s+1,Zm,by go_num,av.o.trans af.o⟩,by simp[intOf];omega⟩
  . obtain rfl:s=p.length:=Zm
    clear a;go_wp2_with fail;go_ret;exact⟨rfl,au.trans HE⟩
end Go.Proofs.YtlhlnddgfcmfkaaGreat
