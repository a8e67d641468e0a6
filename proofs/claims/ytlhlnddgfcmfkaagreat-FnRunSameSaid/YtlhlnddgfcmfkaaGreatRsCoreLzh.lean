/- Walks. -/
import Derived.Test.YtlhlnddgfcmfkaaGreatRsCoreH
import Derived.Test.YtlhlnddgfcmfkaaGreatRsCoreLze
set_option maxRecDepth 100000
set_option maxHeartbeats 4000000
set_option linter.all false
namespace Go.Proofs.YtlhlnddgfcmfkaaGreat
open Go Go.RowKit Tryz M
namespace M
end M
theorem Oy(w:World){I J:Nat->Prop}{x y:Value}(a b:List Int)(u:SliceOf 1 oQ w I x a)(v:SliceOf 1 oQ w J y b):Calls prog 27 #[x,y] w fun f C=>f=.returned (.bool (decide (a=b)))/\Ext w C:=by
 obtain⟨F,L,rfl,-,T⟩:=u.form;obtain⟨G,M,rfl,-,U⟩:=v.form;by_cases g:a.length=b.length;rotate_left
 . have z:((a.length:Int) !=b.length)=true:=RS.2 Zm;have e:Zz (decide (a=b)=false):=Zy (R7 fun f=>g (by rw[f]));clear g;go_enter func27,ntmps27;go_wp2_with fail;go_ret;exact⟨hQ e.symm,kx⟩
 have z:((a.length:Int) !=b.length)=false:=by simp[g]
 have q:=Zy g;clear g;go_enter func27,ntmps27;go_wp2_with fail;go_loopw [5] (fun p wr=>∃c:Nat,c<=a.length/\p=.int .i64 c/\Ext w wr/\Zz (a.take c=b.take c)) (fun p _=>a.length - (intOf p).toNat)
 case atStart=>exact⟨0,R4 _,rfl,Kp.rr,Zy Zl⟩
 case round =>
  obtain⟨c,V,rfl,d,r⟩:=hrel;by_cases A:c<a.length
  . have B:c<b.length:=Z0 q.o
    obtain⟨D,n⟩:=nW a c A;obtain⟨E,o⟩:=nW b c B;obtain⟨H,Y,N,rfl,-,rfl,-,l⟩:=(u.ext oQ.stays d).get n;obtain⟨K,Z,O,rfl,-,rfl,-,m⟩:=(v.ext oQ.stays d).get o;rw[SC]at l m;have Q:=fun k=>((Kp.refl _ wr).drewN k:Ext wr _).jb l.one;have R:=fun k=>((Kp.refl _ wr).drewN k:Ext wr _).jb m.one;have⟨s,t,h⟩:=jy n o d;have W:(c:Int)<a.length:=Zm
    have X:(c:Int)<b.length:=Zm
    clear n o l m d;by_cases j:D=E
    . subst j;go_wp2_with fail;go_quiet (fail);go_wp2_with fail;refine⟨⟨c+1,Zm,by go_num,h.o.trans kx,Zy ?_⟩,by simp[intOf];omega⟩;rw[RL,RL,r.o,s.o,t.o]
    . have P:=RS.2 j;have e:Zz (decide (a=b)=false):=Zy (R7 fun f=>j (by
       have i:=s.o;rw[f,t.o]at i;cases i;rfl))
      clear j;go_wp2_with fail;go_quiet (fail);go_wp2_with fail;go_ret;exact⟨hQ e.symm,h.trans kx⟩
  . have e:Zz (decide (a=b)=true):=Zy (R6 (by
     have i:=r.o;have S:=q.o;rwa[SY Zm,SY Zm]at i))
    have h:=Zy d;clear d;go_wp2_with fail;go_ret;exact⟨hQ e.symm,h⟩
theorem Qh(w:World){I J:Nat->Prop}(s:St){ca cb:List Value}(ha:jQ w I s ca)(hb:jQ w J s cb):Calls prog 8 #[.agg ca.toArray,.agg cb.toArray] w fun C w'=>C=.returned (.bool true)/\Ext w w':=by
 obtain⟨a1,c1,a2,c2,a3,c3,rfl,ah,ai,aB⟩:=ha.form;obtain⟨b1,d1,b2,d2,b3,d3,rfl,aC,aD,aF⟩:=hb.form;obtain⟨_,_,-,-,bu⟩:=ah.form;obtain⟨_,_,-,-,bz⟩:=ai.form;obtain⟨i,F⟩:=Ry ((w.alloc (.cells #[s.status,.slice a1 s.frames.length c1,.slice a2 s.heap.length c2,.slice a3 s.outs.length c3,s.back.kind,s.back.n] 39)).alloc (.cells #[s.status,.slice b1 s.frames.length d1,.slice b2 s.heap.length d2,.slice b3 s.outs.length d3,s.back.kind,s.back.n] 39));have k:Ext w i:=by rw[F];exact Zx
 have e2:hV i w 39 #[s.status,.slice a1 s.frames.length c1,.slice a2 s.heap.length c2,.slice a3 s.outs.length c3,s.back.kind,s.back.n]:=by rw[F];exact(hV.new _ _ _).ext (jr _)
 have e3:hV i (w+1) 39 #[s.status,.slice b1 s.frames.length d1,.slice b2 s.heap.length d2,.slice b3 s.outs.length d3,s.back.kind,s.back.n]:=by rw[F];exact hV.newAt _ _ Zl
 have⟨aI,aJ,aK,aL⟩:=jV (ah.ext Ci.stays k) (ai.ext xh.stays k) (aC.ext Ci.stays k) (aD.ext xh.stays k);have aS:=Zy fun B l=>by
  have:=Oy B s.outs s.outs ((aB.ext oQ.stays k).ext oQ.stays l) ((aF.ext oQ.stays k).ext oQ.stays l);rwa[R6 rfl]at this
 have⟨aM,u,af,aV⟩:=jV k e2 e3 F;obtain⟨j,p0,t,S,p3,p4,p5,-⟩:=(e2).ca;obtain⟨T,q0,q1,q2,q3,q4,q5,-⟩:=(e3).ca;clear ha hb ah ai aB aC aD aF k e2 e3 F;go_enter func8,ntmps8;go_upto_region 1 with(fail);rw[<-aV.o];go_wp2_with fail;refine(aS i Kp.rr).mono ?_;rintro C w1 ⟨rfl,aa⟩;have aN:=Zy aa;clear p0 q0 t q1 S q2 p3 q3 p4 q4 p5 q5 j T;obtain⟨j,p0,t,S,p3,p4,p5,-⟩:=(u.ext aa).ca;obtain⟨T,q0,q1,q2,q3,q4,q5,-⟩:=(af.ext aa).ca;clear aa;go_wp2_with fail;go_loopw [5] (fun p wr=>∃b:Nat,b<=s.frames.length/\p=.int .i64 b/\Ext i wr) (fun p _=>s.frames.length - (intOf p).toNat)
 case atStart=>exact⟨0,R4 _,rfl,aN⟩
 case round=>
  obtain⟨b,hk,rfl,c⟩:=hrel;have av:=Zy c;clear p0 q0 t q1 S q2 p3 q3 p4 q4 p5 q5 j T;by_cases E:b<s.frames.length
  . have Y:(b:Int)<s.frames.length:=Zm
    have bg:(0:Int)<=b:=Zm
    obtain⟨a,m⟩:∃a,s.frames[b]?=some a:=⟨s.frames[b]'E,Rz E⟩;obtain⟨W,Z,aY,rfl,-,⟨v1,v2,rfl,n,aj⟩,-,e⟩:=aI.get m;obtain⟨U,V,rfl,-,-⟩:=n.form;obtain⟨y1,y2,rfl,-,-⟩:=aj.form;obtain⟨X,fb,aZ,rfl,-,⟨v3,v4,rfl,o,ak⟩,-,f⟩:=aK.get m;obtain⟨u1,u2,rfl,-,-⟩:=o.form;obtain⟨z1,z2,rfl,-,-⟩:=ak.form;obtain⟨j,-,t,-⟩:=(u.ext c).ca;obtain⟨T,-,q1,-⟩:=(af.ext c).ca;have q:wr.cell? (W,Z+b*6)=some (.int .i64 a.of.of.keeper):=c.jb (by simpa using e 0 (.int .i64 a.of.of.keeper) rfl);have r:wr.cell? (X,fb+b*6)=some (.int .i64 a.of.of.keeper):=c.jb (by simpa using f 0 (.int .i64 a.of.of.keeper) rfl);have v:=c.jb (e 1 (.string a.of.of.name) rfl);have x:=c.jb (e 2 (.int .i64 a.of.at_) rfl);have H:=c.jb (e 3 (.int .i64 a.pc) rfl);have K:=c.jb (e 4 (.slice U a.locals.length V) rfl);have L:=c.jb (e 5 (.slice y1 a.stack.length y2) rfl);have y:=c.jb (f 1 (.string a.of.of.name) rfl);have z:=c.jb (f 2 (.int .i64 a.of.at_) rfl);have O:=c.jb (f 3 (.int .i64 a.pc) rfl);have P:=c.jb (f 4 (.slice u1 a.locals.length u2) rfl);have Q:=c.jb (f 5 (.slice z1 a.stack.length z2) rfl);have N:=iY q;have R:=iY r;obtain⟨A,G⟩:=Ry ((wr.alloc (.cells #[.int .i64 a.of.of.keeper,.string a.of.of.name,.int .i64 a.of.at_,.int .i64 a.pc,.slice U a.locals.length V,.slice y1 a.stack.length y2] 68)).alloc (.cells #[.int .i64 a.of.of.keeper,.string a.of.of.name,.int .i64 a.of.at_,.int .i64 a.pc,.slice u1 a.locals.length u2,.slice z1 a.stack.length z2] 68));have ag:Ext wr A:=by rw[G];exact Zx
    have k4:hV A wr 68 #[.int .i64 a.of.of.keeper,.string a.of.of.name,.int .i64 a.of.at_,.int .i64 a.pc,.slice U a.locals.length V,.slice y1 a.stack.length y2]:=by rw[G];exact(hV.new _ _ _).ext (jr _)
    have k5:hV A (wr+1) 68 #[.int .i64 a.of.of.keeper,.string a.of.of.name,.int .i64 a.of.at_,.int .i64 a.pc,.slice u1 a.locals.length u2,.slice z1 a.stack.length z2]:=by rw[G];exact hV.newAt _ _ Zl
    have D:=c.trans ag;have aQ:=Zy fun B l=>FX B a.locals ((n.ext mP.stays D).ext mP.stays l) ((o.ext mP.stays D).ext mP.stays l);have aR:=Zy fun B l=>FX B a.stack ((aj.ext mP.stays D).ext mP.stays l) ((ak.ext mP.stays D).ext mP.stays l);have⟨aO,aW,K4,K5⟩:=jV ag G k4 k5;clear ag D G k4 k5 n aj o ak e f m c;go_upto_region 8 with(fail);rw[<-aW.o];clear q r v y x z H O K P L Q N R t q1 j T;obtain⟨N,q,v,x,H,K,L,-⟩:=(K4).ca;obtain⟨R,r,y,z,O,P,Q,-⟩:=(K5).ca;go_wp2_with fail;refine(aQ A Kp.rr).mono ?_;rintro C w5 ⟨rfl,ae⟩;have au:=Zy ae;clear q r v y x z H O K P L Q N R;obtain⟨N,q,v,x,H,K,L,-⟩:=(K4.ext ae).ca;obtain⟨R,r,y,z,O,P,Q,-⟩:=(K5.ext ae).ca;clear ae;go_wp2_with fail;refine(aR w5 au).mono ?_;rintro C w6 ⟨rfl,az⟩;have aP:=Zy (av.trans ((aO.trans au).trans az));clear q r v y x z H O K P L Q N R az;go_wp2_with fail;go_round
    case rel=>exact⟨b+1,Zm,by go_num,aP.o⟩
    case measure=>simp[intOf];omega
  . have Y:¬(b:Int)<s.frames.length:=Zm
    obtain⟨j,-,t,-⟩:=(u.ext c).ca;clear c;go_wp2_with fail;obtain⟨wo,rfl⟩:∃wo:World,wo=wr:=⟨_,rfl⟩;obtain⟨k8,rfl⟩:∃k8:Nat,k8=b:=⟨_,rfl⟩;go_loopw [8] (fun p wr=>∃b:Nat,b<=s.heap.length/\p=.int .i64 b/\Ext i wr) (fun p _=>s.heap.length - (intOf p).toNat)
    case atStart=>exact⟨0,R4 _,rfl,av⟩
    case round=>
     obtain⟨b,hk,rfl,c⟩:=hrel;have g:=Zy c;clear t j Y;by_cases E:b<s.heap.length
     . have Y:(b:Int)<s.heap.length:=Zm
       have bg:(0:Int)<=b:=Zm
       obtain⟨a,m⟩:∃a,s.heap[b]?=some a:=⟨s.heap[b]'E,Rz E⟩;obtain⟨W,Z,aY,rfl,-,⟨v1,rfl,n⟩,-,e⟩:=aJ.get m;obtain⟨U,V,rfl,-,-⟩:=n.form;obtain⟨X,fb,aZ,rfl,-,⟨v3,rfl,o⟩,-,f⟩:=aL.get m;obtain⟨u1,u2,rfl,-,-⟩:=o.form;obtain⟨j,-,-,S,-⟩:=(u.ext c).ca;have aG:i.cell? (W,Z+b*3)=some (.int .i64 a.of.keeper):=by simpa using e 0 (.int .i64 a.of.keeper) rfl
       have aH:i.cell? (X,fb+b*3)=some (.int .i64 a.of.keeper):=by simpa using f 0 (.int .i64 a.of.keeper) rfl
       obtain⟨bn,bq,bA,h⟩:=kY wr;have P2:=fun d=>(u.ext (g.trans (h.jm d))).c 2 (.slice (some ⟨W,Z,none⟩) s.heap.length c2) rfl;have Q2:=fun d=>(af.ext (g.trans (h.jm d))).c 2 (.slice (some ⟨X,fb,none⟩) s.heap.length d2) rfl;have q:=fun d=>(g.trans (h.jm d)).jb aG;have r:=fun d=>(g.trans (h.jm d)).jb aH;have v:=fun d=>(g.trans (h.jm d)).jb (e 1 (.string a.of.name) rfl);have y:=fun d=>(g.trans (h.jm d)).jb (f 1 (.string a.of.name) rfl);have x:=fun d=>(g.trans (h.jm d)).jb (e 2 (.slice U a.fields.length V) rfl);have z:=fun d=>(g.trans (h.jm d)).jb (f 2 (.slice u1 a.fields.length u2) rfl);have⟨aT,aU,ax⟩:=jy n o h;clear h e f n o m c aG aH;go_upto_region 13 with(fail);refine kD ax 29 [([0,1,2,3,4,5,6,7,8,9,10,11,12,13,14,15,16,17,18,19,20,21,22,23,24,25],26)] [27,28] ?_ ?_
       . exact jf
       refine uF [_,_,_,_,_,_,_,_,_,_,_,_,_,_,_,_,_,_,_,_,_,_,_,_,_,_] rfl rfl fun aX hK=>?_;(repeat (go_big_quiet_step (fail)));refine qn hK fun K2 aA=>?_;clear hK aX;go_wp2_with fail;have ay:=g.trans jf;refine(FX wr.drew a.fields (aT.ext mP.stays ay) (aU.ext mP.stays ay)).mono ?_;rintro C w7 ⟨rfl,bf⟩;have e7:=(jf:Ext wr wr.drew).trans bf;go_wp2_with fail;refine kk ax aA e7 ?_;clear aA K2;refine sK ?_;go_wp2_with fail;go_round
       case rel=>exact⟨b+1,Zm,by go_num,g.o.trans e7⟩
       case measure=>simp[intOf];omega
     . have Y:¬(b:Int)<s.heap.length:=Zm
       obtain⟨j,-,-,S,-⟩:=(u.ext c).ca;clear c;go_wp2_with fail;go_ret;exact⟨rfl,aM.trans g⟩
end Go.Proofs.YtlhlnddgfcmfkaaGreat
