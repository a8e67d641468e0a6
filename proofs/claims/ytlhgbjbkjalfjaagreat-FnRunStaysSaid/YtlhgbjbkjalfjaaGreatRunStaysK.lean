/- FnRunStays: for every input the program returns true, and the input reads as it did. No condition. -/
import Derived.Test.YtlhgbjbkjalfjaaGreatTwCoreLq
import Derived.Test.YtlhgbjbkjalfjaaGreatRows
import Derived.ProofKit
import Derived.Carry
set_option maxRecDepth 100000
set_option maxHeartbeats 4000000
set_option linter.all false
namespace Go.Proofs.YtlhgbjbkjalfjaaGreat
open Go Go.RowKit M
variable {a p: List MemPlace}{b g: Type}{v: Value}{W: World}
theorem DT(w:World):Calls Tryz.prog 7 #[] w fun b d=>b=.returned (.bool true)/\d=w:=by
 have c:jJ ⟨#[97]⟩=true:=by decide+kernel
 have a:=Zy (mf ⟨#[97]⟩ w);rw[c]at a;go_enter Tryz.func7,Tryz.ntmps7;go_wp2_with fail;refine a.mono ?_;rintro b e ⟨rfl,rfl⟩;go_wp2;go_ret;exact⟨rfl,rfl⟩
open Go Go.ChangeShapes Go.WideShapes Go.ChangeAt Go.RowKit M
theorem Tryz.own:ownKnob Tryz.prog.godebug=none:=by kernel_rfl
theorem Tryz.laidOut:laidOutB Tryz.prog=true:=by kernel_rfl
theorem zL:Tryz.prog.cellsOf 5=1:=by kernel_rfl
theorem bytes_at{enc:TypeId×Value->g}{d:DataW g}(l:∃b e c,v=.slice b e c)(h0:DataW.Trod enc Tryz.prog W 0 (fun _=>true) true 22 v d p):∃f,BytesAt W v f:=by
 obtain⟨s,e,c,rfl⟩:=l;obtain⟨u,i⟩:=h0;rcases open_ints Tryz.underlying22 Tryz.underlying5 zL i with⟨a,n⟩|⟨b,y,t,f,a,_,w,x,o,n,h,m⟩
 . simp[Value.cells]at a;obtain⟨rfl,rfl,rfl⟩:=a;exact⟨[],.inl ⟨rfl,rfl⟩⟩
 . simp[Value.cells]at a;obtain⟨rfl,rfl,rfl⟩:=a;simp only[U2]at o;refine⟨f.take e,.inr ⟨b,c,by rw[Tj,U5 Zm],by rw[Tj];omega,fun q j=>?_,fun r k=>?_⟩⟩
   . rw[Tj]at j;have:=h q Zm;rw[this];congr 2;simp only[List.getD,Uu];rw[Tv Zm]
   . have:=m r (Uv k);simp[Lit.wf,IntKind.min,IntKind.max,IntKind.bits,IntKind.signed]at this;omega
theorem DF{enc:TypeId×Value->b}{fn:Func}{s:ChangeSpec}{f: World}{d:DataW b}(l:fn.params=#[22])(m:fn.resultTypes=#[4])(n:s.vars=[])
    (c:s.fn b ([d]++[])={results:=[.lit (.bool true)],args:=[d]}) (h:DataW.Whole enc Tryz.prog fn.params.toList s.vars false W [v] [d] [] a)
    (h0:DataW.Trod enc Tryz.prog W 0 (fun _=>true) true 22 v d a) (j:Ext W f):s.post enc Tryz.prog fn false true false false W #[v] (.bool true) f:=by
 have k:∀e∈a,e.block<W:=fun e o=>by simpa using h.lt e o
 have g:=Ext.Jd j;refine⟨[d],[],a,[],a,[],h,?_,?_,?_,g.frame _,fun i=>by cases i⟩
 . rw[c,m];exact trodAll_mk1 (shut_bool Tryz.underlying4 true)
 . rw[c,l];exact trodAll_mk1 (Below.trod Tryz.laidOut Zo (Uo Zo) h0 g k)
 . rw[c,n];exact(rfl:([]:List MemPlace)=[])
end Go.Proofs.YtlhgbjbkjalfjaaGreat
namespace Go.Proofs.YtlhgbjbkjalfjaaGreat
open Go Go.RowKit M
variable {cs: List Value}{I: Nat->Prop}{x y z: RW}{w: World}
theorem lh.inside(a:lh w I x cs):lh w (fun b=>I b/\b<w) x cs:=by
 obtain⟨j,i,k,c,d,e,f,g,h⟩:=a;exact⟨j,i,k,c,d,e.inside (fun _ _ _ _ a=>ja.inside a) Zn,f.inside (fun _ _ _ _ a=>a) Zn,g.inside (fun _ _ _ _ a=>a) Zn,h.Aw⟩
theorem lh.form(m:lh w I x cs):∃g a h b i c j d k e l f,cs=[.slice g x.p.length a,.slice h x.b.jI.length b,.slice i x.b.jq.length c,.int .i64 x.s.status,.slice j x.s.frames.length d,.slice k x.s.heap.length e,.slice l x.s.outs.length f,.int .i64 x.s.back.kind,.int .i64 x.s.back.n]:=by
 obtain⟨t,s,u,r,rfl,n,o,p,q⟩:=m;obtain⟨_,_,_,_,_,_,rfl,-⟩:=q.form;obtain⟨_,_,rfl,-⟩:=n.form;obtain⟨_,_,rfl,-⟩:=o.form;obtain⟨_,_,rfl,-⟩:=p.form;exact⟨_,_,_,_,_,_,_,_,_,_,_,_,rfl⟩
theorem lh.parts{a b c d e f g h i:Value}(k:lh w I x [a,b,c,d,e,f,g,h,i]):SliceOf 2 ja w I a x.p/\SliceOf 4 nG w I b x.b.jI/\SliceOf 3 lq w I c x.b.jq/\kg w I x.s [d,e,f,g,h,i]:=by
 obtain⟨r,q,s,p,j,l,m,n,o⟩:=k;cases j;exact⟨l,m,n,o⟩
structure M.Hp(y z:RW):Prop where
 ok:wD z
 le:y.b.le z.b
 st:stays y.p z.p y.b
theorem M.Hp.turn(a:z.b=y.b)(b:stays y.p z.p y.b)(c:wD z):Hp y z:=⟨c,by rw[a];exact Book.le.refl _,b⟩
theorem M.Hp.step(b:wD y)(a:z.p=y.p)(c:wD z)(hl:y.b.le z.b):Hp y z:=⟨c,hl,by rw[a];exact stays.refl b.book⟩
theorem PD(w:World)(I J:Nat->Prop){K L u1 u2:Value}(b:Book)(q:SliceOf 4 nG w I K b.jI)(r:SliceOf 3 lq w I L b.jq)(t:SliceOf 4 nG w J u1 b.jI)(u:SliceOf 3 lq w J u2 b.jq):Calls Tryz.prog 30 #[.agg #[K,L],.agg #[u1,u2]] w fun W w'=>W=.returned (.bool true)/\Ext w w':=by
 obtain⟨z,D,rfl,-,ag⟩:=q.form;obtain⟨A,E,rfl,-,ah⟩:=r.form;obtain⟨B,F,rfl,-,-⟩:=t.form;obtain⟨C,G,rfl,-,-⟩:=u.form;obtain⟨f,j⟩:=SS ((w.alloc (.cells #[.slice z b.jI.length D,.slice A b.jq.length E] 33)).alloc (.cells #[.slice B b.jI.length F,.slice C b.jq.length G] 33));have g:Ext w f:=by rw[j];exact kx
 have o:hZ f w 33 #[.slice z b.jI.length D,.slice A b.jq.length E]:=by rw[j];exact(hZ.new _ _ _).ext kx
 have p:hZ f (w+1) 33 #[.slice B b.jI.length F,.slice C b.jq.length G]:=by rw[j];exact hZ.new' _ _ Zl
 obtain⟨m,k,l,-⟩:=o.ca;obtain⟨n,q0,q1,-⟩:=p.ca;have⟨T,v,x,O,P,Q,R,S⟩:=wL j o p g (q.ext nG.stays g) (r.ext lq.stays g) (t.ext nG.stays g) (u.ext lq.stays g);clear j g o p q r t u;go_enter Tryz.func30,Tryz.ntmps30;go_upto_region 1 with(fail);rw[<-T.o];go_wp2_with fail;clear m k l n q0 q1;go_loopw [5] (fun e wr=>∃c:Nat,c<=b.jI.length/\e=.int .i64 c/\Ext f wr) (fun e _=>b.jI.length - (intOf e).toNat)
 case atStart=>exact⟨0,SV _,rfl,Kp.rr⟩
 case round=>
  obtain⟨c,Z,rfl,a⟩:=hrel;obtain⟨m,k,l,-⟩:=(v.ext a).ca;obtain⟨n,q0,q1,-⟩:=(x.ext a).ca;by_cases s:c<b.jI.length
  . obtain⟨af,d⟩:=get_some s;obtain⟨X,aa,U,rfl,-,rfl,-,h⟩:=(P.ext nG.stays a).get d;obtain⟨Y,ae,V,rfl,-,rfl,-,i⟩:=(R.ext nG.stays a).get d;obtain⟨j0,j1,j2,j3⟩:=h.four;obtain⟨s0,s1,s2,s3⟩:=i.four;clear h i d;go_wp2_with (first|(go_region_with (fail))|fail)
    all_goals exact⟨⟨c+1,Zm,by go_num,Zx⟩,by simp[intOf];omega⟩
  . obtain rfl:c=b.jI.length:=Zm
    have y:=Zy a;obtain⟨N,H⟩:∃N,N=wr:=⟨_,rfl⟩;rw[<-H]at y k l q0 q1 m n |-;clear a H;go_wp2_with fail;clear k l q0 q1 m n;go_loopw [6] (fun e wr=>∃c:Nat,c<=b.jq.length/\e=.int .i64 c/\Ext f wr) (fun e _=>b.jq.length - (intOf e).toNat)
    case atStart=>exact⟨0,SV _,rfl,y⟩
    case round=>
     obtain⟨c,Z,rfl,a⟩:=hrel;obtain⟨m,k,l,-⟩:=(v.ext a).ca;obtain⟨n,q0,q1,-⟩:=(x.ext a).ca;by_cases s:c<b.jq.length
     . obtain⟨af,d⟩:=get_some s;obtain⟨X,aa,U,rfl,-,rfl,-,h⟩:=(Q.ext lq.stays a).get d;obtain⟨Y,ae,V,rfl,-,rfl,-,i⟩:=(S.ext lq.stays a).get d;obtain⟨j0,j1,j2⟩:=h.three;obtain⟨s0,s1,s2⟩:=i.three;clear h i d;go_wp2_with (first|(go_region_with (fail))|fail)
       all_goals exact⟨⟨c+1,Zm,by go_num,Zx⟩,by simp[intOf];omega⟩
     . go_wp2;go_ret;exact⟨rfl,O.trans a⟩
theorem LB(w:World){I J:Nat->Prop}{L N u1 u2:Value}(z b:Book)(S:b.le z)(n:SliceOf 4 nG w I L z.jI)(p:SliceOf 3 lq w I N z.jq)(r:SliceOf 4 nG w J u1 b.jI)(s:SliceOf 3 lq w J u2 b.jq):Calls Tryz.prog 10 #[.agg #[L,N],.agg #[u1,u2]] w fun C X=>C=.returned (.bool true)/\Ext w X:=by
 obtain⟨u,j,rfl,aa,af⟩:=n.form;obtain⟨v,k,rfl,ae,ag⟩:=p.form;obtain⟨x,A,rfl,-,-⟩:=r.form;obtain⟨y,B,rfl,-,-⟩:=s.form;obtain⟨⟨r1,l⟩,r2,m⟩:=S;have T:b.jI.length<=z.jI.length:=by rw[l,TP];omega
 have U:b.jq.length<=z.jq.length:=by rw[m,TP];omega
 have H:z.jI.take b.jI.length=b.jI:=by rw[l,List.take_left'];rfl
 have K:z.jq.take b.jq.length=b.jq:=by rw[m,List.take_left'];rfl
 have o:=n.take T;have q:=p.take U;rw[H]at o;rw[K]at q;obtain⟨a,f⟩:=SS ((w.alloc (.cells #[.slice u z.jI.length j,.slice v z.jq.length k] 33)).alloc (.cells #[.slice x b.jI.length A,.slice y b.jq.length B] 33));have c:Ext w a:=by rw[f];exact kx
 have D:hZ a w 33 #[.slice u z.jI.length j,.slice v z.jq.length k]:=by rw[f];exact(hZ.new _ _ _).ext kx
 have E:hZ a (w+1) 33 #[.slice x b.jI.length A,.slice y b.jq.length B]:=by rw[f];exact hZ.new' _ _ Zl
 obtain⟨Z,Y,ah,g⟩:=ll a;obtain⟨-,V,W,-⟩:=hZ.lC fun z=>D.ext (g.jv z);obtain⟨-,q0,q1,-⟩:=hZ.lC fun z=>E.ext (g.jv z);have h:=Zy g;have d:Ext a a.drew:=jg;have P:=Zy (PD a.drew I J b (o.ext nG.stays (c.trans d)) (q.ext lq.stays (c.trans d)) (r.ext nG.stays (c.trans d)) (s.ext lq.stays (c.trans d)));have ai:(b.jI.length:Int)<=z.jI.length:=Zm
 have aj:(b.jq.length:Int)<=z.jq.length:=Zm
 have n3:(b.jI.length:Int)<=j:=Zm
 have n4:(b.jq.length:Int)<=k:=Zm
 have⟨Q,O⟩:=jf f c;clear f c l m n p r s o q H K D E g d;go_enter Tryz.func10,Tryz.ntmps10;go_upto_region 1 with(fail);rw[<-Q.o];refine jW h 33 [([0,1,2,3,4,5,6,7,8,9,10,11,12,13,14,15,16,17,18,19,20,21,22,23,24,25,26,27,28,29,30],31)] [32] ?_ ?_
 . exact jg
 refine uJ [_,_,_,_,_,_,_,_,_,_,_,_,_,_,_,_,_,_,_,_,_,_,_,_,_,_,_,_,_,_,_] rfl rfl fun i e=>?_;(repeat (go_big_quiet_step (fail)));refine qn e fun R G=>?_;clear e i;go_wp2_with fail;refine P.mono ?_;rintro C w5 ⟨rfl,F⟩;have t:=Zy (((Kp.refl _ a).drew:Ext a _).trans F);clear F;go_wp2_with fail;refine kk h G t ?_;clear G R;clear h V W q0 q1;refine r9 [_] rfl fun i e=>?_;(repeat (go_big_quiet_step (fail)));refine qn e ?_;clear e i;go_wp2;go_ret;exact⟨rfl,O.trans t⟩
theorem Gw:Qh 3:=by
 intro v cu zs c;by_cases hl:zs.length<=1048576;rotate_left
 . obtain⟨va,vc,rfl⟩:=c.form;have bS:(1048576:Int)<zs.length:=Zm
   clear c hl;go_enter Tryz.func3,Tryz.ntmps3;go_wp2;go_ret;exact⟨rfl,Kp.rr⟩
 have HD:=Zy (A7 v cu zs c);obtain⟨va,vc,rfl⟩:=c.form;have bS:((1048576:Int)<zs.length)=False:=VB Zm;clear c hl;go_enter Tryz.func3,Tryz.ntmps3;go_wp2_with fail;refine HD.mono ?_;rintro f w1 ⟨⟨pl,pa,pc,bZ,bY,bH,bJ,bI,bL,bK,w,rfl,hp,ha,aP,V⟩,aM⟩;obtain⟨w2,aT,x,b2⟩:=nu w1 #[.slice pa pl.length pc] 25;obtain⟨-,e0,-⟩:=b2.ca;have⟨bA,bE,af,bq,bg,cK⟩:=nE (KP w2 (fun b=>v<=b/\b<w1) (fun b c=>Tx c.2 x.size) pl (hp.ext ja.stays x) bZ bY bI bH bJ ((ha.inside (fun _ _ _ _ d=>d) Zn).ext oW.stays x)) aT (aM.trans x) ((V.inside (fun _ _ _ _ d=>EvL.inside d) Zn).ext EvL.stays x) x aP;clear aT aM x b2 hp ha HD V aP;go_upto_region 4 with(fail);rw[<-bE.o];go_wp2_with fail;refine bA.mono ?_;rintro f w3 ⟨⟨h,cs,rfl,hx,aR⟩,ay⟩;have bX:=hx.form;obtain⟨f0,c0,f1,c1,f2,c2,f3,c3,f4,c4,f5,c5,rfl⟩:=bX;obtain⟨w4,aU,az,b4⟩:=nu w3 #[.slice f0 h.p.length c0,.slice f1 h.b.jI.length c1,.slice f2 h.b.jq.length c2,h.s.status,.slice f3 h.s.frames.length c3,.slice f4 h.s.heap.length c4,.slice f5 h.s.outs.length c5,h.s.back.kind,h.s.back.n] 41;obtain⟨-,-,-,-,q,-⟩:=b4.ca;have⟨HX,bz,bF,aH,ag,ai⟩:=nE (lh.stays _ _ _ _ _ _ (Ext.same az) (fun _ d=>d) (lh.inside hx)) aR aU b4 (ay.trans az) (Tn ay.size b4.lt);clear hx aR aU b4 ay az e0;go_upto_region 5 with(fail);rw[<-bF.o];by_cases W:h.s.status=0
 . have bV:=Uq.2 W;clear W;go_wp2_with fail;refine(DT _).mono ?_;rintro f k ⟨rfl,rfl⟩;go_wp2;go_ret;exact⟨rfl,af.trans ag⟩
 have bV:((h.s.status:Int)==0)=false:=by simpa using W
 have hv:=bz.resolve_left W;have HV:=Zy hv;clear hv W;obtain⟨g,aL⟩:∃g,g=w3.heap.size:=⟨_,rfl⟩;rw[<-aL]at aH HX ai q |-;have aX:=bg.size;have u:Zz (w1.heap.size<=g/\g<w4.heap.size/\v.heap.size<=g):=Zy ⟨TL aX ai.1,ai.2,SY af.size ai.1⟩;clear aL aX;go_wp2_with fail;clear q;go_loopw [9] (fun aG wr=>∃(p:Nat) (e:RW) (cy:List Value),p<=w.length/\aG=.int .i64 p/\Kp (·=g) w4 wr/\hZ wr g 41 cy.toArray/\lh wr (fun b=>b≠g/\b<wr) e cy/\wD e) (fun aG _=>w.length - (intOf aG).toNat)
 case atStart=>exact⟨0,h,_,SV _,rfl,Kp.rr,aH,lh.stays _ _ _ _ _ _ (fun _ _ _ _ d=>d) (fun b c=>⟨SX c.2,SY c.2 u.o⟩) HX.o,HV.o.2⟩
 case round=>
  obtain⟨p,e,cy,hk,rfl,l,c,hR,aW⟩:=hrel;obtain⟨g0,d0,g1,d1,g2,d2,g3,d3,g4,d4,g5,d5,rfl⟩:=lh.form hR;by_cases aQ:p<w.length;rotate_left
  . have bT:¬(p:Int)<(w.length:Int):=Zm
    clear aQ;have S:=((af.trans ag).own l fun b f=>SX u.o);have av:=Zy S;clear S;go_wp2_with fail;refine(DT _).mono ?_;rintro f k ⟨rfl,rfl⟩;go_wp2;go_ret;exact⟨rfl,av⟩
  have bT:(p:Int)<(w.length:Int):=Zm
  by_cases dh:(p:Int)<60;rotate_left
  . have S:=((af.trans ag).own l fun b f=>SX u.o);have av:=Zy S;clear S;go_wp2_with fail;refine(DT _).mono ?_;rintro f k ⟨rfl,rfl⟩;go_wp2;go_ret;exact⟨rfl,av⟩
  obtain⟨ev,V⟩:=get_some aQ;have bN:Kp (fun b=>b=g) w4 wr:=l;have aS:SliceOf 8 EvL wr (fun b=>v<=b/\b<w1) (.slice bL w.length bK) w:=(bq.ext EvL.stays ag).keep EvL.stays (Kp.same l fun b c f=>SX u.o) fun _ d=>d;obtain⟨gb,dn,ce,rfl,di,aD,-,aC⟩:=aS.get V;have bQ:=aD;obtain⟨a1,m1,a2,m2,rfl,-⟩:=bQ;obtain⟨o,D,E,F,G,H,I,J⟩:=aC.eight;have jz:=jc o;obtain⟨sz,q,s1,s2,s3,s4,s5,s6,s7,s8,-⟩:=c.ca;obtain⟨k,aV,B,b5⟩:=nu wr #[.slice g0 e.p.length d0,.slice g1 e.b.jI.length d1,.slice g2 e.b.jq.length d2,e.s.status,.slice g3 e.s.frames.length d3,.slice g4 e.s.heap.length d4,.slice g5 e.s.outs.length d5,e.s.back.kind,e.s.back.n] 41;have⟨bG,HK,HB,z,HR,bn,aJ,O,A⟩:=sV aV l (c.ext B) b5 (lh.stays _ _ _ _ _ _ (Ext.same B) (fun _ d=>d) hR) (EvL.stays _ _ _ _ _ _ (Ext.same B) (fun _ d=>d) aD) (aC.ext B) aW B;have t:Zz (gb≠wr/\g<wr.heap.size/\(w4:Nat)<=wr):=Zy ⟨SY u.o l.size,SY u.o l.size,l.size⟩;clear l bN c hR aW V aS aD aC aV b5 B;go_upto_region 11 with(fail);rw[<-bG.o];clear o D E F G H I J q s1 s2 s3 s4 s5 s6 s7 s8 jz sz;obtain⟨o,D,E,F,G,H,I,J⟩:=aJ.eight;have jz:=jc o;by_cases ak:ev.kind=0;rotate_left;focus
   have bR:(ev.kind !=0)=true:=TI.2 ak
   clear ak
   go_upto_region 12 with(fail)
   clear o D E F G H I J jz
   obtain⟨cZ,df,dm,HT⟩:=qC.ex (fun W'=>Kp (·=wr) k W') _ Kp.rr
   obtain⟨-,q,s1,s2,s3,s4,s5,s6,s7,s8,-⟩:=hZ.lC fun a=>HB.kp (HT.jv a) fun f=>SX t.o
   have n:=fun a=>(aJ.kp (HT.jv a) t.1).eight
   have o:=fun a=>(n a).1
   have D:=fun a=>(n a).2.1
   have E:=fun a=>(n a).2.2.1
   have F:=fun a=>(n a).2.2.2.1
   have G:=fun a=>(n a).2.2.2.2.1
   have H:=fun a=>(n a).2.2.2.2.2.1
   have I:=fun a=>(n a).2.2.2.2.2.2.1
   have J:=fun a=>(n a).2.2.2.2.2.2.2
   have ah:=Zy HT
   clear HT n
   refine jW ah 11 [([0,1,2,3,4,5],6),([7,8,9],10)] [] ?_ ?_
   . exact jg
   refine lJ ?_;intro K2 T
   go_wp2_with fail
   have hD:Ext k k.drew:=jg
   refine(I1 k.drew (fun b=>b≠g/\b<wr) (fun b c=>by have:=A.size;have:=c.2;simp;omega) e (lh.stays _ _ _ _ _ _ (Ext.same hD) (fun _ d=>d) HR.o) O.o ev (EvL.stays _ _ _ _ _ _ (Ext.same hD) (fun b c=>S9 u.o t.o c.2) bn.o)).mono ?_
   rintro f w6 ⟨⟨a,cz,tb,rfl,au,Y,aa,Z,y⟩,C⟩
   obtain⟨p0,q0,p1,q1,p2,q2,p3,q3,p4,q4,p5,q5,rfl⟩:=lh.form y
   have aA:=hD.trans C
   have m:=z.ext aA
   obtain⟨k0,k1,k2,k3,k4,k5,k6,k7,k8,-⟩:=m.fz
   obtain⟨kz,i0,i1,i2,i3,i4,i5,i6,i7,i8,-⟩:=m.ca
   have⟨K,P⟩:=jf m (lh.inside y)
   have r:=Zy aA
   have N:Zz (Hp e a):=Zy (Hp.turn Y aa Z)
   have cO:=Zy au
   clear Y aa Z y m C aA hD au
   go_wp2_with fail
   refine kk ah T r.any ?_;clear T K2
   refine lJ ?_;intro K2 T
   go_wp2_with fail
   obtain⟨i,X,U,j⟩:=OJ K (.slice p0 a.p.length q0) (.slice p1 a.b.jI.length q1) (.slice p2 a.b.jq.length q2) (.int .i64 a.s.status) (.slice p3 a.s.frames.length q3) (.slice p4 a.s.heap.length q4) (.slice p5 a.s.outs.length q5) (.int .i64 a.s.back.kind) (.int .i64 a.s.back.n)
   rw[<-X]
   refine kk ah T (r.any.trans j) ?_;clear T K2
   clear ah q s1 s2 s3 s4 s5 s6 s7 s8 o D E F G H I J k0 k1 k2 k3 k4 k5 k6 k7 k8 kz i0 i1 i2 i3 i4 i5 i6 i7 i8 X
   refine tH rfl ?_
   have ax:Zz (lh i (fun b=>b≠wr/\b≠g/\b<i) a _):=Zy (lh.stays _ _ _ _ _ _ (Kp.same j fun b c f=>by
    have:=z.lt;rcases c.1 with d|d
    . have:=d.2;omega
    . simp at d;omega) (fun b c=>by
    have h5:=z.lt;have h6:=c.2;have h7:=j.size;have h8:=t.o;rcases c.1 with d|d
    . exact⟨SX d.2,d.1,Zm⟩
    . simp at d;exact⟨Zm,Zm,Zm⟩) P.o)
   have s:Zz (Kp (·=wr) k i):=Zy (r.any.trans j)
   have ae:=Zy U
   clear U j K P r
   go_upto_region 14 with(fail)
  rotate_left;focus
   have bR:(ev.kind !=0)=false:=by rw[ak];rfl
   clear ak
   obtain⟨sz,q,s1,s2,s3,s4,s5,s6,s7,s8,-⟩:=HB.ca
   have bB:=Zy (IZ k (fun b=>b≠g/\b<wr) (fun b c=>Tx c.2 A.size) e (lh.stays _ _ _ _ _ _ (fun _ _ _ _ d=>d) (fun _ d=>d) HR) O)
   go_wp2_with fail
   refine bB.mono ?_
   rintro f w6 ⟨⟨a,cz,rfl,aa,au,⟨Z,Y⟩,y⟩,C⟩
   obtain⟨p0,q0,p1,q1,p2,q2,p3,q3,p4,q4,p5,q5,rfl⟩:=lh.form y
   have m:=z.ext C
   obtain⟨k0,k1,k2,k3,k4,k5,k6,k7,k8,-⟩:=m.fz
   obtain⟨kz,i0,i1,i2,i3,i4,i5,i6,i7,i8,-⟩:=m.ca
   have⟨K,P,r⟩:=jB m (lh.inside y) C
   have N:Zz (Hp e a):=Zy (Hp.step O aa Z Y)
   clear Y aa Z y m C au q s1 s2 s3 s4 s5 s6 s7 s8 sz o D E F G H I J jz
   go_upto_region 14 with(fail)
   obtain⟨i,X,U,j⟩:=OJ K (.slice p0 a.p.length q0) (.slice p1 a.b.jI.length q1) (.slice p2 a.b.jq.length q2) (.int .i64 a.s.status) (.slice p3 a.s.frames.length q3) (.slice p4 a.s.heap.length q4) (.slice p5 a.s.outs.length q5) (.int .i64 a.s.back.kind) (.int .i64 a.s.back.n)
   rw[<-X]
   have ax:Zz (lh i (fun b=>b≠wr/\b≠g/\b<i) a _):=Zy (lh.stays _ _ _ _ _ _ (Kp.same j fun b c f=>by
    have:=z.lt;rcases c.1 with d|d
    . have:=d.2;omega
    . omega) (fun b c=>by
    have h5:=z.lt;have h6:=c.2;have h7:=j.size;have h8:=t.o;rcases c.1 with d|d
    . exact⟨SX d.2,d.1,Zm⟩
    . exact⟨Zm,Zm,Zm⟩) P.o)
   have s:Zz (Kp (·=wr) k i):=Zy (r.any.trans j)
   have ae:=Zy U
   clear k0 k1 k2 k3 k4 k5 k6 k7 k8 kz i0 i1 i2 i3 i4 i5 i6 i7 i8 X U j K P r
  all_goals
   have aB:=HB.kp s fun f=>SX t.o
   have aO:lh i (fun b=>b≠g/\b<wr) e _:=lh.stays _ _ _ _ _ _ (Kp.same s fun b c f=>SX c.2) (fun _ d=>d) HR.o;have⟨aI,bC⟩:=jf aB aO;obtain⟨yz,y0,y1,y2,y3,y4,y5,y6,y7,y8,-⟩:=aB.ca;obtain⟨zz,u0,u1,u2,u3,u4,u5,u6,u7,u8,-⟩:=ae.ca;clear aB aO;obtain⟨yp,ye,yq,-⟩:=bC.parts;obtain⟨zp,ze,zq,-⟩:=ax.parts;have bu:=Zy (LB i a.b e.b N.le ze zq ye yq);have aK:=fun v (Q:Ext i v)=>FD v (fun b=>b<i) (fun b c=>Tx c Q.size) e.p ((yp.ext ja.stays Q).keep ja.stays (fun _ _ _ _ d=>d) fun b c=>S9 A.size s.size c.2) O.o.kr a.p ((zp.ext ja.stays Q).keep ja.stays (fun _ _ _ _ d=>d) fun b c=>c.2.2) N.o.ok.kr e.b
    ((ye.ext nG.stays Q).keep nG.stays (fun _ _ _ _ d=>d) fun b c=>S9 A.size s.size c.2) ((yq.ext lq.stays Q).keep lq.stays (fun _ _ _ _ d=>d) fun b c=>S9 A.o.size s.size c.2) O.o.book
   have aZ:=Zy aK;clear yp ye yq zp ze zq aK;go_wp2_with fail;refine bu.mono ?_;rintro f cB ⟨rfl,R⟩;have⟨bD,bf⟩:=jf (aZ cB R) R;clear yz y0 y1 y2 y3 y4 y5 y6 y7 y8 zz u0 u1 u2 u3 u4 u5 u6 u7 u8;obtain⟨yz,y0,y1,y2,y3,y4,y5,y6,y7,y8,-⟩:=(aI.ext R).ca;obtain⟨zz,u0,u1,u2,u3,u4,u5,u6,u7,u8,-⟩:=(ae.ext R).ca;clear R;go_wp2_with fail;refine bD.mono ?_;rintro f dw ⟨bP,aN⟩;rcases bP with⟨rfl,-⟩|⟨-,bU⟩;rotate_left
   . exact absurd N.o.st bU
   have L:=Zy (bf.trans aN);clear yz y0 y1 y2 y3 y4 y5 y6 y7 y8 zz u0 u1 u2 u3 u4 u5 u6 u7 u8 aN;have aj:=aI.ext L;obtain⟨x0,x1,x2,x3,x4,x5,x6,x7,x8,-⟩:=aj.fz;obtain⟨yz,y0,y1,y2,y3,y4,y5,y6,y7,y8,-⟩:=aj.ca;obtain⟨zz,u0,u1,u2,u3,u4,u5,u6,u7,u8,-⟩:=(ae.ext L).ca;have aY:=Zy aj;clear aj;go_wp2_with fail;obtain⟨dx,bW,bO,aF⟩:=OJ aY (.slice p0 a.p.length q0) (.slice p1 a.b.jI.length q1) (.slice p2 a.b.jq.length q2) (.int .i64 a.s.status) (.slice p3 a.s.frames.length q3) (.slice p4 a.s.heap.length q4) (.slice p5 a.s.outs.length q5) (.int .i64 a.s.back.kind) (.int .i64 a.s.back.n);rw[<-bW];have bM:=((A.any.trans s).trans L.any);refine⟨⟨p+1,a,[_,_,_,_,_,_,_,_,_],Zm,by go_num,?_,bO,lh.stays _ _ _ _ _ _ (Kp.same aF fun b c f=>c.2.1 f) (fun b c=>⟨c.2.1,S9 L.o.size aF.size c.2.2⟩) (lh.stays _ _ _ _ _ _ (Ext.same L.o) (fun _ d=>d) ax.o),N.o.ok⟩,by simp[intOf];omega⟩;exact(HK.Ri bM fun b f=>.inr (SX t.o)).trans aF
open Go Go.ChangeShapes Go.WideShapes Go.ChangeAt Go.RowKit M
theorem Au(i:Os)(v:i.Started)(m:Type)(enc:TypeId×Value->m):ReturnsInHanded {} Tryz.checked i 3 .any (Rows.fnRunStaysSpec.pre6 enc Tryz.prog Tryz.f3 Rows.fnRunStaysRow.domain false) (Rows.fnRunStaysSpec.post enc Tryz.prog Tryz.f3 false true false false):=by
 refine returnsInHanded_of_change (C:=Tryz.checked) Tryz.own v Zo Tryz.func3
  (ChangeSpec.witness6 (enc:=enc) (C:=Tryz.checked) false ⟨#[],#[()],[]⟩ 8 Zo Zo Zo Zo) ?_
 intro a n b o B y t e C _;have g:∀(h:Nat) j k,Tryz.f3.params[h]?=some j->b[h]?=some k->Value.okWide Tryz.prog a .any n j k:=t;have f:=e;obtain⟨u,F,p,q,rfl,D,E⟩:=e;have d:DataW.TrodAll enc Tryz.prog a 0 (fun _=>true) true Tryz.f3.params.toList b.toList o u:=p;rw[Tryz.params3]at d g;obtain⟨l,z,rfl,rfl,c⟩:=trodAll_one d;obtain⟨rfl,rfl⟩:=trodVars_none q;simp only[List.append_nil]at f;obtain⟨w,r⟩:=bytes_at (okWide_slice Tryz.underlying22 (g 0 22 l rfl rfl)) c;refine(Gw a l w r).mono fun A x ⟨s,hE⟩=>?_;subst s;exact⟨_,rfl,DF (fn:=Tryz.f3) Tryz.params3 rfl rfl rfl f c hE⟩
theorem EZ:Tryz.prog.inPlace 3=Rows.fnRunStaysRow.inPlace:=by kernel_rfl
theorem zA:Tryz.prog.unfollowed 3=true:=by kernel_rfl
theorem E5:Tryz.prog.varsNamed 3=Rows.fnRunStaysRow.named:=by kernel_rfl
theorem E8:Tryz.prog.recurses 3=true:=by unfold Program.recurses;rw[zA];rfl
theorem E9:joinedFacts Tryz.prog 3 Tryz.f3 Rows.fnRunStaysSpec Rows.fnRunStaysRow=true:=by
 unfold joinedFacts;rw[EZ,zA,E5,E8];kernel_rfl
theorem fnRunStays_holds:Rows.FnRunStaysSaid:=
 OpenClaim.holds_of_wide 3 Tryz.f3 rfl rfl rfl rfl rfl rfl rfl ⟨rfl,rfl,rfl,rfl,rfl⟩ rfl rfl rfl rfl rfl Zo Tryz.func3 E9
  (Uo Zo) (by unfold Func.isWrapper;rw[Tt (by decide+kernel)];exact⟨rfl,rfl⟩)
  (fun c d a b _=>Au c d a b)
#print axioms fnRunStays_holds
end Go.Proofs.YtlhgbjbkjalfjaaGreat
