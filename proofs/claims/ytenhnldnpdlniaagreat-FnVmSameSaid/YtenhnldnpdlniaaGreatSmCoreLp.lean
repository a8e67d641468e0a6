/- Walks. -/
import Derived.Test.YtenhnldnpdlniaaGreatSmCoreLo
import Derived.Test.YtenhnldnpdlniaaGreatSmCoreLe
set_option maxRecDepth 100000
set_option maxHeartbeats 4000000
set_option linter.all false
namespace Go.Proofs.YtenhnldnpdlniaaGreat
open Go Go.RowKit Tryz M
attribute [local go_sem] Oper.semAt_some
def R6(p:jl)(of:Ref)(xs:List Ref)(w2:World)(fb:Nat)(pre:List (Int×Ref))(W:World):Prop:=
 ∃n:Nat,n<=pre.length*3/\jq W fb 3 #[.int .i64 n]/\Kp (·=fb) w2 W/\∀rest,xs.reverse=pre.map Prod.snd++rest->qh p of xs.reverse 0=qh p of rest n
def SA(p:jl)(of:Ref)(xs:List Ref)(w2:World)(fb:Nat)(c:Code)(_:List (Int×Ref))(W:World):Prop:=
 c=.exit 0/\∃n:Nat,jq W fb 3 #[.int .i64 n]/\Kp (·=fb) w2 W/\qh p of xs.reverse 0=n
theorem BN{w:World}{l:jB}{p:jl}(m:jD w l p)(b c:Ref):Calls prog 148 #[some l.L,.agg #[b.keeper,b.name],.agg #[c.keeper,c.name]] w fun s w'=>s=.returned (nW p b c)/\Ext w w':=by
 have aZ:=m.FR;have bf:=m.lt;have hO:=m.ord;obtain⟨u,t⟩:=S9 ((((w.alloc (.cells #[some l.L] 58)).alloc (.cells #[b.keeper,b.name] 64)).alloc (.cells #[c.keeper,c.name] 64)).alloc (.cells #[Tj] 3));have Y:Ext w u:=by rw[t];exact kx
 have af:=Zy (m.ext Y);have b2:jq u w 58 #[some l.L]:=by rw[t];exact(jq.new w _ _).ext kx
 have b3:jq u (w+1) 64 #[b.keeper,b.name]:=by
  rw[t];have:=(jq.new (w.alloc (.cells #[some l.L] 58)) 64 #[b.keeper,b.name]);simp only[Tp]at this;exact this.ext kx
 have b4:jq u (w.heap.size+1+1) 64 #[c.keeper,c.name]:=by
  rw[t];have:=(jq.new ((w.alloc (.cells #[some l.L] 58)).alloc (.cells #[b.keeper,b.name] 64)) 64 #[c.keeper,c.name]);simp only[Tp]at this;exact this.ext kx
 have b5:jq u (w.heap.size+1+1+1) 3 #[Tj]:=by
  rw[t];have:=(jq.new (((w.alloc (.cells #[some l.L] 58)).alloc (.cells #[b.keeper,b.name] 64)).alloc (.cells #[c.keeper,c.name] 64)) 3 #[Tj]);simpa only[Tp]using this
 have bE:u.heap.size=w+4:=by rw[t];simp
 have⟨aM,aT⟩:=jw Y t;clear m Y;refine(Ut (n:=10)).1 ?_;refine callsIn_of_wp_marks func148 rfl trivial ?_ rfl;simp only[ntmps148,UE,TL,U8,Nat.reduceAdd,Nat.reduceSub,Un,Um,UR,Uf,TZ,TR];clear t;gi_wp2_with fail;rw[<-aT.o];refine⟨trivial,?_⟩;refine(Ut.2 (sH af c)).mono ?_;rintro s f ⟨⟨aF,rfl,hs⟩,A⟩;obtain⟨v,x,rfl,hn,bq⟩:=hs.form;gi_wp2_with fail;refine⟨trivial,?_⟩;refine(Ut.2 (Au)).mono ?_;rintro s w3 ⟨rfl,rfl⟩;gi_wp2_with fail;have bF:=A.size;have K:=b5.ext A;have⟨aQ,ag,B2⟩:=jI (af.ext A) (aM.trans A) (Tm (b2.ext A) (b3.ext A));clear b2 b3 b4 b5 A;generalize bn:w.heap.size+1+1+1=fb at*;have bg:fb<f:=Zm
 have⟨HS,aR⟩:=jw hs (wJ p c);have aS:Zz (∀a∈chain p c,∃j,cls? p a=some j):=Zy fun a hx=>M.mr hx;have HV:Zz (nW p b c=qh p b (chain p c).reverse 0):=Zy rfl;clear hs;generalize chain p c=xs at*;refine ER (gf:=178) (lb:=#[some f]) (α:=Int×Ref) rfl (enters_of func178 Zo rfl) (encs:=Gm) (fun a=>rfl)
  (Bb:=fun o=>o=fb)
  (zS xs f (.slice v xs.length x) (fun V=>fb+1<=V/\V<f) _ ?hBd) ?hIt ?hD1 ?hD2 ?hB1 ?hB2
  (R6 p b xs f fb) (SA p b xs f fb) ?hI ?hIx ?h0 ?hIB
  (fun B a d U S=>R6 p b xs f fb B d/\(∃P,backTo xs xs.length=B++a::P)/\
   f.heap.size+2<(d:Nat)/\S=d.alloc (.cells #[.int .i64 a.2.keeper,.string a.2.name] 64)/\
   U={tmps:=#[some l.L,.agg #[b.keeper,b.name],.agg #[c.keeper,c.name],some w,.pointer (some ⟨w+1,0,none⟩),.pointer (some ⟨w.heap.size+1+1,0,none⟩),Tj,some fb,undef,.pointer (some ⟨d,0,none⟩),
    some l.L,.agg #[c.keeper,c.name],.slice v xs.length x,.func (.func 178) #[] #[some f],
    .int .i64 a.1,.agg #[.int .i64 a.2.keeper,.string a.2.name],undef,undef,undef,undef,undef,undef,undef,undef,undef,undef,undef],defers:=[]}) ?hassign ?hAx ?hbody ?hdone ?hstop
 case hBd=>
  intro o e;have aV:(o=fb)\/o=(f.alloc (.cells #[.slice v xs.length x] 80)).heap.size+1:=e;simp only[Tp]at aV;omega
 case hIt=>
  intro d hW;refine⟨(jq.new _ _ _).ext hW,?_⟩;refine(CV HS).keep qN.stays (Ext.same (((Kp.refl _ f).alloc _:Ext f _).trans hW)) (fun V hb=>?_);have:=hb.1;exact⟨Zm,hb.2⟩
 case hD1=>exact fun m=>m
 case hD2=>exact fun m=>m
 case hB1=>simp only[Tp];omega
 case hB2=>simp only[Tp];omega
 case hI=>
  rintro C aG aH ⟨n,y,h,i,g⟩ e;simp only[Tp]at e;exact⟨n,y,h.kp e Zr,i.own e (fun o e=>by simp at e;omega),g⟩
 case hIx=>
  rintro j C aG aH ⟨y,n,h,i,g⟩ e;simp only[Tp]at e;exact⟨y,n,h.kp e Zr,i.own e (fun o e=>by simp at e;omega),g⟩
 case h0=>exact⟨0,Zl,K.ext kx,(kx:Ext f _).any,fun P m=>by simp at m;rw[m]⟩
 case hIB=>exact fun _ _ _=>trivial
 case hassign=>
  intro B a d I aB hi aA r;simp only[Gm];simp only[Tp]at aA;gi_wp2
 case hAx=>
  rintro B a d U S ⟨_,_,_,rfl,_⟩;exact((Kp.refl _ d).alloc _)
 case hbody=>
  rintro B a d U S T ⟨⟨n,y,h,i,g⟩,aB,aA,rfl,rfl⟩ G O;simp only[Tp]at G O;obtain⟨P,aC⟩:=aB;have D:xs.reverse=B.map Prod.snd++a.2::P.map Prod.snd:=by
   have:=congrArg (List.map Prod.snd) aC;rw[qO _ _ (Tu _),TA]at this;simpa using this
  have aW:a.2∈xs:=by
   have q:a.2∈xs.reverse:=by rw[D];simp
   simpa using q
  have bB:n<=18:=by
   have k:=congrArg List.length D;simp at k;have:=aR.o;omega
  have az:=g _ D;obtain⟨j,N⟩:=aS.o _ aW;have F:=(i.alloc _).own G (fun o e=>Zm);have Z:=aQ.kp F (fun o e s=>Zm);obtain⟨cs,ax,av⟩:=vP l p Z a.2.keeper a.2.name j N;obtain⟨a1,c1,a2,c2,rfl⟩:=ax.form;have bA:∀d,(Instr.field 38 (.agg #[.string j.name,.string j.jE,.slice a1 j.fields.length c1,.slice a2 j.methods.length c2]) 2).run prog d=.ok (.slice a1 j.fields.length c1) d:=(fun d=>by kernel_rfl);have W:=(jq.new d 64 #[.int .i64 a.2.keeper,.string a.2.name]).kp G Zm;obtain⟨-,u0,u1,-⟩:=W.ca;obtain⟨-,t2,t3,-⟩:=(B2.2.kp F Zm).ca;have X:=(h.ext ((Kp.refl _ d).alloc _)).kp G Zm;have⟨H,aK,ah⟩:=jI (Tm X F) av (vB Z.ok N);have ay:cls p a.2=j:=by unfold cls;rw[N];rfl
  have⟨aL,aP,aO⟩:=jI ay az g;have aN:=Zy y;obtain⟨aX,aY,bC,E⟩:=lL T;have r2:=fun C=>((B2.1.kp F Zm).ext (E.jC C)).c 0 (some l.L) rfl;have r5:=fun C=>(X.ext (E.jC C)).c 0 n rfl;obtain⟨-,r7,r8,-⟩:=jq.pq fun C=>(W.ext (E.jC C));have aj:=Zy E;clear y h i g W X F av Z N G O K E ay az D aC ax;have aU:((b.keeper=a.2.keeper/\b.name=a.2.name)/\a.2=b)\/(((b.keeper=a.2.keeper/\(a.2.name.toList==b.name.toList)=false)\/(a.2.keeper==b.keeper)=false)/\¬a.2=b):=by
   rcases zH a.2.keeper b.keeper a.2.name b.name with⟨k,q⟩|⟨k,q,z⟩|⟨k,q⟩
   . exact .inl ⟨⟨k.symm,q.symm⟩,Ref.oU.2 ⟨k,q⟩⟩
   . exact .inr ⟨.inl ⟨k.symm,q⟩,fun s=>z (by rw[s])⟩
   . exact .inr ⟨.inr k,fun s=>q (by rw[s])⟩
  rcases aU with⟨⟨k,q⟩,z⟩|⟨k,z⟩
  . have Q:=Zy z;clear z;gi_wp2_with fail;refine⟨Kp.rr,rfl,n,H.1,H.2,?_⟩;rw[aP.o];unfold qh;rw[Ty Q.o]
  . have Q:=Zy z;clear z;have bD:(n:Int)<=18:=Zm
    have bu:(j.fields.length:Int)<=3:=Te ah.o
    rcases k with⟨k,q⟩|k
    all_goals
     gi_wp2_with fail;refine PI aj 7 [([0,1,2],3)] [4,5,6] ?_ (fun _=>trivial) ?_
     . exact jA
     refine OQ [_,_,_] rfl rfl fun I r=>?_;(repeat (go_big_quiet_step (fail)));refine qn r fun K2 au=>?_;clear r I;gi_wp2_with fail;refine⟨trivial,?_⟩;refine(CallsIn.inRound _ (Ut.2 (aK _ (jA)))).mono ?_;rintro s w4 ⟨rfl,ak⟩;have L:=((Kp.refl _ T).drew:Ext T _).trans ak;have J:=H.1.ext L;obtain⟨z0,d0,-⟩:=J.ca;have f0:=J.frozen 0;have aJ:=Zy J;have ai:=Zy L;clear J ak;gi_wp2_with fail;refine kk aj au L ?_;clear au K2;clear L;refine Q5 [_,_,_] rfl fun I r=>?_;(repeat (go_big_quiet_step (fail)));refine qn r ?_;clear r I;gi_wp2_with fail;have aD:=fun aI hD aF=>(Kp.refl aI w4).setCell (p:=⟨fb,0,none⟩) (fun _=>hD) aF;have bz:=ah.o;refine⟨ai.any.trans (aD (·=fb) rfl _),n+j.fields.length,by have:=aN.o;simp;omega,?_,(H.o.2.trans ai.o.any).trans (aD (·=fb) rfl _),fun ae hr=>?_⟩
     . have:=aJ.jR 0 (.int .i64 ((n:Int)+j.fields.length));simpa using this
     . rw[aO.o (a.2::ae) (by rw[hr];simp)];rw[show qh p b (a.2::ae) n=if a.2=b then n else qh p b ae (n+(cls p a.2).fields.length)from rfl,T9 Q.o,aL.o]
 case hdone=>
  rintro ys d rfl ⟨n,y,h,i,g⟩ r;have k0:=h.c 0 _ rfl;have R:=Zy (Tm h (Tm i g));clear h i g K;simp only[Exit.inBlock,Exit.then];gi_wp2;obtain⟨h,i,g⟩:=R.o;refine⟨Zl,.inl ⟨_,_,rfl,run_takeDeferred r,?_⟩⟩;have aa:=Kp.putObj d (f.alloc (.cells #[.slice v xs.length x] 80)).heap.size (.deferred none);have O:(f.alloc (.cells #[.slice v xs.length x] 80)).heap.size=f+1:=by simp
  refine⟨n,by simp[results,Tryz.f148,go_sem],?_,?_⟩
  . have D:(backTo xs xs.length).map Prod.snd=xs.reverse:=by rw[qO _ _ (Tu _),TA]
    rw[HV.o,g [] (by rw[D];simp)];rfl
  . exact((ag.own i (fun o e=>Zm))).own aa (fun o e=>Zm)
 case hstop=>
  rintro j B d hS ⟨rfl,n,h,i,g⟩ r;have k0:=h.c 0 _ rfl;have R:=Zy (Tm h (Tm i g));clear h i g K;gi_wp2;obtain⟨h,i,g⟩:=R.o;refine⟨Zl,.inl ⟨_,_,rfl,run_takeDeferred r,?_⟩⟩;have aa:=Kp.putObj d (f.alloc (.cells #[.slice v xs.length x] 80)).heap.size (.deferred none);have O:(f.alloc (.cells #[.slice v xs.length x] 80)).heap.size=f+1:=by simp
  refine⟨n,by simp[results,Tryz.f148,go_sem],?_,?_⟩
  . rw[HV.o,g]
  . exact((ag.own i (fun o e=>Zm))).own aa (fun o e=>Zm)
end Go.Proofs.YtenhnldnpdlniaaGreat
namespace Go.Proofs.YtenhnldnpdlniaaGreat
open Go Go.RowKit Tryz M
variable {A Q k v x: Int}{xs: List Value}{m: M.Method}{B N b base c e g n o q u z: Nat}{D: Nat->Prop}{α: Type}{t: TypeId}{f r u0 u1 u2 vl vs: Value}{W w: World}{l: jB}{p: jl}{s: lU}
theorem nV(l:List α)(k:Nat)(a:k<l.length):∃b,l[k]?=some b:=⟨l[k],CU a⟩
def LK:Array Value:=#[.int .i64 0,.string ⟨#[]⟩,.int .i64 0,.int .i64 0,.string ⟨#[]⟩]
theorem DJ.kp{f: World}{b:Value}{c:Int}(d:DJ w b c)(j:Kp D w f)(i:∀a,b=.iface 166 (.pointer (some ⟨a,0,none⟩))->¬D a):DJ f b c:=by
 rcases d with d|⟨g,a,e,h⟩
 . exact .inl d
 . exact .inr ⟨g,a,e,h.kp j (i a e)⟩
theorem jq.inj{c: TypeId}{cs d:Array Value}(b:jq w g t cs)(a:jq w g c d):t=c:=by
 unfold jq at b a;rw[b]at a;cases a;rfl
theorem Kp.wS(a:D b)(c d e f g:Value):Kp D w (((((w.setCell b c).setCell (b,1) d).setCell (b,2) e).setCell (b,3) f).setCell (b,4) g):=
 (((((Kp.refl D w).setCell (p:=⟨b,0,none⟩) (fun _=>a) c).setCell (p:=⟨b,1,none⟩) (fun _=>a) d).setCell (p:=⟨b,2,none⟩) (fun _=>a) e).setCell (p:=⟨b,3,none⟩) (fun _=>a) f).setCell (p:=⟨b,4,none⟩) (fun _=>a) g
theorem jq.wS{u3 u4: Value}(g:jq w b t #[u0,u1,u2,u3,u4])(a c d e f:Value):jq (((((w.setCell b a).setCell (b,1) c).setCell (b,2) d).setCell (b,3) e).setCell (b,4) f) b t #[a,c,d,e,f]:=
 ((((g.jR 0 a).jR 1 c).jR 2 d).jR 3 e).jR 4 f
theorem zA(w:World)(l:jB)(p:jl)(y:jD w l p)(k:Int)(n m:ByteArray):Calls prog 108 #[some l.L,k,n,m] w fun g w'=>(∃ev,g=.returned (.tuple #[.agg (nX (M.get p k n m).1).toArray,ev])/\DJ w' ev (M.get p k n m).2)/\jD w' l p/\Kp (·=l.D) w w':=by
 have bX:=y.FR;have cu:=y.lt;have hO:=y.ord;obtain⟨I,D⟩:=S9 (w.alloc (.cells LK 173));have av:Ext w I:=by rw[D];exact kx
 have bn:=Zy (y.ext av);have b8:jq I w 173 LK:=by rw[D];exact jq.new w _ _
 have dm:I.heap.size=w+1:=by rw[D];simp
 have⟨bB,bH⟩:=jw av D;have HK:Zz (M.get p k n m=if(ko p k n m).2=1 then pO p k m (ko p k n m).1 (layout p (ko p k n m).1)else(vZ,(ko p k n m).2)):=Zy rfl;clear y av D;go_enter func108,ntmps108;go_wp2_with fail;have aB:=bH.o;unfold LK at aB;rw[<-aB];clear aB;refine(xP bn).mono ?_;rintro g w2 ⟨⟨ev,rfl,bL⟩,aQ,Z⟩;generalize ko p k n m=F at*;obtain⟨⟨c,d⟩,bJ⟩:=F;simp only at*;have O:=b8.kp Z Zm;have dn:=Z.size;obtain⟨yz,y0,y1,y2,y3,y4,-⟩:=O.ca;obtain⟨P,Q,R,S,T,-⟩:=O.fz;have⟨aN,aK,ah⟩:=jI aQ (bB.any.trans Z) O;clear aQ Z b8 O;rcases bL with⟨rfl,rfl⟩|⟨hc,eb,rfl,aY⟩
 . have L:Zz (M.get p k n m=pO p k m ⟨c,d⟩ (layout p ⟨c,d⟩)):=Zy (by rw[HK.o,Ty rfl]);have W:Ext w2 (w2.alloc (.cells #[c,d] 64)):=kx;have aP:=jq.new w2 64 #[c,d];go_wp2_with fail;refine(xq (aN.ext W) ⟨c,d⟩).mono ?_;rintro g w3 ⟨⟨dx,rfl,e⟩,aR,B⟩;obtain⟨bT,bV,rfl,hn,cB⟩:=e.form;have bQ:=B.size;simp only[Tp]at bQ;have⟨bz,bq,bE,bD,HS,bF⟩:=pR ((ah.ext W).kp B Zm) (aP.kp B Zm) aR ((aK.trans W.any).trans B) e (fun i a=>sG (p:=p) (r:=⟨c,d⟩) (i:=i) (f:=a));clear e aR B W aP y0 y1 y2 y3 y4 P Q R S T yz;generalize layout p ⟨c,d⟩=fs at*;go_wp2;go_loopw [31] (fun i wr=>∃b:Nat,b<=fs.length/\i=.int .i64 b/\Ext w3 wr/\Zz (pO p k m ⟨c,d⟩ fs=pO p k m ⟨c,d⟩ (fs.drop b))) (fun i _=>fs.length - (intOf i).toNat)
   case atStart=>exact⟨0,Tz _,rfl,Kp.rr,Zy rfl⟩
   case round=>
    obtain⟨b,hq,rfl,s,HA⟩:=hrel;have A:=bz.ext s;obtain⟨yz,y0,y1,y2,y3,y4,-⟩:=A.ca;obtain⟨P,Q,R,S,T,-⟩:=A.fz;have aF:=Zy A;have V:=bq.ext s;have⟨bR,r,aM,bC⟩:=kD V (bE.ext s) (bD.trans s.any) s;by_cases bM:b<fs.length
    . obtain⟨a,hx⟩:=nV fs b bM;obtain⟨_,aZ,ag,G,U,C,v,bg⟩:=bF.o b a hx;obtain⟨j,ae⟩:=M.mr aZ;have aA:cls p a.of=j:=by unfold cls;rw[ae];rfl
      rw[aA]at C;have df:=(Tt.1 C).1;have cz:=vB r.ok ae;have aI:=Zy (AP (by rw[aA];exact C) (by rw[ag,v]));have aJ:Zz (pO p k m ⟨c,d⟩ fs=if fieldName p ⟨c,d⟩ a=m then(if agree p k a.of.keeper a.kind then(a,1)else(vZ,4))else pO p k m ⟨c,d⟩ (fs.drop (b+1))):=Zy (by rw[HA.o,mM hx];rfl);obtain⟨bU,dw,cs,rfl,bY,rfl,-,aU⟩:=HS.get hx;have t:=aU.ext s;have g0:=t 0 a.of.keeper rfl;have g1:=t 1 a.of.name rfl;have g2:=t 2 b (by simp[nX,ag]);have g3:=t 3 a.kind.kind rfl;have g4:=t 4 a.kind.name rfl;rw[UU]at g0;have gz:=jv g0;obtain⟨ez,e0,e1,-⟩:=V.ca;obtain⟨W4,aS,ax,aj⟩:=nu wr #[a.of.keeper,a.of.name,b,a.kind.kind,a.kind.name] 173;have⟨bI,HX,bA,HJ,bG⟩:=nC aS (Tm ag bg) ae C v;clear ag bg ae C aU t hx aZ aA v y0 y1 y2 y3 y4 P Q R S T aS A V;go_wp2_with fail;rw[<-bI.o];refine(BN (r.ext ax) ⟨a.of.keeper,a.of.name⟩ ⟨c,d⟩).mono ?_;rintro g w5 ⟨rfl,X⟩;have v:b=nW p ⟨a.of.keeper,a.of.name⟩ ⟨c,d⟩+G:=bG.o;generalize nW p ⟨a.of.keeper,a.of.name⟩ ⟨c,d⟩=ff at*;obtain⟨cs,aW,aT⟩:=vP l p r a.of.keeper a.of.name j bA;obtain⟨a1,c1,a2,c2,rfl⟩:=aW.form;obtain⟨dz,dA,aX,sf,-⟩:=aW;simp only[U2,Vm,VR]at aX;obtain⟨rfl,rfl⟩:=aX;have cK:∀ai,(Instr.field 38 (.agg #[j.name,j.jE,.slice a1 j.fields.length c1,.slice a2 j.methods.length c2]) 2).run prog ai=.ok (.slice a1 j.fields.length c1) ai:=(fun ai=>by kernel_rfl);obtain⟨bf,of,bW,rfl,bZ,rfl,-,aV⟩:=sf.get HJ;have az:=ax.trans X;obtain⟨bS,f,dh,N⟩:=lL w5;obtain⟨-,r0,r1,r2,r3,r4,-⟩:=jq.pq fun aC=>(aj.ext (X.trans (N.jC aC)));have rf:=fun aC=>(aV.ext (az.trans (N.jC aC))) 0 U.name rfl;simp only[UU]at rf;have hw:IntKind.i64.wrap ((b:Int) - (ff:Int))=(G:Int):=by rw[TM _ Zm];omega
      have di:(b:Int) - (ff:Int)=(G:Int):=Zm
      have cO:(0:Int)<=(G:Int):=Zm
      have cZ:(G:Int)<j.fields.length:=Zm
      have⟨h,aG,J,bu,HQ⟩:=nC N aT az (aj.ext X) v;clear N aT az aj X ax aV sf g0 g1 g2 g3 g4 e0 e1 v;by_cases u:U.name=m
      . have bN:(U.name.toList==m.toList)=true:=by rw[u];simp
        have K:Zz (M.get p k n m=if agree p k a.of.keeper a.kind then(a,1)else(vZ,4)):=Zy (by rw[L.o,aJ.o,Ty (by rw[aI.o];exact u)]);clear u;go_wp2_with fail;refine zJ h ?_ ?_;rotate_left;(repeat (go_big_quiet_step ((go_at_call 74;refine(aG _ (J.trans (h.jC _)).any).mono ?_;rintro g w6 ⟨rfl,ay⟩;exact⟨rfl,h.o.o w6 ((h.jC _).trans ay)⟩))));refine TP ?_;(rintro _ ⟨H,rfl⟩);rotate_left
        . exact jA
        go_wp2_with fail;have af:=J.trans (h.jC H);have ak:=bu.ext (h.jC H);generalize f H=w6 at*;clear h r0 r1 r2 r3 r4 rf;refine(yL (r.ext af) k a.of.keeper a.kind).mono ?_;rintro g w7 ⟨rfl,Y⟩;have E:=af.trans Y;have au:=ak.ext Y;have z:=aF.ext E;obtain⟨yz,y0,y1,y2,y3,y4,-⟩:=z.ca;obtain⟨P,Q,R,S,T,-⟩:=z.fz;have⟨aD,aO,aL⟩:=jI z (r.ext E) (aM.trans E.any);cases aa:agree p k a.of.keeper a.kind
        . have x:Zz (M.get p k n m=(vZ,4)):=Zy (by rw[K.o,aa];rfl);clear au ak z E af Y aa;go_wp2_with fail;have e:=Kp.wS (D:=(·=w)) (w:=w7) rfl Tj "" Tj Tj "";have o:=aD.wS Tj "" Tj Tj "";refine PG (hU rH rfl w rfl (nX vZ) ((hQ.kX o).ext (jJ _)) rfl) rfl ?_;rw[x.o];refine⟨⟨_,rfl,.inr ⟨Zl,w7.heap.size,rfl,?_⟩⟩,(aO.kp e (fun k q g=>Zm)).ext (jJ _),(aL.o.own e (fun k q=>Zm)).alloc _⟩;have:=jq.new (((((w7.setCell w Tj).setCell (w,1) "").setCell (w,2) Tj).setCell (w,3) Tj).setCell (w,4) "") 168 #[.int .i64 4];simpa using this
        . have x:Zz (M.get p k n m=(a,1)):=Zy (by rw[K.o,aa];rfl);obtain⟨-,e0,e1,e2,e3,e4,-⟩:=au.ca;clear au ak z E af Y aa;go_wp2_with fail;have e:=Kp.wS (D:=(·=w)) (w:=w7) rfl a.of.keeper a.of.name b a.kind.kind a.kind.name;have o:=aD.wS a.of.keeper a.of.name b a.kind.kind a.kind.name;have bP:nX a=[.int .i64 a.of.keeper,.string a.of.name,.int .i64 b,.int .i64 a.kind.kind,.string a.kind.name]:=by unfold nX;rw[HX.o.1]
          rw[x.o];refine PG (hU rH rfl w rfl (nX a) (by rw[bP];exact hQ.kX o) rfl) rfl ?_;exact⟨⟨_,rfl,.inl ⟨rfl,rfl⟩⟩,aO.kp e (fun k q g=>Zm),aL.o.own e (fun k q=>Zm)⟩
      . have bN:(U.name.toList==m.toList)=false:=by rw[oP];exact SS u
        have K:Zz (pO p k m ⟨c,d⟩ fs=pO p k m ⟨c,d⟩ (fs.drop (b+1))):=Zy (by rw[aJ.o,T9 (by rw[aI.o];exact u)]);clear u;go_wp2_with fail;refine zJ h ?_ ?_;rotate_left;(repeat (go_big_quiet_step ((go_at_call 74;refine(aG _ (J.trans (h.jC _)).any).mono ?_;rintro g w6 ⟨rfl,ay⟩;exact⟨rfl,h.o.o w6 ((h.jC _).trans ay)⟩))));refine TP ?_;(rintro _ ⟨H,rfl⟩);rotate_left
        . exact jA
        go_wp2_with fail;have bO:=bC.trans (J.trans (h.jC H));refine⟨⟨b+1,Zm,Zk,bO,K⟩,Zj⟩
    . have x:Zz (M.get p k n m=(vZ,3)):=Zy (by rw[L.o,HA.o,U7 Zm];rfl);clear A V;go_wp2_with fail;have e:=Kp.wS (D:=(·=w)) (w:=wr) rfl Tj "" Tj Tj "";have o:=aF.wS Tj "" Tj Tj "";refine PG (hU rH rfl w rfl (nX vZ) ((hQ.kX o).ext (jJ _)) rfl) rfl ?_;rw[x.o];refine⟨⟨_,rfl,.inr ⟨Zl,wr.heap.size,rfl,?_⟩⟩,(r.kp e (fun k q g=>Zm)).ext (jJ _),(aM.o.own e (fun k q=>Zm)).alloc _⟩;have:=jq.new (((((wr.setCell w Tj).setCell (w,1) "").setCell (w,2) Tj).setCell (w,3) Tj).setCell (w,4) "") 168 #[.int .i64 3];simpa using this
 . have aH:=Zy aY;have HC:=Zy hc;clear aY hc;have L:Zz (M.get p k n m=(vZ,bJ)):=Zy (by rw[HK.o,T9 HC.o]);have bK:¬eb=w:=fun g=>by subst g;exact absurd (jq.inj aH.o ah.o) Zn
   go_wp2_with fail;have e:=Kp.wS (D:=(·=w)) (w:=w2) rfl Tj "" Tj Tj "";have o:=ah.wS Tj "" Tj Tj "";refine PG (hU rH rfl w rfl (nX vZ) ((hQ.kX o).ext (jJ _)) rfl) rfl ?_;rw[L.o];exact⟨⟨_,rfl,.inr ⟨HC,eb,rfl,(aH.kp e bK).ext (jJ _)⟩⟩,(aN.kp e (fun k q g=>Zm)).ext (jJ _),(aK.o.own e (fun k q=>Zm)).alloc _⟩
theorem mY(w:World)(l:jB)(p:jl)(f:jD w l p)(x:pU)(k:kg p x=true):Calls prog 46 #[some l.L,.agg #[x.of.keeper,x.of.name,x.at_]] w fun a d=>(∃b,jy d (· <l.O) (M.method p x) b/\a=.returned (.agg b.toArray))/\Ext w d:=by
 obtain⟨_,m,e,c,g,h,i,j⟩:=uI k;have a:M.method p x=c:=by unfold M.method;rw[j];rfl
 rw[a,g];exact Hm w l p f x.of.keeper x.of.name m e c h i
theorem jq.newAt(t:TypeId)(cs:Array Value)(a:W=g):jq (W.alloc (.cells cs t)) g t cs:=by
 subst a;exact jq.new W t cs
def Ai(x:pU):List Value:=[.int .i64 x.of.keeper,.string x.of.name,.int .i64 x.at_]
theorem Kp.xH(a:D b)(c d e:Value):Kp D w (((w.setCell b c).setCell (b,1) d).setCell (b,2) e):=
 (((Kp.refl D w).setCell (p:=⟨b,0,none⟩) (fun _=>a) c).setCell (p:=⟨b,1,none⟩) (fun _=>a) d).setCell (p:=⟨b,2,none⟩) (fun _=>a) e
theorem jq.xH(e:jq w b t #[u0,u1,u2])(a c d:Value):jq (((w.setCell b a).setCell (b,1) c).setCell (b,2) d) b t #[a,c,d]:=
 ((e.jR 0 a).jR 1 c).jR 2 d
theorem xm(w:World)(l:jB)(p:jl)(h:jD w l p)(k:Int)(n m:ByteArray):Calls prog 44 #[some l.L,k,n,m] w fun c W=>(∃T,c=.returned (.tuple #[.agg (Ai (call p k n m).1).toArray,T])/\DJ W T (call p k n m).2)/\jD W l p/\Kp (·=l.D) w W:=by
 have aV:=h.FR;have aW:=h.lt;have hO:=h.ord;obtain⟨q,o⟩:=S9 (w.alloc (.cells #[Tj,"",Tj] 66));have U:Ext w q:=by rw[o];exact kx
 have aD:=Zy (h.ext U);have b8:jq q w 66 #[Tj,"",Tj]:=by rw[o];exact jq.new w _ _
 have aY:q.heap.size=w+1:=by rw[o];simp
 have⟨aH,aL⟩:=jw U o;have HK:Zz (call p k n m=if(ko p k n m).2=1 then
  (match pick p (ko p k n m).1 m with
  |none=>(M.oN,3)
  |some a=>if jY p k a.of.keeper (M.method p a)then(a,1)else(M.oN,4))
 else(M.oN,(ko p k n m).2)):=Zy rfl
 clear h U o;go_enter func44,ntmps44;go_wp2_with fail;rw[<-aL.o];refine(xP aD).mono ?_;rintro c X ⟨⟨T,rfl,aP⟩,az,d⟩;generalize ko p k n m=F at*;obtain⟨⟨E,G⟩,aN⟩:=F;simp only at*;have t:=b8.kp d Zm;have aZ:=d.size;obtain⟨K,H,I,J,-⟩:=t.ca;obtain⟨u,v,x,-⟩:=t.fz;have⟨aj,ag,L⟩:=jI az (aH.any.trans d) t;clear az d b8 t;rcases aP with⟨rfl,rfl⟩|⟨hc,eb,rfl,aC⟩
 . have r:Zz (call p k n m=match pick p ⟨E,G⟩ m with
    |none=>(M.oN,3)
    |some a=>if jY p k a.of.keeper (M.method p a)then(a,1)else(M.oN,4)):=Zy (by rw[HK.o,Ty rfl])
   have A:Ext X (X.alloc (.cells #[E,G] 64)):=kx;clear H I J u v x K;go_wp2_with fail;refine(Ew _ _ _ (aj.ext A) ⟨E,G⟩ m).mono ?_;rintro c Y ⟨rfl,aA,C⟩;have aQ:=C.size;simp only[Tp]at aQ;have y:=(L.ext A).kp C Zm;obtain⟨K,H,I,J,-⟩:=y.ca;obtain⟨u,v,x,-⟩:=y.fz;have⟨aa,ak,ah⟩:=jI y aA ((ag.trans A.any).trans C);clear aA C A y;cases j:pick p ⟨E,G⟩ m with
   |none=>
    have s:Zz (call p k n m=(M.oN,3)):=Zy (by rw[r.o,j]);clear j;simp only[Vv,Ua,oN];go_wp2_with fail;have b:=Kp.xH (D:=(·=w)) (w:=Y) rfl Tj "" Tj;have e:=aa.xH Tj "" Tj;refine PG (hU rJ rfl w rfl (Ai M.oN) (((hQ.kX e).ext (jJ _)).ext (jJ _)) rfl) rfl ?_;rw[s.o];exact⟨⟨_,rfl,.inr ⟨Zl,Y.heap.size+1,rfl,jq.newAt _ _ Zl⟩⟩,((ak.kp b (fun k f c=>Zm)).ext (jJ _)).ext (jJ _),((ah.o.own b (fun k f=>Zm)).alloc _).alloc _⟩
   |some a=>
    have HX:=Zy (qB j);have s:Zz (call p k n m=if jY p k a.of.keeper (M.method p a)then(a,1)else(M.oN,4)):=Zy (by rw[r.o,j]);clear j;simp only[TC,Ul];obtain⟨W4,aB,i,S⟩:=nu Y #[a.of.keeper,a.of.name,a.at_] 66;obtain⟨aT,aU,aX,P⟩:=lL W4;obtain⟨-,r0,r1,r2,-⟩:=jq.pq fun aR=>(S.ext (P.jC aR));have⟨Q,aM,aS,aF,N,aG,aJ⟩:=tq P aB i S (ak.ext i) (aa.ext i) (ah.trans i.any);clear H I J u v x K P aB i S;go_wp2_with fail;rw[<-aM.o];refine lq Q 10 [([0,1,2,3,4,5,6],7),([],8)] [9] ?_ ?_
    . exact jA
    refine nE ?_;intro R d;go_wp2_with fail;refine(mY _ _ _ (N.ext jA) a HX).mono ?_;rintro c w5 ⟨⟨cs,V,rfl⟩,ax⟩;have B:=(jA:Ext W4 _).trans ax;have aK:=Zy V;obtain⟨a1,c1,a2,c2,a3,c3,rfl⟩:=V.form;clear V ax;go_wp2_with fail;refine kk Q d B ?_;clear d R;refine mF rfl fun R d=>?_;go_wp2_with fail;refine(vT (N.ext B) k a.of.keeper aK).mono ?_;rintro c Z ⟨rfl,ay⟩;have g:=B.trans ay;have z:=aG.ext g;obtain⟨K,H,I,J,-⟩:=z.ca;obtain⟨u,v,x,-⟩:=z.fz;have av:=aF.ext g;obtain⟨-,z0,z1,z2,-⟩:=av.ca;have⟨ae,au,ai,aI⟩:=kD z (N.ext g) (aJ.trans g.any) g;clear ay B z av r0 r1 r2 g;go_wp2_with fail;refine kk Q d aI ?_;clear d R;cases D:jY p k a.of.keeper (M.method p a)
    . have O:Zz (call p k n m=(M.oN,4)):=Zy (by rw[s.o,D];rfl);clear D;refine uC ?_;go_wp2_with fail;have b:=Kp.xH (D:=(·=w)) (w:=Z) rfl Tj "" Tj;have e:=ae.xH Tj "" Tj;refine PG (hU rJ rfl w rfl (Ai M.oN) ((hQ.kX e).ext (jJ _)) rfl) rfl ?_;rw[O.o];exact⟨⟨_,rfl,.inr ⟨Zl,Z.heap.size,rfl,jq.newAt _ _ Zl⟩⟩,(au.kp b (fun k f c=>Zm)).ext (jJ _),(ai.o.own b (fun k f=>Zm)).alloc _⟩
    . have O:Zz (call p k n m=(a,1)):=Zy (by rw[s.o,D];rfl);clear D;refine uC ?_;go_wp2_with fail;have b:=Kp.xH (D:=(·=w)) (w:=Z) rfl a.of.keeper a.of.name a.at_;have e:=ae.xH a.of.keeper a.of.name a.at_;refine PG (hU rJ rfl w rfl (Ai a) (hQ.kX e) rfl) rfl ?_;rw[O.o];exact⟨⟨_,rfl,.inl ⟨rfl,rfl⟩⟩,au.kp b (fun k f c=>Zm),ai.o.own b (fun k f=>Zm)⟩
 . have af:=Zy aC;have HC:=Zy hc;clear aC hc;have r:Zz (call p k n m=(M.oN,aN)):=Zy (by rw[HK.o,T9 HC.o]);have aO:¬eb=w:=fun c=>by subst c;exact absurd (jq.inj af.o L.o) Zn
   go_wp2_with fail;have b:=Kp.xH (D:=(·=w)) (w:=X) rfl Tj "" Tj;have e:=L.xH Tj "" Tj;refine PG (hU rJ rfl w rfl (Ai M.oN) ((hQ.kX e).ext (jJ _)) rfl) rfl ?_;rw[r.o];exact⟨⟨_,rfl,.inr ⟨HC,eb,rfl,(af.kp b aO).ext (jJ _)⟩⟩,(aj.kp b (fun k f c=>Zm)).ext (jJ _),(ag.o.own b (fun k f=>Zm)).alloc _⟩
def Ap(n:Int):List PanicEntry:=[{v:=.iface 240 (.agg #[.int .i64 n]),recovered:=false}]
theorem nI(a:Nat)(n:Int)(e:w.cell? (a,10)=some (.int .i64 n))(h0:0<=n)(d:n<=1000):Calls prog 196 #[some a] w fun b c=>b=.panicked (Ap (n+1))/\w=c:=by
 go_enter func196,ntmps196;go_wp2;exact⟨rfl,rfl,rfl⟩
theorem BP(g:jD w l p)(k:Int)(a b:Tag):Calls prog 237 #[some l.L,k,.agg #[a.kind,a.name],.agg #[b.kind,b.name]] w fun u w'=>u=.returned (.bool (may p k a b))/\Ext w w':=by
 obtain⟨e,c⟩:=a;obtain⟨h,d⟩:=b;have C:=Zy g;clear g;by_cases j:h=0
 . subst j;have f:Zz (may p k ⟨e,c⟩ ⟨0,d⟩=true):=Zy (by unfold may;rw[Ty (.inl rfl)]);go_enter func237,ntmps237;go_wp2;go_ret;exact⟨hV f.symm,kx⟩
 by_cases z:e=h/\c=d
 . obtain⟨rfl,rfl⟩:=z;have f:Zz (may p k ⟨e,c⟩ ⟨e,c⟩=true):=Zy (by unfold may;rw[Ty (.inr rfl)]);have Z:=SK.2 j;clear j;go_enter func237,ntmps237;go_wp2;go_ret;exact⟨hV f.symm,kx⟩
 have t:Zz (may p k ⟨e,c⟩ ⟨h,d⟩=if h≠2 then false else if e=3 then true else if e≠2 then false
  else decide ((find p k c).2=1)&&decide ((find p k d).2=1)&&under p (find p k c).1 (find p k d).1):=Zy (by
  unfold may;rw[T9 (by
   rintro(g|g)
   . exact j g
   . rw[Tag.oU]at g;exact z g)])
 have Z:=SK.2 j;have r:(e==h)=false\/(e=h/\(c.toList==d.toList)=false):=by
  rcases zH e h c d with⟨i,D⟩|⟨i,D,_⟩|⟨i,_⟩
  . exact absurd ⟨i,D⟩ z
  . exact .inr ⟨i,D⟩
  . exact .inl i
 clear j z;by_cases x:h=2
 . subst x;by_cases o:e=3
   . subst o;have f:Zz (may p k ⟨3,c⟩ ⟨2,d⟩=true):=Zy (by rw[t.o];rfl);clear r;go_enter func237,ntmps237;go_wp2;go_ret;exact⟨hV f.symm,kx⟩
   by_cases n:e=2
   . subst n;have av:(c.toList==d.toList)=false:=by
      rcases r with g|g
      . exact absurd g Zn
      . exact g.2
     have f:Zz (may p k ⟨2,c⟩ ⟨2,d⟩=(decide ((find p k c).2=1)&&decide ((find p k d).2=1)&&under p (find p k c).1 (find p k d).1)):=Zy (by rw[t.o];rfl);clear r o;obtain⟨B,A⟩:=S9 ((w.alloc (.cells #[.int .i64 2,c] 236)).alloc (.cells #[.int .i64 2,d] 236));have O:Ext w B:=by rw[A];exact kx
     have K:jq B (w+1) 236 #[.int .i64 2,d]:=by rw[A];exact jq.newAt _ _ Zl
     have⟨V,I⟩:=jw A O;clear A O;go_enter func237,ntmps237;go_wp2_with fail;rw[<-V.o];refine(qj _ _ _ (C.ext I) k c).mono ?_;rintro u w1 ⟨rfl,E⟩;obtain⟨qz,q0,q1,-⟩:=(K.ext E).ca;have T:=Zy (I.trans E);clear E K;generalize find p k c=F1 at*;obtain⟨⟨G,H⟩,X⟩:=F1;simp only at*;obtain⟨w2,Q,v,L⟩:=nu w1 #[G,H] 64;have⟨W,J⟩:=jw Q (T.trans v);have aa:=v.jm q0;have ae:=v.jm q1;clear Q v;go_wp2_with fail;rw[<-W.o];clear q0 q1 qz;refine(qj _ _ _ (C.ext J) k d).mono ?_;rintro u w3 ⟨rfl,F⟩;have N:=L.ext F;obtain⟨sz,s0,s1,-⟩:=N.ca;have s:=Zy (J.trans F);clear F L N aa ae;generalize find p k d=F2 at*;obtain⟨⟨R,S⟩,Y⟩:=F2;simp only at*;by_cases q:X=1
     . by_cases y:Y=1
       . subst q y;have m:Zz (may p k ⟨2,c⟩ ⟨2,d⟩=under p ⟨G,H⟩ ⟨R,S⟩):=Zy (by rw[f.o];rfl);go_wp2_with fail;refine(vU (C.ext (s.trans kx)) ⟨G,H⟩ ⟨R,S⟩).mono ?_;rintro u w4 ⟨rfl,P⟩;have U:=Zy ((s.alloc _).trans P);clear P;go_wp2;go_ret;exact⟨hV m.symm,U⟩
       . have aj:=SK.2 y;subst q;have m:Zz (may p k ⟨2,c⟩ ⟨2,d⟩=false):=Zy (by rw[f.o];simp[y]);clear y;go_wp2;go_ret;exact⟨hV m.symm,s.alloc _⟩
     . have ai:=SK.2 q;have m:Zz (may p k ⟨2,c⟩ ⟨2,d⟩=false):=Zy (by rw[f.o];simp[q]);clear q;go_wp2;go_ret;exact⟨hV m.symm,s.alloc _⟩
   . have au:=SK.2 n;have af:=TE.2 n;have ag:=SK.2 o;have f:Zz (may p k ⟨e,c⟩ ⟨2,d⟩=false):=Zy (by rw[t.o];simp[n,o]);clear r n o;go_enter func237,ntmps237;go_wp2;go_ret;exact⟨hV f.symm,kx⟩
 . have ah:=TE.2 x;have f:Zz (may p k ⟨e,c⟩ ⟨h,d⟩=false):=Zy (by rw[t.o,Ty x]);clear x;rcases r with i|⟨rfl,i⟩
   all_goals
    go_enter func237,ntmps237;go_wp2;go_ret;exact⟨hV f.symm,kx⟩
structure uR where
 a1:Option Addr
 c1:Nat
 a2:Option Addr
 c2:Nat
 a3:Option Addr
 c3:Nat
def oC(m:M.Method)(t:uR):List Value:=[.string m.name,.slice t.a1 m.args.length t.c1,.int .i64 m.ret.kind,.string m.ret.name,.int .i64 m.locals,.int .i64 m.stack,.slice t.a2 m.code.length t.c2,.slice t.a3 m.maps.length t.c3]
def KG(L:Nat)(k:Int)(m:M.Method)(t:uR)(at_:Int)(vl vs:Value):Array Value:=
 #[.pointer (some ⟨L,0,none⟩),.int .i64 k,.string m.name,.slice t.a1 m.args.length t.c1,.int .i64 m.ret.kind,.string m.ret.name,.int .i64 m.locals,.int .i64 m.stack,.slice t.a2 m.code.length t.c2,.slice t.a3 m.maps.length t.c3,.int .i64 at_,vl,vs]
structure jO(w:World)(l:jB)(p:jl)(B kb:Nat)(k:Int)(m:M.Method)(t:uR)(at_:Int)(s:lU)(vl vs:Value):Prop where
 lM:jD w l p
 hB:l.L<B
 hk:B<=kb
 ml:jy w (· <l.O) m (oC m t)
 mi:LP m
 blk:jq w kb 235 (KG l.L k m t at_ vl vs)
 loc:w.ownsRow B 236 2 vl s.locals.length (s.locals.flatMap kG)
 kY:w.ownsRow B 236 2 vs s.stack.length (s.stack.flatMap kG)
 ne:∀g,vl.ownBlock=some g->vs.ownBlock≠some g
 KE:0<=at_/\at_<=100
 Q8:(s.stack.length:Int)<=m.stack
 Pj:(s.locals.length:Int)=m.locals
def rA(l:jB)(kb:Nat)(vl vs:Value)(b:Nat):Prop:=b=l.D\/b=kb\/vl.ownBlock=some b\/vs.ownBlock=some b
def kN(n:Nat)(vl vs vl' vs':Value):Prop:=∀g,(vl'.ownBlock=some g\/vs'.ownBlock=some g)->vl.ownBlock=some g\/vs.ownBlock=some g\/n<=g
theorem kN.refl(n:Nat)(b vs:Value):kN n b vs b vs:=fun _ a=>a.elim .inl fun a=>.inr (.inl a)
theorem kN.trans{j: Nat}{a b c g h: Value}(i:kN n a b c g)(k:kN j c g h f)(m:n<=j):kN n a b h f:=fun e l=>by
 rcases k e l with d|d|d
 . exact i e (.inl d)
 . exact i e (.inr d)
 . exact .inr (.inr Zm)
theorem kN.le{f: Nat}{a b c e:Value}(h:kN f a b c e)(j:n<=f):kN n a b c e:=fun g i=>by
 rcases h g i with d|d|d
 . exact .inl d
 . exact .inr (.inl d)
 . exact .inr (.inr Zm)
theorem Kp.look{i:Nat}{j n vs': Value}{a b: World}(e:Kp (rA l i j vs) w a)(f:Kp (rA l i n vs') a b)(k:kN w j vs n vs'):Kp (rA l i j vs) w b:=
 ⟨f.os.trans e.os,f.tape.trans e.tape,f.output.trans e.output,TV e.size f.size,
  fun h g m=>(f.block h (Ta g e.size) (fun d=>m (by
   rcases d with d|d|d|d
   . exact .inl d
   . exact .inr (.inl d)
   . rcases k h (.inl d)with c|c|c
     . exact .inr (.inr (.inl c))
     . exact .inr (.inr (.inr c))
     . exact absurd g (WY.2 c)
   . rcases k h (.inr d)with c|c|c
     . exact .inr (.inr (.inl c))
     . exact .inr (.inr (.inr c))
     . exact absurd g (WY.2 c)))).trans (e.block h g m)⟩
theorem BZ{k: Nat}(d:w.ownsRow base b k (g,n,c) n xs){j:Nat}(i:j<=n):w.ownsRow base b k (g,j,c) j (xs.take (j*k)):=by
 have l:j*k<=n*k:=W9 _ i;refine⟨by rw[TN,d.1];omega,?_⟩;rcases d.2 with⟨a,_⟩|⟨r,q,e,a,h,f,s,m,o,p⟩
 . cases a
 . cases a;refine .inr ⟨g,c,e,rfl,h,f,Zm,m,o,?_⟩;rw[<-p,List.take_take,UN l]
theorem Gp{enc:α->List Value}{k:Nat}(a:∀x,(enc x).length=k)(st:List α)(x:α)(j:Nat):((st++[x]).flatMap enc)[st.length*k+j]?=(enc x)[j]?:=by
 rw[TD,TF (by rw[pF a];omega),pF a,Nat.add_sub_cancel_left];simp
theorem BH{enc:α->List Value}{k:Nat}(a:∀b,(enc b).length=k)(st r:List α):((st++r).flatMap enc).take (st.length*k)=st.flatMap enc:=by
 rw[TD,<-pF a st,List.take_left]
section
variable {w w':World}{l:jB}{p:M.jl}{B kb:Nat}{k:Int}{m:M.Method}{t:uR}{at_:Int}{s:M.lU}{vl vs:Value}
theorem jO.Q7(c:jO w l p B kb k m t at_ s vl vs):vl.ownBlock≠some kb/\vs.ownBlock≠some kb:=by
 constructor
 . intro a;rcases c.loc.2 with⟨b,_⟩|⟨e,g,d,b,h,f,_⟩
   . rw[b]at a;cases a
   . rw[b]at a;cases a;exact absurd (jq.inj (show jq w e 236 d from f) c.blk) Zn
 . intro a;rcases c.kY.2 with⟨b,_⟩|⟨e,g,d,b,h,f,_⟩
   . rw[b]at a;cases a
   . rw[b]at a;cases a;exact absurd (jq.inj (show jq w e 236 d from f) c.blk) Zn
theorem jO.kp(a:jO w l p B kb k m t at_ s vl vs)(e:Kp D w w')(h:jD w' l p)(f:∀b,B<=b->b<w.heap.size->¬D b)(i:∀b,b<l.O->¬D b):jO w' l p B kb k m t at_ s vl vs:=
 ⟨h,a.hB,a.hk,kE.kp jy.stays e (fun b d=>i b d) a.ml,a.mi,a.blk.kp e (f _ a.hk a.blk.lt),jr a.loc e (fun c g d=>f c d (a.loc.lt c g).2),jr a.kY e (fun c g d=>f c d (a.kY.lt c g).2),a.ne,a.KE,a.Q8,a.Pj⟩
theorem jO.ext(b:jO w l p B kb k m t at_ s vl vs)(c:Ext w w'):jO w' l p B kb k m t at_ s vl vs:=
 b.kp c (b.lM.ext c) (fun _ _ _ a=>a) (fun _ _ a=>a)
theorem jO.kp'(a:jO w l p B kb k m t at_ s vl vs)(d:Kp D w w')(i:jD w' l p)(f:¬D kb)(g:∀b,vl.ownBlock=some b->¬D b)(h:∀b,vs.ownBlock=some b->¬D b)(j:∀c,c<l.O->¬D c):jO w' l p B kb k m t at_ s vl vs:=
 ⟨i,a.hB,a.hk,kE.kp jy.stays d (fun c n=>j c n) a.ml,a.mi,a.blk.kp d f,jr a.loc d (fun b e _=>g b e),jr a.kY d (fun b e _=>h b e),a.ne,a.KE,a.Q8,a.Pj⟩
theorem jO.qK(b:jO w l p B kb k m t at_ s vl vs)(f:Kp (·=l.D) w w')(a:jD w' l p):jO w' l p B kb k m t at_ s vl vs:=
 b.kp f a (fun c e _ d=>Tf b.hB a.ord) (fun c e d=>Te a.ord)
theorem jO.setStack(b:jO w l p B kb k m t at_ s vl vs){st:List Tag}{vs':Value}(f:Kp (fun c=>c=kb\/vs.ownBlock=some c) w w')(g:jq w' kb 235 (KG l.L k m t at_ vl vs'))(j:w'.ownsRow B 236 2 vs' st.length (st.flatMap kG))(i:∀d,vs'.ownBlock=some d->vs.ownBlock=some d\/w.heap.size<=d)(n:(st.length:Int)<=m.stack):jO w' l p B kb k m t at_ ⟨s.locals,st⟩ vl vs'/\Kp (rA l kb vl vs) w w'/\kN w vl vs vl vs':=by
 have q:=b.hk;have o:=b.hB;have r:=b.lM.ord;have h:∀c,c<=l.L->¬(c=kb\/vs.ownBlock=some c):=fun c u a=>by
  rcases a with a|a
  . omega
  . have:=(b.kY.lt c a).1;omega
 refine⟨⟨b.lM.kp f h,b.hB,b.hk,kE.kp jy.stays f (fun c g=>h c Zm) b.ml,b.mi,g,?_,j,?_,b.KE,n,b.Pj⟩,f.weak fun c _ a=>?_,fun d e=>?_⟩
 . refine jr b.loc f fun d e _ a=>?_;rcases a with a|a
   . subst a;exact b.Q7.1 e
   . exact b.ne d e a
 . intro d e a;rcases i d a with a|a
   . exact b.ne d e a
   . have:=(b.loc.lt d e).2;omega
 . rcases a with a|a
   . exact .inr (.inl a)
   . exact .inr (.inr (.inr a))
 . rcases e with a|a
   . exact .inl a
   . rcases i d a with a|a
     . exact .inr (.inl a)
     . exact .inr (.inr a)
end
theorem xu{t:uR}{b:Int}{o: Value}(a:jO w l p g c k m t b s o vs)(f:s.stack=[]):Calls prog 218 #[some c] w fun d q=>d=.panicked (Ap (b+1))/\Ext w q:=by
 obtain⟨h,i,rfl⟩:=jS a.kY;have e:s.stack.length=0:=by rw[f];rfl
 have r:=a.blk.c 12 (.slice h 0 i) (by rw[<-e];rfl);obtain⟨u,-,-,-,-,-,-,-,-,-,-,j,-⟩:=a.blk.ca;clear e;have n:=a.KE;clear a f;go_enter func218,ntmps218;go_wp2_with fail;refine(nI c b (Kp.jm (jJ _:Ext w _) j) n.1 Zm).mono ?_;rintro d v ⟨rfl,rfl⟩;exact⟨rfl,rfl,kx⟩
theorem zB{L a:Nat}{t:uR}{O:Int}{A: Value}(f:jO w l p L a k m t O s A vs)(st:List Tag)(x:Tag)(y:s.stack=st++[x]):Calls prog 218 #[some a] w fun b w'=>b=.returned (.agg #[x.kind,x.name])/\(∃vs',jO w' l p L a k m t O ⟨s.locals,st⟩ A vs'/\kN w A vs A vs')/\Kp (rA l a A vs) w w':=by
 have v:s.stack.length=st.length+1:=by rw[y];simp
 have G:=f.kY;rw[v]at G;obtain⟨g,d,rfl,hg,aP,aD⟩:=ky G Zm;have I:=G.cells (g:=g) rfl;have x0:w.cell? (g,st.length*2)=some (.int .i64 x.kind):=by
  have:=I (st.length*2) x.kind (by rw[y];have:=Gp (enc:=kG) (k:=2) (fun _=>rfl) st x 0;rw[UU]at this;rw[this];rfl);simpa [Addr.add_lit]using this
 have x1:w.cell? (g,st.length*2+1)=some (.string x.name):=by
  have:=I (st.length*2+1) x.name (by rw[y,Gp (enc:=kG) (k:=2) (fun _=>rfl) st x 1];rfl);simpa [Addr.add_lit]using this
 have aI:=f.Q8;have aF:=f.mi.stack;obtain⟨i,Y,u,P⟩:=nu w #[Tj,""] 236;have H:=f.ext u;obtain⟨ak,av,aH,e⟩:=lL i;have K:=fun s=>(H.blk.ext (e.jC s)).c 12 (g,st.length+1,d) (by rw[<-v];rfl);have r0:=fun s=>(u.trans (e.jC s)).jm x0;have r1:=fun s=>(u.trans (e.jC s)).jm x1;have hw:IntKind.i64.wrap ((st.length:Int)+1 - 1)=(st.length:Int):=by rw[TM _ Zm];omega
 have⟨r,N,HA,o,ah,ae,B,HS,ag⟩:=AV e Y H f u P v y aD;have aQ:(st.length:Int)<=5:=Zm
 have au:=f.blk.c 12 (g,st.length+1,d) (by rw[<-v];rfl);have hz:=f.blk.lt;clear Y H f u P v y I x0 x1 G e aI aF;go_enter func218,ntmps218;go_wp2_with fail;rw[<-N.o];refine lq r 13 [([0,1,2,3,4,5,6,7,8,9,10,11],12)] [] ?_ ?_
 . exact jA
 refine nE ?_;intro K2 T;go_wp2_with fail;refine kk r T kx ?_;clear T K2;refine lD ?_;go_wp2_with fail;obtain⟨c,z⟩:=S9 ((i.alloc (.cells #[x.kind,x.name] 236)).drew);have F:Ext i c:=by rw[z];exact kx
 have Q:jq c i 236 #[x.kind,x.name]:=by rw[z];exact(jq.new _ _ _).ext jA
 have j:=HA.ext F;have aa:c.heap.size=i+1:=by rw[z];simp
 have Z:(i:Nat)=w+1:=by rw[N.o];simp
 have HZ:=Zy (Tm aa Z);rw[<-z];clear z r K r0 r1;obtain⟨ak,av,aH,e⟩:=lL c;have K:=fun s=>(j.blk.ext (e.jC s)).c 12 (g,st.length+1,d) (by rw[<-B.o];rfl);have r:=Zy e;have aO:(st.length:Int)<=d:=Te ag.o
 refine lq r 12 [] [0,1,2,3,4,5,6,7,8,9,10,11] ?_ ?_
 . exact jA
 refine qX [_,_,_,_,_,_,_,_,_,_,_,_] rfl fun aj S=>?_;(repeat (go_big_quiet_step (fail)));refine qn S ?_;clear S aj;have aJ:=j.blk.c 12 (g,st.length+1,d) (by rw[<-B.o];rfl);have aK:=j.blk.frozen 12;have z3:=j.blk.lt;obtain⟨-,u0,u1,-⟩:=Q.ca;have E:=ae.ext F;obtain⟨i2,v0,v1,-⟩:=E.ca;obtain⟨i0,i1,-⟩:=E.fz;have⟨q,ai,af⟩:=jI j F E;have n1:¬i=a:=Zm
 have n2:¬w=a:=Zm
 have n3:¬a=i:=Zm
 have n4:¬a=w:=Zm
 clear j F Q E e K au Z aa;go_wp2_with fail;have V:Kp (fun C=>C=a\/(Value.slice (some ⟨g,0,none⟩) (st.length+1) d).ownBlock=some C) c (c.setCell (a,12) (g,st.length,d)):=(Kp.refl _ c).setCell (p:=⟨a,12,none⟩) (fun _=>.inl rfl) _;have W:=q.kY;rw[B.o,HS.o]at W;have X:=BZ W (j:=st.length) Zm;rw[BH (enc:=kG) (k:=2) (fun _=>rfl)]at X;have aA:=q.blk.jR 12 (g,st.length,d);have aG:=q.Q7;have ax:=q.o;obtain⟨U,ay,az⟩:=ax.setStack (st:=st) (vs':=(g,st.length,d)) V aA (jr (D:=(·=a)) X ((Kp.refl (·=a) c).setCell (p:=⟨a,12,none⟩) (fun _=>rfl) _) (fun n h _ b=>by cases h;subst b;exact aG.2 rfl)) (fun n h=>.inl h) (by have:=q.Q8;rw[B.o]at this;omega);generalize c.setCell (a,12) (g,st.length,d)=w4 at*;have J:∀D:Nat->Prop,D w.heap.size->Kp D w4 ((w4.setCell w x.kind).setCell (w,1) x.name).drew:=fun D R=>
  (((Kp.refl D w4).setCell (p:=⟨w,0,none⟩) (fun _=>R) _).setCell (p:=⟨w,1,none⟩) (fun _=>R) _).drew
 have aB:=af.kp V (fun b=>by
  rcases b with b|b
  . omega
  . have e':g=w:=by simpa [Value.ownBlock]using b
    omega)
 have aC:=hQ.kX ((aB.jR 0 x.kind).jR 1 x.name);refine PG (jM uM rfl w rfl (kG x) (aC.ext jA) rfl) rfl ?_;have aM:=o.hk;have aL:=o.hB;have aN:=o.lM.ord;have aR:=o.blk.lt;refine⟨rfl,⟨_,U.kp' (J (·=w) rfl) (U.lM.kp (J (·=w) rfl) (fun C hb b=>Zm)) Zm (fun n h b=>Te ((o.o.loc.lt n h).2)) (fun n h b=>by
  have e':g=n:=by simpa [Value.ownBlock]using h
  omega) (fun C hb b=>Zm),az.le Zm⟩,?_⟩
 exact(((ah.trans ai).any).trans ay).own (J (·=w) rfl) (fun n h=>Zm)
theorem Jm(w:World)(l:jB)(p:jl)(r h:Nat)(k:Int)(m:M.Method)(t:uR)(d:Int)(s:lU)(C vs:Value)(b:jO w l p r h k m t d s C vs)(x:Tag)(o:m.stack<=s.stack.length):Calls prog 216 #[some h,.agg #[x.kind,x.name]] w fun n D=>n=.panicked (Ap (d+1))/\Ext w D:=by
 obtain⟨y,z,rfl⟩:=jS b.kY;obtain⟨c,g⟩:=S9 (w.alloc (.cells #[x.kind,x.name] 236));have f:Ext w c:=by rw[g];exact kx
 have e:=b.ext f;obtain⟨E,F,H,a⟩:=lL c;have I:=fun i=>(e.blk.ext (a.jC i)).c 12 (.slice y s.stack.length z) rfl;obtain⟨-,-,-,-,-,-,-,-,J,-,-,B,-⟩:=jq.pq fun i=>(e.blk.ext (a.jC i));have⟨j,v,u⟩:=jI a g f;have A:=b.KE;have G:=Tw o;clear b o a g f e;go_enter func216,ntmps216;go_wp2_with fail;rw[<-v.o];refine zJ j ?_ ?_;rotate_left;(repeat (go_big_quiet_step ((fail))));refine TP ?_;(rintro _ ⟨q,rfl⟩);rotate_left
 . exact jA
 go_wp2_with fail;refine(nI h d (B q) A.1 Zm).mono ?_;rintro n K ⟨rfl,rfl⟩;exact⟨rfl,rfl,u.trans (j.jC q)⟩
theorem Pe(w:World)(l:jB)(p:jl)(v f:Nat)(k:Int)(m:M.Method)(t:uR)(I:Int)(s:lU)(u vs:Value)(a:jO w l p v f k m t I s u vs)(x:Tag)(hs:(s.stack.length:Int)<m.stack):Calls prog 216 #[some f,.agg #[x.kind,x.name]] w fun d X=>d=.returned (.tuple #[])/\(∃vs',jO X l p v f k m t I ⟨s.locals,s.stack++[x]⟩ u vs'/\kN w u vs u vs')/\Kp (rA l f u vs) w X:=by
 obtain⟨i,j,rfl⟩:=jS a.kY;obtain⟨Y,U,C,K⟩:=nu w #[x.kind,x.name] 236;have z:=a.ext C;obtain⟨aj,N,az,b⟩:=lL Y;have F:=fun g=>(z.blk.ext (b.jC g)).c 12 (.slice i s.stack.length j) rfl;have r7:=fun g=>(z.blk.ext (b.jC g)).c 7 m.stack rfl;have⟨c,H,af,HA,ae,Z⟩:=pR b U C z K a;have hd:decide (m.stack<=(s.stack.length:Int))=false:=SS Zm;clear a b U C z K;go_enter func216,ntmps216;go_wp2_with fail;rw[<-H.o];refine zJ c ?_ ?_;rotate_left;(repeat (go_big_quiet_step ((fail))));refine TP ?_;(rintro _ ⟨W,rfl⟩);rotate_left
 . exact jA
 go_wp2_with fail;have q:=c.jC W;generalize N W=w1 at*;clear c F r7;have e:=HA.ext q;have L:=ae.ext q;have aC:=q.size;have aD:(w:Nat)<Y:=by rw[H.o];simp
 obtain⟨aj,N,az,b⟩:=tN.ex (fun W'=>Kp (fun J=>(Value.slice i s.stack.length j).ownBlock=some J) w1 W') _ Kp.rr;have S:¬(Value.slice i s.stack.length j).ownBlock=some w.heap.size:=fun d=>Te ((Z.kY.lt _ d).2)
 have F:=fun g=>(e.blk.kp (b.jC g) e.Q7.2).c 12 (.slice i s.stack.length j) rfl;obtain⟨-,r0,r1,-⟩:=jq.pq fun g=>(L.kp (b.jC g) S);have⟨c,h,ag⟩:=jI b e q;have ay:s.stack.length+1<=4294967296:=Te e.mi.stack
 have aB:v<=w1:=Tf e.blk.lt e.hk
 clear b e L q S;refine lq c 8 [([0,1,2,3,4,5],6),([],7)] [] ?_ ?_
 . exact jA
 refine nE ?_;intro y r;go_wp2_with fail;refine kk c r kx ?_;clear r y;refine mF rfl fun y r=>?_;refine jF nH rfl (.tmp 21) (.tmp 23) rfl v (.slice i s.stack.length j) s.stack.length _ rfl (jr (D:=fun _=>False) h.kY kx fun _ _ _ x=>x) w1 1 (kG x) rfl rfl (hQ.KO _ _ rfl) (rY _) ay Zr ?_;intro n B w2 P O Q;change y _ _;have A:=(kx:Ext w1 _).any.trans O;refine kk c r A ?_;clear r y;have o:=h.blk.kp A h.Q7.2;have d0:=o.c 12 (.slice i s.stack.length j) rfl;have e0:=o.frozen 12;have z1:=o.lt;have⟨aa,ai,ah,G⟩:=kD o P A Q;clear P O A o Q F r0 r1;refine lD ?_;go_wp2_with fail;refine Ti ?_;have T:=fun D hD aA=>(Kp.refl D w2).setCell (p:=⟨f,12,none⟩) (fun _=>hD) aA;have R:(s.stack++[x]).length=s.stack.length+1:=by simp
 have av:n≠f:=fun d=>by
  subst d;rcases G.o with a|a
  . exact h.Q7.2 a
  . have:=h.blk.lt;simp at a;omega
 obtain⟨hS,ak,au⟩:=h.setStack (st:=s.stack++[x]) (vs':=(n,s.stack.length+1,B)) ((ah.weak fun J _ a=>.inr a).trans (T _ (.inl rfl) (n,s.stack.length+1,B))) (aa.jR 12 _) (by
  have h2:=jr ai (T (·=f) rfl (n,s.stack.length+1,B)) (fun V E _ d=>by cases E;exact av d);rw[R];simpa using h2) (fun V E=>by
   have ax:n=V:=by simpa [Value.ownBlock]using E
   subst ax;rcases G.o with a|a
   . exact .inl a
   . right;simp at a;omega) (by rw[R];omega)
 exact⟨rfl,⟨_,hS,au.le Zm⟩,((af.trans ag).any).trans ak⟩
def jX(w:World)(l:jB)(p:jl)(B kb:Nat)(k:Int)(m:M.Method)(t:uR)(at_:Int)(vl vs:Value)(o:Option lU)(e:Ending)(w':World):Prop:=
 Kp (rA l kb vl vs) w w'/\jD w' l p/\
 ((o=none/\e=.panicked (Ap (at_+1)))\/∃s',o=some s'/\e=.returned (.tuple #[])/\∃vl' vs',jO w' l p B kb k m t at_ s' vl' vs'/\kN w.heap.size vl vs vl' vs')
theorem sJ(w:World){l:jB}{p:jl}{b a:Nat}{k:Int}{m:M.Method}{t:uR}{c:Int}{s:lU}{d vs:Value}(e:jO w l p b a k m t c s d vs)(x:Tag):Calls prog 216 #[some a,.agg #[x.kind,x.name]] w (jX w l p b a k m t c d vs (lK m x s)):=by
 by_cases f:m.stack<=s.stack.length
 . refine(Jm w l p b a k m t c s d vs e x f).mono ?_;rintro i o ⟨rfl,g⟩;exact⟨g.any,e.lM.ext g,.inl ⟨by unfold lK;rw[Ty f],rfl⟩⟩
 . refine(Pe w l p b a k m t c s d vs e x Zm).mono ?_;rintro i o ⟨rfl,⟨q,h,n⟩,j⟩;exact⟨j,h.lM,.inr ⟨_,by unfold lK;rw[T9 f],rfl,_,_,h,n⟩⟩
theorem oM(w:World){l:jB}{p:jl}{z f:Nat}{k:Int}{m:M.Method}{t:uR}{q:Int}{s:lU}{v vs:Value}(e:jO w l p z f k m t q s v vs)(x:Tag):Calls prog 219 #[some f,.agg #[x.kind,x.name]] w (jX w l p z f k m t q v vs (lX p k x s)):=by
 obtain⟨w0,ae,I,G⟩:=nu w #[x.kind,x.name] 236;have H:=e.ext I;have av:=e.lM.ord;have au:=e.lM.lt;have ax:=e.blk.lt;have ai:=e.KE;obtain⟨ak,V,ay,h⟩:=tN.ex (fun U=>jq U w 236 #[x.kind,x.name]/\∃L O P,jO U l p z f k m t q L O P) w0 ⟨G,_,_,_,H⟩;have r0:∀b,(V b).cell? f=some (.pointer (some ⟨l.L,0,none⟩)):=fun b=>by
  obtain⟨_,L,O,P,K⟩:=h.jC b;exact K.blk.c 0 _ rfl
 have r1:∀b,(V b).cell? (f,1)=some (.int .i64 k):=fun b=>by
  obtain⟨_,L,O,P,K⟩:=h.jC b;exact K.blk.c 1 _ rfl
 obtain⟨-,r3,r4,-⟩:=jq.pq fun b=>(h.jC b).1;have⟨i,T,D,n,C,A⟩:=pR h ae I H G e;clear e h ae I H G;rcases TT s.stack with d|⟨N,y,d⟩
 . have o:Zz (lX p k x s=none):=Zy (by unfold lX nZ;rw[d];rfl);have F:=Zy d;clear d;go_enter func219,ntmps219;go_wp2_with fail;rw[<-T.o];refine lq i 13 [([0,1,2,3,4,5,6,7,8,10],9),([],11)] [12] ?_ ?_
   . exact⟨C.ext jA,_,_,_,n.ext jA⟩
   refine nE ?_;intro j c;go_wp2_with fail;refine(xu (n.ext jA) F).mono ?_;rintro a w1 ⟨rfl,ah⟩;have X:=(D.trans jA).trans ah;exact⟨rfl,X.any,A.lM.ext X,.inl ⟨o,rfl⟩⟩
 . rw[TS]at d;have o:Zz (lX p k x s=if may p k y x then some ⟨s.locals,N⟩else none):=Zy (by unfold lX nZ;rw[d];simp);have F:=Zy d;clear d;go_enter func219,ntmps219;go_wp2_with fail;rw[<-T.o];refine lq i 13 [([0,1,2,3,4,5,6,7,8,10],9),([],11)] [12] ?_ ?_
   . exact⟨C.ext jA,_,_,_,n.ext jA⟩
   refine nE ?_;intro j c;go_wp2_with fail;refine(zB (n.ext jA) N y F).mono ?_;rintro a w1 ⟨rfl,⟨aj,W,Z⟩,J⟩;have Y:=((D.trans jA).any).trans J;have aa:=(C.ext jA).kp J (fun a=>by
    rcases a with a|a|a|a
    . omega
    . omega
    . have:=(A.loc.lt _ a).2;omega
    . have:=(A.kY.lt _ a).2;omega)
   have⟨B,Q,af⟩:=jI W aa Y;have ag:Zz (kN w v vs v aj):=Zy (Z.le (by have:=D.size;exact this));clear W Z J Y aa;go_wp2_with fail;refine kk i c ⟨Q,_,_,_,B⟩ ?_;clear c j;refine mF rfl fun j c=>?_;go_wp2_with fail;refine(BP B.lM k y x).mono ?_;rintro a w2 ⟨rfl,r⟩;have⟨g,S,R⟩:=jI (B.ext r) (af.trans r.any) (Q.ext r);clear r;cases u:may p k y x
   . have E:Zz (lX p k x s=none):=Zy (by rw[o.o,u];rfl);clear u;go_wp2_with fail;refine kk i c ⟨R,_,_,_,g⟩ ?_;clear c j;refine uC ?_;go_wp2_with fail;refine(nI f q (g.blk.c 10 _ rfl) ai.1 Zm).mono ?_;rintro a w3 ⟨rfl,rfl⟩;exact⟨rfl,S,g.lM,.inl ⟨E,rfl⟩⟩
   . have E:Zz (lX p k x s=some ⟨s.locals,N⟩):=Zy (by rw[o.o,u];rfl);clear u;go_wp2_with fail;refine kk i c ⟨R,_,_,_,g⟩ ?_;clear c j;refine uC ?_;go_wp2_with fail;refine Ti ?_;exact⟨S,g.lM,.inr ⟨_,E,rfl,_,_,g,ag⟩⟩
theorem xR{t:uR}{D: Value}(y:jO w l p B o k m t v s D vs):Calls prog 223 #[some o] w (jX w l p B o k m t v D vs (qA s)):=by
 have G:=y.KE;have i:=Zy y;clear y;rcases TT s.stack with b|⟨q,A,b⟩
 . have e:Zz (qA s=none):=Zy (by unfold qA nZ;rw[b];rfl);have j:=Zy b;clear b;go_enter func223,ntmps223;go_wp2_with fail;refine(xu i j).mono ?_;rintro x E ⟨rfl,C⟩;exact⟨rfl,C.any,i.lM.ext C,.inl ⟨e,rfl⟩⟩
 . rw[TS]at b;have e:Zz (qA s=if A.kind=2\/A.kind=3 then some ⟨s.locals,q⟩else none):=Zy (by unfold qA nZ;rw[b];simp);have j:=Zy b;clear b;obtain⟨c,K⟩:=A;have H:(c=2\/(c=3/\(c !=2)=true))/\qA s=some ⟨s.locals,q⟩\/((c !=2)=true/\(c !=3)=true)/\qA s=none:=by
    by_cases a:c=2
    . exact .inl ⟨.inl a,by rw[e.o,Ty (.inl a)]⟩
    . by_cases f:c=3
      . exact .inl ⟨.inr ⟨f,TE.2 a⟩,by rw[e.o,Ty (.inr f)]⟩
      . exact .inr ⟨⟨TE.2 a,TE.2 f⟩,by rw[e.o,T9 (by simp[a,f])]⟩
   rcases H with⟨z,a⟩|⟨⟨z,f⟩,a⟩
   . have u:=Zy a;clear a;rcases z with rfl|⟨rfl,z⟩
     all_goals
      go_enter func223,ntmps223;go_wp2_with fail;refine(zB i q _ j).mono ?_;rintro x E ⟨rfl,⟨I,g,n⟩,h⟩;have⟨d,F,r⟩:=jI g n h;clear g n h;go_wp2_with fail;refine Ti ?_;exact⟨r.alloc _,d.lM.ext kx,.inr ⟨_,u,rfl,_,_,d.ext kx,F⟩⟩
   . have u:=Zy a;clear a;go_enter func223,ntmps223;go_wp2_with fail;refine(zB i q _ j).mono ?_;rintro x E ⟨rfl,⟨I,g,n⟩,h⟩;have⟨d,r⟩:=jw g h;clear g n h;go_wp2_with fail;refine(nI o v ((d.ext kx).blk.c 10 _ rfl) G.1 Zm).mono ?_;rintro x J ⟨rfl,rfl⟩;exact⟨rfl,r.alloc _,d.lM.ext kx,.inl ⟨u,rfl⟩⟩
theorem II:zQ 198 3:=⟨_,underlying198,Zo⟩
theorem Ey{P: Nat}{t:uR}{U:Int}(e:jO w l p P N k m t U s vl vs)(a:Int):Calls prog 224 #[some N,a] w fun u O=>((qW m a=none/\u=.returned (.tuple #[.agg #[Tj,(),()],.bool false]))\/∃d r,qW m a=some d/\d∈m.maps/\mI O (· <l.O) d r/\u=.returned (.tuple #[.agg r.toArray,.bool true]))/\Ext w O:=by
 obtain⟨w0,L,H,G⟩:=nu w #[Tj,(),()] 198;have ae:l.O<w:=Tf e.lM.ord e.lM.lt
 obtain⟨hz,-,-,-,-,-,-,-,-,-,c9,-⟩:=e.blk.ca;obtain⟨_,_,vm,J,_,_,K⟩:=e.ml;simp only[oC,U2,Vm,VR]at J;obtain⟨-,-,rfl⟩:=J;have⟨R,Q,F,S⟩:=kD K G H L;have af:=e.mi.maps;obtain⟨ah,aj,ai,ak,ta,tc⟩:=t;simp only at*;clear K G H L e;go_enter func224,ntmps224;go_wp2_with fail;rw[<-S.o];go_loopw [14] (fun z wr=>∃c:Nat,c<=m.maps.length/\z=.int .i64 c/\Ext w0 wr/\Zz (qW m a=(m.maps.drop c).find? fun d=>d.at_=a)) (fun z _=>m.maps.length - (intOf z).toNat)
 case atStart=>exact⟨0,Tz _,rfl,Kp.rr,Zy rfl⟩
 case round=>
  obtain⟨c,hq,rfl,v,n⟩:=hrel;have i:=Q.ext v;obtain⟨yz,y0,y1,y2,-⟩:=i.ca;obtain⟨f0,f1,f2,-⟩:=i.fz;have⟨E,o⟩:=jw i (F.trans v);clear i;by_cases Y:c<m.maps.length
  . obtain⟨b,x⟩:=nV m.maps c Y;obtain⟨V,ag,r,rfl,aa,y,-,I⟩:=R.get x;have T:=Zy y;obtain⟨A,C,B,D,rfl⟩:=y.form;obtain⟨W,g1,g2⟩:=(I.ext (F.trans v)).three;have gz:=jv W;have q:=Zy x;clear y I x;by_cases f:b.at_=a
    . have g:Zz (qW m a=some b):=Zy (by rw[n.o,mM q.o,List.find?_cons_of_pos (by simpa using f)]);have Z:(b.at_==a)=true:=by simpa using f
      clear f;go_wp2_with fail;have j:=Kp.xH (D:=(·=w)) (w:=wr) rfl b.at_ (.slice A b.locals.length C) (.slice B b.stack.length D);have h:=E.xH b.at_ (.slice A b.locals.length C) (.slice B b.stack.length D);refine PG (hU II rfl w rfl [b.at_,.slice A b.locals.length C,.slice B b.stack.length D] ((hQ.kX h).ext (jJ _)) rfl) rfl ?_;exact⟨.inr ⟨b,_,g,Tx q,kE.ext mI.stays (jJ _) (kE.kp mI.stays j (fun V h u=>Zm) (kE.ext mI.stays o.o T.o)),rfl⟩,(o.o.own j (fun k X=>Zm)).alloc _⟩
    . have g:Zz (qW m a=(m.maps.drop (c+1)).find? fun d=>d.at_=a):=Zy (by rw[n.o,mM q.o,List.find?_cons_of_neg (by simpa using f)]);have Z:=SK.2 f;clear f;go_wp2;go_roundw
      case rel=>exact⟨c+1,Zm,Zk,kx,g⟩
      case measure=>exact Zj
  . have g:Zz (qW m a=none):=Zy (by rw[n.o,U7 Zm];rfl);go_wp2_with fail;have j:=Kp.xH (D:=(·=w)) (w:=wr) rfl Tj () ();have h:=E.xH Tj () ();refine PG (hU II rfl w rfl [Tj,(),()] (hQ.kX h) rfl) rfl ?_;exact⟨.inl ⟨g,rfl⟩,o.own j (fun k X=>Zm)⟩
theorem Qm{enc:α->List Value}{k:Nat}(e:∀x,(enc x).length=k):∀(l:List α)(i:Nat)(x:α),l[i]?=some x->∀a b,(enc x)[a]?=some b->(l.flatMap enc)[i*k+a]?=some b:=by
 intro l;induction l with
 |nil=>intro i x f;simp at f
 | cons j h g =>
  intro i x d a b c;rw[V7];cases i with
  |zero=>
   simp at d;subst d;rw[TY (by rw[UM,Tk];exact(Tt.1 c).1),UM,Tk];exact c
  |succ i=>
   rw[TF (by rw[e,Vx];omega),e,show(i+1)*k+a - k=i*k+a from by rw[Vx];omega];exact g i x (by simpa using d) a b c
theorem l5{enc:α->List Value}{k:Nat}(e:∀x,(enc x).length=k){w:World}{base a g n c:Nat}{l:List α}(b:w.ownsRow base a k (g,n,c) n (l.flatMap enc)){i:Nat}{x:α}(h:l[i]?=some x):hQ w g (i*k) (enc x):=by
 intro j m f;have:=b.cells (g:=g) rfl _ _ (Qm e l i x h j m f);unfold Addr.add at this;split at this
 . rename_i d;rw[d];exact this
 . simpa using this
theorem CO{a b:List Tag}{x y:Tag}(c:a[q]?=some x)(d:b[q]?=some y):mU p k (a.drop q) (b.drop q)=(may p k x y&&mU p k (a.drop (q+1)) (b.drop (q+1))):=by
 rw[mM c,mM d];rfl
theorem EE{a b:List Tag}(d:b.length<=q):mU p k (a.drop q) (b.drop q)=true:=by
 have c:=U7 d;rw[c];cases a.drop q<;>rfl
theorem Aa{aJ kb:Nat}{t:uR}{aP:Int}(q:jO w l p aJ kb k m t aP s vl vs)(a:SMap){cs:List Value}(hf:mI w (· <l.O) a cs)(aC:a.locals.length=s.locals.length):Calls prog 225 #[some kb,.agg cs.toArray] w fun af w'=>af=.returned (.bool (lY p k s a))/\Ext w w':=by
 have bn:=Zy hf;obtain⟨aS,aT,ah,ai,rfl⟩:=hf.form;obtain⟨_,_,he,aF,aG⟩:=hf;simp only[U2,Vm,VR]at he;obtain⟨rfl,rfl⟩:=he;obtain⟨w0,aI,ak,b3⟩:=nu w #[a.at_,.slice aS a.locals.length aT,.slice ah a.stack.length ai] 198;have hA:=q.ext ak;obtain⟨sa,sc,rfl⟩:=jS q.kY;obtain⟨la,lc,rfl⟩:=jS q.loc;obtain⟨aA,ag,aD,c⟩:=lL w0;have bg:=fun b=>(hA.blk.ext (c.jC b)).c 12 (.slice sa s.stack.length sc) rfl;have r2:=fun b=>(b3.ext (c.jC b)).c 2 (.slice ah a.stack.length ai) rfl;have⟨f,az,av,HA,aN,ax⟩:=pR c aI ak hA b3 (Tm aF aG);have bq:a.locals.length<=6:=Tf q.Pj q.mi.locals
 have bu:s.stack.length<=5:=Tf q.Q8 q.mi.stack
 have aa:=Zy aC;clear q c aI ak hA b3 aF aG aC;by_cases E:a.stack.length=s.stack.length
 . have R:Zz (lY p k s a=(mU p k s.locals a.locals&&mU p k s.stack a.stack)):=Zy (by unfold lY;rw[Tw E];rfl);have aH:((a.stack.length:Int) !=(s.stack.length:Int))=false:=by simp[E]
   have Q:=Zy E;clear E;go_enter func225,ntmps225;go_wp2_with fail;rw[<-az.o];refine zJ f ?_ ?_;rotate_left;(repeat (go_big_quiet_step ((fail))));refine TP ?_;(rintro _ ⟨T,rfl⟩);rotate_left
   . exact jA
   have S:=f.jC T;generalize ag T=w1 at*;clear f bg r2 aH;have aB:=HA.ext S;have aj:=aN.ext S;obtain⟨-,-,p1,p2,-⟩:=aj.ca;have⟨aK,aM,W⟩:=jI aB aj (av.trans S);clear aB aj S;go_wp2;go_loopw [21] (fun A wr=>∃b:Nat,b<=a.locals.length/\A=.int .i64 b/\Ext w1 wr/\Zz (mU p k s.locals a.locals=mU p k (s.locals.drop b) (a.locals.drop b))) (fun A _=>a.locals.length - (intOf A).toNat)
   case atStart=>exact⟨0,Tz _,rfl,Kp.rr,Zy rfl⟩
   case round=>
    obtain⟨b,hq,rfl,h,C⟩:=hrel;have g:=aK.ext h;have r:=aM.ext h;have bA:=r.c 2 (.slice ah a.stack.length ai) rfl;have⟨V,U,D⟩:=jI r g h;by_cases N:b<a.locals.length
    . obtain⟨i,z⟩:=nV a.locals b N;obtain⟨B,y⟩:=nV s.locals b (by rw[<-aa.o];exact N);obtain⟨aQ,bf,cs,rfl,aU,rfl,-,L⟩:=ax.1.get z;obtain⟨g0,g1⟩:=(L.ext (W.trans h)).two;have gz:=jv g0;have x:=g.loc;obtain⟨lg,aZ,au,aV,aW,aX⟩:=ky x (by rw[<-aa.o];omega);cases au;obtain⟨O,P⟩:=(l5 (enc:=kG) (k:=2) (fun _=>rfl) x y).two;have G:Zz (mU p k s.locals a.locals=(may p k B i&&mU p k (s.locals.drop (b+1)) (a.locals.drop (b+1)))):=Zy (by rw[C.o,CO y z]);obtain⟨I,K,e,J⟩:=nu wr #[i.kind,i.name] 236;obtain⟨aA,ag,aD,c⟩:=lL I;obtain⟨-,e0,e1,-,-,-,-,-,-,-,-,-,aR,-⟩:=jq.pq fun d=>(g.blk.ext (e.trans (c.jC d)));have e2:=fun d=>(e.trans (c.jC d)).jm O;have e3:=fun d=>(e.trans (c.jC d)).jm P;obtain⟨-,e6,e7,-⟩:=jq.pq fun d=>(J.ext (c.jC d));have⟨f,ae,Z,X⟩:=kD c K (g.lM.ext e) e;have aY:(b:Int)<s.locals.length:=Te aa.o
      clear L z y x O P K e J c g r;go_wp2_with fail;rw[<-ae.o];refine lq f 18 [([0,1,2,3,4,5,6,7,8,9,10,11,12,13,14,15],16)] [17] ?_ ?_
      . exact jA
      refine nE ?_;intro H n;go_wp2_with fail;refine(BP (Z.ext jA) k B i).mono ?_;rintro af w5 ⟨rfl,v⟩;have u:=(jA:Ext I _).trans v;have F:=Zy (X.trans u);cases o:may p k B i
      . have j:Zz (lY p k s a=false):=Zy (by rw[R.o,G.o,o];rfl);clear o v;go_wp2_with fail;refine kk f n u ?_;clear n H;refine uC ?_;go_wp2;go_ret;exact⟨hV j.symm,W.trans (D.trans F)⟩
      . have j:Zz (mU p k s.locals a.locals=mU p k (s.locals.drop (b+1)) (a.locals.drop (b+1))):=Zy (by rw[G.o,o];rfl);clear o v;go_wp2_with fail;refine kk f n u ?_;clear n H;refine uC ?_;go_wp2_with fail;refine⟨⟨b+1,Zm,Zk,D.o.trans F.o,j⟩,Zj⟩
    . have ay:Zz (lY p k s a=mU p k s.stack a.stack):=Zy (by rw[R.o,C.o,EE Zm];rfl);obtain⟨wo,rfl⟩:∃wo:World,wo=wr:=⟨_,rfl⟩;have aL:=U;have aO:=V;have Y:=Zy (W.trans h);have bz:a.stack.length<=5:=Te Q.o
      clear U V D g r h C p1 p2;go_wp2;go_loopw [48] (fun A wr=>∃b:Nat,b<=a.stack.length/\A=.int .i64 b/\Ext wo wr/\Zz (mU p k s.stack a.stack=mU p k (s.stack.drop b) (a.stack.drop b))) (fun A _=>a.stack.length - (intOf A).toNat)
      case atStart=>exact⟨0,Tz _,rfl,Kp.rr,Zy rfl⟩
      case round=>
       obtain⟨b,hq,rfl,h,C⟩:=hrel;have g:=aL.ext h;have r:=aO.ext h;have⟨V,U,D⟩:=jI r g h;by_cases N:b<a.stack.length
       . obtain⟨i,z⟩:=nV a.stack b N;obtain⟨B,y⟩:=nV s.stack b (by rw[<-Q.o];exact N);obtain⟨aQ,bf,cs,rfl,aU,rfl,-,L⟩:=ax.2.get z;obtain⟨g0,g1⟩:=(L.ext (Y.trans h)).two;have gz:=jv g0;have x:=g.kY;obtain⟨lg,aZ,au,aV,aW,aX⟩:=ky x (by rw[<-Q.o];omega);cases au;obtain⟨O,P⟩:=(l5 (enc:=kG) (k:=2) (fun _=>rfl) x y).two;have G:Zz (mU p k s.stack a.stack=(may p k B i&&mU p k (s.stack.drop (b+1)) (a.stack.drop (b+1)))):=Zy (by rw[C.o,CO y z]);obtain⟨I,K,e,J⟩:=nu wr #[i.kind,i.name] 236;obtain⟨aA,ag,aD,c⟩:=lL I;obtain⟨-,e0,e1,-⟩:=jq.pq fun d=>(g.blk.ext (e.trans (c.jC d)));have aR:=fun d=>(g.blk.ext (e.trans (c.jC d))).c 12 (lg,s.stack.length,sc) rfl;have e2:=fun d=>(e.trans (c.jC d)).jm O;have e3:=fun d=>(e.trans (c.jC d)).jm P;obtain⟨-,e6,e7,-⟩:=jq.pq fun d=>(J.ext (c.jC d));have⟨f,ae,Z,X⟩:=kD c K (g.lM.ext e) e;have aY:(b:Int)<s.stack.length:=Te Q.o
         clear L z y x O P K e J c g r;go_wp2_with fail;rw[<-ae.o];refine lq f 18 [([0,1,2,3,4,5,6,7,8,9,10,11,12,13,14,15],16)] [17] ?_ ?_
         . exact jA
         refine nE ?_;intro H n;go_wp2_with fail;refine(BP (Z.ext jA) k B i).mono ?_;rintro af w5 ⟨rfl,v⟩;have u:=(jA:Ext I _).trans v;have F:=Zy (X.trans u);cases o:may p k B i
         . have j:Zz (lY p k s a=false):=Zy (by rw[ay.o,G.o,o];rfl);clear o v;go_wp2_with fail;refine kk f n u ?_;clear n H;refine uC ?_;go_wp2;go_ret;exact⟨hV j.symm,Y.trans (D.trans F)⟩
         . have j:Zz (mU p k s.stack a.stack=mU p k (s.stack.drop (b+1)) (a.stack.drop (b+1))):=Zy (by rw[G.o,o];rfl);clear o v;go_wp2_with fail;refine kk f n u ?_;clear n H;refine uC ?_;go_wp2_with fail;refine⟨⟨b+1,Zm,Zk,D.o.trans F.o,j⟩,Zj⟩
       . have j:Zz (lY p k s a=true):=Zy (by rw[ay.o,C.o,EE Zm]);go_wp2;go_ret;exact⟨hV j.symm,Y.trans h⟩
 . have R:Zz (lY p k s a=false):=Zy (by unfold lY;rw[SS E];rfl);have aH:((a.stack.length:Int) !=(s.stack.length:Int))=true:=TE.2 Zm;clear E;go_enter func225,ntmps225;go_wp2_with fail;rw[<-az.o];refine zJ f ?_ ?_;rotate_left;(repeat (go_big_quiet_step ((fail))));refine TP ?_;(rintro _ ⟨T,rfl⟩);rotate_left
   . exact jA
   go_wp2;go_ret;exact⟨hV R.symm,av.trans (f.jC T)⟩
theorem BR{f:SMap}(a:tC m f=true):(f.locals.length:Int)=m.locals/\(f.stack.length:Int)<=m.stack:=by
 unfold tC at a;simp only[RV,Tv]at a;exact⟨a.1.1.1.2,a.1.1.2⟩
theorem yN{v: Nat}{t:uR}{h:Int}{C: Value}(j:jO w l p v e k m t h s C vs)(a:Int):Calls prog 222 #[some e,a] w (jX w l p v e k m t h C vs (mO p k m a s)):=by
 have y:=j.KE;have L:=j.Pj;have b:=Zy j;clear j;go_enter func222,ntmps222;go_wp2_with fail;refine(Ey b a).mono ?_;rintro r N ⟨(⟨A,rfl⟩|⟨i,F,B,z,u,rfl⟩),d⟩
 . have g:Zz (mO p k m a s=none):=Zy (by unfold mO;rw[A];rfl);have⟨f,o⟩:=jw (b.ext d) d;clear A d;go_wp2_with fail;refine(nI e h ((f.ext kx).blk.c 10 _ rfl) y.1 Zm).mono ?_;rintro r E ⟨rfl,rfl⟩;exact⟨rfl,(o.alloc _).any,f.lM.ext kx,.inl ⟨g,rfl⟩⟩
 . have g:Zz (mO p k m a s=if lY p k s i then some s else none):=Zy (by unfold mO;rw[B];rfl);have K:=BR (b.mi.tC i z);have D:=Zy u;obtain⟨G,I,H,J,rfl⟩:=u.form;have⟨f,o⟩:=jw (b.ext d) d;clear B d u z;go_wp2_with fail;refine(Aa (f.ext kx) i (kE.ext mI.stays kx D) Zm).mono ?_;rintro r O ⟨rfl,x⟩;have c:=Zy ((o.alloc _).trans x);clear x;cases n:lY p k s i
   . have q:Zz (mO p k m a s=none):=Zy (by rw[g.o,n];rfl);clear n;go_wp2_with fail;refine(nI e h ((b.ext c).blk.c 10 _ rfl) y.1 Zm).mono ?_;rintro r E ⟨rfl,rfl⟩;exact⟨rfl,c.any,b.lM.ext c,.inl ⟨q,rfl⟩⟩
   . have q:Zz (mO p k m a s=some s):=Zy (by rw[g.o,n];rfl);clear n;go_wp2_with fail;refine Ti ?_;exact⟨c.any,b.lM.ext c,.inr ⟨_,q,rfl,_,_,b.ext c,kN.refl _ _ _⟩⟩
theorem mP{base': Nat}{a:TypeId}{size:Nat}{v:Value}(b:w.ownsRow base a size v n xs)(d:base'<=base):w.ownsRow base' a size v n xs:=
 ⟨b.1,b.2.imp id fun⟨c,cap,cur,e1,hg,r⟩=>⟨c,cap,cur,e1,TV d hg,r⟩⟩
theorem jO.fresh{c: World}{t:uR}{h:Int}{s': lU}{n g: Value}(a:jO w l p o e k m t h s n vs)(i:jq c e 235 (KG l.L k m t h f g))(j:Kp (·=e) w c)(u:c.ownsRow w 236 2 f s'.locals.length (s'.locals.flatMap kG))(v:c.ownsRow w 236 2 g s'.stack.length (s'.stack.flatMap kG))(B:∀d,f.ownBlock=some d->g.ownBlock≠some d)(hl:(s'.locals.length:Int)=m.locals)(A:(s'.stack.length:Int)<=m.stack):Kp (rA l e n vs) w c/\jD c l p/\∃x y,jO c l p o e k m t h s' x y/\kN w n vs x y:=by
 have D:=a.hk;have C:=a.hB;have E:=a.lM.ord;have F:=a.blk.lt;have r:=a.lM.kp j (fun q i b=>Zm);refine⟨j.weak fun q _ b=>.inr (.inl b),r,f,g,⟨r,a.hB,a.hk,kE.kp jy.stays j (fun q i b=>Zm) a.ml,a.mi,i,mP u Zm,mP v Zm,B,a.KE,A,hl⟩,fun d z=>?_⟩;rcases z with b|b
 . exact .inr (.inr (u.lt d b).1)
 . exact .inr (.inr (v.lt d b).1)
theorem MZ{aD: Nat}{t:uR}{e:Int}(g:jO w l p aD c k m t e s vl vs)(ax:Bool):Calls prog 194 #[some c,.bool ax] w (jX w l p aD c k m t e vl vs (nQ p k m ax e s)):=by
 have aI:=g.KE;have bu:=g.Pj;have aH:=g.blk.c 10 e rfl;have bz:=g.lM.ord;have bn:=g.hB;have bq:=g.hk;have d:=Zy g;clear g;cases ax
 all_goals
  go_enter func194,ntmps194;go_wp2_with fail;refine(Ey d e).mono ?_;rintro b O ⟨(⟨ae,rfl⟩|⟨a,cs,ag,aa,N,rfl⟩),h⟩
 . have r:Zz (nQ p k m false e s=none):=Zy (by unfold nQ;rw[ae];rfl);have⟨P,aj⟩:=jw (d.ext h) h;clear ae h;go_wp2_with fail;refine(nI c e ((P.ext kx).blk.c 10 _ rfl) aI.1 Zm).mono ?_;rintro b C ⟨rfl,rfl⟩;exact⟨rfl,(aj.alloc _).any,P.lM.ext kx,.inl ⟨r,rfl⟩⟩
 . have r:Zz (nQ p k m false e s=some ⟨a.locals,a.stack⟩):=Zy (by unfold nQ;rw[ag];rfl);have U:=BR (d.mi.tC a aa);have aV:=Ta d.blk.lt h.size;have aW:=d.mi.locals;have aX:=d.mi.stack;have HF:=Zy N;obtain⟨G,I,H,J,rfl⟩:=N.form;obtain⟨Y,aK,az,F⟩:=nu O #[a.at_,.slice G a.locals.length I,.slice H a.stack.length J] 198;have⟨q,ak⟩:=jw (h.trans az) (kE.ext mI.stays az HF);have y1:=F.c 1 (.slice G a.locals.length I) rfl;have ah:=Zy F;have aZ:=F.lt;have aO:=Zy aK;clear ag h N aa aH az F aK;go_wp2_with fail;rw[<-aO.o];have Q:Zz (SliceOf 2 jZ Y (· <l.O) (.slice G a.locals.length I) a.locals/\SliceOf 2 jZ Y (· <l.O) (.slice H a.stack.length J) a.stack):=Zy (by
    obtain⟨_,_,S,aA,aB⟩:=ak.o;simp only[U2,Vm,VR]at S;obtain⟨rfl,rfl⟩:=S;exact⟨aA,aB⟩)
   refine(uT (SliceOf.toFlat (R:=jZ) (fun _ _ _ _ b=>b) (fun _=>rfl) rY Q.1) Zm).mono ?_;rintro b C ⟨⟨v1,rfl,f⟩,x⟩;obtain⟨R,W,rfl⟩:=jS f;have o:=(d.ext (q.trans x)).blk;have aQ:=o.c 11 vl rfl;have aS:=o.frozen 11;have bf:=o.lt;have L:=ah.ext x;have y2:=L.c 2 (.slice H a.stack.length J) rfl;have n1:¬O=c:=Zm
   have n2:¬c=O:=Zm
   have⟨au,aM,D,av⟩:=kD o L x f;clear o L x f;go_wp2_with fail;obtain⟨v,B⟩:=S9 (C.setCell (c,11) (.slice R a.locals.length W));have j:Kp (·=c) C v:=by rw[B];exact qM
   have u:jq v c 235 (KG l.L k m t e (.slice R a.locals.length W) vs):=by rw[B];exact au.jR 11 _
   rw[<-B];have aU:C.heap.size<=v:=j.size;have V:=(Q.2.ext jZ.stays D).keep jZ.stays (Kp.same j (fun aP K b=>Zm)) (fun _ g=>g);refine(uT (SliceOf.toFlat (R:=jZ) (fun _ _ _ _ b=>b) (fun _=>rfl) rY V) Zm).mono ?_;rintro b X ⟨⟨v2,rfl,A⟩,y⟩;obtain⟨g2,k2,rfl⟩:=jS A;have n:=u.ext y;have aR:=n.c 12 vs rfl;have aT:=n.frozen 12;have bg:=n.lt;have f:=av.o;have z:Kp (·=c) X (X.setCell (c,12) (.slice g2 a.stack.length k2)):=qM;have aC:=q.size;have aY:=D.size;have hF:=d.fresh (s':=⟨a.locals,a.stack⟩) (n.jR 12 _) (((((q.trans D).any (D:=(·=c))).trans j).trans y.any).trans z)
    (mP (jr (jr (jr f j (fun i T K b=>Zm)) y (fun _ _ _ b=>b)) z (fun i T K b=>Zm)) aC)
    (mP (jr A z (fun i T K b=>Zm)) Zm)
    (fun i h1 h2=>Tf ((f.lt i h1).2) ((A.lt i h2).1)) U.1 U.2
   have E:=Zy hF;clear hF z f A n y V u j B;go_wp2_with fail;refine Ti ?_;exact⟨E.1,E.2.1,.inr ⟨_,r,rfl,E.2.2⟩⟩
 . have r:Zz (nQ p k m true e s=some s):=Zy (by unfold nQ;rw[ae];rfl);have⟨P,aj⟩:=jw (d.ext h) h;clear ae h;go_wp2_with fail;refine Ti ?_;exact⟨(aj.alloc _).any,P.lM.ext kx,.inr ⟨_,r,rfl,_,_,P.ext kx,kN.refl _ _ _⟩⟩
 . have r:Zz (nQ p k m true e s=if !lY p k s a then none else some ⟨a.locals,a.stack⟩):=Zy (by unfold nQ;rw[ag];simp);have U:=BR (d.mi.tC a aa);have aV:=Ta d.blk.lt h.size;have aW:=d.mi.locals;have aX:=d.mi.stack;have HF:=Zy N;obtain⟨G,I,H,J,rfl⟩:=N.form;obtain⟨wq,aJ,ay,F⟩:=nu O #[a.at_,.slice G a.locals.length I,.slice H a.stack.length J] 198;have⟨ai,aF,aL,aG⟩:=kD (h.trans ay) (kE.ext mI.stays ay HF) F aJ;clear ag h N aa aH ay F aJ;go_wp2_with fail;rw[<-aG.o];refine(Aa (d.ext ai) a aF Zm).mono ?_;rintro b Y ⟨rfl,Z⟩;have u:=aL.ext Z;have y1:=u.c 1 (.slice G a.locals.length I) rfl;have ah:=Zy u;have aZ:=u.lt;have⟨q,ak⟩:=jw (ai.trans Z) (kE.ext mI.stays Z aF);clear Z u aG ai;cases af:lY p k s a
   . have aN:Zz (nQ p k m true e s=none):=Zy (by rw[r.o,af];rfl);clear af;go_wp2_with fail;refine(nI c e ((d.ext q).blk.c 10 _ rfl) aI.1 Zm).mono ?_;rintro b C ⟨rfl,rfl⟩;exact⟨rfl,q.any,d.lM.ext q,.inl ⟨aN,rfl⟩⟩
   replace r:Zz (nQ p k m true e s=some ⟨a.locals,a.stack⟩):=Zy (by rw[r.o,af];rfl);clear af;go_wp2_with fail;have Q:Zz (SliceOf 2 jZ Y (· <l.O) (.slice G a.locals.length I) a.locals/\SliceOf 2 jZ Y (· <l.O) (.slice H a.stack.length J) a.stack):=Zy (by
    obtain⟨_,_,S,aA,aB⟩:=ak.o;simp only[U2,Vm,VR]at S;obtain⟨rfl,rfl⟩:=S;exact⟨aA,aB⟩)
   refine(uT (SliceOf.toFlat (R:=jZ) (fun _ _ _ _ b=>b) (fun _=>rfl) rY Q.1) Zm).mono ?_;rintro b C ⟨⟨v1,rfl,f⟩,x⟩;obtain⟨R,W,rfl⟩:=jS f;have o:=(d.ext (q.trans x)).blk;have aQ:=o.c 11 vl rfl;have aS:=o.frozen 11;have bf:=o.lt;have L:=ah.ext x;have y2:=L.c 2 (.slice H a.stack.length J) rfl;have n1:¬O=c:=Zm
   have n2:¬c=O:=Zm
   have⟨au,aM,D,av⟩:=kD o L x f;clear o L x f;go_wp2_with fail;obtain⟨v,B⟩:=S9 (C.setCell (c,11) (.slice R a.locals.length W));have j:Kp (·=c) C v:=by rw[B];exact qM
   have u:jq v c 235 (KG l.L k m t e (.slice R a.locals.length W) vs):=by rw[B];exact au.jR 11 _
   rw[<-B];have aU:=j.size;have V:=(Q.2.ext jZ.stays D).keep jZ.stays (Kp.same j (fun aP K b=>Zm)) (fun _ g=>g);refine(uT (SliceOf.toFlat (R:=jZ) (fun _ _ _ _ b=>b) (fun _=>rfl) rY V) Zm).mono ?_;rintro b X ⟨⟨v2,rfl,A⟩,y⟩;obtain⟨g2,k2,rfl⟩:=jS A;have n:=u.ext y;have aR:=n.c 12 vs rfl;have aT:=n.frozen 12;have bg:=n.lt;have f:=av.o;have z:Kp (·=c) X (X.setCell (c,12) (.slice g2 a.stack.length k2)):=qM;have aC:=q.size;have aY:=D.size;have hF:=d.fresh (s':=⟨a.locals,a.stack⟩) (n.jR 12 _) (((((q.trans D).any (D:=(·=c))).trans j).trans y.any).trans z)
    (mP (jr (jr (jr f j (fun i T K b=>Zm)) y (fun _ _ _ b=>b)) z (fun i T K b=>Zm)) aC)
    (mP (jr A z (fun i T K b=>Zm)) Zm)
    (fun i h1 h2=>Tf ((f.lt i h1).2) ((A.lt i h2).1)) U.1 U.2
   have E:=Zy hF;clear hF z f A n y V u j B;go_wp2_with fail;refine Ti ?_;exact⟨E.1,E.2.1,.inr ⟨_,r,rfl,E.2.2⟩⟩
section
variable {w w1 w2:World}{l:jB}{p:M.jl}{B kb:Nat}{k:Int}{m:M.Method}{t:uR}{at_:Int}{vl vs vl1 vs1:Value}{o:Option M.lU}{e:Ending}{s':M.lU}
theorem jX.after(d:Kp (rA l kb vl vs) w w1)(f:kN w vl vs vl1 vs1)(c:jX w1 l p B kb k m t at_ vl1 vs1 o e w2):jX w l p B kb k m t at_ vl vs o e w2:=
 ⟨d.look c.1 f,c.2.1,c.2.2.imp id fun⟨s',h1,h2,a,b,h3,h4⟩=>⟨s',h1,h2,a,b,h3,f.trans h4 d.size⟩⟩
theorem jX.behind(b:Ext w w1)(a:jX w1 l p B kb k m t at_ vl vs o e w2):jX w l p B kb k m t at_ vl vs o e w2:=
 jX.after b.any (kN.refl _ _ _) a
end
theorem zD:Calls prog 217 #[] w fun a b=>a=.returned (.agg #[lG.kind,lG.name])/\Ext w b:=by
 go_enter func217,ntmps217;go_wp2;refine PG (jM uM rfl w rfl [.int .i64 1,none_] (hQ.kX (jq.new _ _ _)) rfl) rfl ?_;exact⟨rfl,kx⟩
theorem zo(w:World)(n:ByteArray):Calls prog 149 #[n] w fun a b=>a=.returned (.agg #[.int .i64 (kP n).kind,.string (kP n).name])/\Ext w b:=by
 go_enter func149,ntmps149;go_wp2;refine PG (jM uM rfl w rfl [.int .i64 2,n] (hQ.kX (jq.new _ _ _)) rfl) rfl ?_;exact⟨rfl,kx⟩
theorem jq.set2(d:jq w b t #[u0,u1])(a c:Value):jq ((w.setCell b a).setCell (b,1) c) b t #[a,c]:=
 (d.jR 0 a).jR 1 c
theorem Kp.Ma{a: World}(e:Kp D w a)(g:w<=b)(c d:Value):Kp D w ((a.setCell b c).setCell (b,1) d):=
 e.own (D':=(·=b)) (((Kp.refl (·=b) a).setCell (p:=⟨b,0,none⟩) (fun _=>rfl) c).setCell (p:=⟨b,1,none⟩) (fun _=>rfl) d) (fun h f=>Zm)
theorem Ci(w:World)(x:Kind):Calls prog 150 #[.agg #[x.kind,x.name]] w fun l y=>l=.returned (.agg #[.int .i64 (kH x).kind,.string (kH x).name])/\Ext w y:=by
 obtain⟨b,c⟩:=x;obtain⟨g,f⟩:=S9 ((w.alloc (.cells #[b,c] 109)).alloc (.cells #[Tj,""] 236));have r:Ext w g:=by rw[f];exact kx
 have p:jq g w 109 #[b,c]:=by rw[f];exact(jq.new _ _ _).ext kx
 have q:jq g (w+1) 236 #[Tj,""]:=by rw[f];exact jq.newAt _ _ Zl
 have⟨o,n,t,m⟩:=kD f r p q;clear f r p q;cases e:mg ⟨b,c⟩
 . have j:Zz (kH ⟨b,c⟩=wU):=Zy (by unfold kH;rw[e];rfl);have k:=Zy e;clear e;go_enter func150,ntmps150;go_wp2_with fail;rw[<-o.o];refine(BK ⟨b,c⟩).mono ?_;rintro l z ⟨rfl,d⟩;rw[k.o];have a:=m.ext d;obtain⟨C,A,B,-⟩:=a.ca;obtain⟨u,v,-⟩:=a.fz;have⟨h,i⟩:=jw a (n.trans d);clear d a;go_wp2_with fail;refine PG (jM uM rfl (w+1) rfl [Tj,""] (hQ.kX (h.set2 _ _)) rfl) rfl ?_;exact⟨by rw[j.o];rfl,i.Ma Zm _ _⟩
 . have j:Zz (kH ⟨b,c⟩=⟨b,c⟩):=Zy (by unfold kH;rw[e];rfl);have k:=Zy e;clear e;go_enter func150,ntmps150;go_wp2_with fail;rw[<-o.o];refine(BK ⟨b,c⟩).mono ?_;rintro l z ⟨rfl,d⟩;rw[k.o];have a:=m.ext d;have s:=t.ext d;obtain⟨-,D,E,-⟩:=s.ca;obtain⟨C,A,B,-⟩:=a.ca;obtain⟨u,v,-⟩:=a.fz;have⟨h,i⟩:=jw a (n.trans d);clear d a s;go_wp2_with fail;refine PG (jM uM rfl (w+1) rfl [b,c] (hQ.kX (h.set2 _ _)) rfl) rfl ?_;exact⟨by rw[j.o],i.Ma Zm _ _⟩
theorem Pb{t:uR}{f:Int}{n: Value}(g:jO w l p c b k m t f s n vs)(i:Ins)(j:i.op=1):Calls prog 179 #[some b,.agg #[i.op,i.a,i.name,i.member]] w (jX w l p c b k m t f n vs (jQ p k m i s)):=by
 have q:Zz (jQ p k m i s=lK m lG s):=Zy (by unfold jQ;rw[j];rfl);have o:=Zy g;clear g j;go_enter func179,ntmps179;go_wp2_with fail;refine(zD).mono ?_;rintro r v ⟨rfl,h⟩;have d:=Zy ((kx:Ext w _).trans h);clear h;go_wp2_with fail;refine(sJ _ (o.ext d) lG).mono ?_;rintro r x a;rw[<-q.o]at a;have e:=Zy (jX.behind d a);rcases a.2.2 with⟨-,rfl⟩|⟨u,-,rfl,-⟩
 . exact⟨rfl,e⟩
 . clear a;go_wp2_with fail;refine Ti ?_;exact e
theorem jO.qo{t:uR}{f:Int}{d: Value}(a:jO w l p e c k m t f s d vs):¬rA l c d vs w.heap.size:=by
 have g:=a.blk.lt;have h:=a.lM.ord;have i:=a.hB;have j:=a.hk;rintro(b|b|b|b)
 . omega
 . omega
 . have:=(a.loc.lt _ b).2;omega
 . have:=(a.kY.lt _ b).2;omega
theorem O6{A v:Nat}{t:uR}{B:Int}{x: Value}(u:jO w l p A v k m t B s x vs)(i:Ins)(D:i.op=4):Calls prog 182 #[some v,.agg #[i.op,i.a,i.name,i.member]] w (jX w l p A v k m t B x vs (jQ p k m i s)):=by
 have g:Zz (jQ p k m i s=(lX p k lG s).bind fun G=>(lX p k lG G).bind (lK m lG)):=Zy (by unfold jQ;rw[D];rfl);obtain⟨z,E,y,C⟩:=nu w #[i.op,i.a,i.name,i.member] 134;have⟨F,a⟩:=jw E (u.ext y);have c:Zz (Kp (rA l v x vs) z z):=Zy Kp.rr;have⟨o,r,K⟩:=jI (kN.refl z x vs) y C;have L:=u.blk.lt;have N:=jO.qo u;clear D u y C E;go_enter func182,ntmps182;go_wp2_with fail;rw[<-F.o];refine(zD).mono ?_;rintro q U ⟨rfl,d⟩;replace a:=Zy (a.ext d);replace c:=Zy (c.trans d.any);clear d;go_wp2_with fail;refine(oM _ a lG).mono ?_;rintro q V e;replace e:=jX.after c o e;rcases e with⟨f,j,⟨b,rfl⟩|⟨H,b,rfl,O,R,h,n⟩⟩
 . exact⟨rfl,jX.behind r ⟨f,j,.inl ⟨by rw[g.o,b];try rfl,rfl⟩⟩⟩
 replace g:Zz (jQ p k m i s=(lX p k lG H).bind (lK m lG)):=Zy (by rw[g.o,b];try rfl);replace a:=Zy h;replace c:=Zy f;replace o:=Zy n;clear h f n j b;go_wp2_with fail;refine(zD).mono ?_;rintro q W ⟨rfl,d⟩;replace a:=Zy (a.ext d);replace c:=Zy (c.trans d.any);clear d;go_wp2_with fail;refine(oM _ a lG).mono ?_;rintro q X e;replace e:=jX.after c o e;rcases e with⟨f,j,⟨b,rfl⟩|⟨I,b,rfl,P,S,h,n⟩⟩
 . exact⟨rfl,jX.behind r ⟨f,j,.inl ⟨by rw[g.o,b];try rfl,rfl⟩⟩⟩
 replace g:Zz (jQ p k m i s=lK m lG I):=Zy (by rw[g.o,b];try rfl);replace a:=Zy h;replace c:=Zy f;replace o:=Zy n;clear h f n j b;go_wp2_with fail;refine(zD).mono ?_;rintro q Y ⟨rfl,d⟩;replace a:=Zy (a.ext d);replace c:=Zy (c.trans d.any);clear d;go_wp2_with fail;refine(sJ _ a lG).mono ?_;rintro q Z e;replace e:=jX.after c o e;rcases e with⟨f,j,⟨b,rfl⟩|⟨J,b,rfl,Q,T,h,n⟩⟩
 . exact⟨rfl,jX.behind r ⟨f,j,.inl ⟨by rw[g.o,b];try rfl,rfl⟩⟩⟩
 replace g:Zz (jQ p k m i s=some J):=Zy (by rw[g.o,b];try rfl);replace a:=Zy h;replace c:=Zy f;replace o:=Zy n;clear h f n j b;go_wp2_with fail;refine Ti ?_;exact jX.behind r ⟨c,a.lM,.inr ⟨_,g,rfl,_,_,a,o⟩⟩
theorem M0{r: Nat}{t:uR}(c:jO w l p r e k m t v s f vs)(i:Ins)(B:i.op=5):Calls prog 183 #[some e,.agg #[i.op,i.a,i.name,i.member]] w (jX w l p r e k m t v f vs (jQ p k m i s)):=by
 have b:Zz (jQ p k m i s=lK m zC s):=Zy (by unfold jQ;rw[B];rfl);obtain⟨q,C,j,x⟩:=nu w #[i.op,i.a,i.name,i.member] 134;have⟨D,a⟩:=jw C (c.ext j);have g:Zz (Kp (rA l e f vs) q q):=Zy Kp.rr;have⟨h,u,F⟩:=jI (kN.refl q f vs) j x;have H:=c.blk.lt;have I:=jO.qo c;clear B c j x C;go_enter func183,ntmps183;go_wp2_with fail;rw[<-D.o];refine(sJ _ a zC).mono ?_;rintro G L n;replace n:=jX.after g h n;rcases n with⟨o,z,⟨d,rfl⟩|⟨E,d,rfl,J,K,y,A⟩⟩
 . exact⟨rfl,jX.behind u ⟨o,z,.inl ⟨by rw[b.o,d];try rfl,rfl⟩⟩⟩
 replace b:Zz (jQ p k m i s=some E):=Zy (by rw[b.o,d];try rfl);replace a:=Zy y;replace g:=Zy o;replace h:=Zy A;clear y o A z d;go_wp2_with fail;refine Ti ?_;exact jX.behind u ⟨g,a.lM,.inr ⟨_,b,rfl,_,_,a,h⟩⟩
theorem O9{v f:Nat}{t:uR}{y:Int}{g: Value}(d:jO w l p v f k m t y s g vs)(i:Ins)(C:i.op=6):Calls prog 184 #[some f,.agg #[i.op,i.a,i.name,i.member]] w (jX w l p v f k m t y g vs (jQ p k m i s)):=by
 have c:Zz (jQ p k m i s=lK m (kP i.name) s):=Zy (by unfold jQ;rw[C];rfl);obtain⟨u,D,o,j⟩:=nu w #[i.op,i.a,i.name,i.member] 134;have⟨E,a⟩:=jw D (d.ext o);have b:Zz (Kp (rA l f g vs) u u):=Zy Kp.rr;have⟨h,x,H⟩:=jI (kN.refl u g vs) o j;have I:=d.blk.lt;have J:=jO.qo d;have P:=j.c 2 i.name rfl;clear C d o j D;go_enter func184,ntmps184;go_wp2_with fail;rw[<-E.o];refine(zo _ i.name).mono ?_;rintro F N ⟨rfl,n⟩;replace a:=Zy (a.ext n);replace b:=Zy (b.trans n.any);clear n;go_wp2_with fail;refine(sJ _ a (kP i.name)).mono ?_;rintro F O q;replace q:=jX.after b h q;rcases q with⟨r,A,⟨e,rfl⟩|⟨G,e,rfl,K,L,z,B⟩⟩
 . exact⟨rfl,jX.behind x ⟨r,A,.inl ⟨by rw[c.o,e];try rfl,rfl⟩⟩⟩
 replace c:Zz (jQ p k m i s=some G):=Zy (by rw[c.o,e];try rfl);replace a:=Zy z;replace b:=Zy r;replace h:=Zy B;clear z r B A e;go_wp2_with fail;refine Ti ?_;exact jX.behind x ⟨b,a.lM,.inr ⟨_,c,rfl,_,_,a,h⟩⟩
theorem Pd{f: Nat}{t:uR}{g: Value}(d:jO w l p u f k m t x s g vs)(i:Ins)(C:i.op=14):Calls prog 192 #[some f,.agg #[i.op,i.a,i.name,i.member]] w (jX w l p u f k m t x g vs (jQ p k m i s)):=by
 have c:Zz (jQ p k m i s=lX p k lG s):=Zy (by unfold jQ;rw[C];rfl);obtain⟨r,D,n,y⟩:=nu w #[i.op,i.a,i.name,i.member] 134;have⟨E,a⟩:=jw D (d.ext n);have b:Zz (Kp (rA l f g vs) r r):=Zy Kp.rr;have⟨h,v,H⟩:=jI (kN.refl r g vs) n y;have I:=d.blk.lt;have J:=jO.qo d;clear C d n y D;go_enter func192,ntmps192;go_wp2_with fail;rw[<-E.o];refine(zD).mono ?_;rintro F N ⟨rfl,j⟩;replace a:=Zy (a.ext j);replace b:=Zy (b.trans j.any);clear j;go_wp2_with fail;refine(oM _ a lG).mono ?_;rintro F O o;replace o:=jX.after b h o;rcases o with⟨q,A,⟨e,rfl⟩|⟨G,e,rfl,K,L,z,B⟩⟩
 . exact⟨rfl,jX.behind v ⟨q,A,.inl ⟨by rw[c.o,e];try rfl,rfl⟩⟩⟩
 replace c:Zz (jQ p k m i s=some G):=Zy (by rw[c.o,e];try rfl);replace a:=Zy z;replace b:=Zy q;replace h:=Zy B;clear z q B A e;go_wp2_with fail;refine Ti ?_;exact jX.behind v ⟨b,a.lM,.inr ⟨_,c,rfl,_,_,a,h⟩⟩
theorem Qx{t:uR}(c:jO w l p u e k m t x s f vs)(i:Ins)(B:i.op=13):Calls prog 191 #[some e,.agg #[i.op,i.a,i.name,i.member]] w (jX w l p u e k m t x f vs (jQ p k m i s)):=by
 have b:Zz (jQ p k m i s=mO p k m i.a s):=Zy (by unfold jQ;rw[B];rfl);obtain⟨r,C,n,j⟩:=nu w #[i.op,i.a,i.name,i.member] 134;have⟨D,a⟩:=jw C (c.ext n);have g:Zz (Kp (rA l e f vs) r r):=Zy Kp.rr;have⟨h,v,F⟩:=jI (kN.refl r f vs) n j;have I:=c.blk.lt;have J:=jO.qo c;obtain⟨H,-,O,-⟩:=j.ca;clear B c n j C;go_enter func191,ntmps191;go_wp2_with fail;rw[<-D.o];refine(yN a i.a).mono ?_;rintro G N o;replace o:=jX.after g h o;rcases o with⟨q,z,⟨d,rfl⟩|⟨E,d,rfl,K,L,y,A⟩⟩
 . exact⟨rfl,jX.behind v ⟨q,z,.inl ⟨by rw[b.o,d];try rfl,rfl⟩⟩⟩
 replace b:Zz (jQ p k m i s=some E):=Zy (by rw[b.o,d];try rfl);replace a:=Zy y;replace g:=Zy q;replace h:=Zy A;clear y q A z d;go_wp2_with fail;refine Ti ?_;exact jX.behind v ⟨g,a.lM,.inr ⟨_,b,rfl,_,_,a,h⟩⟩
theorem M3{t:uR}(o:jO w l p z q k m t A s r vs)(i:Ins)(D:i.op=11):Calls prog 189 #[some q,.agg #[i.op,i.a,i.name,i.member]] w (jX w l p z q k m t A r vs (jQ p k m i s)):=by
 have d:Zz (jQ p k m i s=(lX p k lG s).bind (mO p k m i.a)):=Zy (by unfold jQ;rw[D];rfl);obtain⟨y,E,x,B⟩:=nu w #[i.op,i.a,i.name,i.member] 134;have⟨G,b⟩:=jw E (o.ext x);have c:Zz (Kp (rA l q r vs) y y):=Zy Kp.rr;have⟨g,u,F⟩:=jI (kN.refl y r vs) x B;have K:=o.blk.lt;have H:=jO.qo o;clear D o x B E;go_enter func189,ntmps189;go_wp2_with fail;rw[<-G.o];refine(zD).mono ?_;rintro C Q ⟨rfl,v⟩;replace b:=Zy (b.ext v);replace c:=Zy (c.trans v.any);clear v;go_wp2_with fail;refine(oM _ b lG).mono ?_;rintro C R e;replace e:=jX.after c g e;rcases e with⟨f,j,⟨a,rfl⟩|⟨I,a,rfl,L,O,h,n⟩⟩
 . exact⟨rfl,jX.behind u ⟨f,j,.inl ⟨by rw[d.o,a];try rfl,rfl⟩⟩⟩
 replace d:Zz (jQ p k m i s=mO p k m i.a I):=Zy (by rw[d.o,a];try rfl);replace b:=Zy h;replace c:=Zy f;replace g:=Zy n;clear h f n j a;have T:=(F.kp c H).c 1 i.a rfl;go_wp2_with fail;refine(yN b i.a).mono ?_;rintro C S e;replace e:=jX.after c g e;rcases e with⟨f,j,⟨a,rfl⟩|⟨J,a,rfl,N,P,h,n⟩⟩
 . exact⟨rfl,jX.behind u ⟨f,j,.inl ⟨by rw[d.o,a];try rfl,rfl⟩⟩⟩
 replace d:Zz (jQ p k m i s=some J):=Zy (by rw[d.o,a];try rfl);replace b:=Zy h;replace c:=Zy f;replace g:=Zy n;clear h f n j a;go_wp2_with fail;refine Ti ?_;exact jX.behind u ⟨c,b.lM,.inr ⟨_,d,rfl,_,_,b,g⟩⟩
theorem KM{y: Nat}{t:uR}{z:Int}(o:jO w l p y q k m t z s r vs)(i:Ins)(B:i.op=12):Calls prog 190 #[some q,.agg #[i.op,i.a,i.name,i.member]] w (jX w l p y q k m t z r vs (jQ p k m i s)):=by
 have b:Zz (jQ p k m i s=(qA s).bind (mO p k m i.a)):=Zy (by unfold jQ;rw[B];rfl);obtain⟨x,C,v,A⟩:=nu w #[i.op,i.a,i.name,i.member] 134;have⟨E,e⟩:=jw C (o.ext v);have f:Zz (Kp (rA l q r vs) x x):=Zy Kp.rr;have⟨g,u,D⟩:=jI (kN.refl x r vs) v A;have J:=o.blk.lt;have G:=jO.qo o;clear B o v A C;go_enter func190,ntmps190;go_wp2_with fail;rw[<-E.o];refine(xR e).mono ?_;rintro F P c;replace c:=jX.after f g c;rcases c with⟨d,j,⟨a,rfl⟩|⟨H,a,rfl,K,N,h,n⟩⟩
 . exact⟨rfl,jX.behind u ⟨d,j,.inl ⟨by rw[b.o,a];try rfl,rfl⟩⟩⟩
 replace b:Zz (jQ p k m i s=mO p k m i.a H):=Zy (by rw[b.o,a];try rfl);replace e:=Zy h;replace f:=Zy d;replace g:=Zy n;clear h d n j a;have R:=(D.kp f G).c 1 i.a rfl;go_wp2_with fail;refine(yN e i.a).mono ?_;rintro F Q c;replace c:=jX.after f g c;rcases c with⟨d,j,⟨a,rfl⟩|⟨I,a,rfl,L,O,h,n⟩⟩
 . exact⟨rfl,jX.behind u ⟨d,j,.inl ⟨by rw[b.o,a];try rfl,rfl⟩⟩⟩
 replace b:Zz (jQ p k m i s=some I):=Zy (by rw[b.o,a];try rfl);replace e:=Zy h;replace f:=Zy d;replace g:=Zy n;clear h d n j a;go_wp2_with fail;refine Ti ?_;exact jX.behind u ⟨f,e.lM,.inr ⟨_,b,rfl,_,_,e,g⟩⟩
theorem MW{t:uR}(o:jO w l p z q k m t A s r vs)(i:Ins)(D:i.op=15):Calls prog 193 #[some q,.agg #[i.op,i.a,i.name,i.member]] w (jX w l p z q k m t A r vs (jQ p k m i s)):=by
 have d:Zz (jQ p k m i s=(qA s).bind (lK m (kP i.name))):=Zy (by unfold jQ;rw[D];rfl);obtain⟨y,E,x,B⟩:=nu w #[i.op,i.a,i.name,i.member] 134;have⟨G,b⟩:=jw E (o.ext x);have c:Zz (Kp (rA l q r vs) y y):=Zy Kp.rr;have⟨g,u,F⟩:=jI (kN.refl y r vs) x B;have K:=o.blk.lt;have H:=jO.qo o;clear D o x B E;go_enter func193,ntmps193;go_wp2_with fail;rw[<-G.o];refine(xR b).mono ?_;rintro C Q e;replace e:=jX.after c g e;rcases e with⟨f,j,⟨a,rfl⟩|⟨I,a,rfl,L,O,h,n⟩⟩
 . exact⟨rfl,jX.behind u ⟨f,j,.inl ⟨by rw[d.o,a];try rfl,rfl⟩⟩⟩
 replace d:Zz (jQ p k m i s=lK m (kP i.name) I):=Zy (by rw[d.o,a];try rfl);replace b:=Zy h;replace c:=Zy f;replace g:=Zy n;clear h f n j a;have T:=(F.kp c H).c 2 i.name rfl;go_wp2_with fail;refine(zo _ i.name).mono ?_;rintro C R ⟨rfl,v⟩;replace b:=Zy (b.ext v);replace c:=Zy (c.trans v.any);clear v;go_wp2_with fail;refine(sJ _ b (kP i.name)).mono ?_;rintro C S e;replace e:=jX.after c g e;rcases e with⟨f,j,⟨a,rfl⟩|⟨J,a,rfl,N,P,h,n⟩⟩
 . exact⟨rfl,jX.behind u ⟨f,j,.inl ⟨by rw[d.o,a];try rfl,rfl⟩⟩⟩
 replace d:Zz (jQ p k m i s=some J):=Zy (by rw[d.o,a];try rfl);replace b:=Zy h;replace c:=Zy f;replace g:=Zy n;clear h f n j a;go_wp2_with fail;refine Ti ?_;exact jX.behind u ⟨c,b.lM,.inr ⟨_,d,rfl,_,_,b,g⟩⟩
theorem Pf{f: Nat}{t:uR}{g: Value}(c:jO w l p u f k m t x s g vs)(i:Ins)(C:i.op=10):Calls prog 188 #[some f,.agg #[i.op,i.a,i.name,i.member]] w (jX w l p u f k m t x g vs (jQ p k m i s)):=by
 have d:Zz (jQ p k m i s=lX p k (kH m.ret) s):=Zy (by unfold jQ;rw[C];rfl);obtain⟨r,D,n,y⟩:=nu w #[i.op,i.a,i.name,i.member] 134;have⟨E,a⟩:=jw D (c.ext n);have b:Zz (Kp (rA l f g vs) r r):=Zy Kp.rr;have⟨h,v,H⟩:=jI (kN.refl r g vs) n y;have I:=c.blk.lt;have J:=jO.qo c;obtain⟨-,-,-,-,-,P,Q,-⟩:=c.blk.ca;clear C c n y D;go_enter func188,ntmps188;go_wp2_with fail;rw[<-E.o];refine(Ci _ m.ret).mono ?_;rintro F N ⟨rfl,j⟩;replace a:=Zy (a.ext j);replace b:=Zy (b.trans j.any);clear j;go_wp2_with fail;refine(oM _ a (kH m.ret)).mono ?_;rintro F O o;replace o:=jX.after b h o;rcases o with⟨q,A,⟨e,rfl⟩|⟨G,e,rfl,K,L,z,B⟩⟩
 . exact⟨rfl,jX.behind v ⟨q,A,.inl ⟨by rw[d.o,e];try rfl,rfl⟩⟩⟩
 replace d:Zz (jQ p k m i s=some G):=Zy (by rw[d.o,e];try rfl);replace a:=Zy z;replace b:=Zy q;replace h:=Zy B;clear z q B A e;go_wp2_with fail;refine Ti ?_;exact jX.behind v ⟨b,a.lM,.inr ⟨_,d,rfl,_,_,a,h⟩⟩
theorem Ph{t:uR}{u:Int}{T: Value}(h:jO w l p B n k m t u s T vs)(i:Ins)(y:i.op=2)(Q:0<=i.a/\i.a<m.locals):Calls prog 180 #[some n,.agg #[i.op,i.a,i.name,i.member]] w (jX w l p B n k m t u T vs (jQ p k m i s)):=by
 have c:Zz (jQ p k m i s=(s.locals[i.a.toNat]?).bind fun t=>if t.kind=0 then none else lK m t s):=Zy (by unfold jQ;rw[y];rfl);obtain⟨r,H,q,o⟩:=i;dsimp only at y Q c;obtain⟨b,rfl⟩:∃b:Nat,H=b:=⟨H.toNat,Zm⟩;have ae:b<s.locals.length:=Te h.Pj
 obtain⟨a,z⟩:=nV s.locals b ae;replace c:Zz (jQ p k m ⟨r,b,q,o⟩ s=if a.kind=0 then none else lK m a s):=Zy (by rw[c.o,UD,z];rfl);obtain⟨d,S,v,I⟩:=nu w #[r,b,q,o] 134;have j:=h.ext v;have x:=j.loc;obtain⟨lg,af,aa,ai,aj,ak⟩:=ky x Zm;subst aa;obtain⟨U,V⟩:=(l5 (enc:=kG) (k:=2) (fun _=>rfl) x z).two;obtain⟨ag,ah,au,f⟩:=lL d;have K:=fun e=>(j.blk.ext (f.jC e)).c 11 (lg,s.locals.length,af) rfl;have J:=fun e=>(I.ext (f.jC e)).c 1 b rfl;have L:=fun e=>(f.jC e).jm U;have N:=fun e=>(f.jC e).jm V;have av:(b:Int)<s.locals.length:=Zm
 have Z:=h.KE;have hz:=h.blk.lt;have⟨F,W,D,C⟩:=kD f S v j;clear h y z S v I j x f U V Q;have R:(a.kind==0)=true\/(a.kind==0)=false:=by cases (a.kind==0)<;>simp
 go_enter func180,ntmps180;go_wp2_with fail;rw[<-W.o];refine lq F 9 [([0,1,2,3,4,5,6,7],8)] [] ?_ ?_
 . exact jA
 refine nE ?_;intro X P;go_wp2_with fail;refine kk F P kx ?_;clear P X;refine lD ?_;go_wp2_with fail
 . clear R K J L N;have A:(a.kind==0)=true:=by assumption
   replace c:Zz (jQ p k m ⟨r,b,q,o⟩ s=none):=Zy (by rw[c.o,Ty (by simpa using A)]);have O:=C.ext (kx:Ext d ((d.alloc (.cells #[a.kind,a.name] 236)).drew));refine(nI n u (O.blk.c 10 _ rfl) Z.1 Zm).mono ?_;rintro Y w3 ⟨rfl,rfl⟩;exact⟨rfl,jX.behind D ⟨(kx:Ext d ((d.alloc (.cells #[a.kind,a.name] 236)).drew)).any,O.lM,.inl ⟨c,rfl⟩⟩⟩
 . clear R K J L N;have A:(a.kind==0)=false:=by assumption
   replace c:Zz (jQ p k m ⟨r,b,q,o⟩ s=lK m a s):=Zy (by rw[c.o,T9 (by simpa using A)]);have E:Zz (Ext d ((d.alloc (.cells #[a.kind,a.name] 236)).drew)):=Zy kx;refine(sJ _ (C.ext E) a).mono ?_;rintro Y w2 g;replace g:=jX.behind (D.trans E) g;rw[<-c.o]at g;have G:=Zy g;rcases g.2.2 with⟨-,rfl⟩|⟨s',-,rfl,-⟩
   . exact⟨rfl,G⟩
   . clear g;go_wp2_with fail;refine Ti ?_;exact G
theorem Gq:∀(a:List Tag)(q:Nat)(x:Tag),((a.flatMap kG).set (q*2) x.kind).set (q*2+1) x.name=(a.set q x).flatMap kG:=by
 intro a;induction a with
 |nil=>intro q x;rfl
 | cons d c b =>
  intro q x;cases q with
  |zero=>simp[kG]
  |succ q=>
   have:=b q x;rw[show(q+1)*2=q*2+2 from by omega];simp[kG,V7,U1]at this |-;exact this
theorem jO.vJ{t:uR}{h:Int}{f: Nat}(a:jO w l p g e k m t h s (b,s.locals.length,f) vs)(q:Nat)(x:Tag):jO ((w.setCell (b,q*2) x.kind).setCell (b,q*2+1) x.name) l p g e k m t h ⟨s.locals.set q x,s.stack⟩ (b,s.locals.length,f) vs/\Kp (rA l e (b,s.locals.length,f) vs) w ((w.setCell (b,q*2) x.kind).setCell (b,q*2+1) x.name):=by
 have d:Kp (·=b) w ((w.setCell (b,q*2) x.kind).setCell (b,q*2+1) x.name):=
  ((Kp.refl (·=b) w).setCell (p:=⟨b,q*2,none⟩) (fun _=>rfl) _).setCell (p:=⟨b,q*2+1,none⟩) (fun _=>rfl) _
 have n:=(a.loc.lt b rfl).1;have y:=a.lM.ord;have v:=a.hB;have r:=a.Q7.1;have j:=(a.loc.stored (q*2) x.kind).1.stored (q*2+1) x.name;rw[Gq]at j;refine⟨⟨a.lM.kp d (fun i o c=>Zm),a.hB,a.hk,kE.kp jy.stays d (fun i o c=>Zm) a.ml,a.mi,a.blk.kp d (fun c=>r (by rw[c];rfl)),by simpa using j.1,jr a.kY d (fun u n _ c=>a.ne b rfl (by rw[<-c];exact n)),a.ne,a.KE,a.Q8,by simpa using a.Pj⟩,d.weak fun i _ c=>.inr (.inr (.inl (by rw[c];rfl)))⟩
theorem Qy{r: Nat}{t:uR}(f:jO w l p r g k m t x s vl vs)(i:Ins)(A:i.op=3)(U:0<=i.a/\i.a<m.locals):Calls prog 181 #[some g,.agg #[i.op,i.a,i.name,i.member]] w (jX w l p r g k m t x vl vs (jQ p k m i s)):=by
 have c:Zz (jQ p k m i s=(nZ s).map fun d=>⟨d.2.locals.set i.a.toNat d.1,d.2.stack⟩):=Zy (by unfold jQ;rw[A];rfl);obtain⟨E,N,D,C⟩:=i;dsimp only at A U c;obtain⟨a,rfl⟩:∃a:Nat,N=a:=⟨N.toNat,Zm⟩;have aj:a<s.locals.length:=Te f.Pj
 obtain⟨F,W,y,O⟩:=nu w #[E,a,D,C] 134;have o:=f.ext y;have V:=f.qo;obtain⟨q,B,ai,av,ax,ay⟩:=ky o.loc Zm;subst ai;obtain⟨ak,ag,aA,n⟩:=tN.ex (fun L=>Kp (rA l g (q,s.locals.length,B) vs) F L/\∃Z aa,jO L l p r g k m t x Z (q,s.locals.length,B) aa) F ⟨Kp.rr,_,_,o⟩;have af:∀j,(ag j).cell? (g,11)=some (.slice (some ⟨q,0,none⟩) s.locals.length B):=fun j=>by
  obtain⟨_,Z,aa,Y⟩:=n.jC j;exact Y.blk.c 11 _ rfl
 have e1:=fun j=>(O.kp (n.jC j).1 V).c 1 a rfl;have aB:(a:Int)<s.locals.length:=Zm
 have au:=f.KE;have Y:=f.blk.lt;have⟨v,J,G,h⟩:=kD n W y o;clear f A W y O o n U V;rcases TT s.stack with b|⟨st,d,b⟩
 . replace c:Zz (jQ p k m ⟨E,a,D,C⟩ s=none):=Zy (by rw[c.o];unfold nZ;rw[b];rfl);have u:=Zy b;clear b;go_enter func181,ntmps181;go_wp2_with fail;rw[<-J.o];refine lq v 8 [([0,1,2,3,4,5,6],7)] [] ?_ ?_
   . exact⟨jA,_,_,h.ext jA⟩
   refine nE ?_;intro K z;go_wp2_with fail;refine(xu (h.ext jA) u).mono ?_;rintro ae w1 ⟨rfl,R⟩;have hE:=(G.trans jA).trans R;exact⟨rfl,hE.any,((h.ext jA).ext R).lM,.inl ⟨c,rfl⟩⟩
 . rw[TS]at b;replace c:Zz (jQ p k m ⟨E,a,D,C⟩ s=some ⟨s.locals.set a d,st⟩):=Zy (by rw[c.o];unfold nZ;rw[b];simp);have u:=Zy b;clear b;go_enter func181,ntmps181;go_wp2_with fail;rw[<-J.o];refine lq v 8 [([0,1,2,3,4,5,6],7)] [] ?_ ?_
   . exact⟨jA,_,_,h.ext jA⟩
   refine nE ?_;intro K z;go_wp2_with fail;refine(zB (h.ext jA) st d u).mono ?_;rintro ae w1 ⟨rfl,⟨aC,P,T⟩,S⟩;have⟨H,I,e⟩:=jI (((Kp.refl _ F).drew).trans S) T P;clear P T S;go_wp2_with fail;refine kk v z ⟨H,_,_,e⟩ ?_;clear z K;obtain⟨aD,X⟩:=nV s.locals a aj;obtain⟨x0,x1⟩:=(l5 (enc:=kG) (k:=2) (fun _=>rfl) e.loc X).two;have f0:=e.loc.frozenAt (a*2);have f1:=e.loc.frozenAt (a*2+1);have az:=(e.loc.lt q rfl).2;clear af e1 X;refine lD ?_;go_wp2_with fail;refine Ti ?_;obtain⟨Q,ah⟩:=e.vJ a d;exact jX.behind G ⟨H.look ah I,Q.lM,.inr ⟨_,c,rfl,_,_,Q,I⟩⟩
theorem Gn{d a: World}(f:Ext w d)(g:Kp (·=l.D) d a)(h:jD a l p)(j:l.L<b)(m:w<=b)(u0 u1 u2 u3 u4:Value):Kp (·=l.D) w (((((a.setCell b u0).setCell (b,1) u1).setCell (b,2) u2).setCell (b,3) u3).setCell (b,4) u4)/\jD (((((a.setCell b u0).setCell (b,1) u1).setCell (b,2) u2).setCell (b,3) u3).setCell (b,4) u4) l p:=by
 have c:=Kp.wS (D:=(·=b)) (w:=a) rfl u0 u1 u2 u3 u4;generalize (((((a.setCell b u0).setCell (b,1) u1).setCell (b,2) u2).setCell (b,3) u3).setCell (b,4) u4)=w8 at*;exact⟨(f.any.trans g).own c (fun i e=>Zm),h.kp c (fun i k e=>Zm)⟩
theorem Ex{af K:Nat}{t:uR}{P:Int}(j:jO w l p af K k m t P s vl vs)(i:Ins):Calls prog 220 #[some K,.agg #[i.op,i.a,i.name,i.member]] w fun g w'=>Kp (·=l.D) w w'/\jD w' l p/\(((M.get p k i.name i.member).2≠1/\g=.panicked (Ap (P+1)))\/((M.get p k i.name i.member).2=1/\g=.returned (.agg (nX (M.get p k i.name i.member).1).toArray))):=by
 obtain⟨c,J⟩:=S9 ((w.alloc (.cells #[i.op,i.a,i.name,i.member] 134)).alloc (.cells #[Tj,"",Tj,Tj,""] 173));have U:Ext w c:=by rw[J];exact kx
 have b3:jq c w 134 #[i.op,i.a,i.name,i.member]:=by rw[J];exact(jq.new _ _ _).ext kx
 have d:jq c (w+1) 173 #[Tj,"",Tj,Tj,""]:=by rw[J];exact jq.newAt _ _ Zl
 have T:=j.ext U;have hD:=j.lM.FR;have aG:=j.lM.ord;have hB:=j.hB;have hk:=j.hk;have hz:=j.blk.lt;have aa:=j.KE;have X:¬K=l.D:=Zm
 have ay:¬w=l.D:=Zm
 have ae:¬w+1=l.D:=Zm
 obtain⟨aB,aC,aF,O⟩:=tN.ex (fun W'=>Kp (·=l.D) c W') _ Kp.rr;obtain⟨-,r0,r1,-⟩:=jq.pq fun Z=>(T.blk.kp (O.jC Z) X);obtain⟨-,-,-,r2,r3,-⟩:=jq.pq fun Z=>(b3.kp (O.jC Z) ay);have⟨h,ah,E,C,N⟩:=nC O J U T d;obtain⟨r,u,v,x,y,Y⟩:∃aj b ak au g,(nX (M.get p k i.name i.member).1).toArray=#[.int .i64 aj,.string b,.int .i64 ak,.int .i64 au,.string g]:=⟨_,_,_,_,_,rfl⟩;have HV:=Zy Y;rw[Y];clear Y;clear j J U b3 d T O;go_enter func220,ntmps220;go_wp2_with fail;rw[<-ah.o];refine rQ h 18 (.two [0,1,2,3,4,5,6,7,8,9,10,11] 12 16 (.one [13,14,15] 16 (.one [] 17 (.fin []))) (.one [] 12 (.one [13,14,15] 17 (.fin [])))) ?_ ?_
 . exact jA
 refine two [_,_,_,_,_,_,_,_,_,_,_,_] rfl rfl rfl fun ai hK=>?_;(repeat (go_big_quiet_step (fail)));((refine EP hK (fun f a=>?_) fun f a=>?_)<;>clear hK ai)
 . go_wp2_with fail;refine(zA _ _ _ (C.lM.ext jA) k i.name i.member).mono ?_;rintro g L ⟨⟨ev,H,W⟩,G,A⟩;rw[HV.o]at H;subst H;have⟨o,ag⟩:=jw ((jA).trans A) G;clear G A;obtain⟨B,n⟩:=S9 (L.alloc (.cells #[r,u,v,x,y] 173));have e:Zz (Kp (·=l.D) c B):=Zy (by rw[n];exact o.alloc _);have F:Zz (jD B l p):=Zy (by rw[n];exact ag.ext kx);have z:jq B L 173 #[r,u,v,x,y]:=by rw[n];exact jq.new _ _ _
   have S:=Zy n;obtain⟨-,u0,u1,u2,u3,u4,-⟩:=z.ca;have av:¬(w:Nat)+1=(L:Nat):=Tf N.lt o.size
   have ax:¬(L:Nat)=w+1:=Zm
   clear z n;rcases W with⟨q,rfl⟩|⟨q,b,rfl,-⟩
   all_goals
    have D:=Zy q;clear q;go_wp2_with fail;refine kk h a o ?_;clear a f;refine Ac ?_;intro f a;go_wp2_with fail;refine kk h a (o.alloc _) ?_;clear a f;refine j3 rfl fun f a=>?_;go_wp2_with fail;rw[<-S.o];refine kk h a e ?_;clear a f;clear h r0 r1 r2 r3;have d:=N.kp e ae;obtain⟨z4,x0,x1,x2,x3,x4,-⟩:=d.ca;obtain⟨f0,f1,f2,f3,f4,-⟩:=d.fz;have R:=Zy d;clear d;refine kQ ?_;go_wp2_with fail
   . refine PG (jM rH rfl (w+1) rfl [r,u,v,x,y] (hQ.kX (R.wS _ _ _ _ _)) rfl) rfl ?_;have I:=Gn (b:=w.heap.size+1) E e F Zm Zm r u v x y;exact⟨I.1,I.2,.inr ⟨D,rfl⟩⟩
   . refine(nI K P ((C.blk.kp e X).c 10 _ rfl) aa.1 Zm).mono ?_;rintro g w9 ⟨rfl,rfl⟩;exact⟨rfl,E.any.trans e,F,.inl ⟨D,rfl⟩⟩
 . go_wp2_with fail;refine kk h a ((jA).alloc _) ?_;clear a f;refine j3 rfl fun f a=>?_;go_wp2_with fail;have b5:jq (c.alloc (.cells #[Tj,"",Tj,Tj,""] 173)).drew c 173 #[Tj,"",Tj,Tj,""]:=(jq.new _ _ _).ext jA;have aD:=C.lM.FR;have az:¬c.heap.size=l.D:=Zm
   refine(zA _ _ _ (C.lM.ext (jJ _).drew) k i.name i.member).mono ?_;rintro g L ⟨⟨ev,H,W⟩,G,A⟩;rw[HV.o]at H;subst H;have o:=Zy ((((Kp.refl _ c).alloc _).drew).trans A);have Q:=b5.kp A az;have aH:=E.size;have av:¬w.heap.size+1=(c:Nat):=Te N.lt
   have ax:¬c.heap.size=w+1:=Zm
   obtain⟨z5,y0,y1,y2,y3,y4,-⟩:=Q.ca;obtain⟨g0,g1,g2,g3,g4,-⟩:=Q.fz;obtain⟨B,n,z,V⟩:=SX Q r u v x y;have⟨e,F,aA,S⟩:=kD (o.own V (fun k g=>Zm)) (G.kp V (fun b hb g=>Zm)) z n;obtain⟨-,u0,u1,u2,u3,u4,-⟩:=z.ca;clear b5 Q G A V z n;rcases W with⟨q,rfl⟩|⟨q,b,rfl,-⟩
   all_goals
    have D:=Zy q;clear q;go_wp2_with fail;refine kk h a o ?_;clear a f;refine Ac ?_;intro f a;go_wp2_with fail;rw[<-S.o];refine kk h a e ?_;clear a f;clear h r0 r1 r2 r3 y0 y1 y2 y3 y4 g0 g1 g2 g3 g4;have d:=N.kp e ae;obtain⟨z4,x0,x1,x2,x3,x4,-⟩:=d.ca;obtain⟨f0,f1,f2,f3,f4,-⟩:=d.fz;have R:=Zy d;clear d;refine kQ ?_;go_wp2_with fail
   . refine PG (jM rH rfl (w+1) rfl [r,u,v,x,y] (hQ.kX (R.wS _ _ _ _ _)) rfl) rfl ?_;have I:=Gn (b:=w.heap.size+1) E e F Zm Zm r u v x y;exact⟨I.1,I.2,.inr ⟨D,rfl⟩⟩
   . refine(nI K P ((C.blk.kp e X).c 10 _ rfl) aa.1 Zm).mono ?_;rintro g w9 ⟨rfl,rfl⟩;exact⟨rfl,E.any.trans e,F,.inl ⟨D,rfl⟩⟩
theorem O7{t:uR}(y:jO w l p N n k m t Q s f vs)(i:Ins)(T:i.op=7):Calls prog 185 #[some n,.agg #[i.op,i.a,i.name,i.member]] w (jX w l p N n k m t Q f vs (jQ p k m i s)):=by
 have b:Zz (jQ p k m i s=if(M.get p k i.name i.member).2=1 then(lX p k (kP i.name) s).bind (lK m (kH (M.get p k i.name i.member).1.kind))else none):=Zy (by unfold jQ;rw[T];rfl);obtain⟨K,U,E,R⟩:=nu w #[i.op,i.a,i.name,i.member] 134;have⟨X,a⟩:=jw U (y.ext E);have c:Zz (Kp (rA l n f vs) K K):=Zy Kp.rr;have⟨o,P,O⟩:=jI (kN.refl K f vs) E R;have ag:=y.blk.lt;have aa:=jO.qo y;clear T y E R U;go_enter func185,ntmps185;go_wp2_with fail;rw[<-X.o];obtain⟨G,A⟩:∃G,M.get p k i.name i.member=G:=⟨_,rfl⟩;have J:=Ex a i;rw[A]at J;replace b:Zz (jQ p k m i s=if G.2=1 then((lX p k (kP i.name) s).bind (lK m (kH G.1.kind)))else none):=Zy (by rw[b.o,A]);have ai:=a.lM.ord;have af:=a.hB;have ah:=a.hk;refine J.mono ?_;rintro d L ⟨r,F,⟨B,rfl⟩|⟨B,I⟩⟩
 . exact⟨rfl,jX.behind P ⟨r.weak (fun Z _ d=>.inl d),F,.inl ⟨by rw[b.o,T9 B],rfl⟩⟩⟩
 replace b:Zz (jQ p k m i s=((lX p k (kP i.name) s).bind (lK m (kH G.1.kind)))):=Zy (by rw[b.o,Ty B]);replace I:d=.returned (.agg #[.int .i64 G.1.of.keeper,.string G.1.of.name,.int .i64 G.1.at_,.int .i64 G.1.kind.kind,.string G.1.kind.name]):=I;subst I;have D:=a.qK r F;obtain⟨x,V,z,S⟩:=nu L #[.int .i64 G.1.of.keeper,.string G.1.of.name,.int .i64 G.1.at_,.int .i64 G.1.kind.kind,.string G.1.kind.name] 173;have H:=O.kp r (fun d=>aa (.inl d));obtain⟨aj,-,-,y2,-⟩:=H.ca;have ae:¬rA l n f vs L.heap.size:=D.qo;have C:Zz (Kp (rA l n f vs) w x):=Zy ((P.any.trans (r.weak (fun Z _ d=>.inl d))).trans z.any);have W:=Zy S;replace O:=Zy (H.ext z);replace a:=Zy (D.ext z);replace c:Zz (Kp (rA l n f vs) x x):=Zy Kp.rr;replace o:=Zy (kN.refl x f vs);have⟨Y,HG⟩:=jw V A;clear J r F B V z S H D A;go_wp2_with fail;rw[<-Y.o];clear y2;refine(zo _ i.name).mono ?_;rintro d L ⟨rfl,g⟩;replace a:=Zy (a.ext g);replace c:=Zy (c.trans g.any);clear g;go_wp2_with fail;refine(oM _ a (kP i.name)).mono ?_;rintro d x h;replace h:=jX.after c o h;rcases h with⟨j,u,⟨e,rfl⟩|⟨s2,e,rfl,ak,av,q,v⟩⟩
 . exact⟨rfl,jX.after C (kN.refl _ _ _) ⟨j,u,.inl ⟨by rw[b.o,e];try rfl,rfl⟩⟩⟩
 replace b:Zz (jQ p k m i s=lK m (kH G.1.kind) s2):=Zy (by rw[b.o,e];try rfl);replace a:=Zy q;replace c:=Zy j;replace o:=Zy v;clear q j v u e;obtain⟨-,-,-,-,y3,y4,-⟩:=(W.kp c ae).ca;go_wp2_with fail;refine(Ci _ G.1.kind).mono ?_;rintro d w3 ⟨rfl,g⟩;replace a:=Zy (a.ext g);replace c:=Zy (c.trans g.any);clear g;go_wp2_with fail;refine(sJ _ a (kH G.1.kind)).mono ?_;rintro d w4 h;replace h:=jX.after c o h;rcases h with⟨j,u,⟨e,rfl⟩|⟨s4,e,rfl,au,ax,q,v⟩⟩
 . exact⟨rfl,jX.after C (kN.refl _ _ _) ⟨j,u,.inl ⟨by rw[b.o,e];try rfl,rfl⟩⟩⟩
 replace b:Zz (jQ p k m i s=some s4):=Zy (by rw[b.o,e];try rfl);replace a:=Zy q;replace c:=Zy j;replace o:=Zy v;clear q j v u e;go_wp2_with fail;refine Ti ?_;exact jX.after C (kN.refl _ _ _) ⟨c,a.lM,.inr ⟨_,b,rfl,_,_,a,o⟩⟩
theorem Pg{O: Nat}{t:uR}(y:jO w l p O n k m t Q s f vs)(i:Ins)(U:i.op=8):Calls prog 186 #[some n,.agg #[i.op,i.a,i.name,i.member]] w (jX w l p O n k m t Q f vs (jQ p k m i s)):=by
 have b:Zz (jQ p k m i s=if(M.get p k i.name i.member).2=1 then(lX p k (kH (M.get p k i.name i.member).1.kind) s).bind (lX p k (kP i.name))else none):=Zy (by unfold jQ;rw[U];rfl);obtain⟨L,V,F,R⟩:=nu w #[i.op,i.a,i.name,i.member] 134;have⟨Y,a⟩:=jw V (y.ext F);have c:Zz (Kp (rA l n f vs) L L):=Zy Kp.rr;have⟨o,P,C⟩:=jI (kN.refl L f vs) F R;have ag:=y.blk.lt;have T:=jO.qo y;clear U y F R V;go_enter func186,ntmps186;go_wp2_with fail;rw[<-Y.o];obtain⟨G,A⟩:∃G,M.get p k i.name i.member=G:=⟨_,rfl⟩;have K:=Ex a i;rw[A]at K;replace b:Zz (jQ p k m i s=if G.2=1 then((lX p k (kH G.1.kind) s).bind (lX p k (kP i.name)))else none):=Zy (by rw[b.o,A]);have aj:=a.lM.ord;have af:=a.hB;have ah:=a.hk;refine K.mono ?_;rintro d N ⟨r,H,⟨B,rfl⟩|⟨B,J⟩⟩
 . exact⟨rfl,jX.behind P ⟨r.weak (fun aa _ d=>.inl d),H,.inl ⟨by rw[b.o,T9 B],rfl⟩⟩⟩
 replace b:Zz (jQ p k m i s=((lX p k (kH G.1.kind) s).bind (lX p k (kP i.name)))):=Zy (by rw[b.o,Ty B]);replace J:d=.returned (.agg #[.int .i64 G.1.of.keeper,.string G.1.of.name,.int .i64 G.1.at_,.int .i64 G.1.kind.kind,.string G.1.kind.name]):=J;subst J;have E:=a.qK r H;obtain⟨x,W,z,S⟩:=nu N #[.int .i64 G.1.of.keeper,.string G.1.of.name,.int .i64 G.1.at_,.int .i64 G.1.kind.kind,.string G.1.kind.name] 173;have I:=C.kp r (fun d=>T (.inl d));obtain⟨ak,-,-,X,-⟩:=I.ca;have ai:¬rA l n f vs N.heap.size:=E.qo;have D:Zz (Kp (rA l n f vs) w x):=Zy ((P.any.trans (r.weak (fun aa _ d=>.inl d))).trans z.any);have ae:=Zy S;replace C:=Zy (I.ext z);replace a:=Zy (E.ext z);replace c:Zz (Kp (rA l n f vs) x x):=Zy Kp.rr;replace o:=Zy (kN.refl x f vs);have⟨Z,HG⟩:=jw W A;clear K r H B W z S I E A;go_wp2_with fail;rw[<-Z.o];clear X;refine(Ci _ G.1.kind).mono ?_;rintro d N ⟨rfl,g⟩;replace a:=Zy (a.ext g);replace c:=Zy (c.trans g.any);clear g;go_wp2_with fail;refine(oM _ a (kH G.1.kind)).mono ?_;rintro d x h;replace h:=jX.after c o h;rcases h with⟨j,u,⟨e,rfl⟩|⟨s2,e,rfl,au,ax,q,v⟩⟩
 . exact⟨rfl,jX.after D (kN.refl _ _ _) ⟨j,u,.inl ⟨by rw[b.o,e];try rfl,rfl⟩⟩⟩
 replace b:Zz (jQ p k m i s=lX p k (kP i.name) s2):=Zy (by rw[b.o,e];try rfl);replace a:=Zy q;replace c:=Zy j;replace o:=Zy v;clear q j v u e;have X:=(C.kp c T).c 2 i.name rfl;go_wp2_with fail;refine(zo _ i.name).mono ?_;rintro d w3 ⟨rfl,g⟩;replace a:=Zy (a.ext g);replace c:=Zy (c.trans g.any);clear g;go_wp2_with fail;refine(oM _ a (kP i.name)).mono ?_;rintro d w4 h;replace h:=jX.after c o h;rcases h with⟨j,u,⟨e,rfl⟩|⟨s4,e,rfl,av,ay,q,v⟩⟩
 . exact⟨rfl,jX.after D (kN.refl _ _ _) ⟨j,u,.inl ⟨by rw[b.o,e];try rfl,rfl⟩⟩⟩
 replace b:Zz (jQ p k m i s=some s4):=Zy (by rw[b.o,e];try rfl);replace a:=Zy q;replace c:=Zy j;replace o:=Zy v;clear q j v u e;go_wp2_with fail;refine Ti ?_;exact jX.after D (kN.refl _ _ _) ⟨c,a.lM,.inr ⟨_,b,rfl,_,_,a,o⟩⟩
attribute [local go_sem] Oper.semAt_some
theorem G7{a:Option Addr}:Calls prog 221 #[.slice a n c] w fun b d=>b=.returned (.func (.func 238) #[] #[some w])/\w.alloc (.cells #[.slice a n c] 107)=d:=by
 go_enter func221,ntmps221;go_wp2;go_ret;exact⟨rfl,rfl⟩
def LZ(x:Int×Kind):Array Value:=#[.int .i64 x.1,.agg #[.int .i64 x.2.kind,.string x.2.name]]
theorem DW(a:List Kind)(h:Nat)(v:Value)(I w:Nat->Prop)(hBd:∀b,w b->b≠h/\¬I b):QW prog 238 #[some h] LZ (fun _=>False) w (fun xs=>xs=backTo a a.length) (fun c=>∃u,backTo a a.length=c++u) (fun _=>True) (fun k=>jq k h 107 #[v]/\SliceOf 2 mV k I v a) (fun c e=>∃u,backTo a a.length=c++e::u):=by
 intro lp N Jx Jp k ⟨p,s⟩ z A U V o T;obtain⟨l,i,rfl,hn,ai⟩:=s.form;refine callsIn_of_wp func238 rfl trivial ?_ rfl;simp only[ntmps238,UE,TL,U8,Nat.reduceAdd,Nat.reduceSub,Un,Um,UR,Uf,TZ,TR];have c0:=p.c 0 (.slice l a.length i) rfl;have G:IntKind.i64.wrap ((a.length:Int) - 1)=(a.length:Int) - 1:=TM _ Zm;gi_wp2;clear G;gi_loopg [3] a.length (fun j J wr=>∃c:List (Int×Kind),((j=0/\J=.int .i64 (-1))\/∃b:Nat,j=b+1/\J=.int .i64 b)/\j<=a.length/\Zz (backTo a a.length=c++backTo a j)/\Zz (N c wr/\jq wr h 107 #[.slice l a.length i]/\SliceOf 2 mV wr I (.slice l a.length i) a))
 case atStart=>
  refine⟨[],?_,Tu _,Zy Zl,Zy ⟨T,p,s⟩⟩;rcases Ww a.length with m|m
  . left;exact⟨m,by rw[m];rfl⟩
  . right;exact⟨a.length - 1,Zm,by congr 1;omega⟩
 case round=>
  obtain⟨c,hm,ak,x,y⟩:=hrel;rcases hm with⟨rfl,rfl⟩|⟨b,rfl,rfl⟩
  . have L:Zz (backTo a a.length=c):=Zy (by rw[x.o];simp[backTo]);gi_wp2;refine Ti ?_;exact .inl ⟨⟨_,rfl⟩,.inl ⟨c,L.symm,y.1⟩⟩
  . obtain⟨e,t⟩:=get_some (show b<a.length by omega);obtain⟨D,d,r⟩:=y.o;obtain⟨O,aa,cs,rfl,hI,rfl,-,C⟩:=r.get t;obtain⟨Q,R⟩:=C.two;have P:=d.c 0 (.slice (some ⟨O,aa,none⟩) a.length i) rfl;have Z:(0:Int)<=(b:Int):=Zm
    have aj:(b:Int)<a.length:=Zm
    have W:=Tw Z;have f:Zz (backTo a a.length=(c++[((b:Int),e)])++backTo a b):=Zy (by rw[x.o,yu t,TG];rfl);obtain⟨fn,av,af,ag,H,n⟩:=o c ((b:Int),e) wr ⟨backTo a b,by rw[f.o,TG];rfl⟩ D;simp only[LZ]at H n;have⟨HY,ae,g⟩:=jI o (Tm z A) (Tm hBd (Tm d r));have G:IntKind.i64.wrap ((b:Int) - 1)=(b:Int) - 1:=TM _ Zm;clear o z A U V hBd d r s t C D p;gi_wp2_with fail;refine n.mono ?_;rintro ah W1 ⟨q,(⟨rfl,E⟩|⟨rfl,Y⟩|⟨ch,rfl,X⟩)⟩
    . have B:=g.2.1.kp q (fun d=>(g.1 _ d).1 rfl);have F:=g.2.2.keep mV.stays (Kp.same q fun au hq d=>(g.1 _ d).2 hq) (fun _ S=>S);have K:=Zy (Tm E (Tm B F));clear E B F q Q R P H n W;gi_wp2_with fail;gi_roundg b
      case measure=>omega
      case rel=>
       refine⟨c++[((b:Int),e)],?_,Zm,f,K⟩;cases b with
       |zero=>left;exact⟨rfl,rfl⟩
       |succ b=>right;exact⟨b,rfl,by congr 1;omega⟩
    . gi_wp2_with fail;refine Ti ?_;exact .inl ⟨⟨_,rfl⟩,.inr ⟨_,⟨_,f⟩,Y⟩⟩
    . exact⟨rfl,.inr ⟨_,_,rfl,⟨_,f⟩,X⟩⟩
end Go.Proofs.YtenhnldnpdlniaaGreat
namespace Go.Proofs.YtenhnldnpdlniaaGreat
open Go Go.RowKit Tryz M
variable {f k: Int}{m: M.Method}{c e: Nat}{a d vs: Value}{w: World}{l: jB}{p: jl}{s: lU}{t: uR}
attribute [local go_sem] Oper.semAt_some
theorem ql{I:Nat->Prop}{cs:List Value}(h:jy w I m cs):∃i:uR,cs=oC m i:=by
 obtain⟨a,d,b,e,c,f,g⟩:=h.form;exact⟨⟨a,d,b,e,c,f⟩,g⟩
theorem jO.old(b:jO w l p e c k m t f s d vs){q:Nat}(g:rA l c d vs q):q<w:=by
 have h:=b.blk.lt;have i:=b.lM.FR;rcases g with a|a|a|a
 . omega
 . omega
 . exact(b.loc.lt q a).2
 . exact(b.kY.lt q a).2
theorem jO.low(b:jO w l p e c k m t f s d vs){q:Nat}(j:q<l.O):¬rA l c d vs q:=by
 have g:=b.hB;have h:=b.lM.ord;have i:=b.hk;rintro(a|a|a|a)
 . omega
 . omega
 . have:=(b.loc.lt q a).1;omega
 . have:=(b.kY.lt q a).1;omega
theorem Hh{x:Kind}:∀(a:List Kind)(s:lU),lW p k (a++[x]) s=(lW p k a s).bind (lX p k (kH x)):=by
 intro a;induction a with
 |nil=>intro s;simp[lW]
 |cons d e b=>
  intro s;simp only[TR,lW];cases lX p k (kH d) s with
  |none=>rfl
  |some c=>exact b c
theorem Hg{r:List Kind}:∀{b:List Kind} {s:lU},lW p k b s=none->lW p k (b++r) s=none:=by
 intro b;induction b with
 |nil=>intro s a;simp[lW]at a
 |cons e g d=>
  intro s a;simp only[TR,lW]at a |-;cases c:lX p k (kH e) s with
  |none=>rfl
  |some f=>rw[c]at a;exact d a
def NT(l:jB)(p:jl)(B kb:Nat)(k:Int)(m:M.Method)(t:uR)(at_:Int)(s:lU)(vl vs:Value)(w8:World)(pre:List (Int×Kind))(W:World):Prop:=
 ∃s' vl' vs',lW p k (pre.map Prod.snd) s=some s'/\jO W l p B kb k m t at_ s' vl' vs'/\kN (w8.heap.size+3) vl vs vl' vs'/\Kp (rA l kb vl vs) w8 W
def R3(l:jB)(p:jl)(kb:Nat)(k:Int)(at_:Int)(s:lU)(vl vs:Value)(w8:World)(ch:List PanicEntry)(pre:List (Int×Kind))(W:World):Prop:=
 ch=Ap (at_+1)/\lW p k (pre.map Prod.snd) s=none/\jD W l p/\Kp (rA l kb vl vs) w8 W
def Co(ev:Value)(c:Int):Prop:=(c=1/\ev=Value.nilIface)\/(c≠1/\∃b,ev=.iface 166 (.pointer (some ⟨b,0,none⟩)))
theorem DJ.weak{c:Int}(d:DJ w a c):Co a c:=d.imp id fun⟨e,b,h2,_⟩=>⟨e,b,h2⟩
theorem MV{aa b:Nat}{U:Int}{x: Value}(c:jO w l p aa b k m t U s x vs)(i:Ins)(dn:i.op=9):Calls prog 187 #[some b,.agg #[i.op,i.a,i.name,i.member]] w (jX w l p aa b k m t U x vs (jQ p k m i s)):=by
 obtain⟨G,hG⟩:∃G,call p k i.name i.member=G:=⟨_,rfl⟩;have P:Zz (jQ p k m i s=if G.2=1 then(lW p k (M.method p G.1).args.reverse s).bind fun s1=>(lX p k (kP i.name) s1).bind (lK m (kH (M.method p G.1).ret))else none):=Zy (by unfold jQ;rw[dn,hG];rfl);obtain⟨O,aP⟩:=S9 ((w.alloc (.cells #[some b] 233)).alloc (.cells #[i.op,i.a,i.name,i.member] 134));have bF:Ext w O:=by rw[aP];exact kx
 have b2:jq O w 233 #[some b]:=by rw[aP];exact(jq.new _ _ _).ext kx
 have b3:jq O (w+1) 134 #[i.op,i.a,i.name,i.member]:=by rw[aP];exact jq.newAt _ _ Zl
 have hA:=c.ext bF;have hD:=c.lM.FR;have fB:=c.lM.ord;have hB:=c.hB;have L:=c.hk;have hz:=c.blk.lt;have eB:=c.KE;have aZ:¬b=l.D:=Zm
 have aN:¬w=l.D:=Zm
 have cZ:¬w+1=l.D:=Zm
 obtain⟨aS,aT,bf,o⟩:=tN.ex (fun A=>Kp (·=l.D) O A) _ Kp.rr;obtain⟨-,r0,r1,-⟩:=jq.pq fun r=>(hA.blk.kp (o.jC r) aZ);obtain⟨-,-,-,r2,r3,-⟩:=jq.pq fun r=>(b3.kp (o.jC r) cZ);have r4:=fun r=>(b2.kp (o.jC r) aN).c 0 (some b) rfl;have⟨h,dW,aF,HA,aQ,bu,HG⟩:=tq o aP bF hA b2 b3 hG;have hv:(Ai G.1).toArray=#[.int .i64 G.1.of.keeper,.string G.1.of.name,.int .i64 G.1.at_]:=rfl;have⟨HV,ai⟩:=jw hv c;have dU:=Zy c.qo;clear c dn aP bF b2 b3 hA o hG hv;refine(Ut (n:=10)).1 ?_;refine xW func187 rfl ?_;simp only[ntmps187,UE,TL,U8,Nat.reduceAdd,Nat.reduceSub,Un,Um,UR,Uf,TZ,TR];refine xM fun J n=>?_;go_wp2_with fail;rw[<-dW.o];refine xM fun J n=>?_;have dB:∀(b7:Nat)(q:World)(ev:Value),Kp (·=l.D) O q->jD q l p->jq q b7 66 #[.int .i64 G.1.of.keeper,.string G.1.of.name,.int .i64 G.1.at_]->O.heap.size<=b7->Co ev G.2→
     J {tmps:=#[.pointer (some ⟨b,0,none⟩),.agg #[i.op,i.a,i.name,i.member],.pointer (some ⟨w,0,none⟩),.pointer (some ⟨w+1,0,none⟩),
      .pointer (some ⟨b7,0,none⟩),ev,undef,undef,undef,.tuple #[.agg #[.int .i64 G.1.of.keeper,.string G.1.of.name,.int .i64 G.1.at_],ev],.pointer (some ⟨b,0,none⟩),.pointer (some ⟨b,0,none⟩),.pointer (some ⟨b,0,none⟩),.pointer (some ⟨l.L,0,none⟩),
      .pointer (some ⟨b,0,none⟩),.pointer (some ⟨b,0,none⟩),.pointer (some ⟨b,1,none⟩),.int .i64 k,.pointer (some ⟨w+1,2,none⟩),.string i.name,.pointer (some ⟨w+1,3,none⟩),.string i.member,
      .tuple #[.agg #[.int .i64 G.1.of.keeper,.string G.1.of.name,.int .i64 G.1.at_],ev],.agg #[.int .i64 G.1.of.keeper,.string G.1.of.name,.int .i64 G.1.at_],ev,undef,undef,undef,undef,undef,undef,undef,undef,undef,undef,undef,undef,undef,undef,undef,undef,undef,undef,undef,undef,undef,undef,undef,undef,undef,undef,undef,undef,undef],defers:=[]} q:=by
  clear h r0 r1 r2 r3 r4;intro b7 q ev au bY bU fe av;have⟨z,af,dK⟩:=jI au bY bU;have s2:=(aQ.kp au aN).c 0 (some b) rfl;clear au bY bU;refine n _ _ ?_;clear n J;refine xM fun J n=>?_;rcases av with⟨hc,rfl⟩|⟨hc,u,rfl⟩;rotate_left
  . replace P:Zz (jQ p k m i s=none):=Zy (by rw[P.o,T9 hc]);go_wp2_with fail;refine(nI b U ((HA.blk.kp z aZ).c 10 _ rfl) eB.1 Zm).mono ?_;rintro a w9 ⟨rfl,rfl⟩;exact⟨rfl,jX.behind aF ⟨z.weak (fun u _ a=>.inl a),af,.inl ⟨P,rfl⟩⟩⟩
  replace P:Zz (jQ p k m i s=(lW p k (M.method p G.1).args.reverse s).bind fun s1=>(lX p k (kP i.name) s1).bind (lK m (kH (M.method p G.1).ret))):=Zy (by rw[P.o,Ty hc]);have cK:Zz (kg p G.1=true):=Zy (by
   have:=HG.o;rw[<-this]at hc |-;obtain⟨fI,hr⟩:=su hc;exact qB hr)
  go_wp2_with fail;clear s2;obtain⟨aS,aT,bf,o⟩:=lL q;have cB:=HA.blk.kp z aZ;have cz:=aQ.kp z aN;have r0:=fun r=>(cB.ext (o.jC r)).c 0 (some l.L) rfl;have r4:=fun r=>(cz.ext (o.jC r)).c 0 (some b) rfl;obtain⟨-,r5,r6,r7,-⟩:=jq.pq fun r=>(dK.ext (o.jC r));have h:=Zy o;clear o cB cz;refine xM fun J n=>?_;have dC:∀(b8:Nat)(d:World)(j:uR),Ext q d->jq d b8 113 (oC (M.method p G.1) j).toArray->q<=b8->jy d (· <l.O) (M.method p G.1) (oC (M.method p G.1) j)→
   J {tmps:=#[.pointer (some ⟨b,0,none⟩),.agg #[i.op,i.a,i.name,i.member],.pointer (some ⟨w,0,none⟩),.pointer (some ⟨w+1,0,none⟩),
    .pointer (some ⟨b7,0,none⟩),.nilIface,.pointer (some ⟨b8,0,none⟩),undef,undef,.tuple #[.agg #[.int .i64 G.1.of.keeper,.string G.1.of.name,.int .i64 G.1.at_],.nilIface],.pointer (some ⟨b,0,none⟩),.pointer (some ⟨b,0,none⟩),.pointer (some ⟨b,0,none⟩),.pointer (some ⟨l.L,0,none⟩),
    .pointer (some ⟨b,0,none⟩),.pointer (some ⟨b,0,none⟩),.pointer (some ⟨b,1,none⟩),.int .i64 k,.pointer (some ⟨w+1,2,none⟩),.string i.name,.pointer (some ⟨w+1,3,none⟩),.string i.member,
    .tuple #[.agg #[.int .i64 G.1.of.keeper,.string G.1.of.name,.int .i64 G.1.at_],.nilIface],.agg #[.int .i64 G.1.of.keeper,.string G.1.of.name,.int .i64 G.1.at_],.nilIface,.nilIface,.bool false,undef,undef,.pointer (some ⟨b,0,none⟩),.pointer (some ⟨b,0,none⟩),.pointer (some ⟨b,0,none⟩),.pointer (some ⟨l.L,0,none⟩),.agg #[.int .i64 G.1.of.keeper,.string G.1.of.name,.int .i64 G.1.at_],.agg (oC (M.method p G.1) j).toArray,undef,undef,undef,undef,undef,undef,undef,undef,undef,undef,undef,undef,undef,undef,undef,undef,undef,undef,undef],defers:=[]} d:=by
   clear h r0 r4 r5 r6 r7;intro b8 d j W bV fo Q;have⟨y,bz,aG⟩:=jI W bV Q;clear W bV Q;refine n _ _ ?_;clear n J;have fq:=bz.c 1 (.slice j.a1 (M.method p G.1).args.length j.c1) rfl;refine JZ ?_;refine Ga (n:=10) fun J n=>wpIn_wide.2 ?_;go_wp2_with fail;refine(G7).mono ?_;rintro a w9 ⟨rfl,rfl⟩;go_wp2_with fail;refine LF ?_;have fw:=(HA.blk.kp z aZ |>.ext y).lt;have bS:=(HA.qK z af).ext y;have H:=Zy bS;have dx:=jy.args aG;have dV:=Zy dx;clear bS dx;have HN:=Zy dU.o;refine Nj (gf:=238) (lb:=#[some d]) (α:=Int×Kind) rfl (enters_of func238 Zo rfl) (encs:=LZ) (fun C=>rfl)
    (Bb:=fun k=>rA l b x vs k\/d+3<=k)
    (DW (M.method p G.1).args d (.slice j.a1 (M.method p G.1).args.length j.c1) (· <l.O) _ ?hBd) ?hIt ?hD1 ?hD2 ?hB1 ?hB2
    (NT l p aa b k m t U s x vs d) (fun _ _ _=>False) (R3 l p b k U s x vs d) ⟨_,func187⟩ ?hIp ?hI ?hIx ?h0 ?hIB
    (fun ah C v a₁ W₁=>NT l p aa b k m t U s x vs d ah v/\(d:Nat)+2<(v:Nat)/\W₁=v.alloc (.cells #[C.2.kind,C.2.name] 109)/\
     a₁={tmps:=#[.pointer (some ⟨b,0,none⟩),.agg #[i.op,i.a,i.name,i.member],.pointer (some ⟨w,0,none⟩),.pointer (some ⟨w+1,0,none⟩),
    .pointer (some ⟨b7,0,none⟩),.nilIface,.pointer (some ⟨b8,0,none⟩),undef,.pointer (some ⟨v,0,none⟩),.tuple #[.agg #[.int .i64 G.1.of.keeper,.string G.1.of.name,.int .i64 G.1.at_],.nilIface],.pointer (some ⟨b,0,none⟩),.pointer (some ⟨b,0,none⟩),.pointer (some ⟨b,0,none⟩),.pointer (some ⟨l.L,0,none⟩),
    .pointer (some ⟨b,0,none⟩),.pointer (some ⟨b,0,none⟩),.pointer (some ⟨b,1,none⟩),.int .i64 k,.pointer (some ⟨w+1,2,none⟩),.string i.name,.pointer (some ⟨w+1,3,none⟩),.string i.member,
    .tuple #[.agg #[.int .i64 G.1.of.keeper,.string G.1.of.name,.int .i64 G.1.at_],.nilIface],.agg #[.int .i64 G.1.of.keeper,.string G.1.of.name,.int .i64 G.1.at_],.nilIface,.nilIface,.bool false,undef,undef,.pointer (some ⟨b,0,none⟩),.pointer (some ⟨b,0,none⟩),.pointer (some ⟨b,0,none⟩),.pointer (some ⟨l.L,0,none⟩),.agg #[.int .i64 G.1.of.keeper,.string G.1.of.name,.int .i64 G.1.at_],.agg (oC (M.method p G.1) j).toArray,
    .pointer (some ⟨b8,1,none⟩),.slice j.a1 (M.method p G.1).args.length j.c1,.func (.func 238) #[] #[some d],.int .i64 C.1,.agg #[C.2.kind,C.2.name],undef,undef,undef,undef,undef,undef,undef,undef,undef,undef,undef,undef,undef,undef],defers:=[]}) ?hassign ?hAx ?hbody ?hdone ?hstop ?hpanic
   case hBd=>
    intro B hq;have dw:(rA l b x vs B\/d.heap.size+3<=B)\/B=(d.alloc (.cells #[.slice j.a1 (M.method p G.1).args.length j.c1] 107)).heap.size+1:=hq;simp only[Tp]at dw;have I:=H.qo;rcases dw with(c|c)|c
    . exact⟨fun a=>I (a▸c),fun a=>jO.low H a c⟩
    . omega
    . omega
   case hIt=>
    intro v hW;exact⟨(jq.new _ _ _).ext hW,(dV.ext mV.stays ((Kp.refl _ d).alloc _)).ext mV.stays hW⟩
   case hD1=>exact fun c=>c
   case hD2=>exact fun c=>c
   case hB1=>
    simp only[Tp];rintro(c|c)
    . have:=jO.old H c;omega
    . omega
   case hB2=>
    simp only[Tp];rintro(c|c)
    . have:=jO.old H c;omega
    . omega
   case hIp=>
    rintro bP s1 dD B' ⟨I,D,N,K⟩ L;simp only[Tp]at L;have bT:=H.lM.lt;exact⟨I,D,N.kp L (fun u Y a=>by rcases a with a|a;exact a;omega),K.own L (fun u a=>by rcases a with a|a;exact a.elim;omega)⟩
   case hI=>
    rintro s1 dD B' ⟨s',R,S,I,D,N,K⟩ L;simp only[Tp]at L;have bT:=H.lM.lt;have dZ:=H.lM.ord;have no:∀f,(R.ownBlock=some f\/S.ownBlock=some f)->¬(False\/f=d.heap.size+1+1):=fun f E a=>by
     rcases a with a|a
     . exact a
     . rcases N f E with c|c|c
       . have:=(H.loc.lt f c).2;omega
       . have:=(H.kY.lt f c).2;omega
       . omega
    exact⟨s',R,S,I,D.kp' L (D.lM.kp L (fun u Y a=>by rcases a with a|a;exact a;omega)) (fun a=>by rcases a with a|a;exact a;omega) (fun f E=>no f (.inl E)) (fun f E=>no f (.inr E)) (fun u Y a=>by rcases a with a|a;exact a;omega),N,K.own L (fun u a=>by rcases a with a|a;exact a.elim;omega)⟩
   case hIx=>exact fun _ _ _ _ c=>c.elim
   case h0=>exact⟨s,x,vs,rfl,H.ext kx,kN.refl _ _ _,(kx:Ext d _).any⟩
   case hIB=>exact fun _ _ _=>trivial
   case hassign=>
    intro ah C v J fA hi cO n;simp only[LZ];simp only[Tp]at cO;gi_wp2_with fail
   case hAx=>
    rintro ah C v a₁ W₁ ⟨_,_,rfl,_⟩;exact((Kp.refl _ v).alloc _)
   case hbody=>
    rintro ah C v a₁ W₁ W₂ ⟨⟨s',R,S,I,D,N,K⟩,cO,rfl,rfl⟩ ay aO;simp only[Tp]at ay aO;have bT:=H.lM.lt;have dZ:=H.lM.ord;have eT:(w:Nat)+1<(d:Nat):=by
     have:=bu.lt;have:=z.size;have:=y.size;omega
    have no:∀f,(R.ownBlock=some f\/S.ownBlock=some f)->f≠d.heap.size+1+1/\(f<w.heap.size\/d.heap.size+3<=f)/\(rA l b x vs f\/d.heap.size+3<=f):=fun f E=>by
     rcases N f E with c|c|c
     . have:=(ai.loc.lt f c).2;exact⟨Zm,.inl this,.inl (.inr (.inr (.inl c)))⟩
     . have:=(ai.kY.lt f c).2;exact⟨Zm,.inl this,.inl (.inr (.inr (.inr c)))⟩
     . exact⟨Zm,.inr c,.inr c⟩
    have aW:Ext v (v.alloc (.cells #[C.2.kind,C.2.name] 109)):=kx;have bE:=D.ext aW;have bR:=bE.kp' ay (bE.lM.kp ay (fun u Y a=>Zm)) Zm (fun f E=>(no f (.inl E)).1) (fun f E=>(no f (.inr E)).1) (fun u Y a=>Zm);have cb:=(jq.new v 109 #[C.2.kind,C.2.name]).kp ay Zm;have df:¬rA l b R S v.heap.size:=D.qo;have di:¬rA l b R S w.heap.size:=by
     rintro(a|a|a|a)
     . omega
     . omega
     . have:=(no _ (.inl a)).2.1;omega
     . have:=(no _ (.inr a)).2.1;omega
    have cu:=((((aQ.kp z aN).ext y).kp K HN).ext aW).kp ay Zm;have bX:=(K.trans aW.any).own ay (fun k a=>Zm);obtain⟨aS,aT,bf,o⟩:=tN.ex (fun A=>Kp (rA l b R S) W₂ A) _ Kp.rr;have r2:=fun r=>(cu.kp (o.jC r) di).c 0 (some b) rfl;obtain⟨-,r7,r8,-⟩:=jq.pq fun r=>(cb.kp (o.jC r) df);have⟨h,dG,dQ,bL,H3⟩:=nC o bR bX no N;have HS:Zz (lW p k ((ah++[C]).map Prod.snd) s=lX p k (kH C.2) s'):=Zy (by rw[Ux,Ur,Vb,Hh,I];rfl);have eU:(d:Nat)+3<=(W₂:Nat):=Zm
    clear I D N K ay aO bE bR cb cu bX o aW no df di;gi_wp2_with fail;refine PI h 4 [([0,1],2),([],3)] [] ?_ (fun _=>trivial) ?_
    . exact jA
    refine OQ [_,_] rfl rfl fun J n=>?_;(repeat (go_big_quiet_step (fail)));refine qn n fun g e=>?_;clear n J;gi_wp2_with fail;refine⟨trivial,?_⟩;refine(CallsIn.inRound _ (Ut.2 (Ci W₂.drew C.2))).mono ?_;rintro a w4 ⟨rfl,aJ⟩;have aj:=Zy (((Kp.refl _ W₂).drew).trans aJ);clear aJ;gi_wp2_with fail;refine kk h e aj.any ?_;clear e g;refine Sl rfl fun g e=>?_;gi_wp2_with fail;refine⟨trivial,?_⟩;refine(CallsIn.inRound _ (Ut.2 (oM w4 (dG.ext aj) (kH C.2)))).mono ?_;rintro a T ag;have aK:=jX.behind aj ag;have aV:Kp (fun k=>rA l b x vs k\/d+3<=k) W₂ T:=aK.1.weak (fun u _ a=>by
     rcases a with a|a|a|a
     . exact .inl (.inl a)
     . exact .inl (.inr (.inl a))
     . exact(bL u (.inl a)).2.2
     . exact(bL u (.inr a)).2.2)
    have bG:Kp (rA l b x vs) d T:=dQ.mix aV (fun k L a=>by rcases a with a|a;exact a;omega);rcases aK with⟨X,aY,⟨F,rfl⟩|⟨s2,F,rfl,bn,bq,aI,aM⟩⟩
    . exact⟨rfl,aV,rfl,by rw[HS.o,F],aY,bG⟩
    . have HF:Zz (Kp (fun k=>rA l b x vs k\/d+3<=k) W₂ T/\NT l p aa b k m t U s x vs d (ah++[C]) T):=Zy ⟨aV,s2,bn,bq,by rw[HS.o,F],aI,H3.trans aM eU,bG⟩;have bC:=Zy X;clear aV bG X aY aI aM F ag;gi_wp2_with fail;refine kk h e bC ?_;clear e g;refine OT ?_;gi_wp2_with fail;exact HF
   case hdone=>
    rintro xs v rfl ⟨s',R,S,I,D,N,K⟩ n;have dz:(backTo (M.method p G.1).args (M.method p G.1).args.length).map Prod.snd=(M.method p G.1).args.reverse:=by rw[qO _ _ (Tu _),TA]
    rw[dz]at I;have eP:=H.lM.ord;have eH:=H.lM.lt;have eT:(w:Nat)+1<(d:Nat):=by
     have:=bu.lt;have:=z.size;have:=y.size;omega
    have aO:(d.alloc (.cells #[.slice j.a1 (M.method p G.1).args.length j.c1] 107)).heap.size=d+1:=by simp
    rw[aO]at n |-;replace P:Zz (jQ p k m i s=(lX p k (kP i.name) s').bind (lK m (kH (M.method p G.1).ret))):=Zy (by rw[P.o,I];rfl);have bK:=Zy (aF.any.trans (((z.weak (fun u _ a=>.inl a)).trans y.any).trans K));refine⟨Zl,Zl,?_⟩;show Code.zh _ _ _ _ _ _
    refine P8 (ds:=[{target:=.collected (d+1),args:=#[]}]) (R:=fun a A=>A.heap[d.heap.size+1]?=some (.deferred (some []))/\jX w l p aa b k m t U x vs (jQ p k m i s) a (A.putObj (d+1) (.deferred none))) ?_ ?_ ?_;rotate_left
    . rintro ak A hd ⟨L,hR⟩;show LeavesInM _ _ _ _ _ _ ak.defers _ _
      rw[hd];refine⟨Zl,.inl ⟨_,_,rfl,run_takeDeferred L,?_⟩⟩;exact⟨.tuple #[],by simp[results,Tryz.f187,go_sem],hR⟩
    . rintro bP ak A hd ⟨L,hR⟩;show LeavesInM _ _ _ _ _ _ ak.defers _ _
      rw[hd];exact⟨Zl,.inl ⟨_,_,rfl,run_takeDeferred L,hR⟩⟩
    have bZ:(d:Nat)+2<=(v:Nat):=Te ((TW.1 n).1)
    have aD:∀(v1 v2:Value),kN (d+2) x vs v1 v2->∀B,w.heap.size<=B->B<d.heap.size+2->¬rA l b v1 v2 B:=fun v1 v2 F B fD fE=>by
     rintro(a|a|a|a)
     . omega
     . omega
     . rcases F B (.inl a)with c|c|c
       . have:=(ai.loc.lt B c).2;omega
       . have:=(ai.kY.lt B c).2;omega
       . omega
     . rcases F B (.inr a)with c|c|c
       . have:=(ai.loc.lt B c).2;omega
       . have:=(ai.kY.lt B c).2;omega
       . omega
    have bQ:∀(v1 v2:Value)(bH:Option lU)(a:Ending)(A aA:World),kN (d+2) x vs v1 v2->Kp (rA l b x vs) w A->A.heap[d.heap.size+1]?=some (.deferred (some []))->jX A l p aa b k m t U v1 v2 bH a aA->(d:Nat)+2<=(A:Nat)→
        aA.heap[d.heap.size+1]?=some (.deferred (some []))/\jX w l p aa b k m t U x vs bH a (aA.putObj (d+1) (.deferred none)):=fun v1 v2 bH a A aA F eF hd hE fF=>by
     have az:=Kp.putObj aA (d+1) (.deferred none);have eG:Kp (rA l b x vs) w aA:=eF.look hE.1 (F.le Zm);refine⟨(hE.1.block _ Zm (aD v1 v2 F _ Zm Zm)).trans hd,eG.own az (fun k a=>Zm),hE.2.1.kp az (fun u Y a=>Zm),?_⟩;rcases hE.2.2 with⟨I,D⟩|⟨s2,I,D,ak,u,h5,h6⟩
     . exact .inl ⟨I,D⟩
     . have dm:=F.trans h6 Zm;have dh:∀f,(ak.ownBlock=some f\/u.ownBlock=some f)->¬f=d.heap.size+1:=fun f E a=>aD ak u dm f Zm Zm (by
        rcases E with c|c
        . exact .inr (.inr (.inl c))
        . exact .inr (.inr (.inr c)))
       exact .inr ⟨s2,I,D,ak,u,h5.kp' az (h5.lM.kp az (fun u Y a=>Zm)) Zm (fun f E=>dh f (.inl E)) (fun f E=>dh f (.inr E)) (fun u Y a=>Zm),dm.le Zm⟩
    have aU:kN (d+2) x vs R S:=N.le Zm;have fu:w<=b8/\b8<d:=by
     have:=bz.lt;have:=z.size;have:=aF.size;omega
    have n0:∀B,w.heap.size<=B->¬rA l b x vs B:=fun B hq c=>Te (jO.old ai c)
    have⟨B2,B3,B8⟩:=jI (((aQ.kp z aN).ext y).kp K (n0 _ Zm)) (((bu.kp z cZ).ext y).kp K (n0 _ Zm)) (bz.kp K (n0 _ Zm));obtain⟨aS,aT,bf,o⟩:=tN.ex (fun A=>Kp (rA l b R S) v A) _ Kp.rr;have r2:=fun r=>(B2.kp (o.jC r) (aD _ _ aU _ Zm Zm)).c 0 (some b) rfl;have r3:=fun r=>(B3.kp (o.jC r) (aD _ _ aU _ Zm Zm)).c 2 i.name rfl;have⟨h,bJ,aR,dI⟩:=kD o bQ aD D;have aH:=Zy aU;have dO:=Zy n;clear I D N K n bQ aD aU n0 o dz;go_wp2_with fail;refine lq h 5 [([0,1,2],3),([],4)] [] ?_ ?_
    . exact jA
    refine nE ?_;intro g e;go_wp2_with fail;refine(zo v.drew i.name).mono ?_;rintro a w4 ⟨rfl,aJ⟩;have aj:=Zy (((Kp.refl _ v).drew).trans aJ);clear aJ;go_wp2_with fail;refine kk h e aj.any ?_;clear e g;refine mF rfl fun g e=>?_;go_wp2_with fail;refine(oM w4 (dI.ext aj) (kP i.name)).mono ?_;rintro a T ag;have aK:=jX.behind aj ag;have Z:=bJ.o R S _ a v T aH bK dO aK bZ;rcases aK with⟨X,aY,⟨F,rfl⟩|⟨s2,F,rfl,bn,bq,aI,aM⟩⟩
    . rw[F]at Z;exact⟨rfl,Z.1,by rw[P.o,F];exact Z.2⟩
    replace P:Zz (jQ p k m i s=lK m (kH (M.method p G.1).ret) s2):=Zy (by rw[P.o,F];rfl);have dP:=Zy Z.1;have⟨bD,bC,dH,dR⟩:=kD (aH.trans aM bZ) X aI (bK.look X (aH.le Zm));have ek:(d:Nat)+2<=(T:Nat):=Te X.size
    have⟨dE,dF⟩:=jw (B2.kp X (aR _ _ aH _ Zm Zm)) (B8.kp X (aR _ _ aH _ Zm Zm));clear ag Z X aY F aI aM r3;go_wp2_with fail;refine kk h e bC ?_;clear e g;clear r2;refine Hr rfl ?_;clear h;obtain⟨aS,aT,bf,o⟩:=tN.ex (fun A=>Kp (rA l b bn bq) T A) _ Kp.rr;have r2:=fun r=>(dE.kp (o.jC r) (aR _ _ bD _ Zm Zm)).c 0 (some b) rfl;obtain⟨-,-,-,r4,r5,-⟩:=jq.pq fun r=>(dF.kp (o.jC r) (aR _ _ bD _ Zm Zm));have h:=Zy o;clear o;go_wp2_with fail;refine lq h 5 [([0,1,2],3),([],4)] [] ?_ ?_
    . exact jA
    refine nE ?_;intro g e;go_wp2_with fail;refine(Ci T.drew (M.method p G.1).ret).mono ?_;rintro a w6 ⟨rfl,bW⟩;have bA:=Zy (((Kp.refl _ T).drew).trans bW);clear bW;go_wp2_with fail;refine kk h e bA.any ?_;clear e g;refine mF rfl fun g e=>?_;go_wp2_with fail;refine(sJ w6 (dH.ext bA) (kH (M.method p G.1).ret)).mono ?_;rintro a w9 ag;have aX:=jX.behind bA ag;have aC:=aX.1;have Z:=bJ.o bn bq _ a T w9 bD dR dP aX ek;rw[<-P.o]at Z;have⟨bI,dN⟩:=jw Z aC;have eD:=aX.2.2;clear Z aX aC ag;rcases eD with⟨-,rfl⟩|⟨s9,-,rfl,-⟩
    . exact⟨rfl,bI⟩
    go_wp2_with fail;refine kk h e dN ?_;clear e g;clear r2 r4 r5;refine Hr rfl ?_;go_wp2_with fail;exact⟨rfl,bI⟩
   case hstop=>exact fun _ _ _ _ c=>c.elim
   case hpanic=>
    rintro bP ah v ⟨eY,eQ⟩ ⟨rfl,D,N,K⟩ n;refine⟨Zl,Zl,?_⟩;have eP:=H.lM.ord;have eH:=H.lM.lt;have az:=Kp.putObj v (d.alloc (.cells #[.slice j.a1 (M.method p G.1).args.length j.c1] 107)).heap.size (.deferred none);have aO:(d.alloc (.cells #[.slice j.a1 (M.method p G.1).args.length j.c1] 107)).heap.size=d+1:=by simp
    have eu:jQ p k m i s=none:=by
     rw[P.o];have e1:(M.method p G.1).args.reverse=ah.map Prod.snd++eY.map Prod.snd:=by
      have:=congrArg (List.map Prod.snd) eQ;rw[qO _ _ (Tu _),TA,Ux]at this;exact this
     rw[e1,Hg D];rfl
    have ed:=((z.weak (fun u _ a=>.inl a)).trans y.any).trans K;refine⟨Zl,.inl ⟨_,_,rfl,run_takeDeferred n,?_⟩⟩;exact jX.behind aF ⟨ed.own az (fun k a=>Tf z.size y.size),N.kp az (fun k L a=>Zm),.inl ⟨eu,rfl⟩⟩
  refine rQ h 7 (.two [0,1,2,3,4] 5 6 (.one [] 6 (.fin [])) (.one [] 5 (.fin []))) ?_ ?_
  . exact jA
  clear n;have bN:=Zy dC;clear dC;refine two [_,_,_,_,_] rfl rfl rfl fun J n=>?_;(repeat (go_big_quiet_step (fail)));((refine EP n (fun g e=>?_) fun g e=>?_)<;>clear n J)
  . go_wp2_with fail;refine(mY q.drew l p (af.ext jA) G.1 cK).mono ?_;rintro a d ⟨⟨cs,Q,rfl⟩,W⟩;obtain⟨j,rfl⟩:=ql Q;have⟨y,aG⟩:=jw ((jA).trans W) Q;clear Q W;simp only[oC];go_wp2_with fail;refine kk h e y ?_;clear e g;refine j3 rfl fun g e=>?_;go_wp2_with fail;refine kk h e (y.alloc _) ?_;clear e g;refine kQ ?_;go_wp2_with fail;exact bN _ _ j (y.alloc _) (jq.new _ _ _) y.size (kE.ext jy.stays (kx:Ext d _) aG)
  . go_wp2_with fail;refine kk h e ((jA).alloc _) ?_;clear e g;refine j3 rfl fun g e=>?_;go_wp2_with fail;have b5:jq (q.alloc (.cells #["",(),Tj,"",Tj,Tj,(),()] 113)).drew q 113 #["",(),Tj,"",Tj,Tj,(),()]:=(jq.new _ _ _).ext jA;refine(mY ((q.alloc (.cells #["",(),Tj,"",Tj,Tj,(),()] 113)).drew) l p (af.ext (jJ _).drew) G.1 cK).mono ?_;rintro a d ⟨⟨cs,Q,rfl⟩,W⟩;obtain⟨j,rfl⟩:=ql Q;have y:=Zy ((((Kp.refl _ q).alloc _).drew).trans W);have V:=b5.ext W;obtain⟨z5,y0,y1,y2,y3,y4,y5,y6,y7,-⟩:=V.ca;obtain⟨g0,g1,g2,g3,g4,g5,g6,g7,-⟩:=V.fz;have eO:=Q;obtain⟨w9,bg⟩:=S9 (((((((((d.setCell q (.string (M.method p G.1).name)).setCell (q,1) (.slice j.a1 (M.method p G.1).args.length j.c1)).setCell (q,2) (.int .i64 (M.method p G.1).ret.kind)).setCell (q,3) (.string (M.method p G.1).ret.name)).setCell (q,4) (.int .i64 (M.method p G.1).locals)).setCell (q,5) (.int .i64 (M.method p G.1).stack)).setCell (q,6) (.slice j.a2 (M.method p G.1).code.length j.c2)).setCell (q,7) (.slice j.a3 (M.method p G.1).maps.length j.c3)));have aC:Kp (·=q) d w9:=by rw[bg];exact Kp.Ib (D:=(·=q)) rfl _ _ _ _ _ _ _ _
    have b9:jq w9 q 113 (oC (M.method p G.1) j).toArray:=by rw[bg];exact V.Ib _ _ _ _ _ _ _ _
    have fG:=af.lt;have fC:=af.ord;have⟨dM,aG,dL,dY⟩:=kD (y.own aC (fun k a=>Zm)) (kE.kp jy.stays aC (fun u Y a=>Zm) Q) b9 bg;clear b5 V Q eO W bg aC b9;simp only[oC];go_wp2_with fail;refine kk h e y ?_;clear e g;clear h r0 r4 r5 r6 r7;refine kQ ?_;go_wp2_with fail;rw[<-dY.o];exact bN _ _ j dM dL (Tu _) aG
 refine rQ h 18 (.two [0,1,2,3,4,5,6,7,8,9,10,11] 12 16 (.one [13,14,15] 16 (.one [] 17 (.fin []))) (.one [] 12 (.one [13,14,15] 17 (.fin [])))) ?_ ?_
 . exact jA
 clear n;have bM:=Zy dB;clear dB;refine two [_,_,_,_,_,_,_,_,_,_,_,_] rfl rfl rfl fun J n=>?_;(repeat (go_big_quiet_step (fail)));((refine EP n (fun g e=>?_) fun g e=>?_)<;>clear n J)
 . go_wp2_with fail;have ax:=xm _ _ _ (HA.lM.ext jA) k i.name i.member;rw[HG.o]at ax;refine ax.mono ?_;rintro a w3 ⟨⟨ev,he,av⟩,aL,aB⟩;rw[HV.o]at he;subst he;have⟨ae,dS,bB⟩:=jI ((jA).trans aB) aL (DJ.weak av);clear aL aB ax av;go_wp2_with fail;refine kk h e ae ?_;clear e g;refine Ac ?_;intro g e;go_wp2_with fail;refine kk h e (ae.alloc _) ?_;clear e g;refine j3 rfl fun g e=>?_;go_wp2_with fail;refine kk h e (ae.alloc _) ?_;clear e g;refine kQ ?_;go_wp2_with fail;exact bM _ _ _ (ae.alloc _) (dS.ext kx) (jq.new _ _ _) ae.size bB
 . go_wp2_with fail;refine kk h e ((jA).alloc _) ?_;clear e g;refine j3 rfl fun g e=>?_;go_wp2_with fail;have b5:jq (O.alloc (.cells #[Tj,"",Tj] 66)).drew O 66 #[Tj,"",Tj]:=(jq.new _ _ _).ext jA;have eZ:=HA.lM.FR;have eX:¬O.heap.size=l.D:=Zm
   have fH:=aF.size;have ax:=xm ((O.alloc (.cells #[Tj,"",Tj] 66)).drew) _ _ (HA.lM.ext (jJ _).drew) k i.name i.member;rw[HG.o]at ax;refine ax.mono ?_;rintro a w3 ⟨⟨ev,he,av⟩,aL,aB⟩;rw[HV.o]at he;subst he;have ae:=Zy ((((Kp.refl _ O).alloc _).drew).trans aB);have V:=b5.kp aB eX;obtain⟨z5,y0,y1,y2,-⟩:=V.ca;obtain⟨g0,g1,g2,-⟩:=V.fz;obtain⟨q,dA,bO,au⟩:=SV V (.int .i64 G.1.of.keeper) (.string G.1.of.name) (.int .i64 G.1.at_);have⟨z,af,dJ,dX,bB⟩:=nC (ae.own au (fun k a=>Zm)) (aL.kp au (fun u Y a=>Zm)) bO dA (DJ.weak av);clear b5 V aL aB au bO dA ax av;go_wp2_with fail;refine kk h e ae ?_;clear e g;refine Ac ?_;intro g e;go_wp2_with fail;rw[<-dX.o];refine kk h e z ?_;clear e g;clear h r0 r1 r2 r3 r4 y0 y1 y2 g0 g1 g2;refine kQ ?_;go_wp2_with fail;exact bM _ _ _ z af dJ (Tu _) bB
end Go.Proofs.YtenhnldnpdlniaaGreat
