/- Walks. -/
import Derived.Test.YtenhnldnpdlniaaGreatOtCoreLn
set_option maxRecDepth 100000
set_option maxHeartbeats 4000000
set_option linter.all false
namespace Go.Proofs.YtenhnldnpdlniaaGreat
open Go Go.RowKit Tryz M
attribute [local go_sem] Oper.semAt_some
def RV(p:hZ)(of:Ref)(xs:List Ref)(w2:World)(fb:Nat)(pre:List (Int×Ref))(W:World):Prop:=
 ∃n:Nat,n<=pre.length*3/\h9 W fb 3 #[.int .i64 n]/\Kp (·=fb) w2 W/\∀rest,xs.reverse=pre.map Prod.snd++rest->mK p of xs.reverse 0=mK p of rest n
def Sq(p:hZ)(of:Ref)(xs:List Ref)(w2:World)(fb:Nat)(c:Code)(_:List (Int×Ref))(W:World):Prop:=
 c=.exit 0/\∃n:Nat,h9 W fb 3 #[.int .i64 n]/\Kp (·=fb) w2 W/\mK p of xs.reverse 0=n
theorem BC{w:World}{l:iZ}{p:hZ}(m:ja w l p)(b c:Ref):Calls prog 148 #[some l.L,.agg #[b.keeper,b.name],.agg #[c.keeper,c.name]] w fun s w'=>s=.returned (mF p b c)/\Ext w w':=by
 have aZ:=m.Fj;have bf:=m.lt;have hO:=m.ord;obtain⟨u,t⟩:=SH ((((w.alloc (.cells #[some l.L] 58)).alloc (.cells #[b.keeper,b.name] 64)).alloc (.cells #[c.keeper,c.name] 64)).alloc (.cells #[SS] 3));have Y:Ext w u:=by rw[t];exact kx
 have af:=Zy (m.ext Y);have b2:h9 u w 58 #[some l.L]:=by rw[t];exact(h9.new w _ _).ext kx
 have b3:h9 u (w+1) 64 #[b.keeper,b.name]:=by
  rw[t];have:=(h9.new (w.alloc (.cells #[some l.L] 58)) 64 #[b.keeper,b.name]);simp only[Tw]at this;exact this.ext kx
 have b4:h9 u (w.heap.size+1+1) 64 #[c.keeper,c.name]:=by
  rw[t];have:=(h9.new ((w.alloc (.cells #[some l.L] 58)).alloc (.cells #[b.keeper,b.name] 64)) 64 #[c.keeper,c.name]);simp only[Tw]at this;exact this.ext kx
 have b5:h9 u (w.heap.size+1+1+1) 3 #[SS]:=by
  rw[t];have:=(h9.new (((w.alloc (.cells #[some l.L] 58)).alloc (.cells #[b.keeper,b.name] 64)).alloc (.cells #[c.keeper,c.name] 64)) 3 #[SS]);simpa only[Tw]using this
 have bE:u.heap.size=w+4:=by rw[t];simp
 have⟨aM,aT⟩:=jc Y t;clear m Y;refine(U5 (n:=10)).1 ?_;refine callsIn_of_wp_marks func148 rfl trivial ?_ rfl;simp only[ntmps148,UQ,Tc,U6,Nat.reduceAdd,Nat.reduceSub,U9,Uz,Uf,Uq,Ti,Td];clear t;gi_wp2_with fail;rw[<-aT.o];refine⟨trivial,?_⟩;refine(U5.2 (rP af c)).mono ?_;rintro s f ⟨⟨aF,rfl,hs⟩,A⟩;obtain⟨v,x,rfl,hn,bq⟩:=hs.form;gi_wp2_with fail;refine⟨trivial,?_⟩;refine(U5.2 (Ao)).mono ?_;rintro s w3 ⟨rfl,rfl⟩;gi_wp2_with fail;have bF:=A.size;have K:=b5.ext A;have⟨aQ,ag,B2⟩:=jr (af.ext A) (aM.trans A) (Tt (b2.ext A) (b3.ext A));clear b2 b3 b4 b5 A;generalize bn:w.heap.size+1+1+1=fb at*;have bg:fb<f:=Zm
 have⟨HS,aR⟩:=jc hs (wu p c);have aS:Zz (∀a∈chain p c,∃j,cls? p a=some j):=Zy fun a hx=>M.kI hx;have HV:Zz (mF p b c=mK p b (chain p c).reverse 0):=Zy rfl;clear hs;generalize chain p c=xs at*;refine Ez (gf:=178) (lb:=#[some f]) (α:=Int×Ref) rfl (enters_of func178 Zo rfl) (encs:=FV) (fun a=>rfl)
  (Bb:=fun o=>o=fb)
  (zP xs f (.slice v xs.length x) (fun V=>fb+1<=V/\V<f) _ ?hBd) ?hIt ?hD1 ?hD2 ?hB1 ?hB2
  (RV p b xs f fb) (Sq p b xs f fb) ?hI ?hIx ?h0 ?hIB
  (fun B a d U S=>RV p b xs f fb B d/\(∃P,backTo xs xs.length=B++a::P)/\
   f.heap.size+2<(d:Nat)/\S=d.alloc (.cells #[.int .i64 a.2.keeper,.string a.2.name] 64)/\
   U={tmps:=#[some l.L,.agg #[b.keeper,b.name],.agg #[c.keeper,c.name],some w,.pointer (some ⟨w+1,0,none⟩),.pointer (some ⟨w.heap.size+1+1,0,none⟩),SS,some fb,undef,.pointer (some ⟨d,0,none⟩),
    some l.L,.agg #[c.keeper,c.name],.slice v xs.length x,.func (.func 178) #[] #[some f],
    .int .i64 a.1,.agg #[.int .i64 a.2.keeper,.string a.2.name],undef,undef,undef,undef,undef,undef,undef,undef,undef,undef,undef],defers:=[]}) ?hassign ?hAx ?hbody ?hdone ?hstop
 case hBd=>
  intro o e;have aV:(o=fb)\/o=(f.alloc (.cells #[.slice v xs.length x] 80)).heap.size+1:=e;simp only[Tw]at aV;omega
 case hIt=>
  intro d hW;refine⟨(h9.new _ _ _).ext hW,?_⟩;refine(CO HS).keep z8.stays (Ext.same (((Kp.refl _ f).alloc _:Ext f _).trans hW)) (fun V hb=>?_);have:=hb.1;exact⟨Zm,hb.2⟩
 case hD1=>exact fun m=>m
 case hD2=>exact fun m=>m
 case hB1=>simp only[Tw];omega
 case hB2=>simp only[Tw];omega
 case hI=>
  rintro C aG aH ⟨n,y,h,i,g⟩ e;simp only[Tw]at e;exact⟨n,y,h.kp e Zr,i.own e (fun o e=>by simp at e;omega),g⟩
 case hIx=>
  rintro j C aG aH ⟨y,n,h,i,g⟩ e;simp only[Tw]at e;exact⟨y,n,h.kp e Zr,i.own e (fun o e=>by simp at e;omega),g⟩
 case h0=>exact⟨0,by simp,K.ext kx,(kx:Ext f _).any,fun P m=>by simp at m;rw[m]⟩
 case hIB=>exact fun _ _ _=>trivial
 case hassign=>
  intro B a d I aB hi aA r;simp only[FV];simp only[Tw]at aA;gi_wp2
 case hAx=>
  rintro B a d U S ⟨_,_,_,rfl,_⟩;exact((Kp.refl _ d).alloc _)
 case hbody=>
  rintro B a d U S T ⟨⟨n,y,h,i,g⟩,aB,aA,rfl,rfl⟩ G O;simp only[Tw]at G O;obtain⟨P,aC⟩:=aB;have D:xs.reverse=B.map Prod.snd++a.2::P.map Prod.snd:=by
   have:=congrArg (List.map Prod.snd) aC;rw[ql _ _ (Tz _),TV]at this;simpa using this
  have aW:a.2∈xs:=by
   have q:a.2∈xs.reverse:=by rw[D];simp
   simpa using q
  have bB:n<=18:=by
   have k:=congrArg List.length D;simp at k;have:=aR.o;omega
  have az:=g _ D;obtain⟨j,N⟩:=aS.o _ aW;have F:=(i.alloc _).own G (fun o e=>Zm);have Z:=aQ.kp F (fun o e s=>Zm);obtain⟨cs,ax,av⟩:=vD l p Z a.2.keeper a.2.name j N;obtain⟨a1,c1,a2,c2,rfl⟩:=ax.form;have bA:∀d,(Instr.field 38 (.agg #[.string j.name,.string j.je,.slice a1 j.fields.length c1,.slice a2 j.methods.length c2]) 2).run prog d=.ok (.slice a1 j.fields.length c1) d:=(fun d=>by kernel_rfl);have W:=(h9.new d 64 #[.int .i64 a.2.keeper,.string a.2.name]).kp G Zm;obtain⟨-,u0,u1,-⟩:=W.ca;obtain⟨-,t2,t3,-⟩:=(B2.2.kp F Zm).ca;have X:=(h.ext ((Kp.refl _ d).alloc _)).kp G Zm;have⟨H,aK,ah⟩:=jr (Tt X F) av (wV Z.ok N);have ay:cls p a.2=j:=by unfold cls;rw[N];rfl
  have⟨aL,aP,aO⟩:=jr ay az g;have aN:=Zy y;obtain⟨aX,aY,bC,E⟩:=mJ T;have r2:=fun C=>((B2.1.kp F Zm).ext (E.jv C)).c 0 (some l.L) rfl;have r5:=fun C=>(X.ext (E.jv C)).c 0 n rfl;obtain⟨-,r7,r8,-⟩:=h9.qW fun C=>(W.ext (E.jv C));have aj:=Zy E;clear y h i g W X F av Z N G O K E ay az D aC ax;have aU:((b.keeper=a.2.keeper/\b.name=a.2.name)/\a.2=b)\/(((b.keeper=a.2.keeper/\(a.2.name.toList==b.name.toList)=false)\/(a.2.keeper==b.keeper)=false)/\¬a.2=b):=by
   rcases zG a.2.keeper b.keeper a.2.name b.name with⟨k,q⟩|⟨k,q,z⟩|⟨k,q⟩
   . exact .inl ⟨⟨k.symm,q.symm⟩,Ref.nW.2 ⟨k,q⟩⟩
   . exact .inr ⟨.inl ⟨k.symm,q⟩,fun s=>z (by rw[s])⟩
   . exact .inr ⟨.inr k,fun s=>q (by rw[s])⟩
  rcases aU with⟨⟨k,q⟩,z⟩|⟨k,z⟩
  . have Q:=Zy z;clear z;gi_wp2_with fail;refine⟨Kp.rr,rfl,n,H.1,H.2,?_⟩;rw[aP.o];unfold mK;rw[SV Q.o]
  . have Q:=Zy z;clear z;have bD:(n:Int)<=18:=Zm
    have bu:(j.fields.length:Int)<=3:=SK ah.o
    rcases k with⟨k,q⟩|k
    all_goals
     gi_wp2_with fail;refine Pz aj 7 [([0,1,2],3)] [4,5,6] ?_ (fun _=>trivial) ?_
     . exact jg
     refine OE [_,_,_] rfl rfl fun I r=>?_;(repeat (go_big_quiet_step (fail)));refine qn r fun K2 au=>?_;clear r I;gi_wp2_with fail;refine⟨trivial,?_⟩;refine(CallsIn.inRound _ (U5.2 (aK _ (jg)))).mono ?_;rintro s w4 ⟨rfl,ak⟩;have L:=((Kp.refl _ T).drew:Ext T _).trans ak;have J:=H.1.ext L;obtain⟨z0,d0,-⟩:=J.ca;have f0:=J.frozen 0;have aJ:=Zy J;have ai:=Zy L;clear J ak;gi_wp2_with fail;refine kk aj au L ?_;clear au K2;clear L;refine QT [_,_,_] rfl fun I r=>?_;(repeat (go_big_quiet_step (fail)));refine qn r ?_;clear r I;gi_wp2_with fail;have aD:=fun aI hD aF=>(Kp.refl aI w4).setCell (p:=⟨fb,0,none⟩) (fun _=>hD) aF;have bz:=ah.o;refine⟨ai.any.trans (aD (·=fb) rfl _),n+j.fields.length,by have:=aN.o;simp;omega,?_,(H.o.2.trans ai.o.any).trans (aD (·=fb) rfl _),fun ae hr=>?_⟩
     . have:=aJ.jE 0 (.int .i64 ((n:Int)+j.fields.length));simpa using this
     . rw[aO.o (a.2::ae) (by rw[hr];simp)];rw[show mK p b (a.2::ae) n=if a.2=b then n else mK p b ae (n+(cls p a.2).fields.length)from rfl,SX Q.o,aL.o]
 case hdone=>
  rintro ys d rfl ⟨n,y,h,i,g⟩ r;have k0:=h.c 0 _ rfl;have R:=Zy (Tt h (Tt i g));clear h i g K;simp only[Exit.inBlock,Exit.then];gi_wp2;obtain⟨h,i,g⟩:=R.o;refine⟨by simp,.inl ⟨_,_,rfl,run_takeDeferred r,?_⟩⟩;have aa:=Kp.putObj d (f.alloc (.cells #[.slice v xs.length x] 80)).heap.size (.deferred none);have O:(f.alloc (.cells #[.slice v xs.length x] 80)).heap.size=f+1:=by simp
  refine⟨n,by simp[results,Tryz.f148,go_sem],?_,?_⟩
  . have D:(backTo xs xs.length).map Prod.snd=xs.reverse:=by rw[ql _ _ (Tz _),TV]
    rw[HV.o,g [] (by rw[D];simp)];rfl
  . exact((ag.own i (fun o e=>Zm))).own aa (fun o e=>Zm)
 case hstop=>
  rintro j B d hS ⟨rfl,n,h,i,g⟩ r;have k0:=h.c 0 _ rfl;have R:=Zy (Tt h (Tt i g));clear h i g K;gi_wp2;obtain⟨h,i,g⟩:=R.o;refine⟨by simp,.inl ⟨_,_,rfl,run_takeDeferred r,?_⟩⟩;have aa:=Kp.putObj d (f.alloc (.cells #[.slice v xs.length x] 80)).heap.size (.deferred none);have O:(f.alloc (.cells #[.slice v xs.length x] 80)).heap.size=f+1:=by simp
  refine⟨n,by simp[results,Tryz.f148,go_sem],?_,?_⟩
  . rw[HV.o,g]
  . exact((ag.own i (fun o e=>Zm))).own aa (fun o e=>Zm)
end Go.Proofs.YtenhnldnpdlniaaGreat
namespace Go.Proofs.YtenhnldnpdlniaaGreat
open Go Go.RowKit Tryz M
variable {at_ k: Int}{xs: List Value}{m: M.Method}{A N b base c e g n q u z: Nat}{D: Nat->Prop}{α: Type}{t: TypeId}{f j r u0 u1 u2 v vl vs: Value}{W w: World}{p: hZ}{l: iZ}{s: nV}
theorem nR(l:List α)(k:Nat)(a:k<l.length):∃b,l[k]?=some b:=⟨l[k],Dj a⟩
def Lv:Array Value:=#[.int .i64 0,.string ⟨#[]⟩,.int .i64 0,.int .i64 0,.string ⟨#[]⟩]
theorem Dn.kp{f: World}{b:Value}{c:Int}(d:Dn w b c)(j:Kp D w f)(i:∀a,b=.iface 166 (.pointer (some ⟨a,0,none⟩))->¬D a):Dn f b c:=by
 rcases d with d|⟨g,a,e,h⟩
 . exact .inl d
 . exact .inr ⟨g,a,e,h.kp j (i a e)⟩
theorem h9.inj{c: TypeId}{cs d:Array Value}(b:h9 w g t cs)(a:h9 w g c d):t=c:=by
 unfold h9 at b a;rw[b]at a;cases a;rfl
theorem Kp.wL(a:D b)(c d e f g:Value):Kp D w (((((w.setCell b c).setCell (b,1) d).setCell (b,2) e).setCell (b,3) f).setCell (b,4) g):=
 (((((Kp.refl D w).setCell (p:=⟨b,0,none⟩) (fun _=>a) c).setCell (p:=⟨b,1,none⟩) (fun _=>a) d).setCell (p:=⟨b,2,none⟩) (fun _=>a) e).setCell (p:=⟨b,3,none⟩) (fun _=>a) f).setCell (p:=⟨b,4,none⟩) (fun _=>a) g
theorem h9.wL{u3 u4: Value}(g:h9 w b t #[u0,u1,u2,u3,u4])(a c d e f:Value):h9 (((((w.setCell b a).setCell (b,1) c).setCell (b,2) d).setCell (b,3) e).setCell (b,4) f) b t #[a,c,d,e,f]:=
 ((((g.jE 0 a).jE 1 c).jE 2 d).jE 3 e).jE 4 f
theorem zA (w : World) (l : iZ) (p : hZ) (y : ja w l p) (k : Int) (n m : ByteArray) :Calls prog 108 #[some l.L,k,n,m] w fun g w'=>(∃ev,g=.returned (.tuple #[.agg (oW (M.get p k n m).1).toArray,ev])/\Dn w' ev (M.get p k n m).2)/\ja w' l p/\Kp (·=l.D) w w':=by
 have bX:=y.Fj;have cu:=y.lt;have hO:=y.ord;obtain⟨I,D⟩:=SH (w.alloc (.cells Lv 173));have av:Ext w I:=by rw[D];exact kx
 have bn:=Zy (y.ext av);have b8:h9 I w 173 Lv:=by rw[D];exact h9.new w _ _
 have dm:I.heap.size=w+1:=by rw[D];simp
 have⟨bB,bH⟩:=jc av D;have HK:Zz (M.get p k n m=if(jy p k n m).2=1 then qd p k m (jy p k n m).1 (layout p (jy p k n m).1)else(yg,(jy p k n m).2)):=Zy rfl;clear y av D;go_enter func108,ntmps108;go_wp2_with fail;have aB:=bH.o;unfold Lv at aB;rw[<-aB];clear aB;refine(xZ bn).mono ?_;rintro g w2 ⟨⟨ev,rfl,bL⟩,aQ,Z⟩;generalize jy p k n m=F at*;obtain⟨⟨c,d⟩,bJ⟩:=F;simp only at*;have O:=b8.kp Z Zm;have dn:=Z.size;obtain⟨yz,y0,y1,y2,y3,y4,-⟩:=O.ca;obtain⟨P,Q,R,S,T,-⟩:=O.fz;have⟨aN,aK,ah⟩:=jr aQ (bB.any.trans Z) O;clear aQ Z b8 O;rcases bL with⟨rfl,rfl⟩|⟨hc,eb,rfl,aY⟩
 . have L : Zz (M.get p k n m = qd p k m ⟨c, d⟩ (layout p ⟨c, d⟩)) := Zy (by rw [HK.o, SV rfl]); have W : Ext w2 (w2.alloc (.cells #[c, d] 64)) := kx; have aP := h9.new w2 64 #[c, d]; go_wp2_with fail; refine (xu (aN.ext W) ⟨c, d⟩).mono ?_; rintro g w3 ⟨⟨dx, rfl, e⟩, aR, B⟩; obtain ⟨bT, bV, rfl, hn, cB⟩ := e.form; have bQ := B.size; simp only [Tw] at bQ; have ⟨bz, bq, bE, bD, HS, bF⟩ := rX ((ah.ext W).kp B Zm) (aP.kp B Zm) aR ((aK.trans W.any).trans B) e (fun i a => zt (p := p) (r := ⟨c, d⟩) (i := i) (f := a)); clear e aR B W aP y0 y1 y2 y3 y4 P Q R S T yz; generalize layout p ⟨c, d⟩ = fs at *; go_wp2_with fail; go_loopw [31] (fun i wr => ∃ b : Nat, b <= fs.length /\ i = .int .i64 b /\ Ext w3 wr /\ Zz (qd p k m ⟨c, d⟩ fs = qd p k m ⟨c, d⟩ (fs.drop b))) (fun i _ => fs.length - (intOf i).toNat)
   case atStart=>exact⟨0,T9 _,rfl,Kp.rr,Zy rfl⟩
   case round =>
    obtain⟨b,hq,rfl,s,HA⟩:=hrel;have A:=bz.ext s;obtain⟨yz,y0,y1,y2,y3,y4,-⟩:=A.ca;obtain⟨P,Q,R,S,T,-⟩:=A.fz;have aF:=Zy A;have V:=bq.ext s;have⟨bR,r,aM,bC⟩:=kQ V (bE.ext s) (bD.trans s.any) s;by_cases bM:b<fs.length
    . obtain⟨a,hx⟩:=nR fs b bM;obtain⟨_,aZ,ag,G,U,C,v,bg⟩:=bF.o b a hx;obtain⟨j,ae⟩:=M.kI aZ;have aA:cls p a.of=j:=by unfold cls;rw[ae];rfl
      rw[aA]at C;have df:=(Tv.1 C).1;have cz:=wV r.ok ae;have aI:=Zy (GD (by rw[aA];exact C) (by rw[ag,v]));have aJ:Zz (qd p k m ⟨c,d⟩ fs=if fieldName p ⟨c,d⟩ a=m then(if agree p k a.of.keeper a.kind then(a,1)else(yg,4))else qd p k m ⟨c,d⟩ (fs.drop (b+1))):=Zy (by rw[HA.o,pV hx];rfl);obtain⟨bU,dw,cs,rfl,bY,rfl,-,aU⟩:=HS.get hx;have t:=aU.ext s;have g0:=t 0 a.of.keeper rfl;have g1:=t 1 a.of.name rfl;have g2:=t 2 b (by simp[oW,ag]);have g3:=t 3 a.kind.kind rfl;have g4:=t 4 a.kind.name rfl;rw[Uh]at g0;have gz:=iV g0;obtain⟨ez,e0,e1,-⟩:=V.ca;obtain⟨W4,aS,ax,aj⟩:=nu wr #[a.of.keeper,a.of.name,b,a.kind.kind,a.kind.name] 173;have⟨bI,HX,bA,HJ,bG⟩:=qR aS (Tt ag bg) ae C v;clear ag bg ae C aU t hx aZ aA v y0 y1 y2 y3 y4 P Q R S T aS A V;go_wp2_with fail;rw[<-bI.o];refine(BC (r.ext ax) ⟨a.of.keeper,a.of.name⟩ ⟨c,d⟩).mono ?_;rintro g w5 ⟨rfl,X⟩;have v:b=mF p ⟨a.of.keeper,a.of.name⟩ ⟨c,d⟩+G:=bG.o;generalize mF p ⟨a.of.keeper,a.of.name⟩ ⟨c,d⟩=ff at*;obtain⟨cs,aW,aT⟩:=vD l p r a.of.keeper a.of.name j bA;obtain⟨a1,c1,a2,c2,rfl⟩:=aW.form;obtain⟨dz,dA,aX,sf,-⟩:=aW;simp only[TG,Vw,Ve]at aX;obtain⟨rfl,rfl⟩:=aX;have cK:∀ai,(Instr.field 38 (.agg #[j.name,j.je,.slice a1 j.fields.length c1,.slice a2 j.methods.length c2]) 2).run prog ai=.ok (.slice a1 j.fields.length c1) ai:=(fun ai=>by kernel_rfl);obtain⟨bf,of,bW,rfl,bZ,rfl,-,aV⟩:=sf.get HJ;have az:=ax.trans X;obtain⟨bS,f,dh,N⟩:=mJ w5;obtain⟨-,r0,r1,r2,r3,r4,-⟩:=h9.qW fun aC=>(aj.ext (X.trans (N.jv aC)));have rf:=fun aC=>(aV.ext (az.trans (N.jv aC))) 0 U.name rfl;simp only[Uh]at rf;have hw:IntKind.i64.wrap ((b:Int) - (ff:Int))=(G:Int):=by rw[Tg _ Zm];omega
      have di:(b:Int) - (ff:Int)=(G:Int):=Zm
      have cO:(0:Int)<=(G:Int):=Zm
      have cZ:(G:Int)<j.fields.length:=Zm
      have⟨h,aG,J,bu,HQ⟩:=qR N aT az (aj.ext X) v;clear N aT az aj X ax aV sf g0 g1 g2 g3 g4 e0 e1 v;by_cases u:U.name=m
      . have bN:(U.name.toList==m.toList)=true:=by rw[u];simp
        have K:Zz (M.get p k n m=if agree p k a.of.keeper a.kind then(a,1)else(yg,4)):=Zy (by rw[L.o,aJ.o,SV (by rw[aI.o];exact u)]);clear u;go_wp2_with fail;refine Fb h ?_ ?_;rotate_left;(repeat (go_big_quiet_step ((go_at_call 74;refine(aG _ (J.trans (h.jv _)).any).mono ?_;rintro g w6 ⟨rfl,ay⟩;exact⟨rfl,h.o.o w6 ((h.jv _).trans ay)⟩))));refine wpQuiet_nil ?_;(rintro _ ⟨H,rfl⟩);rotate_left
        . exact jg
        go_wp2_with fail;have af:=J.trans (h.jv H);have ak:=bu.ext (h.jv H);generalize f H=w6 at*;clear h r0 r1 r2 r3 r4 rf;refine(yI (r.ext af) k a.of.keeper a.kind).mono ?_;rintro g w7 ⟨rfl,Y⟩;have E:=af.trans Y;have au:=ak.ext Y;have z:=aF.ext E;obtain⟨yz,y0,y1,y2,y3,y4,-⟩:=z.ca;obtain⟨P,Q,R,S,T,-⟩:=z.fz;have⟨aD,aO,aL⟩:=jr z (r.ext E) (aM.trans E.any);cases aa:agree p k a.of.keeper a.kind
        . have x:Zz (M.get p k n m=(yg,4)):=Zy (by rw[K.o,aa];rfl);clear au ak z E af Y aa;go_wp2_with fail;have e:=Kp.wL (D:=(·=w)) (w:=w7) rfl SS "" SS SS "";have o:=aD.wL SS "" SS SS "";refine Px (h7 vY rfl w rfl (oW yg) ((hH.mO o).ext (jh _)) rfl) rfl ?_;rw[x.o];refine⟨⟨_,rfl,.inr ⟨by simp,w7.heap.size,rfl,?_⟩⟩,(aO.kp e (fun k q g=>Zm)).ext (jh _),(aL.o.own e (fun k q=>Zm)).alloc _⟩;have:=h9.new (((((w7.setCell w SS).setCell (w,1) "").setCell (w,2) SS).setCell (w,3) SS).setCell (w,4) "") 168 #[.int .i64 4];simpa using this
        . have x:Zz (M.get p k n m=(a,1)):=Zy (by rw[K.o,aa];rfl);obtain⟨-,e0,e1,e2,e3,e4,-⟩:=au.ca;clear au ak z E af Y aa;go_wp2_with fail;have e:=Kp.wL (D:=(·=w)) (w:=w7) rfl a.of.keeper a.of.name b a.kind.kind a.kind.name;have o:=aD.wL a.of.keeper a.of.name b a.kind.kind a.kind.name;have bP:oW a=[.int .i64 a.of.keeper,.string a.of.name,.int .i64 b,.int .i64 a.kind.kind,.string a.kind.name]:=by unfold oW;rw[HX.o.1]
          rw[x.o];refine Px (h7 vY rfl w rfl (oW a) (by rw[bP];exact hH.mO o) rfl) rfl ?_;exact⟨⟨_,rfl,.inl ⟨rfl,rfl⟩⟩,aO.kp e (fun k q g=>Zm),aL.o.own e (fun k q=>Zm)⟩
      . have bN:(U.name.toList==m.toList)=false:=by rw[nU];exact RN u
        have K:Zz (qd p k m ⟨c,d⟩ fs=qd p k m ⟨c,d⟩ (fs.drop (b+1))):=Zy (by rw[aJ.o,SX (by rw[aI.o];exact u)]);clear u;go_wp2_with fail;refine Fb h ?_ ?_;rotate_left;(repeat (go_big_quiet_step ((go_at_call 74;refine(aG _ (J.trans (h.jv _)).any).mono ?_;rintro g w6 ⟨rfl,ay⟩;exact⟨rfl,h.o.o w6 ((h.jv _).trans ay)⟩))));refine wpQuiet_nil ?_;(rintro _ ⟨H,rfl⟩);rotate_left
        . exact jg
        go_wp2_with fail;have bO:=bC.trans (J.trans (h.jv H));refine⟨⟨b+1,Zm,by go_num,bO,K⟩,by simp[intOf];omega⟩
    . have x:Zz (M.get p k n m=(yg,3)):=Zy (by rw[L.o,HA.o,TW Zm];rfl);clear A V;go_wp2_with fail;have e:=Kp.wL (D:=(·=w)) (w:=wr) rfl SS "" SS SS "";have o:=aF.wL SS "" SS SS "";refine Px (h7 vY rfl w rfl (oW yg) ((hH.mO o).ext (jh _)) rfl) rfl ?_;rw[x.o];refine⟨⟨_,rfl,.inr ⟨by simp,wr.heap.size,rfl,?_⟩⟩,(r.kp e (fun k q g=>Zm)).ext (jh _),(aM.o.own e (fun k q=>Zm)).alloc _⟩;have:=h9.new (((((wr.setCell w SS).setCell (w,1) "").setCell (w,2) SS).setCell (w,3) SS).setCell (w,4) "") 168 #[.int .i64 3];simpa using this
 . have aH:=Zy aY;have HC:=Zy hc;clear aY hc;have L:Zz (M.get p k n m=(yg,bJ)):=Zy (by rw[HK.o,SX HC.o]);have bK:¬eb=w:=fun g=>by subst g;exact absurd (h9.inj aH.o ah.o) Zn
   go_wp2_with fail;have e:=Kp.wL (D:=(·=w)) (w:=w2) rfl SS "" SS SS "";have o:=ah.wL SS "" SS SS "";refine Px (h7 vY rfl w rfl (oW yg) ((hH.mO o).ext (jh _)) rfl) rfl ?_;rw[L.o];exact⟨⟨_,rfl,.inr ⟨HC,eb,rfl,(aH.kp e bK).ext (jh _)⟩⟩,(aN.kp e (fun k q g=>Zm)).ext (jh _),(aK.o.own e (fun k q=>Zm)).alloc _⟩
theorem lV(w:World)(l:iZ)(p:hZ)(f:ja w l p)(x:p8)(k:jM p x=true):Calls prog 46 #[some l.L,.agg #[x.of.keeper,x.of.name,x.at_]] w fun a d=>(∃b,jb d (· <l.O) (M.method p x) b/\a=.returned (.agg b.toArray))/\Ext w d:=by
 obtain⟨_,m,e,c,g,h,i,j⟩:=uy k;have a:M.method p x=c:=by unfold M.method;rw[j];rfl
 rw[a,g];exact Hd w l p f x.of.keeper x.of.name m e c h i
theorem h9.newAt(t:TypeId)(cs:Array Value)(a:W=g):h9 (W.alloc (.cells cs t)) g t cs:=by
 subst a;exact h9.new W t cs
def Af(x:p8):List Value:=[.int .i64 x.of.keeper,.string x.of.name,.int .i64 x.at_]
theorem Kp.xM(a:D b)(c d e:Value):Kp D w (((w.setCell b c).setCell (b,1) d).setCell (b,2) e):=
 (((Kp.refl D w).setCell (p:=⟨b,0,none⟩) (fun _=>a) c).setCell (p:=⟨b,1,none⟩) (fun _=>a) d).setCell (p:=⟨b,2,none⟩) (fun _=>a) e
theorem h9.xM(e:h9 w b t #[u0,u1,u2])(a c d:Value):h9 (((w.setCell b a).setCell (b,1) c).setCell (b,2) d) b t #[a,c,d]:=
 ((e.jE 0 a).jE 1 c).jE 2 d
theorem xq(w:World)(l:iZ)(p:hZ)(h:ja w l p)(k:Int)(n m:ByteArray):Calls prog 44 #[some l.L,k,n,m] w fun c W=>(∃T,c=.returned (.tuple #[.agg (Af (call p k n m).1).toArray,T])/\Dn W T (call p k n m).2)/\ja W l p/\Kp (·=l.D) w W:=by
 have aV:=h.Fj;have aW:=h.lt;have hO:=h.ord;obtain⟨q,o⟩:=SH (w.alloc (.cells #[SS, "",SS] 66));have U:Ext w q:=by rw[o];exact kx
 have aD:=Zy (h.ext U);have b8:h9 q w 66 #[SS, "",SS]:=by rw[o];exact h9.new w _ _
 have aY:q.heap.size=w+1:=by rw[o];simp
 have⟨aH,aL⟩:=jc U o;have HK:Zz (call p k n m=if(jy p k n m).2=1 then
  (match pick p (jy p k n m).1 m with
  |none=>(M.qO,3)
  |some a=>if jQ p k a.of.keeper (M.method p a)then(a,1)else(M.qO,4))
 else(M.qO,(jy p k n m).2)):=Zy rfl
 clear h U o;go_enter func44,ntmps44;go_wp2_with fail;rw[<-aL.o];refine(xZ aD).mono ?_;rintro c X ⟨⟨T,rfl,aP⟩,az,d⟩;generalize jy p k n m=F at*;obtain⟨⟨E,G⟩,aN⟩:=F;simp only at*;have t:=b8.kp d Zm;have aZ:=d.size;obtain⟨K,H,I,J,-⟩:=t.ca;obtain⟨u,v,x,-⟩:=t.fz;have⟨aj,ag,L⟩:=jr az (aH.any.trans d) t;clear az d b8 t;rcases aP with⟨rfl,rfl⟩|⟨hc,eb,rfl,aC⟩
 . have r:Zz (call p k n m=match pick p ⟨E,G⟩ m with
    |none=>(M.qO,3)
    |some a=>if jQ p k a.of.keeper (M.method p a)then(a,1)else(M.qO,4)):=Zy (by rw[HK.o,SV rfl])
   have A:Ext X (X.alloc (.cells #[E,G] 64)):=kx;clear H I J u v x K;go_wp2_with fail;refine(D6 _ _ _ (aj.ext A) ⟨E,G⟩ m).mono ?_;rintro c Y ⟨rfl,aA,C⟩;have aQ:=C.size;simp only[Tw]at aQ;have y:=(L.ext A).kp C Zm;obtain⟨K,H,I,J,-⟩:=y.ca;obtain⟨u,v,x,-⟩:=y.fz;have⟨aa,ak,ah⟩:=jr y aA ((ag.trans A.any).trans C);clear aA C A y;cases j:pick p ⟨E,G⟩ m with
   |none=>
    have s:Zz (call p k n m=(M.qO,3)):=Zy (by rw[r.o,j]);clear j;simp only[Vk,VZ,qO];go_wp2_with fail;have b:=Kp.xM (D:=(·=w)) (w:=Y) rfl SS "" SS;have e:=aa.xM SS "" SS;refine Px (h7 Al rfl w rfl (Af M.qO) (((hH.mO e).ext (jh _)).ext (jh _)) rfl) rfl ?_;rw[s.o];exact⟨⟨_,rfl,.inr ⟨by simp,Y.heap.size+1,rfl,h9.newAt _ _ Zl⟩⟩,((ak.kp b (fun k f c=>Zm)).ext (jh _)).ext (jh _),((ah.o.own b (fun k f=>Zm)).alloc _).alloc _⟩
   |some a=>
    have HX:=Zy (qx j);have s:Zz (call p k n m=if jQ p k a.of.keeper (M.method p a)then(a,1)else(M.qO,4)):=Zy (by rw[r.o,j]);clear j;simp only[U7,VY];obtain⟨W4,aB,i,S⟩:=nu Y #[a.of.keeper,a.of.name,a.at_] 66;obtain⟨aT,aU,aX,P⟩:=mJ W4;obtain⟨-,r0,r1,r2,-⟩:=h9.qW fun aR=>(S.ext (P.jv aR));have⟨Q,aM,aS,aF,N,aG,aJ⟩:=uA P aB i S (ak.ext i) (aa.ext i) (ah.trans i.any);clear H I J u v x K P aB i S;go_wp2_with fail;rw[<-aM.o];refine kT Q 10 [([0,1,2,3,4,5,6],7),([],8)] [9] ?_ ?_
    . exact jg
    refine mP ?_;intro R d;go_wp2_with fail;refine(lV _ _ _ (N.ext jg) a HX).mono ?_;rintro c w5 ⟨⟨cs,V,rfl⟩,ax⟩;have B:=(jg:Ext W4 _).trans ax;have aK:=Zy V;obtain⟨a1,c1,a2,c2,a3,c3,rfl⟩:=V.form;clear V ax;go_wp2_with fail;refine kk Q d B ?_;clear d R;refine lK rfl fun R d=>?_;go_wp2_with fail;refine(vH (N.ext B) k a.of.keeper aK).mono ?_;rintro c Z ⟨rfl,ay⟩;have g:=B.trans ay;have z:=aG.ext g;obtain⟨K,H,I,J,-⟩:=z.ca;obtain⟨u,v,x,-⟩:=z.fz;have av:=aF.ext g;obtain⟨-,z0,z1,z2,-⟩:=av.ca;have⟨ae,au,ai,aI⟩:=kQ z (N.ext g) (aJ.trans g.any) g;clear ay B z av r0 r1 r2 g;go_wp2_with fail;refine kk Q d aI ?_;clear d R;cases D:jQ p k a.of.keeper (M.method p a)
    . have O:Zz (call p k n m=(M.qO,4)):=Zy (by rw[s.o,D];rfl);clear D;refine uG ?_;go_wp2_with fail;have b:=Kp.xM (D:=(·=w)) (w:=Z) rfl SS "" SS;have e:=ae.xM SS "" SS;refine Px (h7 Al rfl w rfl (Af M.qO) ((hH.mO e).ext (jh _)) rfl) rfl ?_;rw[O.o];exact⟨⟨_,rfl,.inr ⟨by simp,Z.heap.size,rfl,h9.newAt _ _ Zl⟩⟩,(au.kp b (fun k f c=>Zm)).ext (jh _),(ai.o.own b (fun k f=>Zm)).alloc _⟩
    . have O:Zz (call p k n m=(a,1)):=Zy (by rw[s.o,D];rfl);clear D;refine uG ?_;go_wp2_with fail;have b:=Kp.xM (D:=(·=w)) (w:=Z) rfl a.of.keeper a.of.name a.at_;have e:=ae.xM a.of.keeper a.of.name a.at_;refine Px (h7 Al rfl w rfl (Af a) (hH.mO e) rfl) rfl ?_;rw[O.o];exact⟨⟨_,rfl,.inl ⟨rfl,rfl⟩⟩,au.kp b (fun k f c=>Zm),ai.o.own b (fun k f=>Zm)⟩
 . have af:=Zy aC;have HC:=Zy hc;clear aC hc;have r:Zz (call p k n m=(M.qO,aN)):=Zy (by rw[HK.o,SX HC.o]);have aO:¬eb=w:=fun c=>by subst c;exact absurd (h9.inj af.o L.o) Zn
   go_wp2_with fail;have b:=Kp.xM (D:=(·=w)) (w:=X) rfl SS "" SS;have e:=L.xM SS "" SS;refine Px (h7 Al rfl w rfl (Af M.qO) ((hH.mO e).ext (jh _)) rfl) rfl ?_;rw[r.o];exact⟨⟨_,rfl,.inr ⟨HC,eb,rfl,(af.kp b aO).ext (jh _)⟩⟩,(aj.kp b (fun k f c=>Zm)).ext (jh _),(ag.o.own b (fun k f=>Zm)).alloc _⟩
def Aj(n:Int):List PanicEntry:=[{v:=.iface 240 (.agg #[.int .i64 n]),recovered:=false}]
theorem mG(a:Nat)(n:Int)(e:w.cell? (a,10)=some (.int .i64 n))(h0:0<=n)(d:n<=1000):Calls prog 196 #[some a] w fun b c=>b=.panicked (Aj (n+1))/\w=c:=by
 go_enter func196,ntmps196;go_wp2;exact⟨rfl,rfl,rfl⟩
theorem BD(g:ja w l p)(k:Int)(a b:Tag):Calls prog 237 #[some l.L,k,.agg #[a.kind,a.name],.agg #[b.kind,b.name]] w fun u w'=>u=.returned (.bool (may p k a b))/\Ext w w':=by
 obtain⟨e,c⟩:=a;obtain⟨h,d⟩:=b;have C:=Zy g;clear g;by_cases j:h=0
 . subst j;have f:Zz (may p k ⟨e,c⟩ ⟨0,d⟩=true):=Zy (by unfold may;rw[SV (.inl rfl)]);go_enter func237,ntmps237;go_wp2;go_ret;exact⟨hQ f.symm,kx⟩
 by_cases z:e=h/\c=d
 . obtain⟨rfl,rfl⟩:=z;have f:Zz (may p k ⟨e,c⟩ ⟨e,c⟩=true):=Zy (by unfold may;rw[SV (.inr rfl)]);have Z:=SI.2 j;clear j;go_enter func237,ntmps237;go_wp2;go_ret;exact⟨hQ f.symm,kx⟩
 have t:Zz (may p k ⟨e,c⟩ ⟨h,d⟩=if h≠2 then false else if e=3 then true else if e≠2 then false
  else decide ((find p k c).2=1)&&decide ((find p k d).2=1)&&under p (find p k c).1 (find p k d).1):=Zy (by
  unfold may;rw[SX (by
   rintro(g|g)
   . exact j g
   . rw[Tag.nW]at g;exact z g)])
 have Z:=SI.2 j;have r:(e==h)=false\/(e=h/\(c.toList==d.toList)=false):=by
  rcases zG e h c d with⟨i,D⟩|⟨i,D,_⟩|⟨i,_⟩
  . exact absurd ⟨i,D⟩ z
  . exact .inr ⟨i,D⟩
  . exact .inl i
 clear j z;by_cases x:h=2
 . subst x;by_cases o:e=3
   . subst o;have f:Zz (may p k ⟨3,c⟩ ⟨2,d⟩=true):=Zy (by rw[t.o];rfl);clear r;go_enter func237,ntmps237;go_wp2;go_ret;exact⟨hQ f.symm,kx⟩
   by_cases n:e=2
   . subst n;have av:(c.toList==d.toList)=false:=by
      rcases r with g|g
      . exact absurd g Zn
      . exact g.2
     have f:Zz (may p k ⟨2,c⟩ ⟨2,d⟩=(decide ((find p k c).2=1)&&decide ((find p k d).2=1)&&under p (find p k c).1 (find p k d).1)):=Zy (by rw[t.o];rfl);clear r o;obtain⟨B,A⟩:=SH ((w.alloc (.cells #[.int .i64 2,c] 236)).alloc (.cells #[.int .i64 2,d] 236));have O:Ext w B:=by rw[A];exact kx
     have K:h9 B (w+1) 236 #[.int .i64 2,d]:=by rw[A];exact h9.newAt _ _ Zl
     have⟨V,I⟩:=jc A O;clear A O;go_enter func237,ntmps237;go_wp2_with fail;rw[<-V.o];refine(pJ _ _ _ (C.ext I) k c).mono ?_;rintro u w1 ⟨rfl,E⟩;obtain⟨qz,q0,q1,-⟩:=(K.ext E).ca;have T:=Zy (I.trans E);clear E K;generalize find p k c=F1 at*;obtain⟨⟨G,H⟩,X⟩:=F1;simp only at*;obtain⟨w2,Q,v,L⟩:=nu w1 #[G,H] 64;have⟨W,J⟩:=jc Q (T.trans v);have aa:=v.iW q0;have ae:=v.iW q1;clear Q v;go_wp2_with fail;rw[<-W.o];clear q0 q1 qz;refine(pJ _ _ _ (C.ext J) k d).mono ?_;rintro u w3 ⟨rfl,F⟩;have N:=L.ext F;obtain⟨sz,s0,s1,-⟩:=N.ca;have s:=Zy (J.trans F);clear F L N aa ae;generalize find p k d=F2 at*;obtain⟨⟨R,S⟩,Y⟩:=F2;simp only at*;by_cases q:X=1
     . by_cases y:Y=1
       . subst q y;have m:Zz (may p k ⟨2,c⟩ ⟨2,d⟩=under p ⟨G,H⟩ ⟨R,S⟩):=Zy (by rw[f.o];rfl);go_wp2_with fail;refine(vI (C.ext (s.trans kx)) ⟨G,H⟩ ⟨R,S⟩).mono ?_;rintro u w4 ⟨rfl,P⟩;have U:=Zy ((s.alloc _).trans P);clear P;go_wp2;go_ret;exact⟨hQ m.symm,U⟩
       . have aj:=SI.2 y;subst q;have m:Zz (may p k ⟨2,c⟩ ⟨2,d⟩=false):=Zy (by rw[f.o];simp[y]);clear y;go_wp2;go_ret;exact⟨hQ m.symm,s.alloc _⟩
     . have ai:=SI.2 q;have m:Zz (may p k ⟨2,c⟩ ⟨2,d⟩=false):=Zy (by rw[f.o];simp[q]);clear q;go_wp2;go_ret;exact⟨hQ m.symm,s.alloc _⟩
   . have au:=SI.2 n;have af:=TP.2 n;have ag:=SI.2 o;have f:Zz (may p k ⟨e,c⟩ ⟨2,d⟩=false):=Zy (by rw[t.o];simp[n,o]);clear r n o;go_enter func237,ntmps237;go_wp2;go_ret;exact⟨hQ f.symm,kx⟩
 . have ah:=TP.2 x;have f:Zz (may p k ⟨e,c⟩ ⟨h,d⟩=false):=Zy (by rw[t.o,SV x]);clear x;rcases r with i|⟨rfl,i⟩
   all_goals
    go_enter func237,ntmps237;go_wp2;go_ret;exact⟨hQ f.symm,kx⟩
structure uN where
 a1:Option Addr
 c1:Nat
 a2:Option Addr
 c2:Nat
 a3:Option Addr
 c3:Nat
def nK(m:M.Method)(t:uN):List Value:=[.string m.name,.slice t.a1 m.args.length t.c1,.int .i64 m.ret.kind,.string m.ret.name,.int .i64 m.locals,.int .i64 m.stack,.slice t.a2 m.code.length t.c2,.slice t.a3 m.maps.length t.c3]
def KG(L:Nat)(k:Int)(m:M.Method)(t:uN)(at_:Int)(vl vs:Value):Array Value:=
 #[.pointer (some ⟨L,0,none⟩),.int .i64 k,.string m.name,.slice t.a1 m.args.length t.c1,.int .i64 m.ret.kind,.string m.ret.name,.int .i64 m.locals,.int .i64 m.stack,.slice t.a2 m.code.length t.c2,.slice t.a3 m.maps.length t.c3,.int .i64 at_,vl,vs]
structure jo(w:World)(l:iZ)(p:hZ)(B kb:Nat)(k:Int)(m:M.Method)(t:uN)(at_:Int)(s:nV)(vl vs:Value):Prop where
 kK:ja w l p
 hB:l.L<B
 hk:B<=kb
 ml:jb w (· <l.O) m (nK m t)
 mi:LA m
 blk:h9 w kb 235 (KG l.L k m t at_ vl vs)
 loc:w.ownsRow B 236 2 vl s.locals.length (s.locals.flatMap ni)
 ky:w.ownsRow B 236 2 vs s.stack.length (s.stack.flatMap ni)
 ne:∀g,vl.ownBlock=some g->vs.ownBlock≠some g
 Ky:0<=at_/\at_<=100
 QW:(s.stack.length:Int)<=m.stack
 Pb:(s.locals.length:Int)=m.locals
def qN(l:iZ)(kb:Nat)(vl vs:Value)(b:Nat):Prop:=b=l.D\/b=kb\/vl.ownBlock=some b\/vs.ownBlock=some b
def jU(n:Nat)(vl vs vl' vs':Value):Prop:=∀g,(vl'.ownBlock=some g\/vs'.ownBlock=some g)->vl.ownBlock=some g\/vs.ownBlock=some g\/n<=g
theorem jU.refl(n:Nat)(b vs:Value):jU n b vs b vs:=fun _ a=>a.elim .inl fun a=>.inr (.inl a)
theorem jU.trans{j: Nat}{a b c g h: Value}(i:jU n a b c g)(k:jU j c g h f)(m:n<=j):jU n a b h f:=fun e l=>by
 rcases k e l with d|d|d
 . exact i e (.inl d)
 . exact i e (.inr d)
 . exact .inr (.inr Zm)
theorem jU.le{f: Nat}{a b c e:Value}(h:jU f a b c e)(j:n<=f):jU n a b c e:=fun g i=>by
 rcases h g i with d|d|d
 . exact .inl d
 . exact .inr (.inl d)
 . exact .inr (.inr Zm)
theorem Kp.look{i:Nat}{n vs': Value}{a b: World}(e:Kp (qN l i j vs) w a)(f:Kp (qN l i n vs') a b)(k:jU w j vs n vs'):Kp (qN l i j vs) w b:=
 ⟨f.os.trans e.os,f.tape.trans e.tape,f.output.trans e.output,TD e.size f.size,
  fun h g m=>(f.block h (Tp g e.size) (fun d=>m (by
   rcases d with d|d|d|d
   . exact .inl d
   . exact .inr (.inl d)
   . rcases k h (.inl d)with c|c|c
     . exact .inr (.inr (.inl c))
     . exact .inr (.inr (.inr c))
     . exact absurd g (Wt.2 c)
   . rcases k h (.inr d)with c|c|c
     . exact .inr (.inr (.inl c))
     . exact .inr (.inr (.inr c))
     . exact absurd g (Wt.2 c)))).trans (e.block h g m)⟩
theorem BO{k: Nat}(d:w.ownsRow base b k (g,n,c) n xs){j:Nat}(i:j<=n):w.ownsRow base b k (g,j,c) j (xs.take (j*k)):=by
 have l:j*k<=n*k:=VK _ i;refine⟨by rw[Tf,d.1];omega,?_⟩;rcases d.2 with⟨a,_⟩|⟨r,q,e,a,h,f,s,m,o,p⟩
 . cases a
 . cases a;refine .inr ⟨g,c,e,rfl,h,f,Zm,m,o,?_⟩;rw[<-p,List.take_take,Ue l]
theorem FX{enc:α->List Value}{k:Nat}(a:∀x,(enc x).length=k)(st:List α)(x:α)(j:Nat):((st++[x]).flatMap enc)[st.length*k+j]?=(enc x)[j]?:=by
 rw[TJ,TR (by rw[nI a];omega),nI a,Nat.add_sub_cancel_left];simp
theorem Bu{enc:α->List Value}{k:Nat}(a:∀b,(enc b).length=k)(st r:List α):((st++r).flatMap enc).take (st.length*k)=st.flatMap enc:=by
 rw[TJ,<-nI a st,List.take_left]
section
variable {w w':World} {l:iZ} {p:M.hZ} {B kb:Nat} {k:Int} {m:M.Method} {t:uN} {at_:Int} {s:M.nV} {vl vs:Value}
theorem jo.QV(c:jo w l p B kb k m t at_ s vl vs):vl.ownBlock≠some kb/\vs.ownBlock≠some kb:=by
 constructor
 . intro a;rcases c.loc.2 with⟨b,_⟩|⟨e,g,d,b,h,f,_⟩
   . rw[b]at a;cases a
   . rw[b]at a;cases a;exact absurd (h9.inj (show h9 w e 236 d from f) c.blk) Zn
 . intro a;rcases c.ky.2 with⟨b,_⟩|⟨e,g,d,b,h,f,_⟩
   . rw[b]at a;cases a
   . rw[b]at a;cases a;exact absurd (h9.inj (show h9 w e 236 d from f) c.blk) Zn
theorem jo.kp(a:jo w l p B kb k m t at_ s vl vs)(e:Kp D w w')(h:ja w' l p)(f:∀b,B<=b->b<w.heap.size->¬D b)(i:∀b,b<l.O->¬D b):jo w' l p B kb k m t at_ s vl vs:=
 ⟨h,a.hB,a.hk,jK.kp jb.stays e (fun b d=>i b d) a.ml,a.mi,a.blk.kp e (f _ a.hk a.blk.lt),iY a.loc e (fun c g d=>f c d (a.loc.lt c g).2),iY a.ky e (fun c g d=>f c d (a.ky.lt c g).2),a.ne,a.Ky,a.QW,a.Pb⟩
theorem jo.ext(b:jo w l p B kb k m t at_ s vl vs)(c:Ext w w'):jo w' l p B kb k m t at_ s vl vs:=
 b.kp c (b.kK.ext c) (fun _ _ _ a=>a) (fun _ _ a=>a)
theorem jo.kp'(a:jo w l p B kb k m t at_ s vl vs)(d:Kp D w w')(i:ja w' l p)(f:¬D kb)(g:∀b,vl.ownBlock=some b->¬D b)(h:∀b,vs.ownBlock=some b->¬D b)(j:∀c,c<l.O->¬D c):jo w' l p B kb k m t at_ s vl vs:=
 ⟨i,a.hB,a.hk,jK.kp jb.stays d (fun c n=>j c n) a.ml,a.mi,a.blk.kp d f,iY a.loc d (fun b e _=>g b e),iY a.ky d (fun b e _=>h b e),a.ne,a.Ky,a.QW,a.Pb⟩
theorem jo.qj(b:jo w l p B kb k m t at_ s vl vs)(f:Kp (·=l.D) w w')(a:ja w' l p):jo w' l p B kb k m t at_ s vl vs:=
 b.kp f a (fun c e _ d=>SL b.hB a.ord) (fun c e d=>SK a.ord)
theorem jo.setStack(b:jo w l p B kb k m t at_ s vl vs){st:List Tag}{vs':Value}(f:Kp (fun c=>c=kb\/vs.ownBlock=some c) w w')(g:h9 w' kb 235 (KG l.L k m t at_ vl vs')) (j:w'.ownsRow B 236 2 vs' st.length (st.flatMap ni)) (i:∀d,vs'.ownBlock=some d->vs.ownBlock=some d\/w.heap.size<=d) (n:(st.length:Int)<=m.stack):jo w' l p B kb k m t at_ ⟨s.locals,st⟩ vl vs'/\Kp (qN l kb vl vs) w w'/\jU w vl vs vl vs':=by
 have q:=b.hk;have o:=b.hB;have r:=b.kK.ord;have h:∀c,c<=l.L->¬(c=kb\/vs.ownBlock=some c):=fun c u a=>by
  rcases a with a|a
  . omega
  . have:=(b.ky.lt c a).1;omega
 refine⟨⟨b.kK.kp f h,b.hB,b.hk,jK.kp jb.stays f (fun c g=>h c Zm) b.ml,b.mi,g,?_,j,?_,b.Ky,n,b.Pb⟩,f.weak fun c _ a=>?_,fun d e=>?_⟩
 . refine iY b.loc f fun d e _ a=>?_;rcases a with a|a
   . subst a;exact b.QV.1 e
   . exact b.ne d e a
 . intro d e a;rcases i d a with a|a
   . exact b.ne d e a
   . have:=(b.loc.lt d e).2;omega
 . rcases a with a|a
   . exact .inr (.inl a)
   . exact .inr (.inr (.inr a))
 . rcases e with a|a
   . exact .inl a
   . rcases i d a with a|a
     . exact .inr (.inl a)
     . exact .inr (.inr a)
end
theorem xw{f: Nat}{t:uN}{n: Value}(a:jo w l p f b k m t at_ s n vs)(e:s.stack=[]):Calls prog 218 #[some b] w fun c o=>c=.panicked (Aj (at_+1))/\Ext w o:=by
 obtain⟨g,h,rfl⟩:=jL a.ky;have d:s.stack.length=0:=by rw[e];rfl
 have q:=a.blk.c 12 (.slice g 0 h) (by rw[<-d];rfl);obtain⟨r,-,-,-,-,-,-,-,-,-,-,i,-⟩:=a.blk.ca;clear d;have j:=a.Ky;clear a e;go_enter func218,ntmps218;go_wp2_with fail;refine(mG b at_ (Kp.iW (jh _:Ext w _) i) j.1 Zm).mono ?_;rintro c u ⟨rfl,rfl⟩;exact⟨rfl,rfl,kx⟩
theorem zB{L a:Nat}{t:uN}{A: Value}(f:jo w l p L a k m t at_ s A vs)(st:List Tag)(x:Tag)(y:s.stack=st++[x]):Calls prog 218 #[some a] w fun b w'=>b=.returned (.agg #[x.kind,x.name])/\(∃vs',jo w' l p L a k m t at_ ⟨s.locals,st⟩ A vs'/\jU w A vs A vs')/\Kp (qN l a A vs) w w':=by
 have v:s.stack.length=st.length+1:=by rw[y];simp
 have G:=f.ky;rw[v]at G;obtain⟨g,d,rfl,hg,aO,aC⟩:=jP G Zm;have I:=G.cells (g:=g) rfl;have x0:w.cell? (g,st.length*2)=some (.int .i64 x.kind):=by
  have:=I (st.length*2) x.kind (by rw[y];have:=FX (enc:=ni) (k:=2) (fun _=>rfl) st x 0;rw[Uh]at this;rw[this];rfl);simpa [Addr.add_lit]using this
 have x1:w.cell? (g,st.length*2+1)=some (.string x.name):=by
  have:=I (st.length*2+1) x.name (by rw[y,FX (enc:=ni) (k:=2) (fun _=>rfl) st x 1];rfl);simpa [Addr.add_lit]using this
 have aH:=f.QW;have aD:=f.mi.stack;obtain⟨i,X,u,O⟩:=nu w #[SS, ""] 236;have H:=f.ext u;obtain⟨aj,au,aG,e⟩:=mJ i;have K:=fun s=>(H.blk.ext (e.jv s)).c 12 (g,st.length+1,d) (by rw[<-v];rfl);have r0:=fun s=>(u.trans (e.jv s)).iW x0;have r1:=fun s=>(u.trans (e.jv s)).iW x1;have hw:IntKind.i64.wrap ((st.length:Int)+1 - 1)=(st.length:Int):=by rw[Tg _ Zm];omega
 have⟨r,N,HA,o,ag,aa,B,HS,af⟩:=Bz e X H f u O v y aC;have aP:(st.length:Int)<=5:=Zm
 have ak:=f.blk.c 12 (g,st.length+1,d) (by rw[<-v];rfl);have hz:=f.blk.lt;clear X H f u O v y I x0 x1 G e aH aD;go_enter func218,ntmps218;go_wp2_with fail;rw[<-N.o];refine kT r 13 [([0,1,2,3,4,5,6,7,8,9,10,11],12)] [] ?_ ?_
 . exact jg
 refine mP ?_;intro K2 S;go_wp2_with fail;refine kk r S kx ?_;clear S K2;refine kG ?_;go_wp2_with fail;obtain⟨c,z⟩:=SH ((i.alloc (.cells #[x.kind,x.name] 236)).drew);have F:Ext i c:=by rw[z];exact kx
 have P:h9 c i 236 #[x.kind,x.name]:=by rw[z];exact(h9.new _ _ _).ext jg
 have j:=HA.ext F;have Z:c.heap.size=i+1:=by rw[z];simp
 have Y:(i:Nat)=w+1:=by rw[N.o];simp
 have HZ:=Zy (Tt Z Y);rw[<-z];clear z r K r0 r1;obtain⟨aj,au,aG,e⟩:=mJ c;have K:=fun s=>(j.blk.ext (e.jv s)).c 12 (g,st.length+1,d) (by rw[<-B.o];rfl);have r:=Zy e;have aN:(st.length:Int)<=d:=SK af.o
 refine kT r 12 [] [0,1,2,3,4,5,6,7,8,9,10,11] ?_ ?_
 . exact jg
 refine wG [_,_,_,_,_,_,_,_,_,_,_,_] rfl fun ai R=>?_;(repeat (go_big_quiet_step (fail)));refine qn R ?_;clear R ai;have aI:=j.blk.c 12 (g,st.length+1,d) (by rw[<-B.o];rfl);have aJ:=j.blk.frozen 12;have z3:=j.blk.lt;obtain⟨-,u0,u1,-⟩:=P.ca;have E:=aa.ext F;obtain⟨i2,v0,v1,-⟩:=E.ca;obtain⟨i0,i1,-⟩:=E.fz;have⟨q,ah,ae⟩:=jr j F E;have n1:¬i=a:=Zm
 have n2:¬w=a:=Zm
 have n3:¬a=i:=Zm
 have n4:¬a=w:=Zm
 clear j F P E e K ak Y Z;go_wp2_with fail;have U:Kp (fun C=>C=a\/(Value.slice (some ⟨g,0,none⟩) (st.length+1) d).ownBlock=some C) c (c.setCell (a,12) (g,st.length,d)):=(Kp.refl _ c).setCell (p:=⟨a,12,none⟩) (fun _=>.inl rfl) _;have V:=q.ky;rw[B.o,HS.o]at V;have W:=BO V (j:=st.length) Zm;rw[Bu (enc:=ni) (k:=2) (fun _=>rfl)]at W;have az:=q.blk.jE 12 (g,st.length,d);have aF:=q.QV;have av:=q.o;obtain⟨T,ax,ay⟩:=av.setStack (st:=st) (vs':=(g,st.length,d)) U az (iY (D:=(·=a)) W ((Kp.refl (·=a) c).setCell (p:=⟨a,12,none⟩) (fun _=>rfl) _) (fun n h _ b=>by cases h;subst b;exact aF.2 rfl)) (fun n h=>.inl h) (by have:=q.QW;rw[B.o]at this;omega);generalize c.setCell (a,12) (g,st.length,d)=w4 at*;have J:∀D:Nat->Prop,D w.heap.size->Kp D w4 ((w4.setCell w x.kind).setCell (w,1) x.name).drew:=fun D Q=>
  (((Kp.refl D w4).setCell (p:=⟨w,0,none⟩) (fun _=>Q) _).setCell (p:=⟨w,1,none⟩) (fun _=>Q) _).drew
 have aA:=ae.kp U (fun b=>by
  rcases b with b|b
  . omega
  . have e':g=w:=by simpa [Value.ownBlock]using b
    omega)
 have aB:=hH.mO ((aA.jE 0 x.kind).jE 1 x.name);refine Px (jA uI rfl w rfl (ni x) (aB.ext jg) rfl) rfl ?_;have aL:=o.hk;have aK:=o.hB;have aM:=o.kK.ord;have aQ:=o.blk.lt;refine⟨rfl,⟨_,T.kp' (J (·=w) rfl) (T.kK.kp (J (·=w) rfl) (fun C hb b=>Zm)) Zm (fun n h b=>SK ((o.o.loc.lt n h).2)) (fun n h b=>by
  have e':g=n:=by simpa [Value.ownBlock]using h
  omega) (fun C hb b=>Zm),ay.le Zm⟩,?_⟩
 exact(((ag.trans ah).any).trans ax).own (J (·=w) rfl) (fun n h=>Zm)
theorem Jc(w:World)(l:iZ)(p:hZ)(q g:Nat)(k:Int)(m:M.Method)(t:uN)(at_:Int)(s:nV)(B vs:Value)(b:jo w l p q g k m t at_ s B vs)(x:Tag)(n:m.stack<=s.stack.length):Calls prog 216 #[some g,.agg #[x.kind,x.name]] w fun j C=>j=.panicked (Aj (at_+1))/\Ext w C:=by
 obtain⟨v,y,rfl⟩:=jL b.ky;obtain⟨c,f⟩:=SH (w.alloc (.cells #[x.kind,x.name] 236));have e:Ext w c:=by rw[f];exact kx
 have d:=b.ext e;obtain⟨D,E,G,a⟩:=mJ c;have H:=fun h=>(d.blk.ext (a.jv h)).c 12 (.slice v s.stack.length y) rfl;obtain⟨-,-,-,-,-,-,-,-,I,-,-,A,-⟩:=h9.qW fun h=>(d.blk.ext (a.jv h));have⟨i,u,r⟩:=jr a f e;have z:=b.Ky;have F:=SY n;clear b n a f e d;go_enter func216,ntmps216;go_wp2_with fail;rw[<-u.o];refine Fb i ?_ ?_;rotate_left;(repeat (go_big_quiet_step ((fail))));refine wpQuiet_nil ?_;(rintro _ ⟨o,rfl⟩);rotate_left
 . exact jg
 go_wp2_with fail;refine(mG g at_ (A o) z.1 Zm).mono ?_;rintro j J ⟨rfl,rfl⟩;exact⟨rfl,rfl,r.trans (i.jv o)⟩
theorem O6(w:World)(l:iZ)(p:hZ)(v f:Nat)(k:Int)(m:M.Method)(t:uN)(at_:Int)(s:nV)(u vs:Value)(a:jo w l p v f k m t at_ s u vs)(x:Tag)(hs:(s.stack.length:Int)<m.stack):Calls prog 216 #[some f,.agg #[x.kind,x.name]] w fun d W=>d=.returned (.tuple #[])/\(∃vs',jo W l p v f k m t at_ ⟨s.locals,s.stack++[x]⟩ u vs'/\jU w u vs u vs')/\Kp (qN l f u vs) w W:=by
 obtain⟨i,j,rfl⟩:=jL a.ky;obtain⟨X,T,C,J⟩:=nu w #[x.kind,x.name] 236;have z:=a.ext C;obtain⟨aj,L,az,b⟩:=mJ X;have F:=fun g=>(z.blk.ext (b.jv g)).c 12 (.slice i s.stack.length j) rfl;have r7:=fun g=>(z.blk.ext (b.jv g)).c 7 m.stack rfl;have⟨c,H,af,Z,ae,Y⟩:=rX b T C z J a;have hd:decide (m.stack<=(s.stack.length:Int))=false:=RN Zm;clear a b T C z J;go_enter func216,ntmps216;go_wp2_with fail;rw[<-H.o];refine Fb c ?_ ?_;rotate_left;(repeat (go_big_quiet_step ((fail))));refine wpQuiet_nil ?_;(rintro _ ⟨V,rfl⟩);rotate_left
 . exact jg
 go_wp2_with fail;have q:=c.jv V;generalize L V=w1 at*;clear c F r7;have e:=Z.ext q;have K:=ae.ext q;have aC:=q.size;have aD:(w:Nat)<X:=by rw[H.o];simp
 obtain⟨aj,L,az,b⟩:=uD.ex (fun W'=>Kp (fun I=>(Value.slice i s.stack.length j).ownBlock=some I) w1 W') _ Kp.rr;have R:¬(Value.slice i s.stack.length j).ownBlock=some w.heap.size:=fun d=>SK ((Y.ky.lt _ d).2)
 have F:=fun g=>(e.blk.kp (b.jv g) e.QV.2).c 12 (.slice i s.stack.length j) rfl;obtain⟨-,r0,r1,-⟩:=h9.qW fun g=>(K.kp (b.jv g) R);have⟨c,h,ag⟩:=jr b e q;have ay:s.stack.length+1<=4294967296:=SK e.mi.stack
 have aB:v<=w1:=SL e.blk.lt e.hk
 clear b e K q R;refine kT c 8 [([0,1,2,3,4,5],6),([],7)] [] ?_ ?_
 . exact jg
 refine mP ?_;intro y r;go_wp2_with fail;refine kk c r kx ?_;clear r y;refine lK rfl fun y r=>?_;refine ji wC rfl (.tmp 21) (.tmp 23) rfl v (.slice i s.stack.length j) s.stack.length _ rfl (iY (D:=fun _=>False) h.ky kx fun _ _ _ x=>x) w1 1 (ni x) rfl rfl (hH.M8 _ _ rfl) (xE _) ay Zr ?_;intro n B w2 O N P;change y _ _;have A:=(kx:Ext w1 _).any.trans N;refine kk c r A ?_;clear r y;have o:=h.blk.kp A h.QV.2;have d0:=o.c 12 (.slice i s.stack.length j) rfl;have e0:=o.frozen 12;have z1:=o.lt;have⟨aa,ai,ah,G⟩:=kQ o O A P;clear O N A o P F r0 r1;refine kG ?_;go_wp2_with fail;refine SQ ?_;have S:=fun D hD aA=>(Kp.refl D w2).setCell (p:=⟨f,12,none⟩) (fun _=>hD) aA;have Q:(s.stack++[x]).length=s.stack.length+1:=by simp
 have av:n≠f:=fun d=>by
  subst d;rcases G.o with a|a
  . exact h.QV.2 a
  . have:=h.blk.lt;simp at a;omega
 obtain⟨hS,ak,au⟩:=h.setStack (st:=s.stack++[x]) (vs':=(n,s.stack.length+1,B)) ((ah.weak fun I _ a=>.inr a).trans (S _ (.inl rfl) (n,s.stack.length+1,B))) (aa.jE 12 _) (by
  have h2:=iY ai (S (·=f) rfl (n,s.stack.length+1,B)) (fun U E _ d=>by cases E;exact av d);rw[Q];simpa using h2) (fun U E=>by
   have ax:n=U:=by simpa [Value.ownBlock]using E
   subst ax;rcases G.o with a|a
   . exact .inl a
   . right;simp at a;omega) (by rw[Q];omega)
 exact⟨rfl,⟨_,hS,au.le Zm⟩,((af.trans ag).any).trans ak⟩
def jF(w:World)(l:iZ)(p:hZ)(B kb:Nat)(k:Int)(m:M.Method)(t:uN)(at_:Int)(vl vs:Value)(o:Option nV)(e:Ending)(w':World):Prop:=
 Kp (qN l kb vl vs) w w'/\ja w' l p/\
 ((o=none/\e=.panicked (Aj (at_+1)))\/∃s',o=some s'/\e=.returned (.tuple #[])/\∃vl' vs',jo w' l p B kb k m t at_ s' vl' vs'/\jU w.heap.size vl vs vl' vs')
theorem rR(w:World){l:iZ}{p:hZ}{b a:Nat}{k:Int}{m:M.Method}{t:uN}{at_:Int}{s:nV}{c vs:Value}(d:jo w l p b a k m t at_ s c vs)(x:Tag):Calls prog 216 #[some a,.agg #[x.kind,x.name]] w (jF w l p b a k m t at_ c vs (mZ m x s)):=by
 by_cases e:m.stack<=s.stack.length
 . refine(Jc w l p b a k m t at_ s c vs d x e).mono ?_;rintro h n ⟨rfl,f⟩;exact⟨f.any,d.kK.ext f,.inl ⟨by unfold mZ;rw[SV e],rfl⟩⟩
 . refine(O6 w l p b a k m t at_ s c vs d x Zm).mono ?_;rintro h n ⟨rfl,⟨o,g,j⟩,i⟩;exact⟨i,g.kK,.inr ⟨_,by unfold mZ;rw[SX e],rfl,_,_,g,j⟩⟩
theorem nS(w:World){l:iZ}{p:hZ}{y f:Nat}{k:Int}{m:M.Method}{t:uN}{at_:Int}{s:nV}{u vs:Value}(e:jo w l p y f k m t at_ s u vs)(x:Tag):Calls prog 219 #[some f,.agg #[x.kind,x.name]] w (jF w l p y f k m t at_ u vs (mr p k x s)):=by
 obtain⟨w0,aa,H,F⟩:=nu w #[x.kind,x.name] 236;have G:=e.ext H;have au:=e.kK.ord;have ak:=e.kK.lt;have av:=e.blk.lt;have ah:=e.Ky;obtain⟨aj,U,ax,h⟩:=uD.ex (fun T=>h9 T w 236 #[x.kind,x.name]/\∃K N O,jo T l p y f k m t at_ K N O) w0 ⟨F,_,_,_,G⟩;have r0:∀b,(U b).cell? f=some (.pointer (some ⟨l.L,0,none⟩)):=fun b=>by
  obtain⟨_,K,N,O,J⟩:=h.jv b;exact J.blk.c 0 _ rfl
 have r1:∀b,(U b).cell? (f,1)=some (.int .i64 k):=fun b=>by
  obtain⟨_,K,N,O,J⟩:=h.jv b;exact J.blk.c 1 _ rfl
 obtain⟨-,r3,r4,-⟩:=h9.qW fun b=>(h.jv b).1;have⟨i,S,C,n,B,z⟩:=rX h aa H G F e;clear e h aa H G F;rcases Ta s.stack with d|⟨L,v,d⟩
 . have o:Zz (mr p k x s=none):=Zy (by unfold mr sI;rw[d];rfl);have E:=Zy d;clear d;go_enter func219,ntmps219;go_wp2_with fail;rw[<-S.o];refine kT i 13 [([0,1,2,3,4,5,6,7,8,10],9),([],11)] [12] ?_ ?_
   . exact⟨B.ext jg,_,_,_,n.ext jg⟩
   refine mP ?_;intro j c;go_wp2_with fail;refine(xw (n.ext jg) E).mono ?_;rintro a w1 ⟨rfl,ag⟩;have W:=(C.trans jg).trans ag;exact⟨rfl,W.any,z.kK.ext W,.inl ⟨o,rfl⟩⟩
 . rw[TZ]at d;have o:Zz (mr p k x s=if may p k v x then some ⟨s.locals,L⟩else none):=Zy (by unfold mr sI;rw[d];simp);have E:=Zy d;clear d;go_enter func219,ntmps219;go_wp2_with fail;rw[<-S.o];refine kT i 13 [([0,1,2,3,4,5,6,7,8,10],9),([],11)] [12] ?_ ?_
   . exact⟨B.ext jg,_,_,_,n.ext jg⟩
   refine mP ?_;intro j c;go_wp2_with fail;refine(zB (n.ext jg) L v E).mono ?_;rintro a w1 ⟨rfl,⟨ai,V,Y⟩,I⟩;have X:=((C.trans jg).any).trans I;have Z:=(B.ext jg).kp I (fun a=>by
    rcases a with a|a|a|a
    . omega
    . omega
    . have:=(z.loc.lt _ a).2;omega
    . have:=(z.ky.lt _ a).2;omega)
   have⟨A,P,ae⟩:=jr V Z X;have af:Zz (jU w u vs u ai):=Zy (Y.le (by have:=C.size;exact this));clear V Y I X Z;go_wp2_with fail;refine kk i c ⟨P,_,_,_,A⟩ ?_;clear c j;refine lK rfl fun j c=>?_;go_wp2_with fail;refine(BD A.kK k v x).mono ?_;rintro a w2 ⟨rfl,q⟩;have⟨g,R,Q⟩:=jr (A.ext q) (ae.trans q.any) (P.ext q);clear q;cases r:may p k v x
   . have D:Zz (mr p k x s=none):=Zy (by rw[o.o,r];rfl);clear r;go_wp2_with fail;refine kk i c ⟨Q,_,_,_,g⟩ ?_;clear c j;refine uG ?_;go_wp2_with fail;refine(mG f at_ (g.blk.c 10 _ rfl) ah.1 Zm).mono ?_;rintro a w3 ⟨rfl,rfl⟩;exact⟨rfl,R,g.kK,.inl ⟨D,rfl⟩⟩
   . have D:Zz (mr p k x s=some ⟨s.locals,L⟩):=Zy (by rw[o.o,r];rfl);clear r;go_wp2_with fail;refine kk i c ⟨Q,_,_,_,g⟩ ?_;clear c j;refine uG ?_;go_wp2_with fail;refine SQ ?_;exact⟨R,g.kK,.inr ⟨_,D,rfl,_,_,g,af⟩⟩
theorem x9{o: Nat}{t:uN}{C: Value}(x:jo w l p A o k m t at_ s C vs):Calls prog 223 #[some o] w (jF w l p A o k m t at_ C vs (wE s)):=by
 have F:=x.Ky;have i:=Zy x;clear x;rcases Ta s.stack with b|⟨q,z,b⟩
 . have e:Zz (wE s=none):=Zy (by unfold wE sI;rw[b];rfl);have j:=Zy b;clear b;go_enter func223,ntmps223;go_wp2_with fail;refine(xw i j).mono ?_;rintro v D ⟨rfl,B⟩;exact⟨rfl,B.any,i.kK.ext B,.inl ⟨e,rfl⟩⟩
 . rw [TZ] at b; have e : Zz (wE s = if z.kind = 2 \/ z.kind = 3 then some ⟨s.locals, q⟩ else none) := Zy (by unfold wE sI; rw [b]; simp); have j := Zy b; clear b; obtain ⟨c, J⟩ := z; have G : (c = 2 \/ (c = 3 /\ (c != 2) = true)) /\ wE s = some ⟨s.locals, q⟩ \/ ((c != 2) = true /\ (c != 3) = true) /\ wE s = none := by
    by_cases a:c=2
    . exact .inl ⟨.inl a,by rw[e.o,SV (.inl a)]⟩
    . by_cases f:c=3
      . exact .inl ⟨.inr ⟨f,TP.2 a⟩,by rw[e.o,SV (.inr f)]⟩
      . exact .inr ⟨⟨TP.2 a,TP.2 f⟩,by rw[e.o,SX (by simp[a,f])]⟩
   rcases G with⟨y,a⟩|⟨⟨y,f⟩,a⟩
   . have u:=Zy a;clear a;rcases y with rfl|⟨rfl,y⟩
     all_goals
      go_enter func223,ntmps223;go_wp2_with fail;refine(zB i q _ j).mono ?_;rintro v D ⟨rfl,⟨H,g,n⟩,h⟩;have⟨d,E,r⟩:=jr g n h;clear g n h;go_wp2_with fail;refine SQ ?_;exact⟨r.alloc _,d.kK.ext kx,.inr ⟨_,u,rfl,_,_,d.ext kx,E⟩⟩
   . have u:=Zy a;clear a;go_enter func223,ntmps223;go_wp2_with fail;refine(zB i q _ j).mono ?_;rintro v D ⟨rfl,⟨H,g,n⟩,h⟩;have⟨d,r⟩:=jc g h;clear g n h;go_wp2_with fail;refine(mG o at_ ((d.ext kx).blk.c 10 _ rfl) F.1 Zm).mono ?_;rintro v I ⟨rfl,rfl⟩;exact⟨rfl,r.alloc _,d.kK.ext kx,.inl ⟨u,rfl⟩⟩
theorem Ik:Bj 198 3:=⟨_,underlying198,by kernel_rfl⟩
theorem D8{P: Nat}{t:uN}{Z: Value}(e:jo w l p P N k m t at_ s Z vs)(a:Int):Calls prog 224 #[some N,a] w fun u O=>((zV m a=none/\u=.returned (.tuple #[.agg #[SS,(),()],.bool false]))\/∃d r,zV m a=some d/\d∈m.maps/\mW O (· <l.O) d r/\u=.returned (.tuple #[.agg r.toArray,.bool true]))/\Ext w O:=by
 obtain⟨w0,L,H,G⟩:=nu w #[SS,(),()] 198;have ae:l.O<w:=SL e.kK.ord e.kK.lt
 obtain⟨hz,-,-,-,-,-,-,-,-,-,c9,-⟩:=e.blk.ca;obtain⟨_,_,vm,J,_,_,K⟩:=e.ml;simp only[nK,TG,Vw,Ve]at J;obtain⟨-,-,rfl⟩:=J;have⟨R,Q,F,S⟩:=kQ K G H L;have af:=e.mi.maps;obtain⟨ah,aj,ai,ak,ta,tc⟩:=t;simp only at*;clear K G H L e;go_enter func224,ntmps224;go_wp2_with fail;rw[<-S.o];go_loopw [14] (fun z wr=>∃c:Nat,c<=m.maps.length/\z=.int .i64 c/\Ext w0 wr/\Zz (zV m a=(m.maps.drop c).find? fun d=>d.at_=a)) (fun z _=>m.maps.length - (intOf z).toNat)
 case atStart=>exact⟨0,T9 _,rfl,Kp.rr,Zy rfl⟩
 case round =>
  obtain⟨c,hq,rfl,v,n⟩:=hrel;have i:=Q.ext v;obtain⟨yz,y0,y1,y2,-⟩:=i.ca;obtain⟨f0,f1,f2,-⟩:=i.fz;have⟨E,o⟩:=jc i (F.trans v);clear i;by_cases X:c<m.maps.length
  . obtain⟨b,x⟩:=nR m.maps c X;obtain⟨U,ag,r,rfl,aa,y,-,I⟩:=R.get x;have T:=Zy y;obtain⟨A,C,B,D,rfl⟩:=y.form;obtain⟨V,g1,g2⟩:=(I.ext (F.trans v)).three;have gz:=iV V;have q:=Zy x;clear y I x;by_cases f:b.at_=a
    . have g:Zz (zV m a=some b):=Zy (by rw[n.o,pV q.o,List.find?_cons_of_pos (by simpa using f)]);have Y:(b.at_==a)=true:=by simpa using f
      clear f;go_wp2_with fail;have j:=Kp.xM (D:=(·=w)) (w:=wr) rfl b.at_ (.slice A b.locals.length C) (.slice B b.stack.length D);have h:=E.xM b.at_ (.slice A b.locals.length C) (.slice B b.stack.length D);refine Px (h7 Ik rfl w rfl [b.at_,.slice A b.locals.length C,.slice B b.stack.length D] ((hH.mO h).ext (jh _)) rfl) rfl ?_;exact⟨.inr ⟨b,_,g,Sy q,jK.ext mW.stays (jh _) (jK.kp mW.stays j (fun U h u=>Zm) (jK.ext mW.stays o.o T.o)),rfl⟩,(o.o.own j (fun k W=>Zm)).alloc _⟩
    . have g:Zz (zV m a=(m.maps.drop (c+1)).find? fun d=>d.at_=a):=Zy (by rw[n.o,pV q.o,List.find?_cons_of_neg (by simpa using f)]);have Y:=SI.2 f;clear f;go_wp2;go_roundw
      case rel=>exact⟨c+1,Zm,by go_num,kx,g⟩
      case measure=>simp[intOf];omega
  . have g:Zz (zV m a=none):=Zy (by rw[n.o,TW Zm];rfl);go_wp2_with fail;have j:=Kp.xM (D:=(·=w)) (w:=wr) rfl SS () ();have h:=E.xM SS () ();refine Px (h7 Ik rfl w rfl [SS,(),()] (hH.mO h) rfl) rfl ?_;exact⟨.inl ⟨g,rfl⟩,o.own j (fun k W=>Zm)⟩
theorem Qc{enc:α->List Value}{k:Nat}(e:∀x,(enc x).length=k):∀(l:List α) (i:Nat) (x:α),l[i]?=some x->∀a b,(enc x)[a]?=some b->(l.flatMap enc)[i*k+a]?=some b:=by
 intro l;induction l with
 |nil=>intro i x f;simp at f
 | cons j h g =>
  intro i x d a b c;rw[UG];cases i with
  |zero=>
   simp at d;subst d;rw[Tn (by rw[UX,Tq];exact(Tv.1 c).1),UX,Tq];exact c
  |succ i=>
   rw[TR (by rw[e,UW];omega),e,show(i+1)*k+a - k=i*k+a from by rw[UW];omega];exact g i x (by simpa using d) a b c
theorem lG{enc:α->List Value}{k:Nat}(e:∀x,(enc x).length=k){w:World}{base a g n c:Nat}{l:List α}(b:w.ownsRow base a k (g,n,c) n (l.flatMap enc)){i:Nat}{x:α}(h:l[i]?=some x):hH w g (i*k) (enc x):=by
 intro j m f;have:=b.cells (g:=g) rfl _ _ (Qc e l i x h j m f);unfold Addr.add at this;split at this
 . rename_i d;rw[d];exact this
 . simpa using this
theorem CB{a b:List Tag}{x y:Tag}(c:a[q]?=some x)(d:b[q]?=some y):lT p k (a.drop q) (b.drop q)=(may p k x y&&lT p k (a.drop (q+1)) (b.drop (q+1))):=by
 rw[pV c,pV d];rfl
theorem Ef{a b:List Tag}(d:b.length<=q):lT p k (a.drop q) (b.drop q)=true:=by
 have c:=TW d;rw[c];cases a.drop q<;>rfl
theorem zU{aJ kb:Nat}{t:uN}(q:jo w l p aJ kb k m t at_ s vl vs)(a:SMap){cs:List Value}(hf:mW w (· <l.O) a cs)(aC:a.locals.length=s.locals.length):Calls prog 225 #[some kb,.agg cs.toArray] w fun af w'=>af=.returned (.bool (kN p k s a))/\Ext w w':=by
 have bg:=Zy hf;obtain⟨aR,aS,ah,ai,rfl⟩:=hf.form;obtain⟨_,_,he,aF,aG⟩:=hf;simp only[TG,Vw,Ve]at he;obtain⟨rfl,rfl⟩:=he;obtain⟨w0,aI,ak,b3⟩:=nu w #[a.at_,.slice aR a.locals.length aS,.slice ah a.stack.length ai] 198;have hA:=q.ext ak;obtain⟨sa,sc,rfl⟩:=jL q.ky;obtain⟨la,lc,rfl⟩:=jL q.loc;obtain⟨aA,ag,aD,c⟩:=mJ w0;have bf:=fun b=>(hA.blk.ext (c.jv b)).c 12 (.slice sa s.stack.length sc) rfl;have r2:=fun b=>(b3.ext (c.jv b)).c 2 (.slice ah a.stack.length ai) rfl;have⟨f,az,av,HA,aN,ax⟩:=rX c aI ak hA b3 (Tt aF aG);have bn:a.locals.length<=6:=SL q.Pb q.mi.locals
 have bq:s.stack.length<=5:=SL q.QW q.mi.stack
 have aa:=Zy aC;clear q c aI ak hA b3 aF aG aC;by_cases E:a.stack.length=s.stack.length
 . have R:Zz (kN p k s a=(lT p k s.locals a.locals&&lT p k s.stack a.stack)):=Zy (by unfold kN;rw[SY E];rfl);have aH:((a.stack.length:Int) !=(s.stack.length:Int))=false:=by simp[E]
   have Q:=Zy E;clear E;go_enter func225,ntmps225;go_wp2_with fail;rw[<-az.o];refine Fb f ?_ ?_;rotate_left;(repeat (go_big_quiet_step ((fail))));refine wpQuiet_nil ?_;(rintro _ ⟨T,rfl⟩);rotate_left
   . exact jg
   have S:=f.jv T;generalize ag T=w1 at*;clear f bf r2 aH;have aB:=HA.ext S;have aj:=aN.ext S;obtain⟨-,-,p1,p2,-⟩:=aj.ca;have⟨aK,aM,W⟩:=jr aB aj (av.trans S);clear aB aj S;go_wp2;go_loopw [21] (fun A wr=>∃b:Nat,b<=a.locals.length/\A=.int .i64 b/\Ext w1 wr/\Zz (lT p k s.locals a.locals=lT p k (s.locals.drop b) (a.locals.drop b))) (fun A _=>a.locals.length - (intOf A).toNat)
   case atStart=>exact⟨0,T9 _,rfl,Kp.rr,Zy rfl⟩
   case round=>
    obtain⟨b,hq,rfl,h,C⟩:=hrel;have g:=aK.ext h;have r:=aM.ext h;have bz:=r.c 2 (.slice ah a.stack.length ai) rfl;have⟨V,U,D⟩:=jr r g h;by_cases N:b<a.locals.length
    . obtain⟨i,z⟩:=nR a.locals b N;obtain⟨B,y⟩:=nR s.locals b (by rw[<-aa.o];exact N);obtain⟨aP,aZ,cs,rfl,aT,rfl,-,L⟩:=ax.1.get z;obtain⟨g0,g1⟩:=(L.ext (W.trans h)).two;have gz:=iV g0;have x:=g.loc;obtain⟨lg,aY,au,aU,aV,aW⟩:=jP x (by rw[<-aa.o];omega);cases au;obtain⟨O,P⟩:=(lG (enc:=ni) (k:=2) (fun _=>rfl) x y).two;have G:Zz (lT p k s.locals a.locals=(may p k B i&&lT p k (s.locals.drop (b+1)) (a.locals.drop (b+1)))):=Zy (by rw[C.o,CB y z]);obtain⟨I,K,e,J⟩:=nu wr #[i.kind,i.name] 236;obtain⟨aA,ag,aD,c⟩:=mJ I;obtain⟨-,e0,e1,-,-,-,-,-,-,-,-,-,aQ,-⟩:=h9.qW fun d=>(g.blk.ext (e.trans (c.jv d)));have e2:=fun d=>(e.trans (c.jv d)).iW O;have e3:=fun d=>(e.trans (c.jv d)).iW P;obtain⟨-,e6,e7,-⟩:=h9.qW fun d=>(J.ext (c.jv d));have⟨f,ae,Z,X⟩:=kQ c K (g.kK.ext e) e;have aX:(b:Int)<s.locals.length:=SK aa.o
      clear L z y x O P K e J c g r;go_wp2_with fail;rw[<-ae.o];refine kT f 18 [([0,1,2,3,4,5,6,7,8,9,10,11,12,13,14,15],16)] [17] ?_ ?_
      . exact jg
      refine mP ?_;intro H n;go_wp2_with fail;refine(BD (Z.ext jg) k B i).mono ?_;rintro af w5 ⟨rfl,v⟩;have u:=(jg:Ext I _).trans v;have F:=Zy (X.trans u);cases o:may p k B i
      . have j:Zz (kN p k s a=false):=Zy (by rw[R.o,G.o,o];rfl);clear o v;go_wp2_with fail;refine kk f n u ?_;clear n H;refine uG ?_;go_wp2;go_ret;exact⟨hQ j.symm,W.trans (D.trans F)⟩
      . have j:Zz (lT p k s.locals a.locals=lT p k (s.locals.drop (b+1)) (a.locals.drop (b+1))):=Zy (by rw[G.o,o];rfl);clear o v;go_wp2_with fail;refine kk f n u ?_;clear n H;refine uG ?_;go_wp2_with fail;refine⟨⟨b+1,Zm,by go_num,D.o.trans F.o,j⟩,by simp[intOf];omega⟩
    . have ay:Zz (kN p k s a=lT p k s.stack a.stack):=Zy (by rw[R.o,C.o,Ef Zm];rfl);obtain⟨wo,rfl⟩:∃wo:World,wo=wr:=⟨_,rfl⟩;have aL:=U;have aO:=V;have Y:=Zy (W.trans h);have bu:a.stack.length<=5:=SK Q.o
      clear U V D g r h C p1 p2;go_wp2;go_loopw [48] (fun A wr=>∃b:Nat,b<=a.stack.length/\A=.int .i64 b/\Ext wo wr/\Zz (lT p k s.stack a.stack=lT p k (s.stack.drop b) (a.stack.drop b))) (fun A _=>a.stack.length - (intOf A).toNat)
      case atStart=>exact⟨0,T9 _,rfl,Kp.rr,Zy rfl⟩
      case round=>
       obtain⟨b,hq,rfl,h,C⟩:=hrel;have g:=aL.ext h;have r:=aO.ext h;have⟨V,U,D⟩:=jr r g h;by_cases N:b<a.stack.length
       . obtain⟨i,z⟩:=nR a.stack b N;obtain⟨B,y⟩:=nR s.stack b (by rw[<-Q.o];exact N);obtain⟨aP,aZ,cs,rfl,aT,rfl,-,L⟩:=ax.2.get z;obtain⟨g0,g1⟩:=(L.ext (Y.trans h)).two;have gz:=iV g0;have x:=g.ky;obtain⟨lg,aY,au,aU,aV,aW⟩:=jP x (by rw[<-Q.o];omega);cases au;obtain⟨O,P⟩:=(lG (enc:=ni) (k:=2) (fun _=>rfl) x y).two;have G:Zz (lT p k s.stack a.stack=(may p k B i&&lT p k (s.stack.drop (b+1)) (a.stack.drop (b+1)))):=Zy (by rw[C.o,CB y z]);obtain⟨I,K,e,J⟩:=nu wr #[i.kind,i.name] 236;obtain⟨aA,ag,aD,c⟩:=mJ I;obtain⟨-,e0,e1,-⟩:=h9.qW fun d=>(g.blk.ext (e.trans (c.jv d)));have aQ:=fun d=>(g.blk.ext (e.trans (c.jv d))).c 12 (lg,s.stack.length,sc) rfl;have e2:=fun d=>(e.trans (c.jv d)).iW O;have e3:=fun d=>(e.trans (c.jv d)).iW P;obtain⟨-,e6,e7,-⟩:=h9.qW fun d=>(J.ext (c.jv d));have⟨f,ae,Z,X⟩:=kQ c K (g.kK.ext e) e;have aX:(b:Int)<s.stack.length:=SK Q.o
         clear L z y x O P K e J c g r;go_wp2_with fail;rw[<-ae.o];refine kT f 18 [([0,1,2,3,4,5,6,7,8,9,10,11,12,13,14,15],16)] [17] ?_ ?_
         . exact jg
         refine mP ?_;intro H n;go_wp2_with fail;refine(BD (Z.ext jg) k B i).mono ?_;rintro af w5 ⟨rfl,v⟩;have u:=(jg:Ext I _).trans v;have F:=Zy (X.trans u);cases o:may p k B i
         . have j:Zz (kN p k s a=false):=Zy (by rw[ay.o,G.o,o];rfl);clear o v;go_wp2_with fail;refine kk f n u ?_;clear n H;refine uG ?_;go_wp2;go_ret;exact⟨hQ j.symm,Y.trans (D.trans F)⟩
         . have j:Zz (lT p k s.stack a.stack=lT p k (s.stack.drop (b+1)) (a.stack.drop (b+1))):=Zy (by rw[G.o,o];rfl);clear o v;go_wp2_with fail;refine kk f n u ?_;clear n H;refine uG ?_;go_wp2_with fail;refine⟨⟨b+1,Zm,by go_num,D.o.trans F.o,j⟩,by simp[intOf];omega⟩
       . have j:Zz (kN p k s a=true):=Zy (by rw[ay.o,C.o,Ef Zm]);go_wp2;go_ret;exact⟨hQ j.symm,Y.trans h⟩
 . have R:Zz (kN p k s a=false):=Zy (by unfold kN;rw[RN E];rfl);have aH:((a.stack.length:Int) !=(s.stack.length:Int))=true:=TP.2 Zm;clear E;go_enter func225,ntmps225;go_wp2_with fail;rw[<-az.o];refine Fb f ?_ ?_;rotate_left;(repeat (go_big_quiet_step ((fail))));refine wpQuiet_nil ?_;(rintro _ ⟨T,rfl⟩);rotate_left
   . exact jg
   go_wp2;go_ret;exact⟨hQ R.symm,av.trans (f.jv T)⟩
theorem BH{f:SMap}(a:uF m f=true):(f.locals.length:Int)=m.locals/\(f.stack.length:Int)<=m.stack:=by
 unfold uF at a;simp only[S9,SF]at a;exact⟨a.1.1.1.2,a.1.1.2⟩
theorem yK{t:uN}{B: Value}(i:jo w l p u e k m t at_ s B vs)(a:Int):Calls prog 222 #[some e,a] w (jF w l p u e k m t at_ B vs (lZ p k m a s)):=by
 have x:=i.Ky;have K:=i.Pb;have b:=Zy i;clear i;go_enter func222,ntmps222;go_wp2_with fail;refine(D8 b a).mono ?_;rintro q L ⟨(⟨z,rfl⟩|⟨h,E,A,y,r,rfl⟩),d⟩
 . have g:Zz (lZ p k m a s=none):=Zy (by unfold lZ;rw[z];rfl);have⟨f,n⟩:=jc (b.ext d) d;clear z d;go_wp2_with fail;refine(mG e at_ ((f.ext kx).blk.c 10 _ rfl) x.1 Zm).mono ?_;rintro q D ⟨rfl,rfl⟩;exact⟨rfl,(n.alloc _).any,f.kK.ext kx,.inl ⟨g,rfl⟩⟩
 . have g:Zz (lZ p k m a s=if kN p k s h then some s else none):=Zy (by unfold lZ;rw[A];rfl);have J:=BH (b.mi.uF h y);have C:=Zy r;obtain⟨F,H,G,I,rfl⟩:=r.form;have⟨f,n⟩:=jc (b.ext d) d;clear A d r y;go_wp2_with fail;refine(zU (f.ext kx) h (jK.ext mW.stays kx C) Zm).mono ?_;rintro q N ⟨rfl,v⟩;have c:=Zy ((n.alloc _).trans v);clear v;cases j:kN p k s h
   . have o:Zz (lZ p k m a s=none):=Zy (by rw[g.o,j];rfl);clear j;go_wp2_with fail;refine(mG e at_ ((b.ext c).blk.c 10 _ rfl) x.1 Zm).mono ?_;rintro q D ⟨rfl,rfl⟩;exact⟨rfl,c.any,b.kK.ext c,.inl ⟨o,rfl⟩⟩
   . have o:Zz (lZ p k m a s=some s):=Zy (by rw[g.o,j];rfl);clear j;go_wp2_with fail;refine SQ ?_;exact⟨c.any,b.kK.ext c,.inr ⟨_,o,rfl,_,_,b.ext c,jU.refl _ _ _⟩⟩
theorem lL{base': Nat}{a:TypeId}{size:Nat}(b:w.ownsRow base a size v n xs)(d:base'<=base):w.ownsRow base' a size v n xs:=
 ⟨b.1,b.2.imp id fun⟨c,cap,cur,e1,hg,r⟩=>⟨c,cap,cur,e1,TD d hg,r⟩⟩
theorem jo.fresh{c: World}{t:uN}{s': nV}{g: Value}(a:jo w l p n e k m t at_ s j vs)(h:h9 c e 235 (KG l.L k m t at_ f g)) (i:Kp (·=e) w c) (r:c.ownsRow w 236 2 f s'.locals.length (s'.locals.flatMap ni)) (u:c.ownsRow w 236 2 g s'.stack.length (s'.stack.flatMap ni))(A:∀d,f.ownBlock=some d->g.ownBlock≠some d) (hl:(s'.locals.length:Int)=m.locals) (z:(s'.stack.length:Int)<=m.stack):Kp (qN l e j vs) w c/\ja c l p/\∃v x,jo c l p n e k m t at_ s' v x/\jU w j vs v x:=by
 have C:=a.hk;have B:=a.hB;have D:=a.kK.ord;have E:=a.blk.lt;have q:=a.kK.kp i (fun o h b=>Zm);refine⟨i.weak fun o _ b=>.inr (.inl b),q,f,g,⟨q,a.hB,a.hk,jK.kp jb.stays i (fun o h b=>Zm) a.ml,a.mi,h,lL r Zm,lL u Zm,A,a.Ky,z,hl⟩,fun d y=>?_⟩;rcases y with b|b
 . exact .inr (.inr (r.lt d b).1)
 . exact .inr (.inr (u.lt d b).1)
theorem MS{aB: Nat}{t:uN}(f:jo w l p aB c k m t at_ s vl vs)(goes:Bool):Calls prog 194 #[some c,.bool goes] w (jF w l p aB c k m t at_ vl vs (qa p k m goes at_ s)):=by
 have aG:=f.Ky;have bn:=f.Pb;have aF:=f.blk.c 10 at_ rfl;have bq:=f.kK.ord;have bf:=f.hB;have bg:=f.hk;have d:=Zy f;clear f;cases goes
 all_goals
  go_enter func194,ntmps194;go_wp2_with fail;refine(D8 d at_).mono ?_;rintro b N ⟨(⟨aa,rfl⟩|⟨a,cs,af,Z,L,rfl⟩),g⟩
 . have q:Zz (qa p k m false at_ s=none):=Zy (by unfold qa;rw[aa];rfl);have⟨O,ai⟩:=jc (d.ext g) g;clear aa g;go_wp2_with fail;refine(mG c at_ ((O.ext kx).blk.c 10 _ rfl) aG.1 Zm).mono ?_;rintro b B ⟨rfl,rfl⟩;exact⟨rfl,(ai.alloc _).any,O.kK.ext kx,.inl ⟨q,rfl⟩⟩
 . have q:Zz (qa p k m false at_ s=some ⟨a.locals,a.stack⟩):=Zy (by unfold qa;rw[af];rfl);have T:=BH (d.mi.uF a Z);have aT:=Tp d.blk.lt g.size;have aU:=d.mi.locals;have aV:=d.mi.stack;have HF:=Zy L;obtain⟨F,H,G,I,rfl⟩:=L.form;obtain⟨X,aI,ax,E⟩:=nu N #[a.at_,.slice F a.locals.length H,.slice G a.stack.length I] 198;have⟨o,aj⟩:=jc (g.trans ax) (jK.ext mW.stays ax HF);have y1:=E.c 1 (.slice F a.locals.length H) rfl;have ag:=Zy E;have aX:=E.lt;have aM:=Zy aI;clear af g L Z aF ax E aI;go_wp2_with fail;rw[<-aM.o];have P:Zz (SliceOf 2 kU X (· <l.O) (.slice F a.locals.length H) a.locals/\SliceOf 2 kU X (· <l.O) (.slice G a.stack.length I) a.stack):=Zy (by
    obtain⟨_,_,R,ay,az⟩:=aj.o;simp only[TG,Vw,Ve]at R;obtain⟨rfl,rfl⟩:=R;exact⟨ay,az⟩)
   refine(uP (SliceOf.toFlat (R:=kU) (fun _ _ _ _ b=>b) (fun _=>rfl) xE P.1) Zm).mono ?_;rintro b B ⟨⟨v1,rfl,e⟩,v⟩;obtain⟨Q,V,rfl⟩:=jL e;have n:=(d.ext (o.trans v)).blk;have aO:=n.c 11 vl rfl;have aQ:=n.frozen 11;have aY:=n.lt;have K:=ag.ext v;have y2:=K.c 2 (.slice G a.stack.length I) rfl;have n1:¬N=c:=Zm
   have n2:¬c=N:=Zm
   have⟨ak,aK,C,au⟩:=kQ n K v e;clear n K v e;go_wp2_with fail;obtain⟨u,A⟩:=SH (B.setCell (c,11) (.slice Q a.locals.length V));have i:Kp (·=c) B u:=by rw[A];exact qA
   have r:h9 u c 235 (KG l.L k m t at_ (.slice Q a.locals.length V) vs):=by rw[A];exact ak.jE 11 _
   rw[<-A];have aS:B.heap.size<=u:=i.size;have U:=(P.2.ext kU.stays C).keep kU.stays (Kp.same i (fun aN J b=>Zm)) (fun _ f=>f);refine(uP (SliceOf.toFlat (R:=kU) (fun _ _ _ _ b=>b) (fun _=>rfl) xE U) Zm).mono ?_;rintro b W ⟨⟨v2,rfl,z⟩,x⟩;obtain⟨g2,k2,rfl⟩:=jL z;have j:=r.ext x;have aP:=j.c 12 vs rfl;have aR:=j.frozen 12;have aZ:=j.lt;have e:=au.o;have y:Kp (·=c) W (W.setCell (c,12) (.slice g2 a.stack.length k2)):=qA;have aA:=o.size;have aW:=C.size;have hF:=d.fresh (s':=⟨a.locals,a.stack⟩) (j.jE 12 _) (((((o.trans C).any (D:=(·=c))).trans i).trans x.any).trans y)
    (lL (iY (iY (iY e i (fun h S J b=>Zm)) x (fun _ _ _ b=>b)) y (fun h S J b=>Zm)) aA)
    (lL (iY z y (fun h S J b=>Zm)) Zm)
    (fun h h1 h2=>SL ((e.lt h h1).2) ((z.lt h h2).1)) T.1 T.2
   have D:=Zy hF;clear hF y e z j x U r i A;go_wp2_with fail;refine SQ ?_;exact⟨D.1,D.2.1,.inr ⟨_,q,rfl,D.2.2⟩⟩
 . have q:Zz (qa p k m true at_ s=some s):=Zy (by unfold qa;rw[aa];rfl);have⟨O,ai⟩:=jc (d.ext g) g;clear aa g;go_wp2_with fail;refine SQ ?_;exact⟨(ai.alloc _).any,O.kK.ext kx,.inr ⟨_,q,rfl,_,_,O.ext kx,jU.refl _ _ _⟩⟩
 . have q:Zz (qa p k m true at_ s=if !kN p k s a then none else some ⟨a.locals,a.stack⟩):=Zy (by unfold qa;rw[af];simp);have T:=BH (d.mi.uF a Z);have aT:=Tp d.blk.lt g.size;have aU:=d.mi.locals;have aV:=d.mi.stack;have HF:=Zy L;obtain⟨F,H,G,I,rfl⟩:=L.form;obtain⟨wq,aH,av,E⟩:=nu N #[a.at_,.slice F a.locals.length H,.slice G a.stack.length I] 198;have⟨ah,aC,aJ,aD⟩:=kQ (g.trans av) (jK.ext mW.stays av HF) E aH;clear af g L Z aF av E aH;go_wp2_with fail;rw[<-aD.o];refine(zU (d.ext ah) a aC Zm).mono ?_;rintro b X ⟨rfl,Y⟩;have r:=aJ.ext Y;have y1:=r.c 1 (.slice F a.locals.length H) rfl;have ag:=Zy r;have aX:=r.lt;have⟨o,aj⟩:=jc (ah.trans Y) (jK.ext mW.stays Y aC);clear Y r aD ah;cases ae:kN p k s a
   . have aL:Zz (qa p k m true at_ s=none):=Zy (by rw[q.o,ae];rfl);clear ae;go_wp2_with fail;refine(mG c at_ ((d.ext o).blk.c 10 _ rfl) aG.1 Zm).mono ?_;rintro b B ⟨rfl,rfl⟩;exact⟨rfl,o.any,d.kK.ext o,.inl ⟨aL,rfl⟩⟩
   replace q:Zz (qa p k m true at_ s=some ⟨a.locals,a.stack⟩):=Zy (by rw[q.o,ae];rfl);clear ae;go_wp2_with fail;have P:Zz (SliceOf 2 kU X (· <l.O) (.slice F a.locals.length H) a.locals/\SliceOf 2 kU X (· <l.O) (.slice G a.stack.length I) a.stack):=Zy (by
    obtain⟨_,_,R,ay,az⟩:=aj.o;simp only[TG,Vw,Ve]at R;obtain⟨rfl,rfl⟩:=R;exact⟨ay,az⟩)
   refine(uP (SliceOf.toFlat (R:=kU) (fun _ _ _ _ b=>b) (fun _=>rfl) xE P.1) Zm).mono ?_;rintro b B ⟨⟨v1,rfl,e⟩,v⟩;obtain⟨Q,V,rfl⟩:=jL e;have n:=(d.ext (o.trans v)).blk;have aO:=n.c 11 vl rfl;have aQ:=n.frozen 11;have aY:=n.lt;have K:=ag.ext v;have y2:=K.c 2 (.slice G a.stack.length I) rfl;have n1:¬N=c:=Zm
   have n2:¬c=N:=Zm
   have⟨ak,aK,C,au⟩:=kQ n K v e;clear n K v e;go_wp2_with fail;obtain⟨u,A⟩:=SH (B.setCell (c,11) (.slice Q a.locals.length V));have i:Kp (·=c) B u:=by rw[A];exact qA
   have r:h9 u c 235 (KG l.L k m t at_ (.slice Q a.locals.length V) vs):=by rw[A];exact ak.jE 11 _
   rw[<-A];have aS:=i.size;have U:=(P.2.ext kU.stays C).keep kU.stays (Kp.same i (fun aN J b=>Zm)) (fun _ f=>f);refine(uP (SliceOf.toFlat (R:=kU) (fun _ _ _ _ b=>b) (fun _=>rfl) xE U) Zm).mono ?_;rintro b W ⟨⟨v2,rfl,z⟩,x⟩;obtain⟨g2,k2,rfl⟩:=jL z;have j:=r.ext x;have aP:=j.c 12 vs rfl;have aR:=j.frozen 12;have aZ:=j.lt;have e:=au.o;have y:Kp (·=c) W (W.setCell (c,12) (.slice g2 a.stack.length k2)):=qA;have aA:=o.size;have aW:=C.size;have hF:=d.fresh (s':=⟨a.locals,a.stack⟩) (j.jE 12 _) (((((o.trans C).any (D:=(·=c))).trans i).trans x.any).trans y)
    (lL (iY (iY (iY e i (fun h S J b=>Zm)) x (fun _ _ _ b=>b)) y (fun h S J b=>Zm)) aA)
    (lL (iY z y (fun h S J b=>Zm)) Zm)
    (fun h h1 h2=>SL ((e.lt h h1).2) ((z.lt h h2).1)) T.1 T.2
   have D:=Zy hF;clear hF y e z j x U r i A;go_wp2_with fail;refine SQ ?_;exact⟨D.1,D.2.1,.inr ⟨_,q,rfl,D.2.2⟩⟩
section
variable {w w1 w2:World} {l:iZ} {p:M.hZ} {B kb:Nat} {k:Int} {m:M.Method} {t:uN} {at_:Int} {vl vs vl1 vs1:Value} {o:Option M.nV} {e:Ending} {s':M.nV}
theorem jF.after(d:Kp (qN l kb vl vs) w w1)(f:jU w vl vs vl1 vs1)(c:jF w1 l p B kb k m t at_ vl1 vs1 o e w2):jF w l p B kb k m t at_ vl vs o e w2:=
 ⟨d.look c.1 f,c.2.1,c.2.2.imp id fun⟨s',h1,h2,a,b,h3,h4⟩=>⟨s',h1,h2,a,b,h3,f.trans h4 d.size⟩⟩
theorem jF.behind(b:Ext w w1)(a:jF w1 l p B kb k m t at_ vl vs o e w2):jF w l p B kb k m t at_ vl vs o e w2:=
 jF.after b.any (jU.refl _ _ _) a
end
theorem zC:Calls prog 217 #[] w fun a b=>a=.returned (.agg #[nG.kind,nG.name])/\Ext w b:=by
 go_enter func217,ntmps217;go_wp2;refine Px (jA uI rfl w rfl [.int .i64 1,none_] (hH.mO (h9.new _ _ _)) rfl) rfl ?_;exact⟨rfl,kx⟩
theorem zk(w:World)(n:ByteArray):Calls prog 149 #[n] w fun a b=>a=.returned (.agg #[.int .i64 (kZ n).kind,.string (kZ n).name])/\Ext w b:=by
 go_enter func149,ntmps149;go_wp2;refine Px (jA uI rfl w rfl [.int .i64 2,n] (hH.mO (h9.new _ _ _)) rfl) rfl ?_;exact⟨rfl,kx⟩
theorem h9.set2(d:h9 w b t #[u0,u1])(a c:Value):h9 ((w.setCell b a).setCell (b,1) c) b t #[a,c]:=
 (d.jE 0 a).jE 1 c
theorem Kp.LX{a: World}(e:Kp D w a)(g:w<=b)(c d:Value):Kp D w ((a.setCell b c).setCell (b,1) d):=
 e.own (D':=(·=b)) (((Kp.refl (·=b) a).setCell (p:=⟨b,0,none⟩) (fun _=>rfl) c).setCell (p:=⟨b,1,none⟩) (fun _=>rfl) d) (fun h f=>Zm)
theorem BV(w:World)(x:Kind):Calls prog 150 #[.agg #[x.kind,x.name]] w fun l y=>l=.returned (.agg #[.int .i64 (lN x).kind,.string (lN x).name])/\Ext w y:=by
 obtain⟨b,c⟩:=x;obtain⟨g,f⟩:=SH ((w.alloc (.cells #[b,c] 109)).alloc (.cells #[SS, ""] 236));have r:Ext w g:=by rw[f];exact kx
 have p:h9 g w 109 #[b,c]:=by rw[f];exact(h9.new _ _ _).ext kx
 have q:h9 g (w+1) 236 #[SS, ""]:=by rw[f];exact h9.newAt _ _ Zl
 have⟨o,n,t,m⟩:=kQ f r p q;clear f r p q;cases e:kY ⟨b,c⟩
 . have j:Zz (lN ⟨b,c⟩=Cg):=Zy (by unfold lN;rw[e];rfl);have k:=Zy e;clear e;go_enter func150,ntmps150;go_wp2_with fail;rw[<-o.o];refine(BA ⟨b,c⟩).mono ?_;rintro l z ⟨rfl,d⟩;rw[k.o];have a:=m.ext d;obtain⟨C,A,B,-⟩:=a.ca;obtain⟨u,v,-⟩:=a.fz;have⟨h,i⟩:=jc a (n.trans d);clear d a;go_wp2_with fail;refine Px (jA uI rfl (w+1) rfl [SS, ""] (hH.mO (h.set2 _ _)) rfl) rfl ?_;exact⟨by rw[j.o];rfl,i.LX Zm _ _⟩
 . have j:Zz (lN ⟨b,c⟩=⟨b,c⟩):=Zy (by unfold lN;rw[e];rfl);have k:=Zy e;clear e;go_enter func150,ntmps150;go_wp2_with fail;rw[<-o.o];refine(BA ⟨b,c⟩).mono ?_;rintro l z ⟨rfl,d⟩;rw[k.o];have a:=m.ext d;have s:=t.ext d;obtain⟨-,D,E,-⟩:=s.ca;obtain⟨C,A,B,-⟩:=a.ca;obtain⟨u,v,-⟩:=a.fz;have⟨h,i⟩:=jc a (n.trans d);clear d a s;go_wp2_with fail;refine Px (jA uI rfl (w+1) rfl [b,c] (hH.mO (h.set2 _ _)) rfl) rfl ?_;exact⟨by rw[j.o],i.LX Zm _ _⟩
theorem O4{t:uN}(f:jo w l p c b k m t at_ s j vs)(i:Ins)(h:i.op=1):Calls prog 179 #[some b,.agg #[i.op,i.a,i.name,i.member]] w (jF w l p c b k m t at_ j vs (jG p k m i s)):=by
 have o:Zz (jG p k m i s=mZ m nG s):=Zy (by unfold jG;rw[h];rfl);have n:=Zy f;clear f h;go_enter func179,ntmps179;go_wp2_with fail;refine(zC).mono ?_;rintro q u ⟨rfl,g⟩;have d:=Zy ((kx:Ext w _).trans g);clear g;go_wp2_with fail;refine(rR _ (n.ext d) nG).mono ?_;rintro q v a;rw[<-o.o]at a;have e:=Zy (jF.behind d a);rcases a.2.2 with⟨-,rfl⟩|⟨r,-,rfl,-⟩
 . exact⟨rfl,e⟩
 . clear a;go_wp2_with fail;refine SQ ?_;exact e
theorem jo.pM{t:uN}{d: Value}(a:jo w l p e c k m t at_ s d vs):¬qN l c d vs w.heap.size:=by
 have f:=a.blk.lt;have g:=a.kK.ord;have h:=a.hB;have i:=a.hk;rintro(b|b|b|b)
 . omega
 . omega
 . have:=(a.loc.lt _ b).2;omega
 . have:=(a.ky.lt _ b).2;omega
theorem OZ{v: Nat}{t:uN}{x: Value}(u:jo w l p A v k m t at_ s x vs)(i:Ins)(C:i.op=4):Calls prog 182 #[some v,.agg #[i.op,i.a,i.name,i.member]] w (jF w l p A v k m t at_ x vs (jG p k m i s)):=by
 have g:Zz (jG p k m i s=(mr p k nG s).bind fun F=>(mr p k nG F).bind (mZ m nG)):=Zy (by unfold jG;rw[C];rfl);obtain⟨z,D,y,B⟩:=nu w #[i.op,i.a,i.name,i.member] 134;have⟨E,a⟩:=jc D (u.ext y);have c:Zz (Kp (qN l v x vs) z z):=Zy Kp.rr;have⟨o,r,J⟩:=jr (jU.refl z x vs) y B;have K:=u.blk.lt;have L:=jo.pM u;clear C u y B D;go_enter func182,ntmps182;go_wp2_with fail;rw[<-E.o];refine(zC).mono ?_;rintro q T ⟨rfl,d⟩;replace a:=Zy (a.ext d);replace c:=Zy (c.trans d.any);clear d;go_wp2_with fail;refine(nS _ a nG).mono ?_;rintro q U e;replace e:=jF.after c o e;rcases e with⟨f,j,⟨b,rfl⟩|⟨G,b,rfl,N,Q,h,n⟩⟩
 . exact⟨rfl,jF.behind r ⟨f,j,.inl ⟨by rw[g.o,b];try rfl,rfl⟩⟩⟩
 replace g:Zz (jG p k m i s=(mr p k nG G).bind (mZ m nG)):=Zy (by rw[g.o,b];try rfl);replace a:=Zy h;replace c:=Zy f;replace o:=Zy n;clear h f n j b;go_wp2_with fail;refine(zC).mono ?_;rintro q V ⟨rfl,d⟩;replace a:=Zy (a.ext d);replace c:=Zy (c.trans d.any);clear d;go_wp2_with fail;refine(nS _ a nG).mono ?_;rintro q W e;replace e:=jF.after c o e;rcases e with⟨f,j,⟨b,rfl⟩|⟨H,b,rfl,O,R,h,n⟩⟩
 . exact⟨rfl,jF.behind r ⟨f,j,.inl ⟨by rw[g.o,b];try rfl,rfl⟩⟩⟩
 replace g:Zz (jG p k m i s=mZ m nG H):=Zy (by rw[g.o,b];try rfl);replace a:=Zy h;replace c:=Zy f;replace o:=Zy n;clear h f n j b;go_wp2_with fail;refine(zC).mono ?_;rintro q X ⟨rfl,d⟩;replace a:=Zy (a.ext d);replace c:=Zy (c.trans d.any);clear d;go_wp2_with fail;refine(rR _ a nG).mono ?_;rintro q Y e;replace e:=jF.after c o e;rcases e with⟨f,j,⟨b,rfl⟩|⟨I,b,rfl,P,S,h,n⟩⟩
 . exact⟨rfl,jF.behind r ⟨f,j,.inl ⟨by rw[g.o,b];try rfl,rfl⟩⟩⟩
 replace g:Zz (jG p k m i s=some I):=Zy (by rw[g.o,b];try rfl);replace a:=Zy h;replace c:=Zy f;replace o:=Zy n;clear h f n j b;go_wp2_with fail;refine SQ ?_;exact jF.behind r ⟨c,a.kK,.inr ⟨_,g,rfl,_,_,a,o⟩⟩
theorem MU{r: Nat}{t:uN}(c:jo w l p r e k m t at_ s f vs)(i:Ins)(A:i.op=5):Calls prog 183 #[some e,.agg #[i.op,i.a,i.name,i.member]] w (jF w l p r e k m t at_ f vs (jG p k m i s)):=by
 have b:Zz (jG p k m i s=mZ m AV s):=Zy (by unfold jG;rw[A];rfl);obtain⟨q,B,j,v⟩:=nu w #[i.op,i.a,i.name,i.member] 134;have⟨C,a⟩:=jc B (c.ext j);have g:Zz (Kp (qN l e f vs) q q):=Zy Kp.rr;have⟨h,u,E⟩:=jr (jU.refl q f vs) j v;have G:=c.blk.lt;have H:=jo.pM c;clear A c j v B;go_enter func183,ntmps183;go_wp2_with fail;rw[<-C.o];refine(rR _ a AV).mono ?_;rintro F K n;replace n:=jF.after g h n;rcases n with⟨o,y,⟨d,rfl⟩|⟨D,d,rfl,I,J,x,z⟩⟩
 . exact⟨rfl,jF.behind u ⟨o,y,.inl ⟨by rw[b.o,d];try rfl,rfl⟩⟩⟩
 replace b:Zz (jG p k m i s=some D):=Zy (by rw[b.o,d];try rfl);replace a:=Zy x;replace g:=Zy o;replace h:=Zy z;clear x o z y d;go_wp2_with fail;refine SQ ?_;exact jF.behind u ⟨g,a.kK,.inr ⟨_,b,rfl,_,_,a,h⟩⟩
theorem O3{v f:Nat}{t:uN}{g: Value}(d:jo w l p v f k m t at_ s g vs)(i:Ins)(B:i.op=6):Calls prog 184 #[some f,.agg #[i.op,i.a,i.name,i.member]] w (jF w l p v f k m t at_ g vs (jG p k m i s)):=by
 have c:Zz (jG p k m i s=mZ m (kZ i.name) s):=Zy (by unfold jG;rw[B];rfl);obtain⟨u,C,o,j⟩:=nu w #[i.op,i.a,i.name,i.member] 134;have⟨D,a⟩:=jc C (d.ext o);have b:Zz (Kp (qN l f g vs) u u):=Zy Kp.rr;have⟨h,x,G⟩:=jr (jU.refl u g vs) o j;have H:=d.blk.lt;have I:=jo.pM d;have O:=j.c 2 i.name rfl;clear B d o j C;go_enter func184,ntmps184;go_wp2_with fail;rw[<-D.o];refine(zk _ i.name).mono ?_;rintro E L ⟨rfl,n⟩;replace a:=Zy (a.ext n);replace b:=Zy (b.trans n.any);clear n;go_wp2_with fail;refine(rR _ a (kZ i.name)).mono ?_;rintro E N q;replace q:=jF.after b h q;rcases q with⟨r,z,⟨e,rfl⟩|⟨F,e,rfl,J,K,y,A⟩⟩
 . exact⟨rfl,jF.behind x ⟨r,z,.inl ⟨by rw[c.o,e];try rfl,rfl⟩⟩⟩
 replace c:Zz (jG p k m i s=some F):=Zy (by rw[c.o,e];try rfl);replace a:=Zy y;replace b:=Zy r;replace h:=Zy A;clear y r A z e;go_wp2_with fail;refine SQ ?_;exact jF.behind x ⟨b,a.kK,.inr ⟨_,c,rfl,_,_,a,h⟩⟩
theorem O5{f: Nat}{t:uN}{g: Value}(d:jo w l p u f k m t at_ s g vs)(i:Ins)(B:i.op=14):Calls prog 192 #[some f,.agg #[i.op,i.a,i.name,i.member]] w (jF w l p u f k m t at_ g vs (jG p k m i s)):=by
 have c:Zz (jG p k m i s=mr p k nG s):=Zy (by unfold jG;rw[B];rfl);obtain⟨r,C,n,x⟩:=nu w #[i.op,i.a,i.name,i.member] 134;have⟨D,a⟩:=jc C (d.ext n);have b:Zz (Kp (qN l f g vs) r r):=Zy Kp.rr;have⟨h,v,G⟩:=jr (jU.refl r g vs) n x;have H:=d.blk.lt;have I:=jo.pM d;clear B d n x C;go_enter func192,ntmps192;go_wp2_with fail;rw[<-D.o];refine(zC).mono ?_;rintro E L ⟨rfl,j⟩;replace a:=Zy (a.ext j);replace b:=Zy (b.trans j.any);clear j;go_wp2_with fail;refine(nS _ a nG).mono ?_;rintro E N o;replace o:=jF.after b h o;rcases o with⟨q,z,⟨e,rfl⟩|⟨F,e,rfl,J,K,y,A⟩⟩
 . exact⟨rfl,jF.behind v ⟨q,z,.inl ⟨by rw[c.o,e];try rfl,rfl⟩⟩⟩
 replace c:Zz (jG p k m i s=some F):=Zy (by rw[c.o,e];try rfl);replace a:=Zy y;replace b:=Zy q;replace h:=Zy A;clear y q A z e;go_wp2_with fail;refine SQ ?_;exact jF.behind v ⟨b,a.kK,.inr ⟨_,c,rfl,_,_,a,h⟩⟩
theorem Qn{t:uN}(c:jo w l p u e k m t at_ s f vs)(i:Ins)(A:i.op=13):Calls prog 191 #[some e,.agg #[i.op,i.a,i.name,i.member]] w (jF w l p u e k m t at_ f vs (jG p k m i s)):=by
 have b:Zz (jG p k m i s=lZ p k m i.a s):=Zy (by unfold jG;rw[A];rfl);obtain⟨r,B,n,j⟩:=nu w #[i.op,i.a,i.name,i.member] 134;have⟨C,a⟩:=jc B (c.ext n);have g:Zz (Kp (qN l e f vs) r r):=Zy Kp.rr;have⟨h,v,E⟩:=jr (jU.refl r f vs) n j;have H:=c.blk.lt;have I:=jo.pM c;obtain⟨G,-,N,-⟩:=j.ca;clear A c n j B;go_enter func191,ntmps191;go_wp2_with fail;rw[<-C.o];refine(yK a i.a).mono ?_;rintro F L o;replace o:=jF.after g h o;rcases o with⟨q,y,⟨d,rfl⟩|⟨D,d,rfl,J,K,x,z⟩⟩
 . exact⟨rfl,jF.behind v ⟨q,y,.inl ⟨by rw[b.o,d];try rfl,rfl⟩⟩⟩
 replace b:Zz (jG p k m i s=some D):=Zy (by rw[b.o,d];try rfl);replace a:=Zy x;replace g:=Zy q;replace h:=Zy z;clear x q z y d;go_wp2_with fail;refine SQ ?_;exact jF.behind v ⟨g,a.kK,.inr ⟨_,b,rfl,_,_,a,h⟩⟩
theorem MV{t:uN}(o:jo w l p z q k m t at_ s r vs)(i:Ins)(C:i.op=11):Calls prog 189 #[some q,.agg #[i.op,i.a,i.name,i.member]] w (jF w l p z q k m t at_ r vs (jG p k m i s)):=by
 have d:Zz (jG p k m i s=(mr p k nG s).bind (lZ p k m i.a)):=Zy (by unfold jG;rw[C];rfl);obtain⟨y,D,x,A⟩:=nu w #[i.op,i.a,i.name,i.member] 134;have⟨F,b⟩:=jc D (o.ext x);have c:Zz (Kp (qN l q r vs) y y):=Zy Kp.rr;have⟨g,u,E⟩:=jr (jU.refl y r vs) x A;have J:=o.blk.lt;have G:=jo.pM o;clear C o x A D;go_enter func189,ntmps189;go_wp2_with fail;rw[<-F.o];refine(zC).mono ?_;rintro B P ⟨rfl,v⟩;replace b:=Zy (b.ext v);replace c:=Zy (c.trans v.any);clear v;go_wp2_with fail;refine(nS _ b nG).mono ?_;rintro B Q e;replace e:=jF.after c g e;rcases e with⟨f,j,⟨a,rfl⟩|⟨H,a,rfl,K,N,h,n⟩⟩
 . exact⟨rfl,jF.behind u ⟨f,j,.inl ⟨by rw[d.o,a];try rfl,rfl⟩⟩⟩
 replace d:Zz (jG p k m i s=lZ p k m i.a H):=Zy (by rw[d.o,a];try rfl);replace b:=Zy h;replace c:=Zy f;replace g:=Zy n;clear h f n j a;have S:=(E.kp c G).c 1 i.a rfl;go_wp2_with fail;refine(yK b i.a).mono ?_;rintro B R e;replace e:=jF.after c g e;rcases e with⟨f,j,⟨a,rfl⟩|⟨I,a,rfl,L,O,h,n⟩⟩
 . exact⟨rfl,jF.behind u ⟨f,j,.inl ⟨by rw[d.o,a];try rfl,rfl⟩⟩⟩
 replace d:Zz (jG p k m i s=some I):=Zy (by rw[d.o,a];try rfl);replace b:=Zy h;replace c:=Zy f;replace g:=Zy n;clear h f n j a;go_wp2_with fail;refine SQ ?_;exact jF.behind u ⟨c,b.kK,.inr ⟨_,d,rfl,_,_,b,g⟩⟩
theorem KL{y: Nat}{t:uN}(o:jo w l p y q k m t at_ s r vs)(i:Ins)(A:i.op=12):Calls prog 190 #[some q,.agg #[i.op,i.a,i.name,i.member]] w (jF w l p y q k m t at_ r vs (jG p k m i s)):=by
 have b:Zz (jG p k m i s=(wE s).bind (lZ p k m i.a)):=Zy (by unfold jG;rw[A];rfl);obtain⟨x,B,v,z⟩:=nu w #[i.op,i.a,i.name,i.member] 134;have⟨D,e⟩:=jc B (o.ext v);have f:Zz (Kp (qN l q r vs) x x):=Zy Kp.rr;have⟨g,u,C⟩:=jr (jU.refl x r vs) v z;have I:=o.blk.lt;have F:=jo.pM o;clear A o v z B;go_enter func190,ntmps190;go_wp2_with fail;rw[<-D.o];refine(x9 e).mono ?_;rintro E O c;replace c:=jF.after f g c;rcases c with⟨d,j,⟨a,rfl⟩|⟨G,a,rfl,J,L,h,n⟩⟩
 . exact⟨rfl,jF.behind u ⟨d,j,.inl ⟨by rw[b.o,a];try rfl,rfl⟩⟩⟩
 replace b:Zz (jG p k m i s=lZ p k m i.a G):=Zy (by rw[b.o,a];try rfl);replace e:=Zy h;replace f:=Zy d;replace g:=Zy n;clear h d n j a;have Q:=(C.kp f F).c 1 i.a rfl;go_wp2_with fail;refine(yK e i.a).mono ?_;rintro E P c;replace c:=jF.after f g c;rcases c with⟨d,j,⟨a,rfl⟩|⟨H,a,rfl,K,N,h,n⟩⟩
 . exact⟨rfl,jF.behind u ⟨d,j,.inl ⟨by rw[b.o,a];try rfl,rfl⟩⟩⟩
 replace b:Zz (jG p k m i s=some H):=Zy (by rw[b.o,a];try rfl);replace e:=Zy h;replace f:=Zy d;replace g:=Zy n;clear h d n j a;go_wp2_with fail;refine SQ ?_;exact jF.behind u ⟨f,e.kK,.inr ⟨_,b,rfl,_,_,e,g⟩⟩
theorem MQ{t:uN}(o:jo w l p z q k m t at_ s r vs)(i:Ins)(C:i.op=15):Calls prog 193 #[some q,.agg #[i.op,i.a,i.name,i.member]] w (jF w l p z q k m t at_ r vs (jG p k m i s)):=by
 have d:Zz (jG p k m i s=(wE s).bind (mZ m (kZ i.name))):=Zy (by unfold jG;rw[C];rfl);obtain⟨y,D,x,A⟩:=nu w #[i.op,i.a,i.name,i.member] 134;have⟨F,b⟩:=jc D (o.ext x);have c:Zz (Kp (qN l q r vs) y y):=Zy Kp.rr;have⟨g,u,E⟩:=jr (jU.refl y r vs) x A;have J:=o.blk.lt;have G:=jo.pM o;clear C o x A D;go_enter func193,ntmps193;go_wp2_with fail;rw[<-F.o];refine(x9 b).mono ?_;rintro B P e;replace e:=jF.after c g e;rcases e with⟨f,j,⟨a,rfl⟩|⟨H,a,rfl,K,N,h,n⟩⟩
 . exact⟨rfl,jF.behind u ⟨f,j,.inl ⟨by rw[d.o,a];try rfl,rfl⟩⟩⟩
 replace d:Zz (jG p k m i s=mZ m (kZ i.name) H):=Zy (by rw[d.o,a];try rfl);replace b:=Zy h;replace c:=Zy f;replace g:=Zy n;clear h f n j a;have S:=(E.kp c G).c 2 i.name rfl;go_wp2_with fail;refine(zk _ i.name).mono ?_;rintro B Q ⟨rfl,v⟩;replace b:=Zy (b.ext v);replace c:=Zy (c.trans v.any);clear v;go_wp2_with fail;refine(rR _ b (kZ i.name)).mono ?_;rintro B R e;replace e:=jF.after c g e;rcases e with⟨f,j,⟨a,rfl⟩|⟨I,a,rfl,L,O,h,n⟩⟩
 . exact⟨rfl,jF.behind u ⟨f,j,.inl ⟨by rw[d.o,a];try rfl,rfl⟩⟩⟩
 replace d:Zz (jG p k m i s=some I):=Zy (by rw[d.o,a];try rfl);replace b:=Zy h;replace c:=Zy f;replace g:=Zy n;clear h f n j a;go_wp2_with fail;refine SQ ?_;exact jF.behind u ⟨c,b.kK,.inr ⟨_,d,rfl,_,_,b,g⟩⟩
theorem O7{f: Nat}{t:uN}{g: Value}(c:jo w l p u f k m t at_ s g vs)(i:Ins)(B:i.op=10):Calls prog 188 #[some f,.agg #[i.op,i.a,i.name,i.member]] w (jF w l p u f k m t at_ g vs (jG p k m i s)):=by
 have d:Zz (jG p k m i s=mr p k (lN m.ret) s):=Zy (by unfold jG;rw[B];rfl);obtain⟨r,C,n,x⟩:=nu w #[i.op,i.a,i.name,i.member] 134;have⟨D,a⟩:=jc C (c.ext n);have b:Zz (Kp (qN l f g vs) r r):=Zy Kp.rr;have⟨h,v,G⟩:=jr (jU.refl r g vs) n x;have H:=c.blk.lt;have I:=jo.pM c;obtain⟨-,-,-,-,-,O,P,-⟩:=c.blk.ca;clear B c n x C;go_enter func188,ntmps188;go_wp2_with fail;rw[<-D.o];refine(BV _ m.ret).mono ?_;rintro E L ⟨rfl,j⟩;replace a:=Zy (a.ext j);replace b:=Zy (b.trans j.any);clear j;go_wp2_with fail;refine(nS _ a (lN m.ret)).mono ?_;rintro E N o;replace o:=jF.after b h o;rcases o with⟨q,z,⟨e,rfl⟩|⟨F,e,rfl,J,K,y,A⟩⟩
 . exact⟨rfl,jF.behind v ⟨q,z,.inl ⟨by rw[d.o,e];try rfl,rfl⟩⟩⟩
 replace d:Zz (jG p k m i s=some F):=Zy (by rw[d.o,e];try rfl);replace a:=Zy y;replace b:=Zy q;replace h:=Zy A;clear y q A z e;go_wp2_with fail;refine SQ ?_;exact jF.behind v ⟨b,a.kK,.inr ⟨_,d,rfl,_,_,a,h⟩⟩
theorem O9{t:uN}{S: Value}(h:jo w l p A n k m t at_ s S vs)(i:Ins)(x:i.op=2)(P:0<=i.a/\i.a<m.locals):Calls prog 180 #[some n,.agg #[i.op,i.a,i.name,i.member]] w (jF w l p A n k m t at_ S vs (jG p k m i s)):=by
 have c:Zz (jG p k m i s=(s.locals[i.a.toNat]?).bind fun t=>if t.kind=0 then none else mZ m t s):=Zy (by unfold jG;rw[x];rfl);obtain⟨r,G,q,o⟩:=i;dsimp only at x P c;obtain⟨b,rfl⟩:∃b:Nat,G=b:=⟨G.toNat,Zm⟩;have aa:b<s.locals.length:=SK h.Pb
 obtain⟨a,y⟩:=nR s.locals b aa;replace c:Zz (jG p k m ⟨r,b,q,o⟩ s=if a.kind=0 then none else mZ m a s):=Zy (by rw[c.o,Vu,y];rfl);obtain⟨d,R,u,H⟩:=nu w #[r,b,q,o] 134;have j:=h.ext u;have v:=j.loc;obtain⟨lg,ae,Z,ah,ai,aj⟩:=jP v Zm;subst Z;obtain⟨T,U⟩:=(lG (enc:=ni) (k:=2) (fun _=>rfl) v y).two;obtain⟨af,ag,ak,f⟩:=mJ d;have J:=fun e=>(j.blk.ext (f.jv e)).c 11 (lg,s.locals.length,ae) rfl;have I:=fun e=>(H.ext (f.jv e)).c 1 b rfl;have K:=fun e=>(f.jv e).iW T;have L:=fun e=>(f.jv e).iW U;have au:(b:Int)<s.locals.length:=Zm
 have Y:=h.Ky;have hz:=h.blk.lt;have⟨E,V,C,B⟩:=kQ f R u j;clear h x y R u H j v f T U P;have Q:(a.kind==0)=true\/(a.kind==0)=false:=by cases (a.kind==0)<;>simp
 go_enter func180,ntmps180;go_wp2_with fail;rw[<-V.o];refine kT E 9 [([0,1,2,3,4,5,6,7],8)] [] ?_ ?_
 . exact jg
 refine mP ?_;intro W O;go_wp2_with fail;refine kk E O kx ?_;clear O W;refine kG ?_;go_wp2_with fail
 . clear Q J I K L;have z:(a.kind==0)=true:=by assumption
   replace c:Zz (jG p k m ⟨r,b,q,o⟩ s=none):=Zy (by rw[c.o,SV (by simpa using z)]);have N:=B.ext (kx:Ext d ((d.alloc (.cells #[a.kind,a.name] 236)).drew));refine(mG n at_ (N.blk.c 10 _ rfl) Y.1 Zm).mono ?_;rintro X w3 ⟨rfl,rfl⟩;exact⟨rfl,jF.behind C ⟨(kx:Ext d ((d.alloc (.cells #[a.kind,a.name] 236)).drew)).any,N.kK,.inl ⟨c,rfl⟩⟩⟩
 . clear Q J I K L;have z:(a.kind==0)=false:=by assumption
   replace c:Zz (jG p k m ⟨r,b,q,o⟩ s=mZ m a s):=Zy (by rw[c.o,SX (by simpa using z)]);have D:Zz (Ext d ((d.alloc (.cells #[a.kind,a.name] 236)).drew)):=Zy kx;refine(rR _ (B.ext D) a).mono ?_;rintro X w2 g;replace g:=jF.behind (C.trans D) g;rw[<-c.o]at g;have F:=Zy g;rcases g.2.2 with⟨-,rfl⟩|⟨s',-,rfl,-⟩
   . exact⟨rfl,F⟩
   . clear g;go_wp2_with fail;refine SQ ?_;exact F
theorem Mm:∀(a:List Tag) (q:Nat) (x:Tag),((a.flatMap ni).set (q*2) x.kind).set (q*2+1) x.name=(a.set q x).flatMap ni:=by
 intro a;induction a with
 |nil=>intro q x;rfl
 | cons d c b =>
  intro q x;cases q with
  |zero=>simp[ni]
  |succ q=>
   have:=b q x;rw[show(q+1)*2=q*2+2 from by omega];simp[ni,UG,TQ]at this |-;exact this
theorem jo.yV{t:uN}{f: Nat}(a:jo w l p g e k m t at_ s (b,s.locals.length,f) vs)(q:Nat)(x:Tag):jo ((w.setCell (b,q*2) x.kind).setCell (b,q*2+1) x.name) l p g e k m t at_ ⟨s.locals.set q x,s.stack⟩ (b,s.locals.length,f) vs/\Kp (qN l e (b,s.locals.length,f) vs) w ((w.setCell (b,q*2) x.kind).setCell (b,q*2+1) x.name):=by
 have d:Kp (·=b) w ((w.setCell (b,q*2) x.kind).setCell (b,q*2+1) x.name):=
  ((Kp.refl (·=b) w).setCell (p:=⟨b,q*2,none⟩) (fun _=>rfl) _).setCell (p:=⟨b,q*2+1,none⟩) (fun _=>rfl) _
 have j:=(a.loc.lt b rfl).1;have v:=a.kK.ord;have u:=a.hB;have o:=a.QV.1;have i:=(a.loc.stored (q*2) x.kind).1.stored (q*2+1) x.name;rw[Mm]at i;refine⟨⟨a.kK.kp d (fun h n c=>Zm),a.hB,a.hk,jK.kp jb.stays d (fun h n c=>Zm) a.ml,a.mi,a.blk.kp d (fun c=>o (by rw[c];rfl)),by simpa using i.1,iY a.ky d (fun r j _ c=>a.ne b rfl (by rw[<-c];exact j)),a.ne,a.Ky,a.QW,by simpa using a.Pb⟩,d.weak fun h _ c=>.inr (.inr (.inl (by rw[c];rfl)))⟩
theorem Qo{r: Nat}{t:uN}(f:jo w l p r g k m t at_ s vl vs)(i:Ins)(z:i.op=3)(T:0<=i.a/\i.a<m.locals):Calls prog 181 #[some g,.agg #[i.op,i.a,i.name,i.member]] w (jF w l p r g k m t at_ vl vs (jG p k m i s)):=by
 have c:Zz (jG p k m i s=(sI s).map fun d=>⟨d.2.locals.set i.a.toNat d.1,d.2.stack⟩):=Zy (by unfold jG;rw[z];rfl);obtain⟨D,L,C,B⟩:=i;dsimp only at z T c;obtain⟨a,rfl⟩:∃a:Nat,L=a:=⟨L.toNat,Zm⟩;have aj:a<s.locals.length:=SK f.Pb
 obtain⟨E,V,x,N⟩:=nu w #[D,a,C,B] 134;have o:=f.ext x;have U:=f.pM;obtain⟨q,A,ai,av,ax,ay⟩:=jP o.loc Zm;subst ai;obtain⟨ak,ag,aA,n⟩:=uD.ex (fun K=>Kp (qN l g (q,s.locals.length,A) vs) E K/\∃Y aa,jo K l p r g k m t at_ Y (q,s.locals.length,A) aa) E ⟨Kp.rr,_,_,o⟩;have af:∀j,(ag j).cell? (g,11)=some (.slice (some ⟨q,0,none⟩) s.locals.length A):=fun j=>by
  obtain⟨_,Y,aa,X⟩:=n.jv j;exact X.blk.c 11 _ rfl
 have e1:=fun j=>(N.kp (n.jv j).1 U).c 1 a rfl;have aB:(a:Int)<s.locals.length:=Zm
 have au:=f.Ky;have X:=f.blk.lt;have⟨v,I,F,h⟩:=kQ n V x o;clear f z V x N o n T U;rcases Ta s.stack with b|⟨Z,d,b⟩
 . replace c:Zz (jG p k m ⟨D,a,C,B⟩ s=none):=Zy (by rw[c.o];unfold sI;rw[b];rfl);have u:=Zy b;clear b;go_enter func181,ntmps181;go_wp2_with fail;rw[<-I.o];refine kT v 8 [([0,1,2,3,4,5,6],7)] [] ?_ ?_
   . exact⟨jg,_,_,h.ext jg⟩
   refine mP ?_;intro J y;go_wp2_with fail;refine(xw (h.ext jg) u).mono ?_;rintro ae w1 ⟨rfl,Q⟩;have hE:=(F.trans jg).trans Q;exact⟨rfl,hE.any,((h.ext jg).ext Q).kK,.inl ⟨c,rfl⟩⟩
 . rw[TZ]at b;replace c:Zz (jG p k m ⟨D,a,C,B⟩ s=some ⟨s.locals.set a d,Z⟩):=Zy (by rw[c.o];unfold sI;rw[b];simp);have u:=Zy b;clear b;go_enter func181,ntmps181;go_wp2_with fail;rw[<-I.o];refine kT v 8 [([0,1,2,3,4,5,6],7)] [] ?_ ?_
   . exact⟨jg,_,_,h.ext jg⟩
   refine mP ?_;intro J y;go_wp2_with fail;refine(zB (h.ext jg) Z d u).mono ?_;rintro ae w1 ⟨rfl,⟨aC,O,S⟩,R⟩;have⟨G,H,e⟩:=jr (((Kp.refl _ E).drew).trans R) S O;clear O S R;go_wp2_with fail;refine kk v y ⟨G,_,_,e⟩ ?_;clear y J;obtain⟨aD,W⟩:=nR s.locals a aj;obtain⟨x0,x1⟩:=(lG (enc:=ni) (k:=2) (fun _=>rfl) e.loc W).two;have f0:=e.loc.frozenAt (a*2);have f1:=e.loc.frozenAt (a*2+1);have az:=(e.loc.lt q rfl).2;clear af e1 W;refine kG ?_;go_wp2_with fail;refine SQ ?_;obtain⟨P,ah⟩:=e.yV a d;exact jF.behind F ⟨G.look ah H,P.kK,.inr ⟨_,c,rfl,_,_,P,H⟩⟩
theorem FW{d a: World}(f:Ext w d)(g:Kp (·=l.D) d a)(h:ja a l p)(j:l.L<b)(m:w<=b)(u0 u1 u2 u3 u4:Value):Kp (·=l.D) w (((((a.setCell b u0).setCell (b,1) u1).setCell (b,2) u2).setCell (b,3) u3).setCell (b,4) u4)/\ja (((((a.setCell b u0).setCell (b,1) u1).setCell (b,2) u2).setCell (b,3) u3).setCell (b,4) u4) l p:=by
 have c:=Kp.wL (D:=(·=b)) (w:=a) rfl u0 u1 u2 u3 u4;generalize (((((a.setCell b u0).setCell (b,1) u1).setCell (b,2) u2).setCell (b,3) u3).setCell (b,4) u4)=w8 at*;exact⟨(f.any.trans g).own c (fun i e=>Zm),h.kp c (fun i k e=>Zm)⟩
theorem D7{af K:Nat}{t:uN}(j:jo w l p af K k m t at_ s vl vs)(i:Ins):Calls prog 220 #[some K,.agg #[i.op,i.a,i.name,i.member]] w fun g w'=>Kp (·=l.D) w w'/\ja w' l p/\(((M.get p k i.name i.member).2≠1/\g=.panicked (Aj (at_+1)))\/((M.get p k i.name i.member).2=1/\g=.returned (.agg (oW (M.get p k i.name i.member).1).toArray))):=by
 obtain⟨c,J⟩:=SH ((w.alloc (.cells #[i.op,i.a,i.name,i.member] 134)).alloc (.cells #[SS, "",SS,SS, ""] 173));have T:Ext w c:=by rw[J];exact kx
 have b3:h9 c w 134 #[i.op,i.a,i.name,i.member]:=by rw[J];exact(h9.new _ _ _).ext kx
 have d:h9 c (w+1) 173 #[SS, "",SS,SS, ""]:=by rw[J];exact h9.newAt _ _ Zl
 have S:=j.ext T;have hD:=j.kK.Fj;have aG:=j.kK.ord;have hB:=j.hB;have hk:=j.hk;have hz:=j.blk.lt;have aa:=j.Ky;have W:¬K=l.D:=Zm
 have ay:¬w=l.D:=Zm
 have ae:¬w+1=l.D:=Zm
 obtain⟨aB,aC,aF,O⟩:=uD.ex (fun W'=>Kp (·=l.D) c W') _ Kp.rr;obtain⟨-,r0,r1,-⟩:=h9.qW fun Y=>(S.blk.kp (O.jv Y) W);obtain⟨-,-,-,r2,r3,-⟩:=h9.qW fun Y=>(b3.kp (O.jv Y) ay);have⟨h,ah,E,C,N⟩:=qR O J T S d;obtain⟨r,u,v,x,y,X⟩:∃aj b ak au g,(oW (M.get p k i.name i.member).1).toArray=#[.int .i64 aj,.string b,.int .i64 ak,.int .i64 au,.string g]:=⟨_,_,_,_,_,rfl⟩;have Z:=Zy X;rw[X];clear X;clear j J T b3 d S O;go_enter func220,ntmps220;go_wp2_with fail;rw[<-ah.o];refine ve h 18 (.two [0,1,2,3,4,5,6,7,8,9,10,11] 12 16 (.one [13,14,15] 16 (.one [] 17 (.fin []))) (.one [] 12 (.one [13,14,15] 17 (.fin [])))) ?_ ?_
 . exact jg
 refine two [_,_,_,_,_,_,_,_,_,_,_,_] rfl rfl rfl fun ai hK=>?_;(repeat (go_big_quiet_step (fail)));((refine JE hK (fun f a=>?_) fun f a=>?_)<;>clear hK ai)
 . go_wp2_with fail;refine(zA _ _ _ (C.kK.ext jg) k i.name i.member).mono ?_;rintro g L ⟨⟨ev,H,V⟩,G,A⟩;rw[Z.o]at H;subst H;have⟨o,ag⟩:=jc ((jg).trans A) G;clear G A;obtain⟨B,n⟩:=SH (L.alloc (.cells #[r,u,v,x,y] 173));have e:Zz (Kp (·=l.D) c B):=Zy (by rw[n];exact o.alloc _);have F:Zz (ja B l p):=Zy (by rw[n];exact ag.ext kx);have z:h9 B L 173 #[r,u,v,x,y]:=by rw[n];exact h9.new _ _ _
   have R:=Zy n;obtain⟨-,u0,u1,u2,u3,u4,-⟩:=z.ca;have av:¬(w:Nat)+1=(L:Nat):=SL N.lt o.size
   have ax:¬(L:Nat)=w+1:=Zm
   clear z n;rcases V with⟨q,rfl⟩|⟨q,b,rfl,-⟩
   all_goals
    have D:=Zy q;clear q;go_wp2_with fail;refine kk h a o ?_;clear a f;refine EF ?_;intro f a;go_wp2_with fail;refine kk h a (o.alloc _) ?_;clear a f;refine jX rfl fun f a=>?_;go_wp2_with fail;rw[<-R.o];refine kk h a e ?_;clear a f;clear h r0 r1 r2 r3;have d:=N.kp e ae;obtain⟨z4,x0,x1,x2,x3,x4,-⟩:=d.ca;obtain⟨f0,f1,f2,f3,f4,-⟩:=d.fz;have Q:=Zy d;clear d;refine kJ ?_;go_wp2_with fail
   . refine Px (jA vY rfl (w+1) rfl [r,u,v,x,y] (hH.mO (Q.wL _ _ _ _ _)) rfl) rfl ?_;have I:=FW (b:=w.heap.size+1) E e F Zm Zm r u v x y;exact⟨I.1,I.2,.inr ⟨D,rfl⟩⟩
   . refine(mG K at_ ((C.blk.kp e W).c 10 _ rfl) aa.1 Zm).mono ?_;rintro g w9 ⟨rfl,rfl⟩;exact⟨rfl,E.any.trans e,F,.inl ⟨D,rfl⟩⟩
 . go_wp2_with fail;refine kk h a ((jg).alloc _) ?_;clear a f;refine jX rfl fun f a=>?_;go_wp2_with fail;have b5:h9 (c.alloc (.cells #[SS, "",SS,SS, ""] 173)).drew c 173 #[SS, "",SS,SS, ""]:=(h9.new _ _ _).ext jg;have aD:=C.kK.Fj;have az:¬c.heap.size=l.D:=Zm
   refine(zA _ _ _ (C.kK.ext (jh _).drew) k i.name i.member).mono ?_;rintro g L ⟨⟨ev,H,V⟩,G,A⟩;rw[Z.o]at H;subst H;have o:=Zy ((((Kp.refl _ c).alloc _).drew).trans A);have P:=b5.kp A az;have aH:=E.size;have av:¬w.heap.size+1=(c:Nat):=SK N.lt
   have ax:¬c.heap.size=w+1:=Zm
   obtain⟨z5,y0,y1,y2,y3,y4,-⟩:=P.ca;obtain⟨g0,g1,g2,g3,g4,-⟩:=P.fz;obtain⟨B,n,z,U⟩:=SG P r u v x y;have⟨e,F,aA,R⟩:=kQ (o.own U (fun k g=>Zm)) (G.kp U (fun b hb g=>Zm)) z n;obtain⟨-,u0,u1,u2,u3,u4,-⟩:=z.ca;clear b5 P G A U z n;rcases V with⟨q,rfl⟩|⟨q,b,rfl,-⟩
   all_goals
    have D:=Zy q;clear q;go_wp2_with fail;refine kk h a o ?_;clear a f;refine EF ?_;intro f a;go_wp2_with fail;rw[<-R.o];refine kk h a e ?_;clear a f;clear h r0 r1 r2 r3 y0 y1 y2 y3 y4 g0 g1 g2 g3 g4;have d:=N.kp e ae;obtain⟨z4,x0,x1,x2,x3,x4,-⟩:=d.ca;obtain⟨f0,f1,f2,f3,f4,-⟩:=d.fz;have Q:=Zy d;clear d;refine kJ ?_;go_wp2_with fail
   . refine Px (jA vY rfl (w+1) rfl [r,u,v,x,y] (hH.mO (Q.wL _ _ _ _ _)) rfl) rfl ?_;have I:=FW (b:=w.heap.size+1) E e F Zm Zm r u v x y;exact⟨I.1,I.2,.inr ⟨D,rfl⟩⟩
   . refine(mG K at_ ((C.blk.kp e W).c 10 _ rfl) aa.1 Zm).mono ?_;rintro g w9 ⟨rfl,rfl⟩;exact⟨rfl,E.any.trans e,F,.inl ⟨D,rfl⟩⟩
theorem O0{t:uN}(y:jo w l p N n k m t at_ s f vs)(i:Ins)(S:i.op=7):Calls prog 185 #[some n,.agg #[i.op,i.a,i.name,i.member]] w (jF w l p N n k m t at_ f vs (jG p k m i s)):=by
 have b:Zz (jG p k m i s=if(M.get p k i.name i.member).2=1 then(mr p k (kZ i.name) s).bind (mZ m (lN (M.get p k i.name i.member).1.kind))else none):=Zy (by unfold jG;rw[S];rfl);obtain⟨K,T,E,Q⟩:=nu w #[i.op,i.a,i.name,i.member] 134;have⟨W,a⟩:=jc T (y.ext E);have c:Zz (Kp (qN l n f vs) K K):=Zy Kp.rr;have⟨o,P,O⟩:=jr (jU.refl K f vs) E Q;have af:=y.blk.lt;have Z:=jo.pM y;clear S y E Q T;go_enter func185,ntmps185;go_wp2_with fail;rw[<-W.o];obtain⟨G,A⟩:∃G,M.get p k i.name i.member=G:=⟨_,rfl⟩;have J:=D7 a i;rw[A]at J;replace b:Zz (jG p k m i s=if G.2=1 then((mr p k (kZ i.name) s).bind (mZ m (lN G.1.kind)))else none):=Zy (by rw[b.o,A]);have ah:=a.kK.ord;have ae:=a.hB;have ag:=a.hk;refine J.mono ?_;rintro d L ⟨r,F,⟨B,rfl⟩|⟨B,I⟩⟩
 . exact⟨rfl,jF.behind P ⟨r.weak (fun Y _ d=>.inl d),F,.inl ⟨by rw[b.o,SX B],rfl⟩⟩⟩
 replace b:Zz (jG p k m i s=((mr p k (kZ i.name) s).bind (mZ m (lN G.1.kind)))):=Zy (by rw[b.o,SV B]);replace I:d=.returned (.agg #[.int .i64 G.1.of.keeper,.string G.1.of.name,.int .i64 G.1.at_,.int .i64 G.1.kind.kind,.string G.1.kind.name]):=I;subst I;have D:=a.qj r F;obtain⟨x,U,z,R⟩:=nu L #[.int .i64 G.1.of.keeper,.string G.1.of.name,.int .i64 G.1.at_,.int .i64 G.1.kind.kind,.string G.1.kind.name] 173;have H:=O.kp r (fun d=>Z (.inl d));obtain⟨ai,-,-,y2,-⟩:=H.ca;have aa:¬qN l n f vs L.heap.size:=D.pM;have C:Zz (Kp (qN l n f vs) w x):=Zy ((P.any.trans (r.weak (fun Y _ d=>.inl d))).trans z.any);have V:=Zy R;replace O:=Zy (H.ext z);replace a:=Zy (D.ext z);replace c:Zz (Kp (qN l n f vs) x x):=Zy Kp.rr;replace o:=Zy (jU.refl x f vs);have⟨X,HG⟩:=jc U A;clear J r F B U z R H D A;go_wp2_with fail;rw[<-X.o];clear y2;refine(zk _ i.name).mono ?_;rintro d L ⟨rfl,g⟩;replace a:=Zy (a.ext g);replace c:=Zy (c.trans g.any);clear g;go_wp2_with fail;refine(nS _ a (kZ i.name)).mono ?_;rintro d x h;replace h:=jF.after c o h;rcases h with⟨j,u,⟨e,rfl⟩|⟨s2,e,rfl,aj,au,q,v⟩⟩
 . exact⟨rfl,jF.after C (jU.refl _ _ _) ⟨j,u,.inl ⟨by rw[b.o,e];try rfl,rfl⟩⟩⟩
 replace b:Zz (jG p k m i s=mZ m (lN G.1.kind) s2):=Zy (by rw[b.o,e];try rfl);replace a:=Zy q;replace c:=Zy j;replace o:=Zy v;clear q j v u e;obtain⟨-,-,-,-,y3,y4,-⟩:=(V.kp c aa).ca;go_wp2_with fail;refine(BV _ G.1.kind).mono ?_;rintro d w3 ⟨rfl,g⟩;replace a:=Zy (a.ext g);replace c:=Zy (c.trans g.any);clear g;go_wp2_with fail;refine(rR _ a (lN G.1.kind)).mono ?_;rintro d w4 h;replace h:=jF.after c o h;rcases h with⟨j,u,⟨e,rfl⟩|⟨s4,e,rfl,ak,av,q,v⟩⟩
 . exact⟨rfl,jF.after C (jU.refl _ _ _) ⟨j,u,.inl ⟨by rw[b.o,e];try rfl,rfl⟩⟩⟩
 replace b:Zz (jG p k m i s=some s4):=Zy (by rw[b.o,e];try rfl);replace a:=Zy q;replace c:=Zy j;replace o:=Zy v;clear q j v u e;go_wp2_with fail;refine SQ ?_;exact jF.after C (jU.refl _ _ _) ⟨c,a.kK,.inr ⟨_,b,rfl,_,_,a,o⟩⟩
theorem O8{O: Nat}{t:uN}(y:jo w l p O n k m t at_ s f vs)(i:Ins)(T:i.op=8):Calls prog 186 #[some n,.agg #[i.op,i.a,i.name,i.member]] w (jF w l p O n k m t at_ f vs (jG p k m i s)):=by
 have b:Zz (jG p k m i s=if(M.get p k i.name i.member).2=1 then(mr p k (lN (M.get p k i.name i.member).1.kind) s).bind (mr p k (kZ i.name))else none):=Zy (by unfold jG;rw[T];rfl);obtain⟨L,U,F,Q⟩:=nu w #[i.op,i.a,i.name,i.member] 134;have⟨X,a⟩:=jc U (y.ext F);have c:Zz (Kp (qN l n f vs) L L):=Zy Kp.rr;have⟨o,P,C⟩:=jr (jU.refl L f vs) F Q;have af:=y.blk.lt;have S:=jo.pM y;clear T y F Q U;go_enter func186,ntmps186;go_wp2_with fail;rw[<-X.o];obtain⟨G,A⟩:∃G,M.get p k i.name i.member=G:=⟨_,rfl⟩;have K:=D7 a i;rw[A]at K;replace b:Zz (jG p k m i s=if G.2=1 then((mr p k (lN G.1.kind) s).bind (mr p k (kZ i.name)))else none):=Zy (by rw[b.o,A]);have ai:=a.kK.ord;have ae:=a.hB;have ag:=a.hk;refine K.mono ?_;rintro d N ⟨r,H,⟨B,rfl⟩|⟨B,J⟩⟩
 . exact⟨rfl,jF.behind P ⟨r.weak (fun Z _ d=>.inl d),H,.inl ⟨by rw[b.o,SX B],rfl⟩⟩⟩
 replace b:Zz (jG p k m i s=((mr p k (lN G.1.kind) s).bind (mr p k (kZ i.name)))):=Zy (by rw[b.o,SV B]);replace J:d=.returned (.agg #[.int .i64 G.1.of.keeper,.string G.1.of.name,.int .i64 G.1.at_,.int .i64 G.1.kind.kind,.string G.1.kind.name]):=J;subst J;have E:=a.qj r H;obtain⟨x,V,z,R⟩:=nu N #[.int .i64 G.1.of.keeper,.string G.1.of.name,.int .i64 G.1.at_,.int .i64 G.1.kind.kind,.string G.1.kind.name] 173;have I:=C.kp r (fun d=>S (.inl d));obtain⟨aj,-,-,W,-⟩:=I.ca;have ah:¬qN l n f vs N.heap.size:=E.pM;have D:Zz (Kp (qN l n f vs) w x):=Zy ((P.any.trans (r.weak (fun Z _ d=>.inl d))).trans z.any);have aa:=Zy R;replace C:=Zy (I.ext z);replace a:=Zy (E.ext z);replace c:Zz (Kp (qN l n f vs) x x):=Zy Kp.rr;replace o:=Zy (jU.refl x f vs);have⟨Y,HG⟩:=jc V A;clear K r H B V z R I E A;go_wp2_with fail;rw[<-Y.o];clear W;refine(BV _ G.1.kind).mono ?_;rintro d N ⟨rfl,g⟩;replace a:=Zy (a.ext g);replace c:=Zy (c.trans g.any);clear g;go_wp2_with fail;refine(nS _ a (lN G.1.kind)).mono ?_;rintro d x h;replace h:=jF.after c o h;rcases h with⟨j,u,⟨e,rfl⟩|⟨s2,e,rfl,ak,av,q,v⟩⟩
 . exact⟨rfl,jF.after D (jU.refl _ _ _) ⟨j,u,.inl ⟨by rw[b.o,e];try rfl,rfl⟩⟩⟩
 replace b:Zz (jG p k m i s=mr p k (kZ i.name) s2):=Zy (by rw[b.o,e];try rfl);replace a:=Zy q;replace c:=Zy j;replace o:=Zy v;clear q j v u e;have W:=(C.kp c S).c 2 i.name rfl;go_wp2_with fail;refine(zk _ i.name).mono ?_;rintro d w3 ⟨rfl,g⟩;replace a:=Zy (a.ext g);replace c:=Zy (c.trans g.any);clear g;go_wp2_with fail;refine(nS _ a (kZ i.name)).mono ?_;rintro d w4 h;replace h:=jF.after c o h;rcases h with⟨j,u,⟨e,rfl⟩|⟨s4,e,rfl,au,ax,q,v⟩⟩
 . exact⟨rfl,jF.after D (jU.refl _ _ _) ⟨j,u,.inl ⟨by rw[b.o,e];try rfl,rfl⟩⟩⟩
 replace b:Zz (jG p k m i s=some s4):=Zy (by rw[b.o,e];try rfl);replace a:=Zy q;replace c:=Zy j;replace o:=Zy v;clear q j v u e;go_wp2_with fail;refine SQ ?_;exact jF.after D (jU.refl _ _ _) ⟨c,a.kK,.inr ⟨_,b,rfl,_,_,a,o⟩⟩
attribute [local go_sem] Oper.semAt_some
theorem Gx{a:Option Addr}:Calls prog 221 #[.slice a n c] w fun b d=>b=.returned (.func (.func 238) #[] #[some w])/\w.alloc (.cells #[.slice a n c] 107)=d:=by
 go_enter func221,ntmps221;go_wp2;go_ret;exact⟨rfl,rfl⟩
def LJ(x:Int×Kind):Array Value:=#[.int .i64 x.1,.agg #[.int .i64 x.2.kind,.string x.2.name]]
theorem Dv(a:List Kind)(h:Nat)(v:Value)(I w:Nat->Prop)(hBd:∀b,w b->b≠h/\¬I b):QM prog 238 #[some h] LJ (fun _=>False) w (fun xs=>xs=backTo a a.length) (fun c=>∃u,backTo a a.length=c++u) (fun _=>True) (fun k=>h9 k h 107 #[v]/\SliceOf 2 oD k I v a) (fun c e=>∃u,backTo a a.length=c++e::u):=by
 intro lp N Jx Jp k ⟨p,s⟩ z A U V o T;obtain⟨l,i,rfl,hn,ai⟩:=s.form;refine callsIn_of_wp func238 rfl trivial ?_ rfl;simp only[ntmps238,UQ,Tc,U6,Nat.reduceAdd,Nat.reduceSub,U9,Uz,Uf,Uq,Ti,Td];have c0:=p.c 0 (.slice l a.length i) rfl;have G:IntKind.i64.wrap ((a.length:Int) - 1)=(a.length:Int) - 1:=Tg _ Zm;gi_wp2;clear G;gi_loopg [3] a.length (fun j J wr=>∃c:List (Int×Kind),((j=0/\J=.int .i64 (-1))\/∃b:Nat,j=b+1/\J=.int .i64 b)/\j<=a.length/\Zz (backTo a a.length=c++backTo a j)/\Zz (N c wr/\h9 wr h 107 #[.slice l a.length i]/\SliceOf 2 oD wr I (.slice l a.length i) a))
 case atStart=>
  refine⟨[],?_,Tz _,Zy Zl,Zy ⟨T,p,s⟩⟩;rcases VG a.length with m|m
  . left;exact⟨m,by rw[m];rfl⟩
  . right;exact⟨a.length - 1,Zm,by congr 1;omega⟩
 case round =>
  obtain⟨c,hm,ak,x,y⟩:=hrel;rcases hm with⟨rfl,rfl⟩|⟨b,rfl,rfl⟩
  . have L:Zz (backTo a a.length=c):=Zy (by rw[x.o];simp[backTo]);gi_wp2;refine SQ ?_;exact .inl ⟨⟨_,rfl⟩,.inl ⟨c,L.symm,y.1⟩⟩
  . obtain⟨e,t⟩:=get_some (show b<a.length by omega);obtain⟨D,d,r⟩:=y.o;obtain⟨O,aa,cs,rfl,hI,rfl,-,C⟩:=r.get t;obtain⟨Q,R⟩:=C.two;have P:=d.c 0 (.slice (some ⟨O,aa,none⟩) a.length i) rfl;have Z:(0:Int)<=(b:Int):=Zm
    have aj:(b:Int)<a.length:=Zm
    have W:=SY Z;have f:Zz (backTo a a.length=(c++[((b:Int),e)])++backTo a b):=Zy (by rw[x.o,yE t,Te];rfl);obtain⟨fn,av,af,ag,H,n⟩:=o c ((b:Int),e) wr ⟨backTo a b,by rw[f.o,Te];rfl⟩ D;simp only[LJ]at H n;have⟨HY,ae,g⟩:=jr o (Tt z A) (Tt hBd (Tt d r));have G:IntKind.i64.wrap ((b:Int) - 1)=(b:Int) - 1:=Tg _ Zm;clear o z A U V hBd d r s t C D p;gi_wp2_with fail;refine n.mono ?_;rintro ah W1 ⟨q,(⟨rfl,E⟩|⟨rfl,Y⟩|⟨ch,rfl,X⟩)⟩
    . have B:=g.2.1.kp q (fun d=>(g.1 _ d).1 rfl);have F:=g.2.2.keep oD.stays (Kp.same q fun au hq d=>(g.1 _ d).2 hq) (fun _ S=>S);have K:=Zy (Tt E (Tt B F));clear E B F q Q R P H n W;gi_wp2_with fail;gi_roundg b
      case measure=>omega
      case rel=>
       refine⟨c++[((b:Int),e)],?_,Zm,f,K⟩;cases b with
       |zero=>left;exact⟨rfl,rfl⟩
       |succ b=>right;exact⟨b,rfl,by congr 1;omega⟩
    . gi_wp2_with fail;refine SQ ?_;exact .inl ⟨⟨_,rfl⟩,.inr ⟨_,⟨_,f⟩,Y⟩⟩
    . exact⟨rfl,.inr ⟨_,_,rfl,⟨_,f⟩,X⟩⟩
end Go.Proofs.YtenhnldnpdlniaaGreat
namespace Go.Proofs.YtenhnldnpdlniaaGreat
open Go Go.RowKit Tryz M
variable {at_ k: Int}{m: M.Method}{c e: Nat}{a d vs: Value}{w: World}{p: hZ}{l: iZ}{s: nV}{t: uN}
attribute [local go_sem] Oper.semAt_some
theorem pK{I:Nat->Prop}{cs:List Value}(h:jb w I m cs):∃i:uN,cs=nK m i:=by
 obtain⟨a,d,b,e,c,f,g⟩:=h.form;exact⟨⟨a,d,b,e,c,f⟩,g⟩
theorem jo.old(b:jo w l p e c k m t at_ s d vs){q:Nat}(f:qN l c d vs q):q<w:=by
 have g:=b.blk.lt;have h:=b.kK.Fj;rcases f with a|a|a|a
 . omega
 . omega
 . exact(b.loc.lt q a).2
 . exact(b.ky.lt q a).2
theorem jo.low(b:jo w l p e c k m t at_ s d vs){q:Nat}(i:q<l.O):¬qN l c d vs q:=by
 have f:=b.hB;have g:=b.kK.ord;have h:=b.hk;rintro(a|a|a|a)
 . omega
 . omega
 . have:=(b.loc.lt q a).1;omega
 . have:=(b.ky.lt q a).1;omega
theorem Ha{x:Kind}:∀(a:List Kind) (s:nV),nN p k (a++[x]) s=(nN p k a s).bind (mr p k (lN x)):=by
 intro a;induction a with
 |nil=>intro s;simp[nN]
 |cons d e b=>
  intro s;simp only[Td,nN];cases mr p k (lN d) s with
  |none=>rfl
  |some c=>exact b c
theorem G9{r:List Kind}:∀{b:List Kind} {s:nV},nN p k b s=none->nN p k (b++r) s=none:=by
 intro b;induction b with
 |nil=>intro s a;simp[nN]at a
 |cons e g d=>
  intro s a;simp only[Td,nN]at a |-;cases c:mr p k (lN e) s with
  |none=>rfl
  |some f=>rw[c]at a;exact d a
def NM(l:iZ)(p:hZ)(B kb:Nat)(k:Int)(m:M.Method)(t:uN)(at_:Int)(s:nV)(vl vs:Value)(w8:World)(pre:List (Int×Kind))(W:World):Prop:=
 ∃s' vl' vs',nN p k (pre.map Prod.snd) s=some s'/\jo W l p B kb k m t at_ s' vl' vs'/\jU (w8.heap.size+3) vl vs vl' vs'/\Kp (qN l kb vl vs) w8 W
def RQ(l:iZ)(p:hZ)(kb:Nat)(k:Int)(at_:Int)(s:nV)(vl vs:Value)(w8:World)(ch:List PanicEntry)(pre:List (Int×Kind))(W:World):Prop:=
 ch=Aj (at_+1)/\nN p k (pre.map Prod.snd) s=none/\ja W l p/\Kp (qN l kb vl vs) w8 W
def Ci(ev:Value)(c:Int):Prop:=(c=1/\ev=Value.nilIface)\/(c≠1/\∃b,ev=.iface 166 (.pointer (some ⟨b,0,none⟩)))
theorem Dn.weak{c:Int}(d:Dn w a c):Ci a c:=d.imp id fun⟨e,b,h2,_⟩=>⟨e,b,h2⟩
theorem MP{aa b:Nat}{x: Value}(c:jo w l p aa b k m t at_ s x vs)(i:Ins)(dn:i.op=9):Calls prog 187 #[some b,.agg #[i.op,i.a,i.name,i.member]] w (jF w l p aa b k m t at_ x vs (jG p k m i s)):=by
 obtain⟨G,hG⟩:∃G,call p k i.name i.member=G:=⟨_,rfl⟩;have P:Zz (jG p k m i s=if G.2=1 then(nN p k (M.method p G.1).args.reverse s).bind fun s1=>(mr p k (kZ i.name) s1).bind (mZ m (lN (M.method p G.1).ret))else none):=Zy (by unfold jG;rw[dn,hG];rfl);obtain⟨O,aP⟩:=SH ((w.alloc (.cells #[some b] 233)).alloc (.cells #[i.op,i.a,i.name,i.member] 134));have bF:Ext w O:=by rw[aP];exact kx
 have b2:h9 O w 233 #[some b]:=by rw[aP];exact(h9.new _ _ _).ext kx
 have b3:h9 O (w+1) 134 #[i.op,i.a,i.name,i.member]:=by rw[aP];exact h9.newAt _ _ Zl
 have hA:=c.ext bF;have hD:=c.kK.Fj;have fB:=c.kK.ord;have hB:=c.hB;have L:=c.hk;have hz:=c.blk.lt;have eB:=c.Ky;have aZ:¬b=l.D:=Zm
 have aN:¬w=l.D:=Zm
 have cZ:¬w+1=l.D:=Zm
 obtain⟨aS,aT,bf,o⟩:=uD.ex (fun A=>Kp (·=l.D) O A) _ Kp.rr;obtain⟨-,r0,r1,-⟩:=h9.qW fun r=>(hA.blk.kp (o.jv r) aZ);obtain⟨-,-,-,r2,r3,-⟩:=h9.qW fun r=>(b3.kp (o.jv r) cZ);have r4:=fun r=>(b2.kp (o.jv r) aN).c 0 (some b) rfl;have⟨h,dW,aF,HA,aQ,bu,HG⟩:=uA o aP bF hA b2 b3 hG;have hv:(Af G.1).toArray=#[.int .i64 G.1.of.keeper,.string G.1.of.name,.int .i64 G.1.at_]:=rfl;have⟨HV,ai⟩:=jc hv c;have dU:=Zy c.pM;clear c dn aP bF b2 b3 hA o hG hv;refine(U5 (n:=10)).1 ?_;refine yn func187 rfl ?_;simp only[ntmps187,UQ,Tc,U6,Nat.reduceAdd,Nat.reduceSub,U9,Uz,Uf,Uq,Ti,Td];refine xS fun J n=>?_;go_wp2_with fail;rw[<-dW.o];refine xS fun J n=>?_
 have dB : ∀ (b7 : Nat) (q : World) (ev : Value), Kp (· = l.D) O q -> ja q l p -> h9 q b7 66 #[.int .i64 G.1.of.keeper, .string G.1.of.name, .int .i64 G.1.at_] -> O.heap.size <= b7 -> Ci ev G.2 →
     J {tmps:=#[.pointer (some ⟨b,0,none⟩),.agg #[i.op,i.a,i.name,i.member],.pointer (some ⟨w,0,none⟩),.pointer (some ⟨w+1,0,none⟩),
      .pointer (some ⟨b7,0,none⟩),ev,undef,undef,undef,.tuple #[.agg #[.int .i64 G.1.of.keeper,.string G.1.of.name,.int .i64 G.1.at_],ev],.pointer (some ⟨b,0,none⟩),.pointer (some ⟨b,0,none⟩),.pointer (some ⟨b,0,none⟩),.pointer (some ⟨l.L,0,none⟩),
      .pointer (some ⟨b,0,none⟩),.pointer (some ⟨b,0,none⟩),.pointer (some ⟨b,1,none⟩),.int .i64 k,.pointer (some ⟨w+1,2,none⟩),.string i.name,.pointer (some ⟨w+1,3,none⟩),.string i.member,
      .tuple #[.agg #[.int .i64 G.1.of.keeper,.string G.1.of.name,.int .i64 G.1.at_],ev],.agg #[.int .i64 G.1.of.keeper,.string G.1.of.name,.int .i64 G.1.at_],ev,undef,undef,undef,undef,undef,undef,undef,undef,undef,undef,undef,undef,undef,undef,undef,undef,undef,undef,undef,undef,undef,undef,undef,undef,undef,undef,undef,undef,undef],defers:=[]} q:=by
  clear h r0 r1 r2 r3 r4;intro b7 q ev au bY bU fe av;have⟨z,af,dK⟩:=jr au bY bU;have s2:=(aQ.kp au aN).c 0 (some b) rfl;clear au bY bU;refine n _ _ ?_;clear n J;refine xS fun J n=>?_;rcases av with⟨hc,rfl⟩|⟨hc,u,rfl⟩;rotate_left
  . replace P:Zz (jG p k m i s=none):=Zy (by rw[P.o,SX hc]);go_wp2_with fail;refine(mG b at_ ((HA.blk.kp z aZ).c 10 _ rfl) eB.1 Zm).mono ?_;rintro a w9 ⟨rfl,rfl⟩;exact⟨rfl,jF.behind aF ⟨z.weak (fun u _ a=>.inl a),af,.inl ⟨P,rfl⟩⟩⟩
  replace P:Zz (jG p k m i s=(nN p k (M.method p G.1).args.reverse s).bind fun s1=>(mr p k (kZ i.name) s1).bind (mZ m (lN (M.method p G.1).ret))):=Zy (by rw[P.o,SV hc]);have cK:Zz (jM p G.1=true):=Zy (by
   have:=HG.o;rw[<-this]at hc |-;obtain⟨fI,hr⟩:=rM hc;exact qx hr)
  go_wp2_with fail;clear s2;obtain⟨aS,aT,bf,o⟩:=mJ q;have cB:=HA.blk.kp z aZ;have cz:=aQ.kp z aN;have r0:=fun r=>(cB.ext (o.jv r)).c 0 (some l.L) rfl;have r4:=fun r=>(cz.ext (o.jv r)).c 0 (some b) rfl;obtain⟨-,r5,r6,r7,-⟩:=h9.qW fun r=>(dK.ext (o.jv r));have h:=Zy o;clear o cB cz;refine xS fun J n=>?_;have dC:∀(b8:Nat) (d:World) (j:uN),Ext q d->h9 d b8 113 (nK (M.method p G.1) j).toArray->q<=b8->jb d (· <l.O) (M.method p G.1) (nK (M.method p G.1) j)→
   J {tmps:=#[.pointer (some ⟨b,0,none⟩),.agg #[i.op,i.a,i.name,i.member],.pointer (some ⟨w,0,none⟩),.pointer (some ⟨w+1,0,none⟩),
    .pointer (some ⟨b7,0,none⟩),.nilIface,.pointer (some ⟨b8,0,none⟩),undef,undef,.tuple #[.agg #[.int .i64 G.1.of.keeper,.string G.1.of.name,.int .i64 G.1.at_],.nilIface],.pointer (some ⟨b,0,none⟩),.pointer (some ⟨b,0,none⟩),.pointer (some ⟨b,0,none⟩),.pointer (some ⟨l.L,0,none⟩),
    .pointer (some ⟨b,0,none⟩),.pointer (some ⟨b,0,none⟩),.pointer (some ⟨b,1,none⟩),.int .i64 k,.pointer (some ⟨w+1,2,none⟩),.string i.name,.pointer (some ⟨w+1,3,none⟩),.string i.member,
    .tuple #[.agg #[.int .i64 G.1.of.keeper,.string G.1.of.name,.int .i64 G.1.at_],.nilIface],.agg #[.int .i64 G.1.of.keeper,.string G.1.of.name,.int .i64 G.1.at_],.nilIface,.nilIface,.bool false,undef,undef,.pointer (some ⟨b,0,none⟩),.pointer (some ⟨b,0,none⟩),.pointer (some ⟨b,0,none⟩),.pointer (some ⟨l.L,0,none⟩),.agg #[.int .i64 G.1.of.keeper,.string G.1.of.name,.int .i64 G.1.at_],.agg (nK (M.method p G.1) j).toArray,undef,undef,undef,undef,undef,undef,undef,undef,undef,undef,undef,undef,undef,undef,undef,undef,undef,undef,undef],defers:=[]} d:=by
   clear h r0 r4 r5 r6 r7;intro b8 d j V bV fo Q;have⟨y,bz,aG⟩:=jr V bV Q;clear V bV Q;refine n _ _ ?_;clear n J;have fq:=bz.c 1 (.slice j.a1 (M.method p G.1).args.length j.c1) rfl;refine JY ?_;refine FM (n:=10) fun J n=>wpIn_wide.2 ?_;go_wp2_with fail;refine(Gx).mono ?_;rintro a w9 ⟨rfl,rfl⟩;go_wp2_with fail;refine Lr ?_;have fw:=(HA.blk.kp z aZ |>.ext y).lt;have bS:=(HA.qj z af).ext y;have H:=Zy bS;have dx:=jb.args aG;have dV:=Zy dx;clear bS dx;have HN:=Zy dU.o;refine Nj (gf:=238) (lb:=#[some d]) (α:=Int×Kind) rfl (enters_of func238 Zo rfl) (encs:=LJ) (fun C=>rfl)
    (Bb:=fun k=>qN l b x vs k\/d+3<=k)
    (Dv (M.method p G.1).args d (.slice j.a1 (M.method p G.1).args.length j.c1) (· <l.O) _ ?hBd) ?hIt ?hD1 ?hD2 ?hB1 ?hB2
    (NM l p aa b k m t at_ s x vs d) (fun _ _ _=>False) (RQ l p b k at_ s x vs d) ⟨_,func187⟩ ?hIp ?hI ?hIx ?h0 ?hIB
    (fun ah C v a₁ W₁=>NM l p aa b k m t at_ s x vs d ah v/\(d:Nat)+2<(v:Nat)/\W₁=v.alloc (.cells #[C.2.kind,C.2.name] 109)/\
     a₁={tmps:=#[.pointer (some ⟨b,0,none⟩),.agg #[i.op,i.a,i.name,i.member],.pointer (some ⟨w,0,none⟩),.pointer (some ⟨w+1,0,none⟩),
    .pointer (some ⟨b7,0,none⟩),.nilIface,.pointer (some ⟨b8,0,none⟩),undef,.pointer (some ⟨v,0,none⟩),.tuple #[.agg #[.int .i64 G.1.of.keeper,.string G.1.of.name,.int .i64 G.1.at_],.nilIface],.pointer (some ⟨b,0,none⟩),.pointer (some ⟨b,0,none⟩),.pointer (some ⟨b,0,none⟩),.pointer (some ⟨l.L,0,none⟩),
    .pointer (some ⟨b,0,none⟩),.pointer (some ⟨b,0,none⟩),.pointer (some ⟨b,1,none⟩),.int .i64 k,.pointer (some ⟨w+1,2,none⟩),.string i.name,.pointer (some ⟨w+1,3,none⟩),.string i.member,
    .tuple #[.agg #[.int .i64 G.1.of.keeper,.string G.1.of.name,.int .i64 G.1.at_],.nilIface],.agg #[.int .i64 G.1.of.keeper,.string G.1.of.name,.int .i64 G.1.at_],.nilIface,.nilIface,.bool false,undef,undef,.pointer (some ⟨b,0,none⟩),.pointer (some ⟨b,0,none⟩),.pointer (some ⟨b,0,none⟩),.pointer (some ⟨l.L,0,none⟩),.agg #[.int .i64 G.1.of.keeper,.string G.1.of.name,.int .i64 G.1.at_],.agg (nK (M.method p G.1) j).toArray,
    .pointer (some ⟨b8,1,none⟩),.slice j.a1 (M.method p G.1).args.length j.c1,.func (.func 238) #[] #[some d],.int .i64 C.1,.agg #[C.2.kind,C.2.name],undef,undef,undef,undef,undef,undef,undef,undef,undef,undef,undef,undef,undef,undef],defers:=[]}) ?hassign ?hAx ?hbody ?hdone ?hstop ?hpanic
   case hBd=>
    intro B hq;have dw:(qN l b x vs B\/d.heap.size+3<=B)\/B=(d.alloc (.cells #[.slice j.a1 (M.method p G.1).args.length j.c1] 107)).heap.size+1:=hq;simp only[Tw]at dw;have I:=H.pM;rcases dw with(c|c)|c
    . exact⟨fun a=>I (a▸c),fun a=>jo.low H a c⟩
    . omega
    . omega
   case hIt=>
    intro v hW;exact⟨(h9.new _ _ _).ext hW,(dV.ext oD.stays ((Kp.refl _ d).alloc _)).ext oD.stays hW⟩
   case hD1=>exact fun c=>c
   case hD2=>exact fun c=>c
   case hB1=>
    simp only[Tw];rintro(c|c)
    . have:=jo.old H c;omega
    . omega
   case hB2=>
    simp only[Tw];rintro(c|c)
    . have:=jo.old H c;omega
    . omega
   case hIp=>
    rintro bP s1 dD B' ⟨I,D,N,K⟩ L;simp only[Tw]at L;have bT:=H.kK.lt;exact⟨I,D,N.kp L (fun u X a=>by rcases a with a|a;exact a;omega),K.own L (fun u a=>by rcases a with a|a;exact a.elim;omega)⟩
   case hI=>
    rintro s1 dD B' ⟨s',R,S,I,D,N,K⟩ L;simp only[Tw]at L;have bT:=H.kK.lt;have dZ:=H.kK.ord;have Z:∀f,(R.ownBlock=some f\/S.ownBlock=some f)->¬(False\/f=d.heap.size+1+1):=fun f E a=>by
     rcases a with a|a
     . exact a
     . rcases N f E with c|c|c
       . have:=(H.loc.lt f c).2;omega
       . have:=(H.ky.lt f c).2;omega
       . omega
    exact⟨s',R,S,I,D.kp' L (D.kK.kp L (fun u X a=>by rcases a with a|a;exact a;omega)) (fun a=>by rcases a with a|a;exact a;omega) (fun f E=>Z f (.inl E)) (fun f E=>Z f (.inr E)) (fun u X a=>by rcases a with a|a;exact a;omega),N,K.own L (fun u a=>by rcases a with a|a;exact a.elim;omega)⟩
   case hIx=>exact fun _ _ _ _ c=>c.elim
   case h0=>exact⟨s,x,vs,rfl,H.ext kx,jU.refl _ _ _,(kx:Ext d _).any⟩
   case hIB=>exact fun _ _ _=>trivial
   case hassign=>
    intro ah C v J fA hi cO n;simp only[LJ];simp only[Tw]at cO;gi_wp2_with fail
   case hAx=>
    rintro ah C v a₁ W₁ ⟨_,_,rfl,_⟩;exact((Kp.refl _ v).alloc _)
   case hbody=>
    rintro ah C v a₁ W₁ W₂ ⟨⟨s',R,S,I,D,N,K⟩,cO,rfl,rfl⟩ ay aO;simp only[Tw]at ay aO;have bT:=H.kK.lt;have dZ:=H.kK.ord;have eT:(w:Nat)+1<(d:Nat):=by
     have:=bu.lt;have:=z.size;have:=y.size;omega
    have Z:∀f,(R.ownBlock=some f\/S.ownBlock=some f)->f≠d.heap.size+1+1/\(f<w.heap.size\/d.heap.size+3<=f)/\(qN l b x vs f\/d.heap.size+3<=f):=fun f E=>by
     rcases N f E with c|c|c
     . have:=(ai.loc.lt f c).2;exact⟨Zm,.inl this,.inl (.inr (.inr (.inl c)))⟩
     . have:=(ai.ky.lt f c).2;exact⟨Zm,.inl this,.inl (.inr (.inr (.inr c)))⟩
     . exact⟨Zm,.inr c,.inr c⟩
    have aW:Ext v (v.alloc (.cells #[C.2.kind,C.2.name] 109)):=kx;have bE:=D.ext aW;have bR:=bE.kp' ay (bE.kK.kp ay (fun u X a=>Zm)) Zm (fun f E=>(Z f (.inl E)).1) (fun f E=>(Z f (.inr E)).1) (fun u X a=>Zm);have cb:=(h9.new v 109 #[C.2.kind,C.2.name]).kp ay Zm;have df:¬qN l b R S v.heap.size:=D.pM;have di:¬qN l b R S w.heap.size:=by
     rintro(a|a|a|a)
     . omega
     . omega
     . have:=(Z _ (.inl a)).2.1;omega
     . have:=(Z _ (.inr a)).2.1;omega
    have cu:=((((aQ.kp z aN).ext y).kp K HN).ext aW).kp ay Zm;have bX:=(K.trans aW.any).own ay (fun k a=>Zm);obtain⟨aS,aT,bf,o⟩:=uD.ex (fun A=>Kp (qN l b R S) W₂ A) _ Kp.rr;have r2:=fun r=>(cu.kp (o.jv r) di).c 0 (some b) rfl;obtain⟨-,r7,r8,-⟩:=h9.qW fun r=>(cb.kp (o.jv r) df);have⟨h,dG,dQ,bL,H3⟩:=qR o bR bX Z N;have HS:Zz (nN p k ((ah++[C]).map Prod.snd) s=mr p k (lN C.2) s'):=Zy (by rw[U0,TH,Vm,Ha,I];rfl);have eU:(d:Nat)+3<=(W₂:Nat):=Zm
    clear I D N K ay aO bE bR cb cu bX o aW Z df di;gi_wp2_with fail;refine Pz h 4 [([0,1],2),([],3)] [] ?_ (fun _=>trivial) ?_
    . exact jg
    refine OE [_,_] rfl rfl fun J n=>?_;(repeat (go_big_quiet_step (fail)));refine qn n fun g e=>?_;clear n J;gi_wp2_with fail;refine⟨trivial,?_⟩;refine(CallsIn.inRound _ (U5.2 (BV W₂.drew C.2))).mono ?_;rintro a w4 ⟨rfl,aJ⟩;have aj:=Zy (((Kp.refl _ W₂).drew).trans aJ);clear aJ;gi_wp2_with fail;refine kk h e aj.any ?_;clear e g;refine Sc rfl fun g e=>?_;gi_wp2_with fail;refine⟨trivial,?_⟩;refine(CallsIn.inRound _ (U5.2 (nS w4 (dG.ext aj) (lN C.2)))).mono ?_;rintro a T ag;have aK:=jF.behind aj ag;have aV:Kp (fun k=>qN l b x vs k\/d+3<=k) W₂ T:=aK.1.weak (fun u _ a=>by
     rcases a with a|a|a|a
     . exact .inl (.inl a)
     . exact .inl (.inr (.inl a))
     . exact(bL u (.inl a)).2.2
     . exact(bL u (.inr a)).2.2)
    have bG:Kp (qN l b x vs) d T:=dQ.mix aV (fun k L a=>by rcases a with a|a;exact a;omega);rcases aK with⟨W,aY,⟨F,rfl⟩|⟨s2,F,rfl,bn,bq,aI,aM⟩⟩
    . exact⟨rfl,aV,rfl,by rw[HS.o,F],aY,bG⟩
    . have HF:Zz (Kp (fun k=>qN l b x vs k\/d+3<=k) W₂ T/\NM l p aa b k m t at_ s x vs d (ah++[C]) T):=Zy ⟨aV,s2,bn,bq,by rw[HS.o,F],aI,H3.trans aM eU,bG⟩;have bC:=Zy W;clear aV bG W aY aI aM F ag;gi_wp2_with fail;refine kk h e bC ?_;clear e g;refine OG ?_;gi_wp2_with fail;exact HF
   case hdone =>
    rintro xs v rfl ⟨s',R,S,I,D,N,K⟩ n;have dz:(backTo (M.method p G.1).args (M.method p G.1).args.length).map Prod.snd=(M.method p G.1).args.reverse:=by rw[ql _ _ (Tz _),TV]
    rw[dz]at I;have eP:=H.kK.ord;have eH:=H.kK.lt;have eT:(w:Nat)+1<(d:Nat):=by
     have:=bu.lt;have:=z.size;have:=y.size;omega
    have aO:(d.alloc (.cells #[.slice j.a1 (M.method p G.1).args.length j.c1] 107)).heap.size=d+1:=by simp
    rw[aO]at n |-;replace P:Zz (jG p k m i s=(mr p k (kZ i.name) s').bind (mZ m (lN (M.method p G.1).ret))):=Zy (by rw[P.o,I];rfl);have bK:=Zy (aF.any.trans (((z.weak (fun u _ a=>.inl a)).trans y.any).trans K));refine⟨by simp,by simp,?_⟩;show Code.yZ _ _ _ _ _ _
    refine PS (ds:=[{target:=.collected (d+1),args:=#[]}]) (R:=fun a A=>A.heap[d.heap.size+1]?=some (.deferred (some []))/\jF w l p aa b k m t at_ x vs (jG p k m i s) a (A.putObj (d+1) (.deferred none))) ?_ ?_ ?_;rotate_left
    . rintro ak A hd ⟨L,hR⟩;show LeavesInM _ _ _ _ _ _ ak.defers _ _
      rw[hd];refine⟨by simp,.inl ⟨_,_,rfl,run_takeDeferred L,?_⟩⟩;exact⟨.tuple #[],by simp[results,Tryz.f187,go_sem],hR⟩
    . rintro bP ak A hd ⟨L,hR⟩;show LeavesInM _ _ _ _ _ _ ak.defers _ _
      rw[hd];exact⟨by simp,.inl ⟨_,_,rfl,run_takeDeferred L,hR⟩⟩
    have bZ:(d:Nat)+2<=(v:Nat):=SK ((Tk.1 n).1)
    have aD:∀(v1 v2:Value),jU (d+2) x vs v1 v2->∀B,w.heap.size<=B->B<d.heap.size+2->¬qN l b v1 v2 B:=fun v1 v2 F B fD fE=>by
     rintro(a|a|a|a)
     . omega
     . omega
     . rcases F B (.inl a)with c|c|c
       . have:=(ai.loc.lt B c).2;omega
       . have:=(ai.ky.lt B c).2;omega
       . omega
     . rcases F B (.inr a)with c|c|c
       . have:=(ai.loc.lt B c).2;omega
       . have:=(ai.ky.lt B c).2;omega
       . omega
    have bQ:∀(v1 v2:Value) (bH:Option nV) (a:Ending) (A aA:World),jU (d+2) x vs v1 v2->Kp (qN l b x vs) w A->A.heap[d.heap.size+1]?=some (.deferred (some []))->jF A l p aa b k m t at_ v1 v2 bH a aA->(d:Nat)+2<=(A:Nat)→
        aA.heap[d.heap.size+1]?=some (.deferred (some []))/\jF w l p aa b k m t at_ x vs bH a (aA.putObj (d+1) (.deferred none)):=fun v1 v2 bH a A aA F eF hd hE fF=>by
     have az:=Kp.putObj aA (d+1) (.deferred none);have eG:Kp (qN l b x vs) w aA:=eF.look hE.1 (F.le Zm);refine⟨(hE.1.block _ Zm (aD v1 v2 F _ Zm Zm)).trans hd,eG.own az (fun k a=>Zm),hE.2.1.kp az (fun u X a=>Zm),?_⟩;rcases hE.2.2 with⟨I,D⟩|⟨s2,I,D,ak,u,h5,h6⟩
     . exact .inl ⟨I,D⟩
     . have dm:=F.trans h6 Zm;have dh:∀f,(ak.ownBlock=some f\/u.ownBlock=some f)->¬f=d.heap.size+1:=fun f E a=>aD ak u dm f Zm Zm (by
        rcases E with c|c
        . exact .inr (.inr (.inl c))
        . exact .inr (.inr (.inr c)))
       exact .inr ⟨s2,I,D,ak,u,h5.kp' az (h5.kK.kp az (fun u X a=>Zm)) Zm (fun f E=>dh f (.inl E)) (fun f E=>dh f (.inr E)) (fun u X a=>Zm),dm.le Zm⟩
    have aU:jU (d+2) x vs R S:=N.le Zm;have fu:w<=b8/\b8<d:=by
     have:=bz.lt;have:=z.size;have:=aF.size;omega
    have n0:∀B,w.heap.size<=B->¬qN l b x vs B:=fun B hq c=>SK (jo.old ai c)
    have⟨B2,B3,B8⟩:=jr (((aQ.kp z aN).ext y).kp K (n0 _ Zm)) (((bu.kp z cZ).ext y).kp K (n0 _ Zm)) (bz.kp K (n0 _ Zm));obtain⟨aS,aT,bf,o⟩:=uD.ex (fun A=>Kp (qN l b R S) v A) _ Kp.rr;have r2:=fun r=>(B2.kp (o.jv r) (aD _ _ aU _ Zm Zm)).c 0 (some b) rfl;have r3:=fun r=>(B3.kp (o.jv r) (aD _ _ aU _ Zm Zm)).c 2 i.name rfl;have⟨h,bJ,aR,dI⟩:=kQ o bQ aD D;have aH:=Zy aU;have dO:=Zy n;clear I D N K n bQ aD aU n0 o dz;go_wp2_with fail;refine kT h 5 [([0,1,2],3),([],4)] [] ?_ ?_
    . exact jg
    refine mP ?_;intro g e;go_wp2_with fail;refine(zk v.drew i.name).mono ?_;rintro a w4 ⟨rfl,aJ⟩;have aj:=Zy (((Kp.refl _ v).drew).trans aJ);clear aJ;go_wp2_with fail;refine kk h e aj.any ?_;clear e g;refine lK rfl fun g e=>?_;go_wp2_with fail;refine(nS w4 (dI.ext aj) (kZ i.name)).mono ?_;rintro a T ag;have aK:=jF.behind aj ag;have Y:=bJ.o R S _ a v T aH bK dO aK bZ;rcases aK with⟨W,aY,⟨F,rfl⟩|⟨s2,F,rfl,bn,bq,aI,aM⟩⟩
    . rw[F]at Y;exact⟨rfl,Y.1,by rw[P.o,F];exact Y.2⟩
    replace P:Zz (jG p k m i s=mZ m (lN (M.method p G.1).ret) s2):=Zy (by rw[P.o,F];rfl);have dP:=Zy Y.1;have⟨bD,bC,dH,dR⟩:=kQ (aH.trans aM bZ) W aI (bK.look W (aH.le Zm));have ek:(d:Nat)+2<=(T:Nat):=SK W.size
    have⟨dE,dF⟩:=jc (B2.kp W (aR _ _ aH _ Zm Zm)) (B8.kp W (aR _ _ aH _ Zm Zm));clear ag Y W aY F aI aM r3;go_wp2_with fail;refine kk h e bC ?_;clear e g;clear r2;refine Hk rfl ?_;clear h;obtain⟨aS,aT,bf,o⟩:=uD.ex (fun A=>Kp (qN l b bn bq) T A) _ Kp.rr;have r2:=fun r=>(dE.kp (o.jv r) (aR _ _ bD _ Zm Zm)).c 0 (some b) rfl;obtain⟨-,-,-,r4,r5,-⟩:=h9.qW fun r=>(dF.kp (o.jv r) (aR _ _ bD _ Zm Zm));have h:=Zy o;clear o;go_wp2_with fail;refine kT h 5 [([0,1,2],3),([],4)] [] ?_ ?_
    . exact jg
    refine mP ?_;intro g e;go_wp2_with fail;refine(BV T.drew (M.method p G.1).ret).mono ?_;rintro a w6 ⟨rfl,bW⟩;have bA:=Zy (((Kp.refl _ T).drew).trans bW);clear bW;go_wp2_with fail;refine kk h e bA.any ?_;clear e g;refine lK rfl fun g e=>?_;go_wp2_with fail;refine(rR w6 (dH.ext bA) (lN (M.method p G.1).ret)).mono ?_;rintro a w9 ag;have aX:=jF.behind bA ag;have aC:=aX.1;have Y:=bJ.o bn bq _ a T w9 bD dR dP aX ek;rw[<-P.o]at Y;have⟨bI,dN⟩:=jc Y aC;have eD:=aX.2.2;clear Y aX aC ag;rcases eD with⟨-,rfl⟩|⟨s9,-,rfl,-⟩
    . exact⟨rfl,bI⟩
    go_wp2_with fail;refine kk h e dN ?_;clear e g;clear r2 r4 r5;refine Hk rfl ?_;go_wp2_with fail;exact⟨rfl,bI⟩
   case hstop=>exact fun _ _ _ _ c=>c.elim
   case hpanic=>
    rintro bP ah v ⟨eY,eQ⟩ ⟨rfl,D,N,K⟩ n;refine⟨by simp,by simp,?_⟩;have eP:=H.kK.ord;have eH:=H.kK.lt;have az:=Kp.putObj v (d.alloc (.cells #[.slice j.a1 (M.method p G.1).args.length j.c1] 107)).heap.size (.deferred none);have aO:(d.alloc (.cells #[.slice j.a1 (M.method p G.1).args.length j.c1] 107)).heap.size=d+1:=by simp
    have eu:jG p k m i s=none:=by
     rw[P.o];have e1:(M.method p G.1).args.reverse=ah.map Prod.snd++eY.map Prod.snd:=by
      have:=congrArg (List.map Prod.snd) eQ;rw[ql _ _ (Tz _),TV,U0]at this;exact this
     rw[e1,G9 D];rfl
    have ed:=((z.weak (fun u _ a=>.inl a)).trans y.any).trans K;refine⟨by simp,.inl ⟨_,_,rfl,run_takeDeferred n,?_⟩⟩;exact jF.behind aF ⟨ed.own az (fun k a=>SL z.size y.size),N.kp az (fun k L a=>Zm),.inl ⟨eu,rfl⟩⟩
  refine ve h 7 (.two [0,1,2,3,4] 5 6 (.one [] 6 (.fin [])) (.one [] 5 (.fin []))) ?_ ?_
  . exact jg
  clear n;have bN:=Zy dC;clear dC;refine two [_,_,_,_,_] rfl rfl rfl fun J n=>?_;(repeat (go_big_quiet_step (fail)));((refine JE n (fun g e=>?_) fun g e=>?_)<;>clear n J)
  . go_wp2_with fail;refine(lV q.drew l p (af.ext jg) G.1 cK).mono ?_;rintro a d ⟨⟨cs,Q,rfl⟩,V⟩;obtain⟨j,rfl⟩:=pK Q;have⟨y,aG⟩:=jc ((jg).trans V) Q;clear Q V;simp only[nK];go_wp2_with fail;refine kk h e y ?_;clear e g;refine jX rfl fun g e=>?_;go_wp2_with fail;refine kk h e (y.alloc _) ?_;clear e g;refine kJ ?_;go_wp2_with fail;exact bN _ _ j (y.alloc _) (h9.new _ _ _) y.size (jK.ext jb.stays (kx:Ext d _) aG)
  . go_wp2_with fail;refine kk h e ((jg).alloc _) ?_;clear e g;refine jX rfl fun g e=>?_;go_wp2_with fail;have b5:h9 (q.alloc (.cells #["",(),SS, "",SS,SS,(),()] 113)).drew q 113 #["",(),SS, "",SS,SS,(),()]:=(h9.new _ _ _).ext jg;refine(lV ((q.alloc (.cells #["",(),SS, "",SS,SS,(),()] 113)).drew) l p (af.ext (jh _).drew) G.1 cK).mono ?_;rintro a d ⟨⟨cs,Q,rfl⟩,V⟩;obtain⟨j,rfl⟩:=pK Q;have y:=Zy ((((Kp.refl _ q).alloc _).drew).trans V);have U:=b5.ext V;obtain⟨z5,y0,y1,y2,y3,y4,y5,y6,y7,-⟩:=U.ca;obtain⟨g0,g1,g2,g3,g4,g5,g6,g7,-⟩:=U.fz;have eO:=Q;obtain⟨w9,bg⟩:=SH (((((((((d.setCell q (.string (M.method p G.1).name)).setCell (q,1) (.slice j.a1 (M.method p G.1).args.length j.c1)).setCell (q,2) (.int .i64 (M.method p G.1).ret.kind)).setCell (q,3) (.string (M.method p G.1).ret.name)).setCell (q,4) (.int .i64 (M.method p G.1).locals)).setCell (q,5) (.int .i64 (M.method p G.1).stack)).setCell (q,6) (.slice j.a2 (M.method p G.1).code.length j.c2)).setCell (q,7) (.slice j.a3 (M.method p G.1).maps.length j.c3)));have aC:Kp (·=q) d w9:=by rw[bg];exact Kp.Hy (D:=(·=q)) rfl _ _ _ _ _ _ _ _
    have b9:h9 w9 q 113 (nK (M.method p G.1) j).toArray:=by rw[bg];exact U.Hy _ _ _ _ _ _ _ _
    have fG:=af.lt;have fC:=af.ord;have⟨dM,aG,dL,dY⟩:=kQ (y.own aC (fun k a=>Zm)) (jK.kp jb.stays aC (fun u X a=>Zm) Q) b9 bg;clear b5 U Q eO V bg aC b9;simp only[nK];go_wp2_with fail;refine kk h e y ?_;clear e g;clear h r0 r4 r5 r6 r7;refine kJ ?_;go_wp2_with fail;rw[<-dY.o];exact bN _ _ j dM dL (Tz _) aG
 refine ve h 18 (.two [0,1,2,3,4,5,6,7,8,9,10,11] 12 16 (.one [13,14,15] 16 (.one [] 17 (.fin []))) (.one [] 12 (.one [13,14,15] 17 (.fin [])))) ?_ ?_
 . exact jg
 clear n;have bM:=Zy dB;clear dB;refine two [_,_,_,_,_,_,_,_,_,_,_,_] rfl rfl rfl fun J n=>?_;(repeat (go_big_quiet_step (fail)));((refine JE n (fun g e=>?_) fun g e=>?_)<;>clear n J)
 . go_wp2_with fail;have ax:=xq _ _ _ (HA.kK.ext jg) k i.name i.member;rw[HG.o]at ax;refine ax.mono ?_;rintro a w3 ⟨⟨ev,he,av⟩,aL,aB⟩;rw[HV.o]at he;subst he;have⟨ae,dS,bB⟩:=jr ((jg).trans aB) aL (Dn.weak av);clear aL aB ax av;go_wp2_with fail;refine kk h e ae ?_;clear e g;refine EF ?_;intro g e;go_wp2_with fail;refine kk h e (ae.alloc _) ?_;clear e g;refine jX rfl fun g e=>?_;go_wp2_with fail;refine kk h e (ae.alloc _) ?_;clear e g;refine kJ ?_;go_wp2_with fail;exact bM _ _ _ (ae.alloc _) (dS.ext kx) (h9.new _ _ _) ae.size bB
 . go_wp2_with fail;refine kk h e ((jg).alloc _) ?_;clear e g;refine jX rfl fun g e=>?_;go_wp2_with fail;have b5:h9 (O.alloc (.cells #[SS, "",SS] 66)).drew O 66 #[SS, "",SS]:=(h9.new _ _ _).ext jg;have eZ:=HA.kK.Fj;have eX:¬O.heap.size=l.D:=Zm
   have fH:=aF.size;have ax:=xq ((O.alloc (.cells #[SS, "",SS] 66)).drew) _ _ (HA.kK.ext (jh _).drew) k i.name i.member;rw[HG.o]at ax;refine ax.mono ?_;rintro a w3 ⟨⟨ev,he,av⟩,aL,aB⟩;rw[HV.o]at he;subst he;have ae:=Zy ((((Kp.refl _ O).alloc _).drew).trans aB);have U:=b5.kp aB eX;obtain⟨z5,y0,y1,y2,-⟩:=U.ca;obtain⟨g0,g1,g2,-⟩:=U.fz;obtain⟨q,dA,bO,au⟩:=SA U (.int .i64 G.1.of.keeper) (.string G.1.of.name) (.int .i64 G.1.at_);have⟨z,af,dJ,dX,bB⟩:=qR (ae.own au (fun k a=>Zm)) (aL.kp au (fun u X a=>Zm)) bO dA (Dn.weak av);clear b5 U aL aB au bO dA ax av;go_wp2_with fail;refine kk h e ae ?_;clear e g;refine EF ?_;intro g e;go_wp2_with fail;rw[<-dX.o];refine kk h e z ?_;clear e g;clear h r0 r1 r2 r3 r4 y0 y1 y2 g0 g1 g2;refine kJ ?_;go_wp2_with fail;exact bM _ _ _ z af dJ (Tz _) bB
end Go.Proofs.YtenhnldnpdlniaaGreat
namespace Go.Proofs.YtenhnldnpdlniaaGreat
open Go Go.RowKit Tryz M
variable {lk: Bool}{cs: List (Value×Value)}{f u: List nV}{a b c d g i n: Nat}{r: Nat×Nat}{s: St}{v vs: Value}{W e w: World}{p: hZ}{l: iZ}
theorem Og:Elem 142 195 2:=nM (z:=.agg #[(),()]) (bytes:=48) underlying142 Zo rfl Zn Zn
def Rx(x:Value×Value):List Value:=[x.1,x.2]
def J5(W:World)(S:Nat)(v vl vs:Value)(b:Nat):Prop:=S<=b/\b<W.heap.size/\v.ownBlock≠some b/\vl.ownBlock≠some b/\vs.ownBlock≠some b
def NT(W:World)(S:Nat)(v vl vs:Value)(known:List nV)(cs:List (Value×Value)):Prop:=
 cs.length=known.length/\W.ownsRow S 195 2 v known.length (cs.flatMap Rx)/\
  ∀(j:Nat) (c:Value×Value) (f:nV),cs[j]?=some c->known[j]?=some f->SliceOf 2 kU W (J5 W S v vl vs) c.1 f.locals/\SliceOf 2 kU W (J5 W S v vl vs) c.2 f.stack
def Kn(W:World)(S:Nat)(v vl vs:Value)(known:List nV):Prop:=∃cs:List (Value×Value),NT W S v vl vs known cs
theorem Kn.nil(W:World)(a:Nat)(c vs:Value):Kn W a () c vs []:=
 ⟨[],rfl,U8 _ _ _ _,fun f d e b=>by simp at b⟩
theorem oJ{base k: Nat}{xs:List Value}(e:w.ownsRow base d k v n xs){g:Nat}(a:v.ownBlock=some g):∃b,h9 w g d b:=by
 rcases e.2 with⟨c,_⟩|⟨i,h,b,c,_,f,_⟩
 . rw[c]at a;cases a
 . rw[c]at a;cases a;exact⟨b,f⟩
theorem Kn.kp{g: World}{y: Nat}{k:Int}{m:M.Method}{t:uN}{at_:Int}{s:nV}{e o vs': Value}(F:Kn W c v e vs u)(f:jo W l p y n k m t at_ s e vs) (j:Kp (qN l n e vs) W g) (r:jU W e vs o vs') (S:n<c):Kn g c v o vs' u:=by
 obtain⟨C,G,q,H⟩:=F;have P:=f.hB;have Q:=f.hk;have T:=f.kK.ord;refine⟨C,G,iY q j fun O K R a=>?_,fun L B E I J=>?_⟩
 . obtain⟨N,h⟩:=oJ q K;rcases a with a|a|a|a
   . omega
   . omega
   . obtain⟨D,i⟩:=oJ f.loc a;exact absurd (h9.inj h i) Zn
   . obtain⟨D,i⟩:=oJ f.ky a;exact absurd (h9.inj h i) Zn
 . have w:Same (J5 W c v e vs) W g:=Kp.same j fun d h a=>by
    obtain⟨q1,q2,q3,q4,q5⟩:=h;rcases a with a|a|a|a
    . omega
    . omega
    . exact q4 a
    . exact q5 a
   have x:∀d,J5 W c v e vs d->J5 g c v o vs' d:=fun d ⟨q1,q2,q3,q4,q5⟩=>⟨q1,Tp q2 j.size,q3,fun a=>by
    rcases r d (.inl a)with b|b|b
    . exact q4 b
    . exact q5 b
    . omega,fun a=>by
    rcases r d (.inr a)with b|b|b
    . exact q4 b
    . exact q5 b
    . omega⟩
   obtain⟨z,A⟩:=H L B E I J;exact⟨z.keep kU.stays w x,A.keep kU.stays w x⟩
theorem NT.snoc{k d c1 c2: Value}{n:List nV}{f:nV}(y:NT W a v d vs n cs)(z:SliceOf 2 kU W (J5 W a v d vs) c1 f.locals) (A:SliceOf 2 kU W (J5 W a v d vs) c2 f.stack)(C:e.ownsRow a 195 2 k (n.length+1) (cs.flatMap Rx++[c1,c2])) (p:Kp (fun b=>v.ownBlock=some b) W e) (D:∀m,k.ownBlock=some m->v.ownBlock=some m\/W.heap.size<=m):Kn e a k d vs (n++[f]):=by
 obtain⟨o,E,w⟩:=y;have i:Same (J5 W a v d vs) W e:=Kp.same p fun b B l=>B.2.2.1 l;have j:∀b,J5 W a v d vs b->J5 e a k d vs b:=fun b ⟨q1,q2,q3,q4,q5⟩=>⟨q1,Tp q2 p.size,fun l=>by
  rcases D b l with r|r
  . exact q3 r
  . omega,q4,q5⟩
 refine⟨cs++[(c1,c2)],by simp[o],?_,fun q u x c g=>?_⟩
 . rw[TL,TJ];simpa [Rx]using C
 . rcases UH q cs.length with h|h|h
   . rw[Tn h]at c;rw[Tn Zm]at g;obtain⟨s,t⟩:=w q u x c g;exact⟨s.keep kU.stays i j,t.keep kU.stays i j⟩
   . subst h;rw[TR (Tz _)]at c;rw[o,TR (Tz _)]at g;simp at c g;subst c g;exact⟨z.keep kU.stays i j,A.keep kU.stays i j⟩
   . rw[TS Zr]at c;cases c
theorem NT.ext{d: World}{c: Value}(o:NT W a v c vs f cs)(b:Ext W d):NT d a v c vs f cs:=by
 obtain⟨k,l,m⟩:=o;have g:∀e,J5 W a v c vs e->J5 d a v c vs e:=fun e ⟨q1,q2,q3⟩=>⟨q1,Tp q2 b.size,q3⟩;refine⟨k,iY l b (fun _ _ _ s=>s),fun r j n p q=>?_⟩;obtain⟨h,i⟩:=m r j n p q;exact⟨h.keep kU.stays (Ext.same b) g,i.keep kU.stays (Ext.same b) g⟩
abbrev Own:=Nat->Option (Nat×Nat)
def nA(n:Nat)(own own':Own):Prop:=∀b,b<n->own' b=own b
theorem nA.refl(n:Nat)(a:Own):nA n a a:=fun _ _=>rfl
theorem nA.trans{e: Nat}{a b c:Own}(f:nA n a b)(g:nA e b c)(i:n<=e):nA n a c:=fun d h=>(g d Zm).trans (f d h)
def Own.add(own:Own)(g:Nat)(r:Nat×Nat):Own:=fun b=>if b=g then some r else own b
theorem Own.add_eq(a:Own)(g:Nat)(r:Nat×Nat):a.add g r g=some r:=by simp[Own.add]
theorem Own.lS{a:Own}(r:Nat×Nat)(c:b≠g):a.add g r b=a b:=by simp[Own.add,c]
theorem Own.y8{b:Own}(a:b g=some r\/n<=g):nA n b (b.add g r):=fun d e=>by
 by_cases c:d=g
 . subst c;rcases a with a|a
   . rw[Own.add_eq,a]
   . omega
 . exact Own.lS r c
def MO(l:iZ)(own:Own)(b:Nat):Prop:=b=l.D\/own b≠none
def PO(own:Own)(R:Nat×Nat->Prop)(b:Nat):Prop:=∃r,own b=some r/\R r
theorem PO.mo{c:Own}{R:Nat×Nat->Prop}(a:PO c R b):MO l c b:=by
 obtain⟨d,a,_⟩:=a;exact .inr (by rw[a];simp)
theorem Kp.mo{h j:Own}{a b: World}(c:Kp (MO l h) w a)(d:Kp (MO l j) a b)(k:nA w h j):Kp (MO l h) w b:=
 ⟨d.os.trans c.os,d.tape.trans c.tape,d.output.trans c.output,TD c.size d.size,
  fun g f i=>(d.block g (Tp f c.size) (fun e=>i (by
   rcases e with e|e
   . exact .inl e
   . exact .inr (by rw[<-k g f];exact e)))).trans (c.block g f i)⟩
structure lU(w:World)(own:Own)(B:Nat)(r:Nat×Nat)(e k:Nat)(v:Value)(n:Nat)(xs:List Value):Prop where
 row:w.ownsRow B e k v n xs
 role:∀g,v.ownBlock=some g->own g=some r
section
variable {w w':World} {own own':Own} {B:Nat} {r:Nat×Nat} {e k:Nat} {v:Value} {n:Nat} {xs:List Value} {R:Nat×Nat->Prop} {D:Nat->Prop}
theorem lU.keep(b:lU w own B r e k v n xs)(i:Kp D w w')(g:nA w own own')(f:∀d,own d=some r->B<=d->¬D d):lU w' own' B r e k v n xs:=
 ⟨iY b.row i (fun a c h=>f a (b.role a c) h),fun a c=>(g a (b.row.lt a c).2).trans (b.role a c)⟩
theorem lU.nil(w:World)(own:Own)(B:Nat)(r:Nat×Nat)(e k:Nat):lU w own B r e k () 0 []:=
 ⟨U8 _ _ _ _,fun b a=>by cases a⟩
theorem lU.form(c:lU w own B r e k v n xs):∃a b,v=.slice a n b:=jL c.row
theorem lU.take(a:lU w own B r e k (g,n,c) n xs){j:Nat}(b:j<=n):lU w own B r e k (g,j,c) j (xs.take (j*k)):=
 ⟨BO a.row b,fun f d=>a.role f d⟩
theorem lU.ext(a:lU w own B r e k v n xs)(b:Ext w w'):lU w' own B r e k v n xs:=a.keep b (nA.refl _ _) fun _ _ _ c=>c
theorem lU.blk(a:lU w own B r e k v n xs){g:Nat}(b:v.ownBlock=some g):B<=g/\g<w:=a.row.lt g b
theorem lU.yu(a:lU w own B r e k v n xs)(d:Kp (PO own R) w w')(b:nA w own own')(f:¬R r):lU w' own' B r e k v n xs:=
 a.keep d b fun g c _ ⟨h,h1,h2⟩=>by rw[c]at h1;cases h1;exact f h2
end
structure GC where
 f:Fr
 cb:Nat
 t:uN
 vl:Value
 vs:Value
structure GO where
 o:qi
 v:Value
structure Gh where
 status:Int
 cs:List GC
 os:List GO
 outs:List Int
 back:Val
 vc:Value
 vh:Value
 vo:Value
def Gh.st(g:Gh):St:=⟨g.status,g.cs.map GC.f,g.os.map GO.o,g.outs,g.back⟩
def Bp(p:hZ)(c:GC):Array Value:=
 #[.int .i64 c.f.of.of.keeper,.string c.f.of.of.name,.int .i64 c.f.of.at_,.string (M.method p c.f.of).name,.slice c.t.a1 (M.method p c.f.of).args.length c.t.c1,.int .i64 (M.method p c.f.of).ret.kind,.string (M.method p c.f.of).ret.name,
  .int .i64 (M.method p c.f.of).locals,.int .i64 (M.method p c.f.of).stack,.slice c.t.a2 (M.method p c.f.of).code.length c.t.c2,.slice c.t.a3 (M.method p c.f.of).maps.length c.t.c3,.int .i64 c.f.pc,c.vl,c.vs,.int .i64 (M.method p c.f.of).stack]
def vO(c:GC):List Value:=[.pointer (some ⟨c.cb,0,none⟩)]
def qw(o:GO):List Value:=[.int .i64 o.o.of.keeper,.string o.o.of.name,o.v]
def yN(l:iZ)(lk:Bool)(g:Gh):Array Value:=#[.pointer (some ⟨l.L,0,none⟩),.bool lk,.int .i64 g.status,g.vc,g.vh,g.vo,.int .i64 g.back.kind,.int .i64 g.back.n]
structure qP(w:World)(l:iZ)(p:hZ)(own:Own)(B i:Nat)(c:GC):Prop where
 blk:h9 w c.cb 129 (Bp p c)
 role:own c.cb=some (4,i)
 low:B<=c.cb
 ml:jb w (· <l.O) (M.method p c.f.of) (nK (M.method p c.f.of) c.t)
 loc:lU w own B (5,i) 42 2 c.vl c.f.locals.length (c.f.locals.flatMap jS)
 ky:lU w own B (6,i) 42 2 c.vs c.f.stack.length (c.f.stack.flatMap jS)
def Ih(w:World)(own:Own):Prop:=∀b i,own b=some (4,i)->∃k:Int,w.cell? ⟨b,0,none⟩=some (.int .i64 k)
theorem Ih.kp{g: World}{c f:Own}{D:Nat->Prop}(h:Ih w c)(k:Kp D w g)(i:∀a b,c a=some (4,b)->¬D a)(e:∀a b,f a=some (4,b)->c a=some (4,b)):Ih g f:=fun a b d=>by
 obtain⟨l,j⟩:=h a b (e a b d);exact⟨l,k.nQ j (i a b (e a b d))⟩
theorem Own.Hm{d:Own}(e:r.1≠4)(a:d.add g r b=some (4,i)):d b=some (4,i):=by
 by_cases c:b=g
 . subst c;rw[Own.add_eq]at a;cases a;exact absurd rfl e
 . rwa[Own.lS r c]at a
structure jd(w:World)(l:iZ)(p:hZ)(own:Own)(B mb:Nat)(lk:Bool)(g:Gh):Prop where
 kK:ja w l p
 hB:l.L<B
 blk:h9 w mb 78 (yN l lk g)
 role:own mb=some (0,0)
 low:B<=mb
 calls:lU w own B (1,0) 124 1 g.vc g.cs.length (g.cs.flatMap vO)
 call:∀i c,g.cs[i]?=some c->qP w l p own B i c
 heap:lU w own B (2,0) 72 3 g.vh g.os.length (g.os.flatMap qw)
 obj:∀j o,g.os[j]?=some o->lU w own B (7,j) 42 2 o.v o.o.fields.length (o.o.fields.flatMap jS)
 outs:lU w own B (3,0) 3 1 g.vo g.outs.length (g.outs.flatMap vF)
 dom:∀b,own b≠none->B<=b/\b<w.heap.size
 good:M.Good p g.st
 zS:Ih w own
section
variable {w w':World} {l:iZ} {p:M.hZ} {own own':Own} {B mb:Nat} {lk:Bool} {g:Gh} {D:Nat->Prop} {R:Nat×Nat->Prop}
theorem qP.keep{c:GC}(b:qP w l p own B i c)(e:Kp D w w')(g:nA w own own')(f:∀a,(own a=some (4,i)\/own a=some (5,i)\/own a=some (6,i))->B<=a->¬D a)(h:∀a,a<l.O->¬D a):qP w' l p own' B i c:=
 ⟨b.blk.kp e (f _ (.inl b.role) b.low),(g _ b.blk.lt).trans b.role,b.low,jK.kp jb.stays e (fun a d=>h a d) b.ml,b.loc.keep e g (fun a d=>f a (.inr (.inl d))),b.ky.keep e g (fun a d=>f a (.inr (.inr d)))⟩
theorem jd.keep(c:jd w l p own B mb lk g)(d:Kp D w w')(f:nA w own own)(q:∀a,own a≠none->B<=a/\a<w'.heap.size)(m:ja w' l p)(k:∀a,own a≠none->¬D a)(n:∀a,a<l.O->¬D a):jd w' l p own B mb lk g:=by
 have e:∀a i,own a=some i->¬D a:=fun a i b=>k a (by rw[b];simp);exact⟨m,c.hB,c.blk.kp d (e _ _ c.role),(f _ c.blk.lt).trans c.role,c.low,c.calls.keep d f fun a b _=>e a _ b,
  fun h j o=>(c.call h j o).keep d f (fun a b _=>by rcases b with b|b|b<;>exact e a _ b) n,
  c.heap.keep d f fun a b _=>e a _ b,fun s t r=>(c.obj s t r).keep d f fun a b _=>e a _ b,c.outs.keep d f fun a b _=>e a _ b,q,c.good,c.zS.kp d (fun a h b=>e a _ b) fun _ _ u=>u⟩
theorem jd.Ar(b:jd w l p own B mb lk g)(d:(w:Nat)<=w'):∀a,own a≠none->B<=a/\a<w'.heap.size:=fun a c=>⟨(b.dom a c).1,Tp (b.dom a c).2 d⟩
theorem jd.ext(a:jd w l p own B mb lk g)(b:Ext w w'):jd w' l p own B mb lk g:=
 a.keep b (nA.refl _ _) (a.Ar b.size) (a.kK.ext b) (fun _ _ c=>c) (fun _ _ c=>c)
theorem jd.Rv(a:jd w l p own B mb lk g){b:Nat}(d:b<=l.L):own b=none:=by
 cases c:own b with
 |none=>rfl
 |some e=>have:=(a.dom b (by rw[c];simp)).1;have:=a.hB;omega
theorem jd.qj(a:jd w l p own B mb lk g)(c:Kp (·=l.D) w w')(f:ja w' l p):jd w' l p own B mb lk g:=
 a.keep c (nA.refl _ _) (a.Ar c.size) f (fun d b e=>by have:=a.kK.ord;exact b (a.Rv Zm)) (fun d b e=>SK a.kK.ord)
theorem jd.Gb(a:jd w l p own B mb lk g)(b:Kp (PO own R) w w'):ja w' l p:=
 a.kK.kp b fun d c ⟨f,e,_⟩=>by rw[a.Rv c]at e;cases e
theorem jd.yM(b:jd w l p own B mb lk g):∀a,a<l.O->¬PO own R a:=fun a c ⟨d,e,_⟩=>by
 have:=b.kK.ord;rw[b.Rv Zm]at e;cases e
theorem qP.yu{c:GC}(d:qP w l p own B i c)(g:Kp (PO own R) w w')(f:nA w own own')(hR:¬R (4,i)/\¬R (5,i)/\¬R (6,i))(e:∀b,b<l.O->¬PO own R b):qP w' l p own' B i c:=
 d.keep g f (fun b a _ ⟨h,h1,h2⟩=>by
  rcases a with a|a|a<;>rw[a]at h1<;>cases h1
  . exact hR.1 h2
  . exact hR.2.1 h2
  . exact hR.2.2 h2) e
theorem jd.at_(a:jd w l p own B mb lk g){r:List GC}{c:GC}(b:g.cs=r++[c]):qP w l p own B r.length c:=a.call _ _ (by rw[b];simp)
theorem jd.H5(b:jd w l p own B mb lk g){r:List GC}{c j:GC}(t:g.cs=r++[c])(s:j.cb=c.cb)(f:Kp (PO own fun k=>k=(4,r.length)\/k=(5,r.length)\/k=(6,r.length)) w w')(h:nA w own own')(A:∀a,own' a≠none->B<=a/\a<w'.heap.size)
    (q:qP w' l p own' B r.length j) (z:M.Good p {g with cs:=r++[j]}.st) {D':Nat->Prop} (D:Kp D' w w') (y:∀a d,own a=some (4,d)->D' a->a=c.cb) (u:∀a d,own' a=some (4,d)->own a=some (4,d)):jd w' l p own' B mb lk {g with cs:=r++[j]}:=by
 refine⟨b.Gb f,b.hB,b.blk.kp f ?_,(h _ b.blk.lt).trans b.role,b.low,?_,?_,b.heap.yu f h Zl,fun F H E=>(b.obj F H E).yu f h Zl,b.outs.yu f h Zl,A,z,fun a d o=>?_⟩;rotate_right
 . by_cases m:a=c.cb
   . exact⟨_,by rw[m,<-s];exact q.blk.c 0 _ rfl⟩
   . obtain⟨G,C⟩:=b.zS a d (u a d o);exact⟨G,D.nQ C fun I=>m (y a d (u a d o) I)⟩
 . rintro⟨k,n,x⟩;rw[b.role]at n;cases n;simp at x
 . have:=b.calls.yu f h Zl;rw[t]at this;simpa [vO,s]using this
 . intro d v e;simp only at e;rcases UH d r.length with i|i|i
   . rw[Tn i]at e;refine(b.call d v (by rw[t,Tn i];exact e)).yu f h ?_ b.yM;refine⟨?_,?_,?_⟩<;>simp<;>omega
   . subst i;simp at e;subst e;exact q
   . rw[TS Zr]at e;cases e
theorem jd.H4(b:jd w l p own B mb lk g)(a:Gh)(c:Kp (PO own (·=(0,0))) w w')(f:h9 w' mb 78 (yN l lk a))(k:(a.cs=g.cs/\a.vc=g.vc)\/(lU w own B (1,0) 124 1 a.vc a.cs.length (a.cs.flatMap vO)/\∃n,g.cs=a.cs++n))(v:a.os=g.os/\a.vh=g.vh/\a.outs=g.outs/\a.vo=g.vo) (t:M.Good p a.st):jd w' l p own B mb lk a:=by
 obtain⟨j,q,r,s⟩:=v;have e:=nA.refl w own;refine⟨b.Gb c,b.hB,f,b.role,b.low,?_,?_,?_,?_,?_,b.Ar c.size,t,b.zS.kp c (fun i m f ⟨A,h1,h2⟩=>by rw[f]at h1;cases h1;cases h2) fun _ _ z=>z⟩
 . rcases k with⟨d,i⟩|⟨d,_⟩
   . rw[d,i];exact b.calls.yu c e Zl
   . exact d.yu c e Zl
 . intro m o h;refine(b.call m o ?_).yu c e Zl b.yM;rcases k with⟨d,_⟩|⟨_,n,d⟩
   . rw[<-d];exact h
   . rw[d,Tn (Tv.1 h).1];exact h
 . rw[j,q];exact b.heap.yu c e Zl
 . rw[j];exact fun x y u=>(b.obj x y u).yu c e Zl
 . rw[r,s];exact b.outs.yu c e Zl
end
def jT(w:World)(l:iZ)(p:hZ)(own:Own)(B mb:Nat)(lk:Bool)(v:Value)(s:St)(e:Ending)(w':World):Prop:=
 e=.returned v/\Kp (MO l own) w w'/\∃own' g',nA w.heap.size own own'/\jd w' l p own' B mb lk g'/\g'.st=s
theorem jT.after{h i: World}{a g:Own}{f: Nat}{c:Ending}(d:Kp (MO l a) w h)(e:nA w a g)(k:jT h l p g b f lk v s c i):jT w l p a b f lk v s c i:=by
 obtain⟨m,n,t,j,o,q,r⟩:=k;exact⟨m,d.mo n e,t,j,e.trans o d.size,q,r⟩
theorem jT.behind{f: World}{d:Own}{b:Ending}(h:Ext w e)(g:jT e l p d a c lk v s b f):jT w l p d a c lk v s b f:=
 g.after h.any (nA.refl _ _)
theorem jd.stop{a:Own}{g:Gh}(f:jd w l p a b d lk g)(c:Ext w e):jT w l p a b d lk v g.st (.returned v) e:=
 ⟨rfl,c.any,a,g,nA.refl _ _,f.ext c,rfl⟩
end Go.Proofs.YtenhnldnpdlniaaGreat
