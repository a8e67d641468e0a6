/- Walks. -/
import Derived.Test.YtlhgbjbkjalfjaaGreatTwCoreLl
set_option maxRecDepth 100000
set_option maxHeartbeats 4000000
set_option linter.all false
namespace Go.Proofs.YtlhgbjbkjalfjaaGreat
open Go Go.RowKit Tryz M
variable {n: Nat}{α: Type}
attribute [local go_sem] Oper.semAt_some
theorem Aj{w:World}{a:Option Addr}{c: Nat}:Calls prog 186 #[.slice a n c] w fun b d=>b=.returned (.func (.func 202) #[] #[some w])/\w.alloc (.cells #[.slice a n c] 121)=d:=by
 go_enter func186,ntmps186;go_wp2;go_ret;exact⟨rfl,rfl⟩
def backTo{α:Type}(l:List α):Nat->List (Int×α)
 |0=>[]
 |n+1=>(match l[n]? with|some x=>[((n:Int),x)]|none=>[])++backTo l n
theorem xP{l:List α}{x:α}(a:l[n]?=some x):backTo l (n+1)=((n:Int),x)::backTo l n:=by
 simp[backTo,a]
theorem pX(l:List α):∀n,n<=l.length->(backTo l n).map Prod.snd=(l.take n).reverse
 |0,_=>by simp[backTo]
 |n+1,h=>by
  rw[xP (Ou (show n<l.length by omega)),VT (show n<l.length by omega),UU,pX l n Zm,Wz];rfl
def FJ(x:Int×Ref):Array Value:=#[.int .i64 x.1,.agg #[.int .i64 x.2.keeper,.string x.2.name]]
theorem zt(a:List Ref)(g:Nat)(v:Value)(I w:Nat->Prop)(hBd:∀b,w b->b≠g/\¬I b):Iter prog 202 #[some g] FJ (fun _=>False) w (fun xs=>xs=backTo a a.length) (fun c=>∃u,backTo a a.length=c++u) (fun _=>True) (fun k=>hZ k g 121 #[v]/\SliceOf 2 xI k I v a) (fun c e=>∃u,backTo a a.length=c++e::u):=by
 intro lp N Jx k ⟨p,s⟩ z A U o T;obtain⟨l,h,rfl,hn,ai⟩:=s.form;refine callsIn_of_wp func202 rfl trivial ?_ rfl;simp only[ntmps202,UY,TE,Uj,Nat.reduceAdd,Nat.reduceSub,Um,Ul,UX,Ug,TW,TF];have c0:=p.c 0 (.slice l a.length h) rfl;have G:IntKind.i64.wrap ((a.length:Int) - 1)=(a.length:Int) - 1:=TK _ Zm;gi_wp2;clear G;gi_loopg [3] a.length (fun i J wr=>∃c:List (Int×Ref),((i=0/\J=.int .i64 (-1))\/∃b:Nat,i=b+1/\J=.int .i64 b)/\i<=a.length/\Zz (backTo a a.length=c++backTo a i)/\Zz (N c wr/\hZ wr g 121 #[.slice l a.length h]/\SliceOf 2 xI wr I (.slice l a.length h) a))
 case atStart=>
  refine⟨[],?_,T9 _,Zy Zl,Zy ⟨T,p,s⟩⟩;rcases Wx a.length with m|m
  . left;exact⟨m,by rw[m];rfl⟩
  . right;exact⟨a.length - 1,Zm,by congr 1;omega⟩
 case round =>
  obtain⟨c,Y,ak,x,y⟩:=hrel;rcases Y with⟨rfl,rfl⟩|⟨b,rfl,rfl⟩
  . have L:Zz (backTo a a.length=c):=Zy (by rw[x.o];simp[backTo]);gi_wp2;refine Ta ?_;exact⟨⟨_,rfl⟩,.inl ⟨c,L.symm,y.1⟩⟩
  . obtain⟨e,t⟩:=get_some (show b<a.length by omega);obtain⟨D,d,r⟩:=y.o;obtain⟨O,aa,cs,rfl,hI,rfl,-,C⟩:=r.get t;obtain⟨Q,R⟩:=C.two;have P:=d.c 0 (.slice (some ⟨O,aa,none⟩) a.length h) rfl;have X:(0:Int)<=(b:Int):=Zm
    have aj:(b:Int)<a.length:=Zm
    have V:=Tz X;have j:Zz (backTo a a.length=(c++[((b:Int),e)])++backTo a b):=Zy (by rw[x.o,xP t,U1];rfl);obtain⟨fn,av,af,ag,H,n⟩:=o c ((b:Int),e) wr ⟨backTo a b,by rw[j.o,U1];rfl⟩ D;simp only[FJ]at H n;have⟨HY,ae,f⟩:=jB o (Tn z A) (Tn hBd (Tn d r));have G:IntKind.i64.wrap ((b:Int) - 1)=(b:Int) - 1:=TK _ Zm;clear o z A U hBd d r s t C D p;gi_wp2_with fail;refine n.mono ?_;rintro ah W1 ⟨q,(⟨rfl,E⟩|⟨rfl,W⟩)⟩
    . have B:=f.2.1.kp q (fun d=>(f.1 _ d).1 rfl);have F:=f.2.2.keep xI.stays (Kp.same q fun au Z d=>(f.1 _ d).2 Z) (fun _ S=>S);have K:=Zy (Tn E (Tn B F));clear E B F q Q R P H n V;gi_wp2_with fail;gi_roundg b
      case measure=>omega
      case rel=>
       refine⟨c++[((b:Int),e)],?_,Zm,j,K⟩;cases b with
       |zero=>left;exact⟨rfl,rfl⟩
       |succ b=>right;exact⟨b,rfl,by congr 1;omega⟩
    . gi_wp2_with fail;refine Ta ?_;exact⟨⟨_,rfl⟩,.inr ⟨_,⟨_,j⟩,W⟩⟩
end Go.Proofs.YtlhgbjbkjalfjaaGreat
namespace Go.Proofs.YtlhgbjbkjalfjaaGreat
open Go Go.RowKit Tryz M
variable {w: World}{p: iZ}
attribute [local go_sem] Oper.semAt_some
theorem wH(b:kQ p=true){r:Ref}{c:Class}(a:cls? p r=some c):c.fields.length<=3:=by
 have:=M.zM b a;unfold rP at this;simp only[Ty,Tq]at this;exact this.1.1.1.2
theorem rU(d:kQ p=true)(a:List Ref):(lG p a []).length<=a.length*3:=by
 rw[Ay];induction a with
 |nil=>simp
 | cons b g e =>
  have:(cls p b).fields.length<=3:=by
   unfold cls;cases c:cls? p b with
   |none=>simp[P9]
   |some f=>exact wH d c
  simp only[UU,List.sum_cons,TE,Uj]at e |-;omega
theorem Fa(p:iZ)(a:List Ref)(c:Ref):lG p (a++[c]) []=kU c (cls p c).fields (lG p a []):=by
 rw[xw];rfl
theorem Cy{I:Nat->Prop}{v:Value}{xs:List Ref}(g:SliceOf 2 xI w I v xs):SliceOf 2 xI w (fun a=>I a/\a<w) v xs:=by
 obtain⟨c,d,e,h,i,j⟩:=g;refine⟨c,d,e,h,i,fun n p m=>?_⟩;obtain⟨a,o,q,f,k,rfl,l,b⟩:=j n p m;exact⟨a,o,_,f,⟨k,jc b.two.1⟩,rfl,l,b⟩
def RO(p:iZ)(w2:World)(bb S:Nat)(pre:List (Int×Ref))(W:World):Prop:=
 ∃v',hZ W bb 298 #[v']/\W.ownsRow S 211 5 v' (lG p (pre.map Prod.snd) []).length ((lG p (pre.map Prod.snd) []).flatMap oO)/\Kp (·=bb) w2 W
theorem wN{l:jk}(a:ji w l p)(r:Ref):Calls prog 144 #[some l.L,.agg #[r.keeper,r.name]] w fun g w'=>(∃au,g=.returned au/\SliceOf 5 RH w' (fun m=>w<=m) au (layout p r))/\ji w' l p/\Kp (·=l.D) w w':=by
 have bB:=a.ET;have bC:=a.lt;have hO:=a.ord;have ae:Ext w ((w.alloc (.cells #[some l.L] 73)).alloc (.cells #[r.keeper,r.name] 60)):=kx;have aQ:=Zy (a.ext ae);have X:=(hZ.new w 73 #[some l.L]).ext (jw (.cells #[r.keeper,r.name] 60));have G:=hZ.new (w.alloc (.cells #[some l.L] 73)) 60 #[r.keeper,r.name];simp only[Tp]at G;have aT:=Zy ae;clear a ae;refine(Ur (n:=10)).1 ?_;refine callsIn_of_wp_marks func144 rfl trivial ?_ rfl;simp only[ntmps144,UY,TE,Uj,Nat.reduceAdd,Nat.reduceSub,Um,Ul,UX,Ug,TW,TF];have q2:=X.c 0 (some l.L) rfl;obtain⟨-,q3,q4,-⟩:=G.ca;cases aG:ko p r
 all_goals
  have N:=Zy aG;clear aG;gi_wp2_with fail;refine⟨trivial,?_⟩;refine(Ur.2 (mU aQ r)).mono ?_;rintro g v ⟨rfl,aC,A⟩;rw[N.o];have bK:(w:Nat)+1<(v:Nat):=by have:=A.size;simp at this;omega
  have bJ:(w:Nat)<v:=Zm
  have Y:=X.kp A Zm;have Z:=G.kp A Zm;have⟨av,P⟩:=jf (aT.any.trans A) aC;have p2:=Y.c 0 (some l.L) rfl;obtain⟨-,p3,p4,-⟩:=Z.ca;clear q2 q3 q4 A aC
 . have S:Zz (layout p r=[]):=Zy (by unfold layout;rw[N.o];rfl);gi_wp2_with fail;refine⟨(),by simp[results,Tryz.f144,go_sem],⟨_,rfl,by rw[S.o];exact SliceOf.nil _ _ _ _⟩,P,av⟩
 . have S:Zz (layout p r=lG p (chain p r).reverse []):=Zy (by unfold layout;rw[N.o];rfl);have b5:=hZ.new v 298 #[()];gi_wp2_with fail;refine⟨trivial,?_⟩;refine(Ur.2 (q9 (P.ext kx) r)).mono ?_;rintro g c ⟨⟨au,rfl,hs⟩,o⟩;obtain⟨x,y,rfl,hn,bF⟩:=hs.form;gi_wp2_with fail;refine⟨trivial,?_⟩;refine(Ur.2 (Aj)).mono ?_;rintro g w3 ⟨rfl,rfl⟩;gi_wp2_with fail;have bn:=o.size;simp only[Tp]at bn;have aa:=b5.ext o;have⟨Q,aV,B2⟩:=jB ((P.ext kx).ext o) (av.trans ((kx:Ext v _).any.trans o.any)) (Tn ((Y.ext kx).ext o) ((Z.ext kx).ext o));have bD:(v:Nat)<c:=Zm
   clear X G Y Z b5 p2 p3 p4 o;generalize bE:v=bb at*;have⟨HS,ax⟩:=jf hs (vR p r);have aX:Zz (∀b∈chain p r,∃i,cls? p b=some i):=Zy fun b hx=>M.ng hx;clear hs;generalize chain p r=xs at*;refine En (gf:=202) (lb:=#[some c]) (α:=Int×Ref) rfl (enters_of func202 Zo rfl) (encs:=FJ) (fun b=>rfl)
    (Bb:=fun e=>e=bb\/c+3<=e)
    (zt xs c (.slice x xs.length y) (fun m=>bb+1<=m/\m<c) _ ?hBd) ?hIt ?hD1 ?hD2 ?hB1 ?hB2
    (RO p c bb (c+3)) (fun _ _ _=>False) ?hI ?hIx ?h0 ?hIB
    (fun q b d W V=>RO p c bb (c+3) q d/\(∃aP,backTo xs xs.length=q++b::aP)/\
     c.heap.size+2<(d:Nat)/\V=d.alloc (.cells #[.int .i64 b.2.keeper,.string b.2.name] 60)/\
     W={tmps:=#[some l.L,.agg #[r.keeper,r.name],some w,.pointer (some ⟨w+1,0,none⟩),(),some bb,undef,.pointer (some ⟨d,0,none⟩),
      some l.L,.agg #[r.keeper,r.name],.bool true,.bool false,some l.L,.agg #[r.keeper,r.name],.slice x xs.length y,.func (.func 202) #[] #[some c],
      .int .i64 b.1,.agg #[.int .i64 b.2.keeper,.string b.2.name],undef,undef,undef,undef,undef,undef,undef,undef],defers:=[]}) ?hassign ?hAx ?hbody ?hdone ?hstop
   case hBd=>
    intro e f;have bf:(e=bb\/c+3<=e)\/e=(c.alloc (.cells #[.slice x xs.length y] 121)).heap.size+1:=f;simp only[Tp]at bf;omega
   case hIt=>
    intro d hW;refine⟨(hZ.new _ _ _).ext hW,?_⟩;refine(Cy HS).keep xI.stays (Ext.same (((Kp.refl _ c).alloc _:Ext c _).trans hW)) (fun m hb=>?_);have:=hb.1;simp only[Tp]at this;exact⟨Zm,hb.2⟩
   case hD1=>exact fun a=>a
   case hD2=>exact fun a=>a
   case hB1=>simp only[Tp];omega
   case hB2=>simp only[Tp];omega
   case hI=>
    rintro L bq bu ⟨s,k,h,j⟩ f;simp only[Tp]at f;exact⟨s,k.kp f Zr,jb h f (fun az _ hg a=>by simp at a;omega),j.own f (fun e f=>by simp at f;omega)⟩
   case hIx=>exact fun _ _ _ _ a=>a.elim
   case h0=>exact⟨(),aa.ext kx,Tf _ _ _ _,(kx:Ext c _).any⟩
   case hIB=>exact fun _ _ _=>trivial
   case hassign=>
    intro q b d F aL hi aJ n;simp only[FJ];simp only[Tp]at aJ;gi_wp2
   case hAx=>
    rintro q b d W V ⟨_,_,_,rfl,_⟩;exact((Kp.refl _ d).alloc _)
   case hbody=>
    rintro q b d W V t ⟨⟨s,k,h,j⟩,aL,aJ,rfl,rfl⟩ u ai;simp only[Tp]at u ai;obtain⟨aP,aM⟩:=aL;have bg:b.2∈xs:=by
     have:=congrArg (List.map Prod.snd) aM;rw[pX _ _ (T9 _),TC]at this;have z:b.2∈xs.reverse:=by rw[this];simp
     simpa using z
    have bH:(q.map Prod.snd).length<=6:=by
     have:=congrArg List.length aM;have z:=congrArg List.length (pX xs xs.length (T9 _));simp at this z;have:=ax.o;simp;omega
    obtain⟨i,J⟩:=aX.o _ bg;have C:=(j.alloc _).own u (fun e f=>Zm);have I:=Q.kp C (fun e f g=>Zm);obtain⟨cs,aH,aF⟩:=p8 _ l p I b.2.keeper b.2.name i J;obtain⟨a1,c1,a2,c2,rfl⟩:=aH.form;obtain⟨bM,bN,aI,sf,-⟩:=aH;simp only[TH,UF,V8]at aI;obtain⟨rfl,rfl⟩:=aI;have bG:∀d,(Instr.field 47 (.agg #[.string i.name,.string i.jl,.slice a1 i.fields.length c1,.slice a2 i.methods.length c2]) 2).run prog d=.ok (.slice a1 i.fields.length c1) d:=(fun d=>by kernel_rfl);have cb:=(hZ.new d 60 #[.int .i64 b.2.keeper,.string b.2.name]).kp u Zm;obtain⟨uz,u0,u1,-⟩:=cb.ca;have t2:=(B2.1.kp C Zm).c 0 (some l.L) rfl;have tz:=jc t2;have g1:=(k.ext ((Kp.refl _ d).alloc _)).kp u Zm;have g2:=jb (jb (D:=fun _=>False) h ((Kp.refl _ d).alloc (.cells #[.int .i64 b.2.keeper,.string b.2.name] 60)) (fun _ _ _ a=>a)) u (fun az _ hg=>Zm);have⟨O,aY,aR,aW,aU,aS⟩:=nE (Tn g1 (Tn g2 C)) sf aF I (wH I.ok J) J;have bL:(c:Nat)+3<=(t:Nat):=Zm
    have aO:¬s.ownBlock=some d.heap.size:=fun g=>SX ((h.lt _ g).2)
    have aj:∀ak,s.ownBlock=some ak->c.heap.size+3<=ak:=fun ak hq=>(h.lt _ hq).1;obtain⟨bz,bA,bI,E⟩:=qC.ex (fun W'=>Kp (fun e=>e=bb\/s.ownBlock=some e) t W') _ Kp.rr;have r2:=fun L=>((B2.1.kp C Zm).kp (E.jv L) (by intro a;rcases a with a|a;(· omega);(· have:=aj _ a;omega))).c 0 (some l.L) rfl;obtain⟨-,r7,r8,-⟩:=hZ.lC fun L=>(cb.kp (E.jv L) (by intro a;rcases a with a|a;(· omega);(· exact aO a)));have⟨R,T⟩:=jf E aj;clear k h j cb g1 g2 C sf aF I J u ai aa t2 u0 u1 E aj aO;gi_wp2_with fail;refine Ow R 6 [([0,1,2],3),([4],5)] [] ?_ (fun _=>trivial) ?_
    . exact jg
    refine NB [_,_,_] rfl rfl fun F n=>?_;(repeat (go_big_quiet_step (fail)));refine qn n fun U B=>?_;clear n F;gi_wp2_with fail;refine⟨trivial,?_⟩;refine(CallsIn.inRound _ (Ur.2 (aR _ (jg)))).mono ?_;rintro g w4 ⟨rfl,aB⟩;have H:∀D:Nat->Prop,Kp D t w4:=fun D=>(((Kp.refl _ t).drew:Ext t _).trans aB).any;gi_wp2_with fail;refine kk R B (H _) ?_;clear B U;refine NB [_] rfl rfl fun F n=>?_;(repeat (go_big_quiet_step (fail)));refine qn n fun U B=>?_;clear n F;gi_wp2_with fail;refine⟨trivial,?_⟩;have K:Ext t w4:=H _;refine(CallsIn.inRound _ (Ur.2 (Hv w4 bb (c+3) s b.2 (· <l.O) i.fields (O.1.ext K) (jb (D:=fun _=>False) O.2.1 K fun _ _ _ b=>b) (SliceOf.ext aY lv.stays K) (fun m hb=>Zm) (SX K.size) ?hl (fun g=>SX (T.o _ g))))).mono ?_
    case hl=>
     have h1:=aU.o;have z:=rU aW.ok (q.map Prod.snd);omega
    rintro g w5 ⟨rfl,v5,aA,aD,aK,af⟩;have ay:=Zy (Tn aA (Tn aD (Tn aK af)));have ag:=(H _).trans af;clear aA aD aK af aB H;gi_wp2_with fail;refine kk R B ag ?_;clear B U;refine NC ?_;gi_wp2_with fail;have aZ:cls p b.2=i:=by unfold cls;rw[aS.o];rfl
    refine⟨ag.weak ?_,v5,ay.1,?_,(O.2.2.mix ag ?_)⟩
    . intro e f a;rcases a with a|a
      . exact .inl a
      . exact .inr (T _ a)
    . rw[TB,UU,VR,Fa,aZ,sM];exact ay.2.1
    . intro e f a;rcases a with a|a
      . exact a
      . have:=T.o _ a;omega
   case hdone=>
    rintro ys d rfl ⟨s,k,h,j⟩ n;obtain⟨va,vc,rfl⟩:=jA h;have k0:=k.c 0 _ rfl;have HE:=Zy (Tn k (Tn h j));clear k h j aa;simp only[Exit.inBlock,Exit.then];gi_wp2;obtain⟨k,h,j⟩:=HE.o;refine⟨by simp,.inl ⟨_,_,rfl,run_takeDeferred n,?_⟩⟩;have ah:=Kp.putObj d (c.alloc (.cells #[.slice x xs.length y] 121)).heap.size (.deferred none);have ai:(c.alloc (.cells #[.slice x xs.length y] 121)).heap.size=c+1:=by simp
    refine⟨.slice va (lG p ((backTo xs xs.length).map Prod.snd) []).length vc,by simp[results,Tryz.f144,go_sem],⟨_,rfl,?_⟩,?_,?_⟩
    . have aN:(backTo xs xs.length).map Prod.snd=xs.reverse:=by rw[pX _ _ (T9 _),TC]
      rw[S.o,<-aN];have h1:=rU Q.ok ((backTo xs xs.length).map Prod.snd);have z:((backTo xs xs.length).map Prod.snd).length=xs.length:=by rw[aN,Va]
      have h3:=ax.o;exact SliceOf.lS (base:=c.heap.size+3) oO (jb h ah (fun az _ hg=>Zm)) rfl rfl (fun _ _=>rfl) (fun _ _=>rfl) (fun m a h'=>by show w.heap.size<=m;omega) Zm
    . exact(Q.kp j (fun e f g=>Zm)).kp ah (fun e f g=>Zm)
    . exact((aV.own j (fun e f=>Zm))).own ah (fun e f=>Zm)
   case hstop=>exact fun _ _ _ _ a=>a.elim
end Go.Proofs.YtlhgbjbkjalfjaaGreat
namespace Go.Proofs.YtlhgbjbkjalfjaaGreat
open Go Go.RowKit Tryz M
attribute [local go_sem] Oper.semAt_some
def RJ(p:iZ)(of:Ref)(xs:List Ref)(w2:World)(fb:Nat)(pre:List (Int×Ref))(W:World):Prop:=
 ∃n:Nat,n<=pre.length*3/\hZ W fb 3 #[.int .i64 n]/\Kp (·=fb) w2 W/\∀rest,xs.reverse=pre.map Prod.snd++rest->pq p of xs.reverse 0=pq p of rest n
def Sw(p:iZ)(of:Ref)(xs:List Ref)(w2:World)(fb:Nat)(c:Code)(_:List (Int×Ref))(W:World):Prop:=
 c=.exit 0/\∃n:Nat,hZ W fb 3 #[.int .i64 n]/\Kp (·=fb) w2 W/\pq p of xs.reverse 0=n
theorem Bz{w:World}{l:jk}{p:iZ}(m:ji w l p)(b c:Ref):Calls prog 154 #[some l.L,.agg #[b.keeper,b.name],.agg #[c.keeper,c.name]] w fun s w'=>s=.returned (oI p b c)/\Ext w w':=by
 have aZ:=m.ET;have bf:=m.lt;have hO:=m.ord;obtain⟨u,t⟩:=SS ((((w.alloc (.cells #[some l.L] 73)).alloc (.cells #[b.keeper,b.name] 60)).alloc (.cells #[c.keeper,c.name] 60)).alloc (.cells #[Tc] 3));have Y:Ext w u:=by rw[t];exact kx
 have af:=Zy (m.ext Y);have b2:hZ u w 73 #[some l.L]:=by rw[t];exact(hZ.new w _ _).ext kx
 have b3:hZ u (w+1) 60 #[b.keeper,b.name]:=by
  rw[t];have:=(hZ.new (w.alloc (.cells #[some l.L] 73)) 60 #[b.keeper,b.name]);simp only[Tp]at this;exact this.ext kx
 have b4:hZ u (w.heap.size+1+1) 60 #[c.keeper,c.name]:=by
  rw[t];have:=(hZ.new ((w.alloc (.cells #[some l.L] 73)).alloc (.cells #[b.keeper,b.name] 60)) 60 #[c.keeper,c.name]);simp only[Tp]at this;exact this.ext kx
 have b5:hZ u (w.heap.size+1+1+1) 3 #[Tc]:=by
  rw[t];have:=(hZ.new (((w.alloc (.cells #[some l.L] 73)).alloc (.cells #[b.keeper,b.name] 60)).alloc (.cells #[c.keeper,c.name] 60)) 3 #[Tc]);simpa only[Tp]using this
 have bE:u.heap.size=w+4:=by rw[t];simp
 have⟨aM,aT⟩:=jf Y t;clear m Y;refine(Ur (n:=10)).1 ?_;refine callsIn_of_wp_marks func154 rfl trivial ?_ rfl;simp only[ntmps154,UY,TE,Uj,Nat.reduceAdd,Nat.reduceSub,Um,Ul,UX,Ug,TW,TF];clear t;gi_wp2_with fail;rw[<-aT.o];refine⟨trivial,?_⟩;refine(Ur.2 (q9 af c)).mono ?_;rintro s f ⟨⟨aF,rfl,hs⟩,A⟩;obtain⟨v,x,rfl,hn,bq⟩:=hs.form;gi_wp2_with fail;refine⟨trivial,?_⟩;refine(Ur.2 (Aj)).mono ?_;rintro s w3 ⟨rfl,rfl⟩;gi_wp2_with fail;have bF:=A.size;have K:=b5.ext A;have⟨aQ,ag,B2⟩:=jB (af.ext A) (aM.trans A) (Tn (b2.ext A) (b3.ext A));clear b2 b3 b4 b5 A;generalize bn:w.heap.size+1+1+1=fb at*;have bg:fb<f:=Zm
 have⟨HS,aR⟩:=jf hs (vR p c);have aS:Zz (∀a∈chain p c,∃j,cls? p a=some j):=Zy fun a hx=>M.ng hx;have HV:Zz (oI p b c=pq p b (chain p c).reverse 0):=Zy rfl;clear hs;generalize chain p c=xs at*;refine En (gf:=202) (lb:=#[some f]) (α:=Int×Ref) rfl (enters_of func202 Zo rfl) (encs:=FJ) (fun a=>rfl)
  (Bb:=fun o=>o=fb)
  (zt xs f (.slice v xs.length x) (fun V=>fb+1<=V/\V<f) _ ?hBd) ?hIt ?hD1 ?hD2 ?hB1 ?hB2
  (RJ p b xs f fb) (Sw p b xs f fb) ?hI ?hIx ?h0 ?hIB
  (fun B a d U S=>RJ p b xs f fb B d/\(∃P,backTo xs xs.length=B++a::P)/\
   f.heap.size+2<(d:Nat)/\S=d.alloc (.cells #[.int .i64 a.2.keeper,.string a.2.name] 60)/\
   U={tmps:=#[some l.L,.agg #[b.keeper,b.name],.agg #[c.keeper,c.name],some w,.pointer (some ⟨w+1,0,none⟩),.pointer (some ⟨w.heap.size+1+1,0,none⟩),Tc,some fb,undef,.pointer (some ⟨d,0,none⟩),
    some l.L,.agg #[c.keeper,c.name],.slice v xs.length x,.func (.func 202) #[] #[some f],
    .int .i64 a.1,.agg #[.int .i64 a.2.keeper,.string a.2.name],undef,undef,undef,undef,undef,undef,undef,undef,undef,undef,undef],defers:=[]}) ?hassign ?hAx ?hbody ?hdone ?hstop
 case hBd=>
  intro o e;have aV:(o=fb)\/o=(f.alloc (.cells #[.slice v xs.length x] 121)).heap.size+1:=e;simp only[Tp]at aV;omega
 case hIt=>
  intro d hW;refine⟨(hZ.new _ _ _).ext hW,?_⟩;refine(Cy HS).keep xI.stays (Ext.same (((Kp.refl _ f).alloc _:Ext f _).trans hW)) (fun V hb=>?_);have:=hb.1;exact⟨Zm,hb.2⟩
 case hD1=>exact fun m=>m
 case hD2=>exact fun m=>m
 case hB1=>simp only[Tp];omega
 case hB2=>simp only[Tp];omega
 case hI=>
  rintro C aG aH ⟨n,y,h,i,g⟩ e;simp only[Tp]at e;exact⟨n,y,h.kp e Zr,i.own e (fun o e=>by simp at e;omega),g⟩
 case hIx=>
  rintro j C aG aH ⟨y,n,h,i,g⟩ e;simp only[Tp]at e;exact⟨y,n,h.kp e Zr,i.own e (fun o e=>by simp at e;omega),g⟩
 case h0=>exact⟨0,by simp,K.ext kx,(kx:Ext f _).any,fun P m=>by simp at m;rw[m]⟩
 case hIB=>exact fun _ _ _=>trivial
 case hassign=>
  intro B a d I aB hi aA r;simp only[FJ];simp only[Tp]at aA;gi_wp2
 case hAx=>
  rintro B a d U S ⟨_,_,_,rfl,_⟩;exact((Kp.refl _ d).alloc _)
 case hbody=>
  rintro B a d U S T ⟨⟨n,y,h,i,g⟩,aB,aA,rfl,rfl⟩ G O;simp only[Tp]at G O;obtain⟨P,aC⟩:=aB;have D:xs.reverse=B.map Prod.snd++a.2::P.map Prod.snd:=by
   have:=congrArg (List.map Prod.snd) aC;rw[pX _ _ (T9 _),TC]at this;simpa using this
  have aW:a.2∈xs:=by
   have q:a.2∈xs.reverse:=by rw[D];simp
   simpa using q
  have bB:n<=18:=by
   have k:=congrArg List.length D;simp at k;have:=aR.o;omega
  have az:=g _ D;obtain⟨j,N⟩:=aS.o _ aW;have F:=(i.alloc _).own G (fun o e=>Zm);have Z:=aQ.kp F (fun o e s=>Zm);obtain⟨cs,ax,av⟩:=p8 _ l p Z a.2.keeper a.2.name j N;obtain⟨a1,c1,a2,c2,rfl⟩:=ax.form;have bA:∀d,(Instr.field 47 (.agg #[.string j.name,.string j.jl,.slice a1 j.fields.length c1,.slice a2 j.methods.length c2]) 2).run prog d=.ok (.slice a1 j.fields.length c1) d:=(fun d=>by kernel_rfl);have W:=(hZ.new d 60 #[.int .i64 a.2.keeper,.string a.2.name]).kp G Zm;obtain⟨-,u0,u1,-⟩:=W.ca;obtain⟨-,t2,t3,-⟩:=(B2.2.kp F Zm).ca;have X:=(h.ext ((Kp.refl _ d).alloc _)).kp G Zm;have⟨H,aK,ah⟩:=jB (Tn X F) av (wH Z.ok N);have ay:cls p a.2=j:=by unfold cls;rw[N];rfl
  have⟨aL,aP,aO⟩:=jB ay az g;have aN:=Zy y;obtain⟨aX,aY,bC,E⟩:=ll T;have r2:=fun C=>((B2.1.kp F Zm).ext (E.jv C)).c 0 (some l.L) rfl;have r5:=fun C=>(X.ext (E.jv C)).c 0 n rfl;obtain⟨-,r7,r8,-⟩:=hZ.lC fun C=>(W.ext (E.jv C));have aj:=Zy E;clear y h i g W X F av Z N G O K E ay az D aC ax;have aU:((b.keeper=a.2.keeper/\b.name=a.2.name)/\a.2=b)\/(((b.keeper=a.2.keeper/\(a.2.name.toList==b.name.toList)=false)\/(a.2.keeper==b.keeper)=false)/\¬a.2=b):=by
   rcases wT a.2.keeper b.keeper a.2.name b.name with⟨k,q⟩|⟨k,q,z⟩|⟨k,q⟩
   . exact .inl ⟨⟨k.symm,q.symm⟩,Ref.lD.2 ⟨k,q⟩⟩
   . exact .inr ⟨.inl ⟨k.symm,q⟩,fun s=>z (by rw[s])⟩
   . exact .inr ⟨.inr k,fun s=>q (by rw[s])⟩
  rcases aU with⟨⟨k,q⟩,z⟩|⟨k,z⟩
  . have Q:=Zy z;clear z;gi_wp2_with fail;refine⟨Kp.rr,rfl,n,H.1,H.2,?_⟩;rw[aP.o];unfold pq;rw[Tv Q.o]
  . have Q:=Zy z;clear z;have bD:(n:Int)<=18:=Zm
    have bu:(j.fields.length:Int)<=3:=SX ah.o
    rcases k with⟨k,q⟩|k
    all_goals
     gi_wp2_with fail;refine Ow aj 7 [([0,1,2],3)] [4,5,6] ?_ (fun _=>trivial) ?_
     . exact jg
     refine NB [_,_,_] rfl rfl fun I r=>?_;(repeat (go_big_quiet_step (fail)));refine qn r fun K2 au=>?_;clear r I;gi_wp2_with fail;refine⟨trivial,?_⟩;refine(CallsIn.inRound _ (Ur.2 (aK _ (jg)))).mono ?_;rintro s w4 ⟨rfl,ak⟩;have L:=((Kp.refl _ T).drew:Ext T _).trans ak;have J:=H.1.ext L;obtain⟨z0,d0,-⟩:=J.ca;have f0:=J.frozen 0;have aJ:=Zy J;have ai:=Zy L;clear J ak;gi_wp2_with fail;refine kk aj au L ?_;clear au K2;clear L;refine Qo [_,_,_] rfl fun I r=>?_;(repeat (go_big_quiet_step (fail)));refine qn r ?_;clear r I;gi_wp2_with fail;have aD:=fun aI hD aF=>(Kp.refl aI w4).setCell (p:=⟨fb,0,none⟩) (fun _=>hD) aF;have bz:=ah.o;refine⟨ai.any.trans (aD (·=fb) rfl _),n+j.fields.length,by have:=aN.o;simp;omega,?_,(H.o.2.trans ai.o.any).trans (aD (·=fb) rfl _),fun ae hr=>?_⟩
     . have:=aJ.jy 0 (.int .i64 ((n:Int)+j.fields.length));simpa using this
     . rw[aO.o (a.2::ae) (by rw[hr];simp)];rw[show pq p b (a.2::ae) n=if a.2=b then n else pq p b ae (n+(cls p a.2).fields.length)from rfl,Tt Q.o,aL.o]
 case hdone=>
  rintro ys d rfl ⟨n,y,h,i,g⟩ r;have k0:=h.c 0 _ rfl;have R:=Zy (Tn h (Tn i g));clear h i g K;simp only[Exit.inBlock,Exit.then];gi_wp2;obtain⟨h,i,g⟩:=R.o;refine⟨by simp,.inl ⟨_,_,rfl,run_takeDeferred r,?_⟩⟩;have aa:=Kp.putObj d (f.alloc (.cells #[.slice v xs.length x] 121)).heap.size (.deferred none);have O:(f.alloc (.cells #[.slice v xs.length x] 121)).heap.size=f+1:=by simp
  refine⟨n,by simp[results,Tryz.f154,go_sem],?_,?_⟩
  . have D:(backTo xs xs.length).map Prod.snd=xs.reverse:=by rw[pX _ _ (T9 _),TC]
    rw[HV.o,g [] (by rw[D];simp)];rfl
  . exact((ag.own i (fun o e=>Zm))).own aa (fun o e=>Zm)
 case hstop=>
  rintro j B d hS ⟨rfl,n,h,i,g⟩ r;have k0:=h.c 0 _ rfl;have R:=Zy (Tn h (Tn i g));clear h i g K;gi_wp2;obtain⟨h,i,g⟩:=R.o;refine⟨by simp,.inl ⟨_,_,rfl,run_takeDeferred r,?_⟩⟩;have aa:=Kp.putObj d (f.alloc (.cells #[.slice v xs.length x] 121)).heap.size (.deferred none);have O:(f.alloc (.cells #[.slice v xs.length x] 121)).heap.size=f+1:=by simp
  refine⟨n,by simp[results,Tryz.f154,go_sem],?_,?_⟩
  . rw[HV.o,g]
  . exact((ag.own i (fun o e=>Zm))).own aa (fun o e=>Zm)
end Go.Proofs.YtlhgbjbkjalfjaaGreat
namespace Go.Proofs.YtlhgbjbkjalfjaaGreat
open Go Go.RowKit Tryz M
variable {A Q k v x: Int}{cs xs: List Value}{m: M.Method}{B N b base c e g n o q u z: Nat}{D I: Nat->Prop}{α: Type}{t: TypeId}{d f r u0 u1 u2 u3 vl vs: Value}{W w: World}{p: iZ}{l: jk}{s: oV}
theorem om(l:List α)(k:Nat)(a:k<l.length):∃b,l[k]?=some b:=⟨l[k],Ou a⟩
def Kr:Array Value:=#[.int .i64 0,.string ⟨#[]⟩,.int .i64 0,.int .i64 0,.string ⟨#[]⟩]
theorem hZ.inj{c: TypeId}{cs d:Array Value}(b:hZ w g t cs)(a:hZ w g c d):t=c:=by
 unfold hZ at b a;rw[b]at a;cases a;rfl
theorem Kp.wu(a:D b)(c d e f g:Value):Kp D w (((((w.setCell b c).setCell (b,1) d).setCell (b,2) e).setCell (b,3) f).setCell (b,4) g):=
 (((((Kp.refl D w).setCell (p:=⟨b,0,none⟩) (fun _=>a) c).setCell (p:=⟨b,1,none⟩) (fun _=>a) d).setCell (p:=⟨b,2,none⟩) (fun _=>a) e).setCell (p:=⟨b,3,none⟩) (fun _=>a) f).setCell (p:=⟨b,4,none⟩) (fun _=>a) g
theorem hZ.wu{u4: Value}(g:hZ w b t #[u0,u1,u2,u3,u4])(a c d e f:Value):hZ (((((w.setCell b a).setCell (b,1) c).setCell (b,2) d).setCell (b,3) e).setCell (b,4) f) b t #[a,c,d,e,f]:=
 ((((g.jy 0 a).jy 1 c).jy 2 d).jy 3 e).jy 4 f
theorem vW (w : World) (l : jk) (p : iZ) (y : ji w l p) (k : Int) (n m : ByteArray) :Calls prog 100 #[some l.L,k,n,m] w fun g w'=>(∃ev,g=.returned (.tuple #[.agg (oO (M.get p k n m).1).toArray,ev])/\Hk w' ev (M.get p k n m).2)/\ji w' l p/\Kp (·=l.D) w w':=by
 have bX:=y.ET;have cu:=y.lt;have hO:=y.ord;obtain⟨I,D⟩:=SS (w.alloc (.cells Kr 211));have av:Ext w I:=by rw[D];exact kx
 have bn:=Zy (y.ext av);have b8:hZ I w 211 Kr:=by rw[D];exact hZ.new w _ _
 have dm:I.heap.size=w+1:=by rw[D];simp
 have⟨bB,bH⟩:=jf av D;have HK:Zz (M.get p k n m=if(jP p k n m).2=1 then rT p k m (jP p k n m).1 (layout p (jP p k n m).1)else(xD,(jP p k n m).2)):=Zy rfl;clear y av D;go_enter func100,ntmps100;go_wp2_with fail;have aB:=bH.o;unfold Kr at aB;rw[<-aB];clear aB;refine(xA bn).mono ?_;rintro g w2 ⟨⟨ev,rfl,bL⟩,aQ,Z⟩;generalize jP p k n m=F at*;obtain⟨⟨c,d⟩,bJ⟩:=F;simp only at*;have O:=b8.kp Z Zm;have dn:=Z.size;obtain⟨yz,y0,y1,y2,y3,y4,-⟩:=O.ca;obtain⟨P,Q,R,S,T,-⟩:=O.fz;have⟨aN,aK,ah⟩:=jB aQ (bB.any.trans Z) O;clear aQ Z b8 O;rcases bL with⟨rfl,rfl⟩|⟨hc,eb,rfl,aY⟩
 . have L : Zz (M.get p k n m = rT p k m ⟨c, d⟩ (layout p ⟨c, d⟩)) := Zy (by rw [HK.o, Tv rfl]); have W : Ext w2 (w2.alloc (.cells #[c, d] 60)) := kx; have aP := hZ.new w2 60 #[c, d]; go_wp2_with fail; refine (wN (aN.ext W) ⟨c, d⟩).mono ?_; rintro g w3 ⟨⟨dx, rfl, e⟩, aR, B⟩; obtain ⟨bT, bV, rfl, hn, cB⟩ := e.form; have bQ := B.size; simp only [Tp] at bQ; have ⟨bz, bq, bE, bD, HS, bF⟩ := nE ((ah.ext W).kp B Zm) (aP.kp B Zm) aR ((aK.trans W.any).trans B) e (fun i a => yS (p := p) (r := ⟨c, d⟩) (i := i) (f := a)); clear e aR B W aP y0 y1 y2 y3 y4 P Q R S T yz; generalize layout p ⟨c, d⟩ = fs at *; go_wp2_with fail; go_loopw [31] (fun i wr => ∃ b : Nat, b <= fs.length /\ i = .int .i64 b /\ Ext w3 wr /\ Zz (rT p k m ⟨c, d⟩ fs = rT p k m ⟨c, d⟩ (fs.drop b))) (fun i _ => fs.length - (intOf i).toNat)
   case atStart=>exact⟨0,SV _,rfl,Kp.rr,Zy rfl⟩
   case round =>
    obtain⟨b,hq,rfl,s,HA⟩:=hrel;have A:=bz.ext s;obtain⟨yz,y0,y1,y2,y3,y4,-⟩:=A.ca;obtain⟨P,Q,R,S,T,-⟩:=A.fz;have aF:=Zy A;have V:=bq.ext s;have⟨bR,r,aM,bC⟩:=jU V (bE.ext s) (bD.trans s.any) s;by_cases bM:b<fs.length
    . obtain⟨a,hx⟩:=om fs b bM;obtain⟨_,aZ,ag,G,U,C,v,bg⟩:=bF.o b a hx;obtain⟨j,ae⟩:=M.ng aZ;have aA:cls p a.of=j:=by unfold cls;rw[ae];rfl
      rw[aA]at C;have df:=(Tw.1 C).1;have cz:=wH r.ok ae;have aI:=Zy (Gn (by rw[aA];exact C) (by rw[ag,v]));have aJ:Zz (rT p k m ⟨c,d⟩ fs=if fieldName p ⟨c,d⟩ a=m then(if agree p k a.of.keeper a.kind then(a,1)else(xD,4))else rT p k m ⟨c,d⟩ (fs.drop (b+1))):=Zy (by rw[HA.o,oM hx];rfl);obtain⟨bU,dw,cs,rfl,bY,rfl,-,aU⟩:=HS.get hx;have t:=aU.ext s;have g0:=t 0 a.of.keeper rfl;have g1:=t 1 a.of.name rfl;have g2:=t 2 b (by simp[oO,ag]);have g3:=t 3 a.kind.kind rfl;have g4:=t 4 a.kind.name rfl;rw[U3]at g0;have gz:=jc g0;obtain⟨ez,e0,e1,-⟩:=V.ca;obtain⟨W4,aS,ax,aj⟩:=nu wr #[a.of.keeper,a.of.name,b,a.kind.kind,a.kind.name] 211;have⟨bI,HX,bA,HJ,bG⟩:=ni aS (Tn ag bg) ae C v;clear ag bg ae C aU t hx aZ aA v y0 y1 y2 y3 y4 P Q R S T aS A V;go_wp2_with fail;rw[<-bI.o];refine(Bz (r.ext ax) ⟨a.of.keeper,a.of.name⟩ ⟨c,d⟩).mono ?_;rintro g w5 ⟨rfl,X⟩;have v:b=oI p ⟨a.of.keeper,a.of.name⟩ ⟨c,d⟩+G:=bG.o;generalize oI p ⟨a.of.keeper,a.of.name⟩ ⟨c,d⟩=ff at*;obtain⟨cs,aW,aT⟩:=p8 _ l p r a.of.keeper a.of.name j bA;obtain⟨a1,c1,a2,c2,rfl⟩:=aW.form;obtain⟨dz,dA,aX,sf,-⟩:=aW;simp only[TH,UF,V8]at aX;obtain⟨rfl,rfl⟩:=aX;have cK:∀ai,(Instr.field 47 (.agg #[j.name,j.jl,.slice a1 j.fields.length c1,.slice a2 j.methods.length c2]) 2).run prog ai=.ok (.slice a1 j.fields.length c1) ai:=(fun ai=>by kernel_rfl);obtain⟨bf,of,bW,rfl,bZ,rfl,-,aV⟩:=sf.get HJ;have az:=ax.trans X;obtain⟨bS,f,dh,N⟩:=ll w5;obtain⟨-,r0,r1,r2,r3,r4,-⟩:=hZ.lC fun aC=>(aj.ext (X.trans (N.jv aC)));have rf:=fun aC=>(aV.ext (az.trans (N.jv aC))) 0 U.name rfl;simp only[U3]at rf;have hw:IntKind.i64.wrap ((b:Int) - (ff:Int))=(G:Int):=by rw[TK _ Zm];omega
      have di:(b:Int) - (ff:Int)=(G:Int):=Zm
      have cO:(0:Int)<=(G:Int):=Zm
      have cZ:(G:Int)<j.fields.length:=Zm
      have⟨h,aG,J,bu,HQ⟩:=ni N aT az (aj.ext X) v;clear N aT az aj X ax aV sf g0 g1 g2 g3 g4 e0 e1 v;by_cases u:U.name=m
      . have bN:(U.name.toList==m.toList)=true:=by rw[u];simp
        have K:Zz (M.get p k n m=if agree p k a.of.keeper a.kind then(a,1)else(xD,4)):=Zy (by rw[L.o,aJ.o,Tv (by rw[aI.o];exact u)]);clear u;go_wp2_with fail;refine C8 h ?_ ?_;rotate_left;(repeat (go_big_quiet_step ((go_at_call 52;refine(aG _ (J.trans (h.jv _)).any).mono ?_;rintro g w6 ⟨rfl,ay⟩;exact⟨rfl,h.o.o w6 ((h.jv _).trans ay)⟩))));refine TD ?_;(rintro _ ⟨H,rfl⟩);rotate_left
        . exact jg
        go_wp2_with fail;have af:=J.trans (h.jv H);have ak:=bu.ext (h.jv H);generalize f H=w6 at*;clear h r0 r1 r2 r3 r4 rf;refine(uU (r.ext af) k a.of.keeper a.kind).mono ?_;rintro g w7 ⟨rfl,Y⟩;have E:=af.trans Y;have au:=ak.ext Y;have z:=aF.ext E;obtain⟨yz,y0,y1,y2,y3,y4,-⟩:=z.ca;obtain⟨P,Q,R,S,T,-⟩:=z.fz;have⟨aD,aO,aL⟩:=jB z (r.ext E) (aM.trans E.any);cases aa:agree p k a.of.keeper a.kind
        . have x:Zz (M.get p k n m=(xD,4)):=Zy (by rw[K.o,aa];rfl);clear au ak z E af Y aa;go_wp2_with fail;have e:=Kp.wu (D:=(·=w)) (w:=w7) rfl Tc "" Tc Tc "";have o:=aD.wu Tc "" Tc Tc "";refine Cv (iY vO rfl w rfl (oO xD) ((hH.l7 o).ext (jw _)) rfl) rfl ?_;rw[x.o];refine⟨⟨_,rfl,.inr ⟨by simp,w7.heap.size,rfl,?_⟩⟩,(aO.kp e (fun k q g=>Zm)).ext (jw _),(aL.o.own e (fun k q=>Zm)).alloc _⟩;have:=hZ.new (((((w7.setCell w Tc).setCell (w,1) "").setCell (w,2) Tc).setCell (w,3) Tc).setCell (w,4) "") 250 #[.int .i64 4];simpa using this
        . have x:Zz (M.get p k n m=(a,1)):=Zy (by rw[K.o,aa];rfl);obtain⟨-,e0,e1,e2,e3,e4,-⟩:=au.ca;clear au ak z E af Y aa;go_wp2_with fail;have e:=Kp.wu (D:=(·=w)) (w:=w7) rfl a.of.keeper a.of.name b a.kind.kind a.kind.name;have o:=aD.wu a.of.keeper a.of.name b a.kind.kind a.kind.name;have bP:oO a=[.int .i64 a.of.keeper,.string a.of.name,.int .i64 b,.int .i64 a.kind.kind,.string a.kind.name]:=by unfold oO;rw[HX.o.1]
          rw[x.o];refine Cv (iY vO rfl w rfl (oO a) (by rw[bP];exact hH.l7 o) rfl) rfl ?_;exact⟨⟨_,rfl,.inl ⟨rfl,rfl⟩⟩,aO.kp e (fun k q g=>Zm),aL.o.own e (fun k q=>Zm)⟩
      . have bN:(U.name.toList==m.toList)=false:=by rw[kI];exact SL u
        have K:Zz (rT p k m ⟨c,d⟩ fs=rT p k m ⟨c,d⟩ (fs.drop (b+1))):=Zy (by rw[aJ.o,Tt (by rw[aI.o];exact u)]);clear u;go_wp2_with fail;refine C8 h ?_ ?_;rotate_left;(repeat (go_big_quiet_step ((go_at_call 52;refine(aG _ (J.trans (h.jv _)).any).mono ?_;rintro g w6 ⟨rfl,ay⟩;exact⟨rfl,h.o.o w6 ((h.jv _).trans ay)⟩))));refine TD ?_;(rintro _ ⟨H,rfl⟩);rotate_left
        . exact jg
        go_wp2_with fail;have bO:=bC.trans (J.trans (h.jv H));refine⟨⟨b+1,Zm,by go_num,bO,K⟩,by simp[intOf];omega⟩
    . have x:Zz (M.get p k n m=(xD,3)):=Zy (by rw[L.o,HA.o,U4 Zm];rfl);clear A V;go_wp2_with fail;have e:=Kp.wu (D:=(·=w)) (w:=wr) rfl Tc "" Tc Tc "";have o:=aF.wu Tc "" Tc Tc "";refine Cv (iY vO rfl w rfl (oO xD) ((hH.l7 o).ext (jw _)) rfl) rfl ?_;rw[x.o];refine⟨⟨_,rfl,.inr ⟨by simp,wr.heap.size,rfl,?_⟩⟩,(r.kp e (fun k q g=>Zm)).ext (jw _),(aM.o.own e (fun k q=>Zm)).alloc _⟩;have:=hZ.new (((((wr.setCell w Tc).setCell (w,1) "").setCell (w,2) Tc).setCell (w,3) Tc).setCell (w,4) "") 250 #[.int .i64 3];simpa using this
 . have aH:=Zy aY;have HC:=Zy hc;clear aY hc;have L:Zz (M.get p k n m=(xD,bJ)):=Zy (by rw[HK.o,Tt HC.o]);have bK:¬eb=w:=fun g=>by subst g;exact absurd (hZ.inj aH.o ah.o) Zn
   go_wp2_with fail;have e:=Kp.wu (D:=(·=w)) (w:=w2) rfl Tc "" Tc Tc "";have o:=ah.wu Tc "" Tc Tc "";refine Cv (iY vO rfl w rfl (oO xD) ((hH.l7 o).ext (jw _)) rfl) rfl ?_;rw[L.o];exact⟨⟨_,rfl,.inr ⟨HC,eb,rfl,(aH.kp e bK).ext (jw _)⟩⟩,(aN.kp e (fun k q g=>Zm)).ext (jw _),(aK.o.own e (fun k q=>Zm)).alloc _⟩
theorem lH(w:World)(l:jk)(p:iZ)(f:ji w l p)(x:rH)(k:kC p x=true):Calls prog 55 #[some l.L,.agg #[x.of.keeper,x.of.name,x.at_]] w fun a d=>(∃b,jd d (· <l.O) (M.method p x) b/\a=.returned (.agg b.toArray))/\Ext w d:=by
 obtain⟨_,m,e,c,g,h,i,j⟩:=tC k;have a:M.method p x=c:=by unfold M.method;rw[j];rfl
 rw[a,g];exact GI w l p f x.of.keeper x.of.name m e c h i
theorem hZ.newAt(t:TypeId)(cs:Array Value)(a:W=g):hZ (W.alloc (.cells cs t)) g t cs:=by
 subst a;exact hZ.new W t cs
def zT(x:rH):List Value:=[.int .i64 x.of.keeper,.string x.of.name,.int .i64 x.at_]
theorem Kp.wX(a:D b)(c d e:Value):Kp D w (((w.setCell b c).setCell (b,1) d).setCell (b,2) e):=
 (((Kp.refl D w).setCell (p:=⟨b,0,none⟩) (fun _=>a) c).setCell (p:=⟨b,1,none⟩) (fun _=>a) d).setCell (p:=⟨b,2,none⟩) (fun _=>a) e
theorem hZ.wX(e:hZ w b t #[u0,u1,u2])(a c d:Value):hZ (((w.setCell b a).setCell (b,1) c).setCell (b,2) d) b t #[a,c,d]:=
 ((e.jy 0 a).jy 1 c).jy 2 d
theorem uF(w:World)(l:jk)(p:iZ)(h:ji w l p)(k:Int)(n m:ByteArray):Calls prog 86 #[some l.L,k,n,m] w fun c W=>(∃T,c=.returned (.tuple #[.agg (zT (call p k n m).1).toArray,T])/\Hk W T (call p k n m).2)/\ji W l p/\Kp (·=l.D) w W:=by
 have aV:=h.ET;have aW:=h.lt;have hO:=h.ord;obtain⟨q,o⟩:=SS (w.alloc (.cells #[Tc, "",Tc] 78));have U:Ext w q:=by rw[o];exact kx
 have aD:=Zy (h.ext U);have b8:hZ q w 78 #[Tc, "",Tc]:=by rw[o];exact hZ.new w _ _
 have aY:q.heap.size=w+1:=by rw[o];simp
 have⟨aH,aL⟩:=jf U o;have HK:Zz (call p k n m=if(jP p k n m).2=1 then
  (match pick p (jP p k n m).1 m with
  |none=>(M.qw,3)
  |some a=>if kT p k a.of.keeper (M.method p a)then(a,1)else(M.qw,4))
 else(M.qw,(jP p k n m).2)):=Zy rfl
 clear h U o;go_enter func86,ntmps86;go_wp2_with fail;rw[<-aL.o];refine(xA aD).mono ?_;rintro c X ⟨⟨T,rfl,aP⟩,az,d⟩;generalize jP p k n m=F at*;obtain⟨⟨E,G⟩,aN⟩:=F;simp only at*;have t:=b8.kp d Zm;have aZ:=d.size;obtain⟨K,H,I,J,-⟩:=t.ca;obtain⟨u,v,x,-⟩:=t.fz;have⟨aj,ag,L⟩:=jB az (aH.any.trans d) t;clear az d b8 t;rcases aP with⟨rfl,rfl⟩|⟨hc,eb,rfl,aC⟩
 . have r:Zz (call p k n m=match pick p ⟨E,G⟩ m with
    |none=>(M.qw,3)
    |some a=>if kT p k a.of.keeper (M.method p a)then(a,1)else(M.qw,4)):=Zy (by rw[HK.o,Tv rfl])
   have A:Ext X (X.alloc (.cells #[E,G] 60)):=kx;clear H I J u v x K;go_wp2_with fail;refine(DX _ _ _ (aj.ext A) ⟨E,G⟩ m).mono ?_;rintro c Y ⟨rfl,aA,C⟩;have aQ:=C.size;simp only[Tp]at aQ;have y:=(L.ext A).kp C Zm;obtain⟨K,H,I,J,-⟩:=y.ca;obtain⟨u,v,x,-⟩:=y.fz;have⟨aa,ak,ah⟩:=jB y aA ((ag.trans A.any).trans C);clear aA C A y;cases j:pick p ⟨E,G⟩ m with
   |none=>
    have s:Zz (call p k n m=(M.qw,3)):=Zy (by rw[r.o,j]);clear j;simp only[Ve,VX,qw];go_wp2_with fail;have b:=Kp.wX (D:=(·=w)) (w:=Y) rfl Tc "" Tc;have e:=aa.wX Tc "" Tc;refine Cv (iY Ag rfl w rfl (zT M.qw) (((hH.l7 e).ext (jw _)).ext (jw _)) rfl) rfl ?_;rw[s.o];exact⟨⟨_,rfl,.inr ⟨by simp,Y.heap.size+1,rfl,hZ.newAt _ _ Zl⟩⟩,((ak.kp b (fun k f c=>Zm)).ext (jw _)).ext (jw _),((ah.o.own b (fun k f=>Zm)).alloc _).alloc _⟩
   |some a=>
    have HX:=Zy (qK j);have s:Zz (call p k n m=if kT p k a.of.keeper (M.method p a)then(a,1)else(M.qw,4)):=Zy (by rw[r.o,j]);clear j;simp only[Vp,VW];obtain⟨W4,aB,i,S⟩:=nu Y #[a.of.keeper,a.of.name,a.at_] 78;obtain⟨aT,aU,aX,P⟩:=ll W4;obtain⟨-,r0,r1,r2,-⟩:=hZ.lC fun aR=>(S.ext (P.jv aR));have⟨Q,aM,aS,aF,N,aG,aJ⟩:=qA P aB i S (ak.ext i) (aa.ext i) (ah.trans i.any);clear H I J u v x K P aB i S;go_wp2_with fail;rw[<-aM.o];refine jW Q 10 [([0,1,2,3,4,5,6],7),([],8)] [9] ?_ ?_
    . exact jg
    refine lJ ?_;intro R d;go_wp2_with fail;refine(lH _ _ _ (N.ext jg) a HX).mono ?_;rintro c w5 ⟨⟨cs,V,rfl⟩,ax⟩;have B:=(jg:Ext W4 _).trans ax;have aK:=Zy V;obtain⟨a1,c1,a2,c2,a3,c3,rfl⟩:=V.form;clear V ax;go_wp2_with fail;refine kk Q d B ?_;clear d R;refine kN rfl fun R d=>?_;go_wp2_with fail;refine(uV (N.ext B) k a.of.keeper aK).mono ?_;rintro c Z ⟨rfl,ay⟩;have g:=B.trans ay;have z:=aG.ext g;obtain⟨K,H,I,J,-⟩:=z.ca;obtain⟨u,v,x,-⟩:=z.fz;have av:=aF.ext g;obtain⟨-,z0,z1,z2,-⟩:=av.ca;have⟨ae,au,ai,aI⟩:=jU z (N.ext g) (aJ.trans g.any) g;clear ay B z av r0 r1 r2 g;go_wp2_with fail;refine kk Q d aI ?_;clear d R;cases D:kT p k a.of.keeper (M.method p a)
    . have O:Zz (call p k n m=(M.qw,4)):=Zy (by rw[s.o,D];rfl);clear D;refine rC ?_;go_wp2_with fail;have b:=Kp.wX (D:=(·=w)) (w:=Z) rfl Tc "" Tc;have e:=ae.wX Tc "" Tc;refine Cv (iY Ag rfl w rfl (zT M.qw) ((hH.l7 e).ext (jw _)) rfl) rfl ?_;rw[O.o];exact⟨⟨_,rfl,.inr ⟨by simp,Z.heap.size,rfl,hZ.newAt _ _ Zl⟩⟩,(au.kp b (fun k f c=>Zm)).ext (jw _),(ai.o.own b (fun k f=>Zm)).alloc _⟩
    . have O:Zz (call p k n m=(a,1)):=Zy (by rw[s.o,D];rfl);clear D;refine rC ?_;go_wp2_with fail;have b:=Kp.wX (D:=(·=w)) (w:=Z) rfl a.of.keeper a.of.name a.at_;have e:=ae.wX a.of.keeper a.of.name a.at_;refine Cv (iY Ag rfl w rfl (zT a) (hH.l7 e) rfl) rfl ?_;rw[O.o];exact⟨⟨_,rfl,.inl ⟨rfl,rfl⟩⟩,au.kp b (fun k f c=>Zm),ai.o.own b (fun k f=>Zm)⟩
 . have af:=Zy aC;have HC:=Zy hc;clear aC hc;have r:Zz (call p k n m=(M.qw,aN)):=Zy (by rw[HK.o,Tt HC.o]);have aO:¬eb=w:=fun c=>by subst c;exact absurd (hZ.inj af.o L.o) Zn
   go_wp2_with fail;have b:=Kp.wX (D:=(·=w)) (w:=X) rfl Tc "" Tc;have e:=L.wX Tc "" Tc;refine Cv (iY Ag rfl w rfl (zT M.qw) ((hH.l7 e).ext (jw _)) rfl) rfl ?_;rw[r.o];exact⟨⟨_,rfl,.inr ⟨HC,eb,rfl,(af.kp b aO).ext (jw _)⟩⟩,(aj.kp b (fun k f c=>Zm)).ext (jw _),(ag.o.own b (fun k f=>Zm)).alloc _⟩
theorem Hx(fE:jd w I m cs)(hI:∀a,I a->a<w.heap.size):Calls prog 103 #[.agg cs.toArray] w fun d w'=>(∃bu,d=.returned (.agg bu.toArray)/\jd w' (fun a=>I a\/w.heap.size<=a) m bu)/\Ext w w':=by
 obtain⟨va,vc,vm,rfl,ha,hc,hm⟩:=fE;obtain⟨a1,c1,rfl,-,fq⟩:=ha.form;obtain⟨a2,c2,rfl,-,fw⟩:=hc.form;obtain⟨a3,c3,rfl,-,bP⟩:=hm.form;obtain⟨fO,fA,bS,bL⟩:=ha.cells One.SK Zn;obtain⟨fP,fB,bT,bM⟩:=hc.cells One.ins Zn;obtain⟨eZ,fC,bU,bN⟩:=hm.cells One.smap Zn;obtain⟨D,X⟩:=SS ((w.alloc (.cells #[m.name,.slice a1 m.args.length c1,m.ret.kind,m.ret.name,m.locals,m.stack,.slice a2 m.code.length c2,.slice a3 m.maps.length c3] 132)).alloc (.cells #["",(),Tc, "",Tc,Tc,(),()] 132));have bC:Ext w D:=by rw[X];exact kx
 have b1:hZ D w 132 #[m.name,.slice a1 m.args.length c1,m.ret.kind,m.ret.name,m.locals,m.stack,.slice a2 m.code.length c2,.slice a3 m.maps.length c3]:=by rw[X];exact(hZ.new _ _ _).ext kx
 have b2:hZ D (w+1) 132 #["",(),Tc, "",Tc,Tc,(),()]:=by rw[X];exact hZ.newAt _ _ Zl
 obtain⟨-,-,x,-⟩:=b1.ca;have⟨bg,aT,cz,cB,dE,dF,dG,dU,dV⟩:=sV X bC b1 b2 bL bM bN bS bT;have⟨dW,F⟩:=jf bU hI;clear X bC b1 b2 bL bM bN bS bT bU ha hc hm hI;go_enter func103,ntmps103;go_upto_region 1 with(fail);rw[<-bg.o];go_wp2_with fail;refine(QN (dE.ext aT) Zm).mono ?_;rintro d w1 ⟨⟨v1,rfl,aH⟩,S⟩;obtain⟨Z,y1,rfl⟩:=jA aH;have⟨dA,dX,aj,cK⟩:=jU (aT.trans S) aH (cz.ext S) (cB.ext S);have fo:=S.size;have bY:D.heap.size=w+2:=by rw[bg.o];simp
 have G:=Zy bY;obtain⟨j,-,q1,-,-,-,-,q6,-⟩:=aj.ca;have f1:=aj.frozen 1;clear S aH x bY;go_upto_region 2 with(fail);obtain⟨w2,af⟩:=SS (w1.setCell (w,1) (.slice Z m.args.length y1));have W:Kp (·=w) w1 w2:=by rw[af];exact nH
 have A:hZ w2 w 132 #[m.name,.slice Z m.args.length y1,m.ret.kind,m.ret.name,m.locals,m.stack,.slice a2 m.code.length c2,.slice a3 m.maps.length c3]:=by rw[af];exact aj.jy 1 _
 have fU:D.heap.size<=w1:=fo;have⟨dI,aP,cO,aU,dY⟩:=ni W A (cK.kp W Zm) (dA.own W fun bZ d=>Zm) (jb dX.o W fun e g b=>SX G.o);rw[<-af];clear af W A j q1 q6 f1;obtain⟨j,-,-,-,-,-,-,q6,-⟩:=aP.ca;go_wp2_with fail;refine(QM (dF.ext aU) Zm).mono ?_;rintro d w3 ⟨⟨v2,rfl,aI⟩,H⟩;obtain⟨x2,y2,rfl⟩:=jA aI;have⟨eB,ak,cZ,dZ,dB⟩:=ni aI (aP.ext H) (cO.ext H) (jb dY H fun _ _ _ c=>c) (aU.trans H);have fZ:=H.size;clear H aI j q6;obtain⟨j,-,-,-,-,-,-,q6,q7,-⟩:=ak.ca;have f6:=ak.frozen 6;go_upto_region 3 with(fail);obtain⟨t,ag⟩:=SS (w3.setCell (w,6) (.slice x2 m.code.length y2));have J:Kp (·=w) w3 t:=by rw[ag];exact nH
 have bG:hZ t w 132 #[m.name,.slice Z m.args.length y1,m.ret.kind,m.ret.name,m.locals,m.stack,.slice x2 m.code.length y2,.slice a3 m.maps.length c3]:=by rw[ag];exact ak.jy 6 _
 have fV:=dI.size;have⟨dJ,aQ,df,aV,aX,aY⟩:=nE J bG (cZ.kp J Zm) (dB.own J fun bZ d=>Zm) (jb dZ.o J fun e g b=>SX G.o) (jb eB.o J fun e g b=>SX G.o);rw[<-ag];clear ag J bG j q6 q7 f6;obtain⟨j,-,-,-,-,-,-,-,q7,-⟩:=aQ.ca;go_wp2_with fail;refine(QO (dG.ext aV) Zm).mono ?_;rintro d w5 ⟨⟨v3,rfl,aJ⟩,y⟩;obtain⟨q,u,rfl⟩:=jA aJ;have⟨eH,au,dh,ed,eD,dC⟩:=nE aJ (aQ.ext y) (df.ext y) (jb aX y fun _ _ _ c=>c) (jb aY y fun _ _ _ c=>c) (aV.trans y);have gm:=y.size;have fI:=dJ.size;clear y aJ j q7;obtain⟨j,-,-,-,-,-,-,-,q7,-⟩:=au.ca;have f7:=au.frozen 7;go_upto_region 4 with(fail);obtain⟨O,ah⟩:=SS (w5.setCell (w,7) (.slice q m.maps.length u));have K:Kp (·=w) w5 O:=by rw[ah];exact nH
 have bH:hZ O w 132 #[m.name,.slice Z m.args.length y1,m.ret.kind,m.ret.name,m.locals,m.stack,.slice x2 m.code.length y2,.slice q m.maps.length u]:=by rw[ah];exact au.jy 7 _
 have⟨av,di,aW⟩:=jB bH (dh.kp K Zm) (dC.own K fun bZ d=>Zm);have z0:=G.o;have⟨ek,eF⟩:=jf (jb ed K fun e g b=>Zm) (jb eD.o K fun e g b=>Zm);have dL:=Zy fun e g=>(aX.lt e g).2;have dM:=Zy fun e g=>(aY.lt e g).2;have dP:Zz (kv 137 3 kM O (fun a=>I a\/(w.heap.size+2<=a/\q.map Addr.block≠some a)) t (.slice q m.maps.length u) eZ m.maps):=Zy ⟨jb eH K fun e g b=>Zm,fC,dW.o.keep kM.stays (Ext.same aW.o) fun a b=>.inl b⟩;have i:Zz (w.heap.size+2<=(t:Nat)):=Zy Zm;rw[<-ah];clear ah K bH j q7 f7 z0;obtain⟨j,-,-,-,-,-,-,-,q7,-⟩:=av.ca;go_wp2_with fail;clear q7 j;go_loopw [20] (fun aO wr=>∃(h:Nat) (ax:List (List Value)),h<=m.maps.length/\aO=.int .i64 h/\kv 137 3 kM wr (fun a=>I a\/(w.heap.size+2<=a/\q.map Addr.block≠some a)) t (.slice q m.maps.length u) ax m.maps/\Kp (fun a=>(Value.slice q m.maps.length u).ownBlock=some a) O wr) (fun aO _=>m.maps.length - (intOf aO).toNat)
 case atStart=>exact⟨0,_,SV _,rfl,dP,Kp.rr⟩
 case round =>
  obtain⟨h,ax,hq,rfl,k,p⟩:=hrel;have⟨HM,HK⟩:=jf k p;by_cases fD:h<m.maps.length
  . obtain⟨e,cg,d,g,bO,fQ⟩:=jT k.own Zm;cases d;obtain⟨c,hx⟩:=get_some fD;obtain⟨bq,bK,-,⟨vl,vs,rfl,aK,aL⟩,aF⟩:=k.get hx;obtain⟨p1,p2,rfl,-,fG⟩:=aK.form;obtain⟨L,N,rfl,-,fH⟩:=aL.form;obtain⟨j0,j1,j2⟩:=aF.three;have bB:w≠e:=SX i.o
    have nB:¬(Value.slice (some ⟨e,0,none⟩) m.maps.length u).ownBlock=some w.heap.size:=fun d=>by cases d;exact bB rfl
    obtain⟨P,bX,z,b4⟩:=nu wr #[c.at_,.slice p1 c.locals.length p2,.slice L c.stack.length N] 137;have⟨aR,dQ,eQ,bf,eX,dn,dx,R,HX⟩:=sV ((av.kp p nB).ext z) (k.ext kM.stays z) (aK.ext kF.stays z) (aL.ext kF.stays z) bX b4 (aF.ext z) z hx;have aS:=Zy bK;have fT:e<wr:=bO;obtain⟨eY,fe,fF,o⟩:=ll P;obtain⟨-,-,-,-,-,-,-,-,r7,-⟩:=hZ.lC fun E=>aR.ext (o.jv E);obtain⟨-,-,k1,-⟩:=hZ.lC fun E=>b4.ext (o.jv E);have v:=Zy o;clear k p aK aL aF bX b4 z hx bK o bO;go_upto_region 7 with(fail);rw[<-eX.o];clear j0 j1 j2;refine jW v 6 [([0,1,2,3,4],5)] [] ?_ ?_
    . exact jg
    refine lJ ?_;intro K2 T;go_wp2_with fail;refine(qX ((eQ.toFlat (enc:=mg) (fun _ _ _ _ f=>f) (fun _=>rfl) tX).ext jg) Zm).mono ?_;rintro d w8 ⟨⟨v',rfl,C⟩,bE⟩;obtain⟨r,s,rfl⟩:=jA C;have n:=Zy (((Kp.refl _ P).drew:Ext P _).trans bE);have eO:=Zy C;have aD:=dQ.ext kM.stays n;obtain⟨-,k8,k9⟩:=(dx.ext n).three;have ay:=aD.own.frozenAt (h*3+1);have az:=jc k8;have dR:=Zy aD;clear bE C aD;go_wp2_with fail;refine kk v T n ?_;clear T K2;clear v r7 k1;refine ku ?_;go_upto_region 8 with(fail);obtain⟨l,aN⟩:=SS (w8.setCell (e,h*3+1) (.slice r c.locals.length s));have bR:kM (w8.setCell (e,h*3+1) (.slice r c.locals.length s)) (fun a=>I a\/(w.heap.size+2<=a/\Option.map Addr.block (some e:Option Addr)≠some a)) c ([.int .i64 c.at_,.slice p1 c.locals.length p2,.slice L c.stack.length N].set 1 (.slice r c.locals.length s)):=by
     have V:Kp (·=e) w8 (w8.setCell (e,h*3+1) (.slice r c.locals.length s)):=nH;refine⟨_,_,rfl,((SliceOf.lS (I:=fun a=>P.heap.size<=a) mg eO rfl rfl (fun _ _=>rfl) (fun _ _=>rfl) (fun _ b _=>b) fG).keep kF.stays (V.same fun a b d=>?_) fun a b=>.inr ?_),(bf.ext kF.stays n).keep kF.stays (V.same fun a b d=>?_) fun _ f=>f⟩
     . have:P.heap.size<=a:=b;have:=R.size;omega
     . have:P.heap.size<=a:=b;have:=R.size;have:=i.o;simp;omega
     . subst d;rcases b with b|b
       . have:=F.o _ b;have:=i.o;omega
       . simp at b
    obtain⟨U,B⟩:=dR.set1 rfl kM.stays (fun a b d=>by
     subst d;rcases b with b|b
     . have:=F.o _ b;have:=i.o;omega
     . simp at b) HX.o aS.o Zn bR fun _ f=>f
    rw[<-aN]at U B;have aa:(ax.set h ([.int .i64 c.at_,.slice p1 c.locals.length p2,.slice L c.stack.length N].set 1 (.slice r c.locals.length s)))[h]?=some [.int .i64 c.at_,.slice r c.locals.length s,.slice L c.stack.length N]:=by
     rw[TJ (Tw.1 aS.o).1];rfl
    have bA:=(aR.ext n).kp B bB;have bI:=(dn.ext n).kp B Zm;have⟨dS,dw,dK,bn⟩:=jU U aa ((HK.trans ((R.trans n).any)).trans (B.weak fun a _ d=>by rw[d];rfl)) (TL n.size B.size);have bJ:hH l e (h*3) [c.at_,.slice r c.locals.length s,.slice L c.stack.length N]:=by
     obtain⟨bq,x,-,-,f⟩:=U.get HX;rw[aa]at x;cases x;exact f
    have bW:=(bf.ext kF.stays n).keep kF.stays (B.same fun a b d=>by
     subst d;rcases b with b|b
     . have:=F.o _ b;have:=i.o;omega
     . simp at b) fun _ f=>f
    have bV:SliceOf 2 kF l (fun a=>I a\/(w.heap.size+2<=a/\Option.map Addr.block (some e:Option Addr)≠some a)) (.slice r c.locals.length s) c.locals:=by
     obtain⟨bq,x,-,⟨vl,vs,e2,h1,-⟩,-⟩:=U.get HX;rw[aa]at x;cases x;simp only[TH,UF,V8]at e2;rw[e2.1];exact h1
    have⟨eU,eT,dz⟩:=jB bW bV bJ;obtain⟨eY,fe,fF,o⟩:=ll l;obtain⟨-,-,-,-,-,-,-,-,r7,-⟩:=hZ.lC fun E=>bA.ext (o.jv E);obtain⟨-,-,-,k2,-⟩:=hZ.lC fun E=>bI.ext (o.jv E);have v:=Zy o;rw[<-aN];clear U B aa bR bA bI aN bJ bW bV o k8 k9 ay az;refine jW v 6 [([0,1,2,3,4],5)] [] ?_ ?_
    . exact jg
    refine lJ ?_;intro K2 T;go_wp2_with fail;refine(qX ((eU.toFlat (enc:=mg) (fun _ _ _ _ f=>f) (fun _=>rfl) tX).ext jg) Zm).mono ?_;rintro d ai ⟨⟨v',rfl,C⟩,bD⟩;obtain⟨x6,y6,rfl⟩:=jA C;have Q:=Zy (((Kp.refl _ l).drew:Ext l _).trans bD);have eP:=Zy C;have aB:=dS.ext kM.stays Q;obtain⟨-,k8,k9⟩:=(dz.ext Q).three;have ay:=aB.own.frozenAt (h*3+2);have az:=jc k9;have dN:=Zy aB;clear bD C aB;go_wp2_with fail;refine kk v T Q ?_;clear T K2;clear v r7 k2;refine ku ?_;go_upto_region 9 with(fail);obtain⟨cu,aM⟩:=SS (ai.setCell (e,h*3+2) (.slice x6 c.stack.length y6));have bQ:kM (ai.setCell (e,h*3+2) (.slice x6 c.stack.length y6)) (fun a=>I a\/(w.heap.size+2<=a/\Option.map Addr.block (some e:Option Addr)≠some a)) c ([.int .i64 c.at_,.slice r c.locals.length s,.slice L c.stack.length N].set 2 (.slice x6 c.stack.length y6)):=by
     have V:Kp (·=e) ai (ai.setCell (e,h*3+2) (.slice x6 c.stack.length y6)):=nH;refine⟨_,_,rfl,(eT.ext kF.stays Q).keep kF.stays (V.same fun a b d=>?_) fun _ f=>f,((SliceOf.lS (I:=fun a=>l.heap.size<=a) mg eP rfl rfl (fun _ _=>rfl) (fun _ _=>rfl) (fun _ b _=>b) fH).keep kF.stays (V.same fun a b d=>?_) fun a b=>.inr ?_)⟩
     . subst d;rcases b with b|b
       . have:=F.o _ b;have:=i.o;omega
       . simp at b
     . have:l.heap.size<=a:=b;have:=bn.o;have:=R.size;omega
     . have:l.heap.size<=a:=b;have:=bn.o;have:=R.size;have:=i.o;simp;omega
    obtain⟨aC,aG⟩:=dN.set1 rfl kM.stays (fun a b d=>by
     subst d;rcases b with b|b
     . have:=F.o _ b;have:=i.o;omega
     . simp at b) HX.o dw.o Zn bQ fun _ f=>f
    rw[<-aM]at aC aG;have⟨dO,dH⟩:=jf aC ((dK.trans Q.any).trans (aG.weak fun a _ d=>by rw[d];rfl));rw[<-aM];clear aC aG bQ aM k8 k9 ay az;go_wp2_with fail;exact⟨⟨h+1,_,Zm,by go_num,dO.o,dH.o⟩,by simp[intOf];omega⟩
  . obtain rfl:h=m.maps.length:=Zm
    have fJ:=Zy ((k.keep (J:=fun a=>I a\/w.heap.size<=a) kM.stays (Kp.refl (fun _=>False) _) (fun _ _ c=>c) (fun _ _ c=>c) fun a b=>b.imp id fun f=>SX f.1).slice Zn (fun a b _=>.inr (SX i.o)) bP);have Y:∀a,a<t.heap.size->¬(Value.slice q m.maps.length u).ownBlock=some a:=fun a b d=>SX ((k.own.lt a d).1)
    have bF:=av.kp p (Y _ (SX i.o));have A:=di.kp p (Y _ (SX G.o));have⟨dD,eu,eG,aZ⟩:=jU (aW.own p fun a d=>SY ((k.own.lt a d).1) i.o) (jb ek.o p fun e g _=>Y e (dL.o e g)) (jb eF.o p fun e g _=>Y e (dM.o e g)) k;obtain⟨-,q0,q1,q2,q3,q4,q5,q6,q7,-⟩:=bF.ca;obtain⟨fM,o0,o1,o2,o3,o4,o5,o6,o7,-⟩:=A.ca;obtain⟨f0,f1,f2,f3,f4,f5,f6,f7,-⟩:=A.fz;have dm:=Zy A;clear k p bF A Y;go_wp2_with fail;obtain⟨fK,hW,fu,ae⟩:=SI dm m.name (.slice Z m.args.length y1) m.ret.kind m.ret.name m.locals m.stack (.slice x2 m.code.length y2) (.slice q m.maps.length u);rw[<-hW];have aA:=dD.own ae fun a d=>Zm
    have z0:=G.o;refine Cv (jE Dg rfl (w+1) rfl _ (hH.l7 fu) rfl) rfl ?_;have fI:=i.o;exact⟨⟨_,rfl,_,_,_,rfl,
     SliceOf.owned (jb eu ae fun e g b=>Zm) fA Zn (dU.o.keep nC.stays (Ext.same aA) fun a b=>.inl b) (fun a b _=>.inr Zm) fq,
     SliceOf.owned (jb eG ae fun e g b=>Zm) fB Zn (dV.o.keep uN.stays (Ext.same aA) fun a b=>.inl b) (fun a b _=>.inr Zm) fw,
     (aZ.keep (J:=fun a=>I a\/w.heap.size<=a) kM.stays ae (fun e g d=>SX ((aZ.own.lt e g).1)) (fun a b d=>by
      rcases b with b|b
      . have:=F.o _ b;omega
      . have:=b.1;omega) fun a b=>b.imp id fun f=>SX f.1).slice Zn (fun a b _=>.inr Zm) bP⟩,aA⟩
theorem MV:yH 47 4:=⟨_,underlying47,by kernel_rfl⟩
theorem R8(a:D b)(c d e f:Value):Kp D w ((((w.setCell b c).setCell (b,1) d).setCell (b,2) e).setCell (b,3) f):=
 (((((Kp.refl D w).setCell (p:=⟨b,0,none⟩) (fun _=>a) c).setCell (p:=⟨b,1,none⟩) (fun _=>a) d).setCell (p:=⟨b,2,none⟩) (fun _=>a) e).setCell (p:=⟨b,3,none⟩) (fun _=>a) f)
theorem R9(f:hZ w b t #[u0,u1,u2,u3]){a c d e:Value}:hZ ((((w.setCell b a).setCell (b,1) c).setCell (b,2) d).setCell (b,3) e) b t #[a,c,d,e]:=by
 have g:hZ (w.setCell b a) b t #[a,u1,u2,u3]:=f.jy 0 a;have h:hZ ((w.setCell b a).setCell (b,1) c) b t #[a,c,u2,u3]:=g.jy 1 c;have i:hZ (((w.setCell b a).setCell (b,1) c).setCell (b,2) d) b t #[a,c,d,u3]:=h.jy 2 d;exact i.jy 3 e
theorem Di(I:Nat->Prop){cs:List Value}{m:Class}(A:jh w I m cs)(hI:∀a,I a->a<w.heap.size):Calls prog 60 #[.agg cs.toArray] w fun c w'=>(∃V,c=.returned (.agg V.toArray)/\jh w' (fun a=>I a\/w.heap.size<=a) m V)/\Ext w w':=by
 obtain⟨va,vm,rfl,Y,hm⟩:=A;obtain⟨a1,c1,rfl,-,dh⟩:=Y.form;obtain⟨S,U,rfl,-,dx⟩:=hm.form;obtain⟨dE,dm,aQ,aM⟩:=Y.cells One.field Zn;obtain⟨bV,dn,aR,aN⟩:=hm.cells One.Re Zn;obtain⟨p,B⟩:=SS ((w.alloc (.cells #[m.name,m.jl,.slice a1 m.fields.length c1,.slice S m.methods.length U] 47)).alloc (.cells #["", "",(),()] 47));have aC:Ext w p:=by rw[B];exact kx
 have T:hZ p w 47 #[m.name,m.jl,.slice a1 m.fields.length c1,.slice S m.methods.length U]:=by rw[B];exact(hZ.new _ _ _).ext kx
 have b2:hZ p (w+1) 47 #["", "",(),()]:=by rw[B];exact hZ.newAt _ _ Zl
 obtain⟨-,-,-,e1,-⟩:=T.ca;have⟨aA,ak,aU,aW,bC,bD,bM,bN,HI⟩:=sV B aC T b2 aM aN aQ aR hI;clear B aC T b2 aM aN aQ aR Y hm hI;go_enter func60,ntmps60;go_upto_region 1 with(fail);rw[<-aA.o];go_wp2_with fail;refine(QL (bC.ext ak) Zm).mono ?_;rintro c w1 ⟨⟨v1,rfl,af⟩,x⟩;obtain⟨C,D,rfl⟩:=jA af;have⟨bu,bO,N,aX⟩:=jU (ak.trans x) af (aU.ext x) (aW.ext x);have df:=x.size;have aT:p.heap.size=w+2:=by rw[aA.o];simp
 have R:=Zy aT;obtain⟨o,-,-,q2,q3,-⟩:=N.ca;have f2:=N.frozen 2;clear x af e1 aT;go_upto_region 2 with(fail);obtain⟨l,J⟩:=SS (w1.setCell (w,2) (.slice C m.fields.length D));have y:Kp (·=w) w1 l:=by rw[J];exact nH
 have aJ:hZ l w 47 #[m.name,m.jl,.slice C m.fields.length D,.slice S m.methods.length U]:=by rw[J];exact N.jy 2 _
 have dJ:p.heap.size<=w1:=df;have⟨bF,aj,aY,au,ay⟩:=ni y aJ (aX.kp y Zm) (bu.own y fun dA c=>Zm) (jb bO.o y fun d f b=>SX R.o);rw[<-J];clear J y aJ o q2 q3 f2;obtain⟨o,-,-,-,q3,-⟩:=aj.ca;go_wp2_with fail;refine(QP (bD.ext au) Zm).mono ?_;rintro c w5 ⟨⟨v3,rfl,ag⟩,r⟩;obtain⟨h,i,rfl⟩:=jA ag;have⟨bS,O,aZ,bP,bA⟩:=ni ag (aj.ext r) (aY.ext r) (jb ay r fun _ _ _ g=>g) (au.trans r);have dK:=r.size;have dz:=bF.size;clear r ag o q3;obtain⟨o,-,-,-,q3,-⟩:=O.ca;have f3:=O.frozen 3;go_upto_region 3 with(fail);obtain⟨t,K⟩:=SS (w5.setCell (w,3) (.slice h m.methods.length i));have z:Kp (·=w) w5 t:=by rw[K];exact nH
 have aK:hZ t w 47 #[m.name,m.jl,.slice C m.fields.length D,.slice h m.methods.length i]:=by rw[K];exact O.jy 3 _
 have⟨P,bf,av⟩:=jB aK (aZ.kp z Zm) (bA.own z fun dA c=>Zm);have z0:=R.o;have bQ:=Zy (jb bP z fun d f b=>Zm);have bG:=Zy fun d f=>(ay.lt d f).2;have bI:Zz (kv 132 8 jd t (fun a=>I a\/(w.heap.size+2<=a/\h.map Addr.block≠some a)) l (.slice h m.methods.length i) bV m.methods):=Zy ⟨jb bS z fun d f b=>Zm,dn,bN.o.keep jd.stays (Ext.same av.o) fun a b=>.inl b⟩;have n:Zz (w.heap.size+2<=(l:Nat)):=Zy Zm;rw[<-K];clear K z aK o q3 f3 z0;obtain⟨o,-,-,-,q3,-⟩:=P.ca;go_wp2_with fail;clear q3 o;go_loopw [16] (fun ah wr=>∃(q:Nat) (aB:List (List Value)),q<=m.methods.length/\ah=.int .i64 q/\kv 132 8 jd wr (fun a=>I a\/(w.heap.size+2<=a/\h.map Addr.block≠some a)) l (.slice h m.methods.length i) aB m.methods/\Kp (fun a=>(Value.slice h m.methods.length i).ownBlock=some a) t wr) (fun ah _=>m.methods.length - (intOf ah).toNat)
 case atStart=>exact⟨0,_,SV _,rfl,bI,Kp.rr⟩
 case round =>
  obtain⟨q,aB,hq,rfl,j,k⟩:=hrel;have⟨HM,HK⟩:=jf j k;by_cases dw:q<m.methods.length
  . obtain⟨d,cg,c,f,aO,dG⟩:=jT j.own Zm;cases c;obtain⟨g,hx⟩:=get_some dw;obtain⟨dD,aL,-,A,Z⟩:=j.get hx;obtain⟨p1,p2,p3,p4,p5,p6,rfl⟩:=A.form;obtain⟨j0,j1,j2,j3,j4,j5,j6,j7⟩:=Z.eight;have cZ:w≠d:=SX n.o
    have nB:¬(Value.slice (some ⟨d,0,none⟩) m.methods.length i).ownBlock=some w.heap.size:=fun c=>by cases c;exact cZ rfl
    obtain⟨u,aS,s,b4⟩:=nu wr #[g.name,.slice p1 g.args.length p2,g.ret.kind,g.ret.name,g.locals,g.stack,.slice p3 g.code.length p4,.slice p5 g.maps.length p6] 132;have⟨aV,bJ,bL,bU,bn,ax,HX,bq⟩:=wL ((P.kp k nB).ext s) (j.ext jd.stays s) (jM.ext jd.stays s A) aS (Z.ext s) s hx aL;have dH:d<wr:=aO;obtain⟨dB,dF,dI,F⟩:=ll u;obtain⟨-,-,-,-,r3,-⟩:=hZ.lC fun ai=>aV.ext (F.jv ai);obtain⟨-,k0,k1,k2,k3,k4,k5,k6,k7,-⟩:=hZ.lC fun ai=>b4.ext (F.jv ai);have Q:=Zy F;clear j k A Z aS b4 s hx aL F aO;go_upto_region 6 with(fail);rw[<-bU.o];clear j0 j1 j2 j3 j4 j5 j6 j7;refine jW Q 5 [([0,1,2,3],4)] [] ?_ ?_
    . exact jg
    refine lJ ?_;intro K2 aG;go_wp2_with fail;refine(Hx (jd.inside (jM.ext jd.stays jg bL)) (fun a v=>v.2)).mono ?_;rintro c w8 ⟨⟨V,rfl,ae⟩,aD⟩;obtain⟨o1,o2,o3,o4,o5,o6,rfl⟩:=ae.form;have E:=Zy (((Kp.refl _ u).drew:Ext u _).trans aD);have bT:=Zy ae;have e:=bJ.ext jd.stays E;obtain⟨h0,h1,h2,h3,h4,h5,h6,h7⟩:=(bn.ext E).eight;have bW:=e.own.frozenAt (q*8);have bX:=e.own.frozenAt (q*8+1);have bY:=e.own.frozenAt (q*8+2);have bZ:=e.own.frozenAt (q*8+3);have cu:=e.own.frozenAt (q*8+4);have cz:=e.own.frozenAt (q*8+5);have cB:=e.own.frozenAt (q*8+6);have cK:=e.own.frozenAt (q*8+7);have cO:=jc h1;have bK:=Zy e;clear aD ae e;go_wp2_with fail;refine kk Q aG E ?_;clear aG K2;clear Q r3 k0 k1 k2 k3 k4 k5 k6 k7;refine ku ?_;go_upto_region 7 with(fail);have W:∀a,(I a\/(w.heap.size+2<=a/\Option.map Addr.block (some d:Option Addr)≠some a))->a≠d:=fun a b c=>by
     subst c;rcases b with b|b
     . have:=HI.o _ b;have:=n.o;omega
     . simp at b
    have dL:(wr:Nat)<=u:=ax.size;have hp:=bK.SE (J:=fun a=>I a\/(w.heap.size+2<=a/\Option.map Addr.block (some d:Option Addr)≠some a)) rfl jd.stays W HX bq
     (jd.stays _ _ _ _ _ _ ((Qr (D:=(·=d)) (q:=q) w8 rfl _ _ _ _ _ _ _ _).same fun a b c=>by
      rcases b with b|b
      . exact W a b.1 c
      . have:u.heap.size<=a:=b;omega) (fun a b=>by
      rcases b with b|b
      . exact b.1
      . have:u.heap.size<=a:=b;have:=n.o;exact .inr ⟨Zm,by simp;omega⟩) bT.o) fun _ v=>v
    obtain⟨aH,aP⟩:=hp;have⟨bH,bE⟩:=jf aH ((HK.trans (ax.trans E).any).trans (aP.weak (D':=fun a=>(Value.slice (some ⟨d,0,none⟩:Option Addr) m.methods.length i).ownBlock=some a) fun a _ c=>by rw[c];rfl));clear aH aP h0 h1 h2 h3 h4 h5 h6 h7 bW bX bY bZ cu cz cB cK cO W;go_wp2_with fail;exact⟨⟨q+1,_,Zm,by go_num,bH.o,bE.o⟩,by simp[intOf];omega⟩
  . obtain rfl:q=m.methods.length:=Zm
    have L:∀a,a<l.heap.size->¬(Value.slice h m.methods.length i).ownBlock=some a:=fun a b c=>SX ((j.own.lt a c).1)
    have aI:=P.kp k (L _ (SX n.o));have H:=bf.kp k (L _ (SX n.o));have⟨bB,bR,az⟩:=jB (av.own k fun a c=>SY ((j.own.lt a c).1) n.o) (jb bQ.o k fun d f _=>L d (bG.o d f)) j;obtain⟨-,q0,q1,q2,q3,-⟩:=aI.ca;obtain⟨dC,o0,o1,o2,o3,-⟩:=H.ca;obtain⟨f0,f1,f2,f3,-⟩:=H.fz;have bg:=Zy H;clear j k aI H L;go_wp2_with fail;obtain⟨G,X⟩:=SS (((((wr.setCell ⟨w+1,0,none⟩ m.name).setCell ⟨w+1,1,none⟩ m.jl).setCell ⟨w+1,2,none⟩ (.slice C m.fields.length D)).setCell ⟨w+1,3,none⟩ (.slice h m.methods.length i)));have aa:Kp (·=w+1) wr G:=by rw[X];exact R8 (D:=(·=w+1)) rfl _ _ _ _
    have di:hZ G (w+1) 47 #[m.name,m.jl,.slice C m.fields.length D,.slice h m.methods.length i]:=by rw[X];exact R9 bg
    rw[<-X];have aF:=bB.own aa fun a c=>Zm
    have z0:=R.o;refine Cv (jE MV rfl (w+1) rfl _ (hH.l7 di) rfl) rfl ?_;have dz:=n.o;exact⟨⟨_,rfl,_,_,rfl,
     SliceOf.owned (jb bR aa fun d f b=>Zm) dm Zn (bM.o.keep lv.stays (Ext.same aF) fun a b=>.inl b) (fun a b _=>.inr Zm) dh,
     (az.keep (J:=fun a=>I a\/w.heap.size<=a) jd.stays aa (fun d f c=>SX ((az.own.lt d f).1)) (fun a b c=>by
      rcases b with b|b
      . have:=HI.o _ b;omega
      . have:=b.1;omega) fun a b=>b.imp id fun v=>SX v.1).slice Zn (fun a b _=>.inr Zm) dx⟩,aF⟩
theorem Q5:Elem 23 145 2:=kP (z:=.agg #[(),()]) (bytes:=48) underlying23 Zo rfl Zn Zn
theorem pR:yH 25 1:=⟨_,underlying25,by kernel_rfl⟩
theorem EI{l:List α}{x:α}(a:l[q]?=some x):l.take q++[x]=l.take (q+1):=by
 rw[TQ,a];rfl
theorem kD.free{R:lZ α}(hR:∀w I a J c b,R w I c b->R a J c b){w a:World}{I J:Nat->Prop}:∀{xs:List α} {css:List (List Value)},kD R w I xs css->kD R a J xs css
 |[],[],_=>trivial
 |_::_,_::_,h=>⟨hR _ _ _ _ _ _ h.1,kD.free hR h.2⟩
 |[],_::_,h=>h.elim
 |_::_,[],h=>h.elim
def Ac(n:Int):List PanicEntry:=[{v:=.iface 334 (.agg #[.int .i64 n]),recovered:=false}]
theorem mK(a:Nat)(n:Int)(e:w.cell? (a,10)=some (.int .i64 n))(h0:0<=n)(d:n<=1000):Calls prog 229 #[some a] w fun b c=>b=.panicked (Ac (n+1))/\w=c:=by
 go_enter func229,ntmps229;go_wp2;exact⟨rfl,rfl,rfl⟩
theorem BA(g:ji w l p)(k:Int)(a b:Tag):Calls prog 247 #[some l.L,k,.agg #[a.kind,a.name],.agg #[b.kind,b.name]] w fun u w'=>u=.returned (.bool (may p k a b))/\Ext w w':=by
 obtain⟨e,c⟩:=a;obtain⟨h,d⟩:=b;have C:=Zy g;clear g;by_cases j:h=0
 . subst j;have f:Zz (may p k ⟨e,c⟩ ⟨0,d⟩=true):=Zy (by unfold may;rw[Tv (.inl rfl)]);go_enter func247,ntmps247;go_wp2;go_ret;exact⟨hQ f.symm,kx⟩
 by_cases z:e=h/\c=d
 . obtain⟨rfl,rfl⟩:=z;have f:Zz (may p k ⟨e,c⟩ ⟨e,c⟩=true):=Zy (by unfold may;rw[Tv (.inr rfl)]);have Z:=SF.2 j;clear j;go_enter func247,ntmps247;go_wp2;go_ret;exact⟨hQ f.symm,kx⟩
 have t:Zz (may p k ⟨e,c⟩ ⟨h,d⟩=if h≠2 then false else if e=3 then true else if e≠2 then false
  else decide ((find p k c).2=1)&&decide ((find p k d).2=1)&&under p (find p k c).1 (find p k d).1):=Zy (by
  unfold may;rw[Tt (by
   rintro(g|g)
   . exact j g
   . rw[Tag.lD]at g;exact z g)])
 have Z:=SF.2 j;have r:(e==h)=false\/(e=h/\(c.toList==d.toList)=false):=by
  rcases wT e h c d with⟨i,D⟩|⟨i,D,_⟩|⟨i,_⟩
  . exact absurd ⟨i,D⟩ z
  . exact .inr ⟨i,D⟩
  . exact .inl i
 clear j z;by_cases x:h=2
 . subst x;by_cases o:e=3
   . subst o;have f:Zz (may p k ⟨3,c⟩ ⟨2,d⟩=true):=Zy (by rw[t.o];rfl);clear r;go_enter func247,ntmps247;go_wp2;go_ret;exact⟨hQ f.symm,kx⟩
   by_cases n:e=2
   . subst n;have av:(c.toList==d.toList)=false:=by
      rcases r with g|g
      . exact absurd g Zn
      . exact g.2
     have f:Zz (may p k ⟨2,c⟩ ⟨2,d⟩=(decide ((find p k c).2=1)&&decide ((find p k d).2=1)&&under p (find p k c).1 (find p k d).1)):=Zy (by rw[t.o];rfl);clear r o;obtain⟨B,A⟩:=SS ((w.alloc (.cells #[.int .i64 2,c] 209)).alloc (.cells #[.int .i64 2,d] 209));have O:Ext w B:=by rw[A];exact kx
     have K:hZ B (w+1) 209 #[.int .i64 2,d]:=by rw[A];exact hZ.newAt _ _ Zl
     have⟨V,I⟩:=jf A O;clear A O;go_enter func247,ntmps247;go_wp2_with fail;rw[<-V.o];refine(mJ _ _ _ (C.ext I) k c).mono ?_;rintro u w1 ⟨rfl,E⟩;obtain⟨qz,q0,q1,-⟩:=(K.ext E).ca;have T:=Zy (I.trans E);clear E K;generalize find p k c=F1 at*;obtain⟨⟨G,H⟩,X⟩:=F1;simp only at*;obtain⟨w2,Q,v,L⟩:=nu w1 #[G,H] 60;have⟨W,J⟩:=jf Q (T.trans v);have aa:=v.je q0;have ae:=v.je q1;clear Q v;go_wp2_with fail;rw[<-W.o];clear q0 q1 qz;refine(mJ _ _ _ (C.ext J) k d).mono ?_;rintro u w3 ⟨rfl,F⟩;have N:=L.ext F;obtain⟨sz,s0,s1,-⟩:=N.ca;have s:=Zy (J.trans F);clear F L N aa ae;generalize find p k d=F2 at*;obtain⟨⟨R,S⟩,Y⟩:=F2;simp only at*;by_cases q:X=1
     . by_cases y:Y=1
       . subst q y;have m:Zz (may p k ⟨2,c⟩ ⟨2,d⟩=under p ⟨G,H⟩ ⟨R,S⟩):=Zy (by rw[f.o];rfl);go_wp2_with fail;refine(uW (C.ext (s.trans kx)) ⟨G,H⟩ ⟨R,S⟩).mono ?_;rintro u w4 ⟨rfl,P⟩;have U:=Zy ((s.alloc _).trans P);clear P;go_wp2;go_ret;exact⟨hQ m.symm,U⟩
       . have aj:=SF.2 y;subst q;have m:Zz (may p k ⟨2,c⟩ ⟨2,d⟩=false):=Zy (by rw[f.o];simp[y]);clear y;go_wp2;go_ret;exact⟨hQ m.symm,s.alloc _⟩
     . have ai:=SF.2 q;have m:Zz (may p k ⟨2,c⟩ ⟨2,d⟩=false):=Zy (by rw[f.o];simp[q]);clear q;go_wp2;go_ret;exact⟨hQ m.symm,s.alloc _⟩
   . have au:=SF.2 n;have af:=TI.2 n;have ag:=SF.2 o;have f:Zz (may p k ⟨e,c⟩ ⟨2,d⟩=false):=Zy (by rw[t.o];simp[n,o]);clear r n o;go_enter func247,ntmps247;go_wp2;go_ret;exact⟨hQ f.symm,kx⟩
 . have ah:=TI.2 x;have f:Zz (may p k ⟨e,c⟩ ⟨h,d⟩=false):=Zy (by rw[t.o,Tv x]);clear x;rcases r with i|⟨rfl,i⟩
   all_goals
    go_enter func247,ntmps247;go_wp2;go_ret;exact⟨hQ f.symm,kx⟩
structure uj where
 a1:Option Addr
 c1:Nat
 a2:Option Addr
 c2:Nat
 a3:Option Addr
 c3:Nat
def mF(m:M.Method)(t:uj):List Value:=[.string m.name,.slice t.a1 m.args.length t.c1,.int .i64 m.ret.kind,.string m.ret.name,.int .i64 m.locals,.int .i64 m.stack,.slice t.a2 m.code.length t.c2,.slice t.a3 m.maps.length t.c3]
def JN(L:Nat)(k:Int)(m:M.Method)(t:uj)(at_:Int)(vl vs:Value):Array Value:=
 #[.pointer (some ⟨L,0,none⟩),.int .i64 k,.string m.name,.slice t.a1 m.args.length t.c1,.int .i64 m.ret.kind,.string m.ret.name,.int .i64 m.locals,.int .i64 m.stack,.slice t.a2 m.code.length t.c2,.slice t.a3 m.maps.length t.c3,.int .i64 at_,vl,vs]
structure jF(w:World)(l:jk)(p:iZ)(B kb:Nat)(k:Int)(m:M.Method)(t:uj)(at_:Int)(s:oV)(vl vs:Value):Prop where
 kr:ji w l p
 hB:l.L<B
 hk:B<=kb
 ml:jd w (· <l.O) m (mF m t)
 mi:Kv m
 blk:hZ w kb 330 (JN l.L k m t at_ vl vs)
 loc:w.ownsRow B 209 2 vl s.locals.length (s.locals.flatMap mg)
 kH:w.ownsRow B 209 2 vs s.stack.length (s.stack.flatMap mg)
 ne:∀g,vl.ownBlock=some g->vs.ownBlock≠some g
 JL:0<=at_/\at_<=100
 Qs:(s.stack.length:Int)<=m.stack
 NY:(s.locals.length:Int)=m.locals
def qo(l:jk)(kb:Nat)(vl vs:Value)(b:Nat):Prop:=b=l.D\/b=kb\/vl.ownBlock=some b\/vs.ownBlock=some b
def jV(n:Nat)(vl vs vl' vs':Value):Prop:=∀g,(vl'.ownBlock=some g\/vs'.ownBlock=some g)->vl.ownBlock=some g\/vs.ownBlock=some g\/n<=g
theorem jV.refl(n:Nat)(b vs:Value):jV n b vs b vs:=fun _ a=>a.elim .inl fun a=>.inr (.inl a)
theorem jV.trans{j: Nat}{a b c e: Value}(i:jV n a b c d)(k:jV j c d e f)(m:n<=j):jV n a b e f:=fun h l=>by
 rcases k h l with g|g|g
 . exact i h (.inl g)
 . exact i h (.inr g)
 . exact .inr (.inr Zm)
theorem jV.le{f: Nat}{a b c: Value}(h:jV f a b c d)(j:n<=f):jV n a b c d:=fun g i=>by
 rcases h g i with e|e|e
 . exact .inl e
 . exact .inr (.inl e)
 . exact .inr (.inr Zm)
theorem Kp.look{i:Nat}{j n vs': Value}{a b: World}(e:Kp (qo l i j vs) w a)(f:Kp (qo l i n vs') a b)(k:jV w j vs n vs'):Kp (qo l i j vs) w b:=
 ⟨f.os.trans e.os,f.tape.trans e.tape,f.output.trans e.output,TL e.size f.size,
  fun h g m=>(f.block h (Tx g e.size) (fun d=>m (by
   rcases d with d|d|d|d
   . exact .inl d
   . exact .inr (.inl d)
   . rcases k h (.inl d)with c|c|c
     . exact .inr (.inr (.inl c))
     . exact .inr (.inr (.inr c))
     . exact absurd g (Wu.2 c)
   . rcases k h (.inr d)with c|c|c
     . exact .inr (.inr (.inl c))
     . exact .inr (.inr (.inr c))
     . exact absurd g (Wu.2 c)))).trans (e.block h g m)⟩
theorem BI{k: Nat}(b:w.ownsRow base e k (g,n,c) n xs){j:Nat}(i:j<=n):w.ownsRow base e k (g,j,c) j (xs.take (j*k)):=by
 have l:j*k<=n*k:=VC _ i;refine⟨by rw[Tj,b.1];omega,?_⟩;rcases b.2 with⟨a,_⟩|⟨r,q,d,a,h,f,s,m,o,p⟩
 . cases a
 . cases a;refine .inr ⟨g,c,d,rfl,h,f,Zm,m,o,?_⟩;rw[<-p,List.take_take,U5 l]
theorem FM{enc:α->List Value}{k:Nat}(a:∀x,(enc x).length=k)(st:List α)(x:α)(j:Nat):((st++[x]).flatMap enc)[st.length*k+j]?=(enc x)[j]?:=by
 rw[Uz,TS (by rw[ou a];omega),ou a,Nat.add_sub_cancel_left];simp
theorem Bt{enc:α->List Value}{k:Nat}(a:∀b,(enc b).length=k)(st r:List α):((st++r).flatMap enc).take (st.length*k)=st.flatMap enc:=by
 rw[Uz,<-ou a st,List.take_left]
section
variable {w w':World} {l:jk} {p:M.iZ} {B kb:Nat} {k:Int} {m:M.Method} {t:uj} {at_:Int} {s:M.oV} {vl vs:Value}
theorem jF.Qq(c:jF w l p B kb k m t at_ s vl vs):vl.ownBlock≠some kb/\vs.ownBlock≠some kb:=by
 constructor
 . intro a;rcases c.loc.2 with⟨b,_⟩|⟨e,g,d,b,h,f,_⟩
   . rw[b]at a;cases a
   . rw[b]at a;cases a;exact absurd (hZ.inj (show hZ w e 209 d from f) c.blk) Zn
 . intro a;rcases c.kH.2 with⟨b,_⟩|⟨e,g,d,b,h,f,_⟩
   . rw[b]at a;cases a
   . rw[b]at a;cases a;exact absurd (hZ.inj (show hZ w e 209 d from f) c.blk) Zn
theorem jF.kp(a:jF w l p B kb k m t at_ s vl vs)(e:Kp D w w')(h:ji w' l p)(f:∀b,B<=b->b<w.heap.size->¬D b)(i:∀b,b<l.O->¬D b):jF w' l p B kb k m t at_ s vl vs:=
 ⟨h,a.hB,a.hk,jM.kp jd.stays e (fun b d=>i b d) a.ml,a.mi,a.blk.kp e (f _ a.hk a.blk.lt),jb a.loc e (fun c g d=>f c d (a.loc.lt c g).2),jb a.kH e (fun c g d=>f c d (a.kH.lt c g).2),a.ne,a.JL,a.Qs,a.NY⟩
theorem jF.ext(b:jF w l p B kb k m t at_ s vl vs)(c:Ext w w'):jF w' l p B kb k m t at_ s vl vs:=
 b.kp c (b.kr.ext c) (fun _ _ _ a=>a) (fun _ _ a=>a)
theorem jF.kp'(a:jF w l p B kb k m t at_ s vl vs)(d:Kp D w w')(i:ji w' l p)(f:¬D kb)(g:∀b,vl.ownBlock=some b->¬D b)(h:∀b,vs.ownBlock=some b->¬D b)(j:∀c,c<l.O->¬D c):jF w' l p B kb k m t at_ s vl vs:=
 ⟨i,a.hB,a.hk,jM.kp jd.stays d (fun c n=>j c n) a.ml,a.mi,a.blk.kp d f,jb a.loc d (fun b e _=>g b e),jb a.kH d (fun b e _=>h b e),a.ne,a.JL,a.Qs,a.NY⟩
theorem jF.oQ(b:jF w l p B kb k m t at_ s vl vs)(f:Kp (·=l.D) w w')(a:ji w' l p):jF w' l p B kb k m t at_ s vl vs:=
 b.kp f a (fun c e _ d=>SY b.hB a.ord) (fun c e d=>SX a.ord)
theorem jF.setStack(b:jF w l p B kb k m t at_ s vl vs){st:List Tag}{vs':Value}(f:Kp (fun c=>c=kb\/vs.ownBlock=some c) w w')(g:hZ w' kb 330 (JN l.L k m t at_ vl vs')) (j:w'.ownsRow B 209 2 vs' st.length (st.flatMap mg)) (i:∀d,vs'.ownBlock=some d->vs.ownBlock=some d\/w.heap.size<=d) (n:(st.length:Int)<=m.stack):jF w' l p B kb k m t at_ ⟨s.locals,st⟩ vl vs'/\Kp (qo l kb vl vs) w w'/\jV w vl vs vl vs':=by
 have q:=b.hk;have o:=b.hB;have r:=b.kr.ord;have h:∀c,c<=l.L->¬(c=kb\/vs.ownBlock=some c):=fun c u a=>by
  rcases a with a|a
  . omega
  . have:=(b.kH.lt c a).1;omega
 refine⟨⟨b.kr.kp f h,b.hB,b.hk,jM.kp jd.stays f (fun c g=>h c Zm) b.ml,b.mi,g,?_,j,?_,b.JL,n,b.NY⟩,f.weak fun c _ a=>?_,fun d e=>?_⟩
 . refine jb b.loc f fun d e _ a=>?_;rcases a with a|a
   . subst a;exact b.Qq.1 e
   . exact b.ne d e a
 . intro d e a;rcases i d a with a|a
   . exact b.ne d e a
   . have:=(b.loc.lt d e).2;omega
 . rcases a with a|a
   . exact .inr (.inl a)
   . exact .inr (.inr (.inr a))
 . rcases e with a|a
   . exact .inl a
   . rcases i d a with a|a
     . exact .inr (.inl a)
     . exact .inr (.inr a)
end
theorem wO{t:uj}{b:Int}{o: Value}(a:jF w l p g c k m t b s o vs)(f:s.stack=[]):Calls prog 237 #[some c] w fun d q=>d=.panicked (Ac (b+1))/\Ext w q:=by
 obtain⟨h,i,rfl⟩:=jA a.kH;have e:s.stack.length=0:=by rw[f];rfl
 have r:=a.blk.c 12 (.slice h 0 i) (by rw[<-e];rfl);obtain⟨u,-,-,-,-,-,-,-,-,-,-,j,-⟩:=a.blk.ca;clear e;have n:=a.JL;clear a f;go_enter func237,ntmps237;go_wp2_with fail;refine(mK c b (Kp.je (jw _:Ext w _) j) n.1 Zm).mono ?_;rintro d v ⟨rfl,rfl⟩;exact⟨rfl,rfl,kx⟩
theorem yU{L a:Nat}{t:uj}{O:Int}{A: Value}(f:jF w l p L a k m t O s A vs)(st:List Tag)(x:Tag)(y:s.stack=st++[x]):Calls prog 237 #[some a] w fun b w'=>b=.returned (.agg #[x.kind,x.name])/\(∃vs',jF w' l p L a k m t O ⟨s.locals,st⟩ A vs'/\jV w A vs A vs')/\Kp (qo l a A vs) w w':=by
 have v:s.stack.length=st.length+1:=by rw[y];simp
 have G:=f.kH;rw[v]at G;obtain⟨g,d,rfl,hg,aP,aD⟩:=jT G Zm;have I:=G.cells (g:=g) rfl;have x0:w.cell? (g,st.length*2)=some (.int .i64 x.kind):=by
  have:=I (st.length*2) x.kind (by rw[y];have:=FM (enc:=mg) (k:=2) (fun _=>rfl) st x 0;rw[U3]at this;rw[this];rfl);simpa [Addr.add_lit]using this
 have x1:w.cell? (g,st.length*2+1)=some (.string x.name):=by
  have:=I (st.length*2+1) x.name (by rw[y,FM (enc:=mg) (k:=2) (fun _=>rfl) st x 1];rfl);simpa [Addr.add_lit]using this
 have aI:=f.Qs;have aF:=f.mi.stack;obtain⟨i,Y,u,P⟩:=nu w #[Tc, ""] 209;have H:=f.ext u;obtain⟨ak,av,aH,e⟩:=ll i;have K:=fun s=>(H.blk.ext (e.jv s)).c 12 (g,st.length+1,d) (by rw[<-v];rfl);have r0:=fun s=>(u.trans (e.jv s)).je x0;have r1:=fun s=>(u.trans (e.jv s)).je x1;have hw:IntKind.i64.wrap ((st.length:Int)+1 - 1)=(st.length:Int):=by rw[TK _ Zm];omega
 have⟨r,N,HA,o,ah,ae,B,HS,ag⟩:=sV e Y H f u P v y aD;have aQ:(st.length:Int)<=5:=Zm
 have au:=f.blk.c 12 (g,st.length+1,d) (by rw[<-v];rfl);have hz:=f.blk.lt;clear Y H f u P v y I x0 x1 G e aI aF;go_enter func237,ntmps237;go_wp2_with fail;rw[<-N.o];refine jW r 13 [([0,1,2,3,4,5,6,7,8,9,10,11],12)] [] ?_ ?_
 . exact jg
 refine lJ ?_;intro K2 T;go_wp2_with fail;refine kk r T kx ?_;clear T K2;refine ku ?_;go_wp2_with fail;obtain⟨c,z⟩:=SS ((i.alloc (.cells #[x.kind,x.name] 209)).drew);have F:Ext i c:=by rw[z];exact kx
 have Q:hZ c i 209 #[x.kind,x.name]:=by rw[z];exact(hZ.new _ _ _).ext jg
 have j:=HA.ext F;have aa:c.heap.size=i+1:=by rw[z];simp
 have Z:(i:Nat)=w+1:=by rw[N.o];simp
 have HZ:=Zy (Tn aa Z);rw[<-z];clear z r K r0 r1;obtain⟨ak,av,aH,e⟩:=ll c;have K:=fun s=>(j.blk.ext (e.jv s)).c 12 (g,st.length+1,d) (by rw[<-B.o];rfl);have r:=Zy e;have aO:(st.length:Int)<=d:=SX ag.o
 refine jW r 12 [] [0,1,2,3,4,5,6,7,8,9,10,11] ?_ ?_
 . exact jg
 refine r9 [_,_,_,_,_,_,_,_,_,_,_,_] rfl fun aj S=>?_;(repeat (go_big_quiet_step (fail)));refine qn S ?_;clear S aj;have aJ:=j.blk.c 12 (g,st.length+1,d) (by rw[<-B.o];rfl);have aK:=j.blk.frozen 12;have z3:=j.blk.lt;obtain⟨-,u0,u1,-⟩:=Q.ca;have E:=ae.ext F;obtain⟨i2,v0,v1,-⟩:=E.ca;obtain⟨i0,i1,-⟩:=E.fz;have⟨q,ai,af⟩:=jB j F E;have n1:¬i=a:=Zm
 have n2:¬w=a:=Zm
 have n3:¬a=i:=Zm
 have n4:¬a=w:=Zm
 clear j F Q E e K au Z aa;go_wp2_with fail;have V:Kp (fun C=>C=a\/(Value.slice (some ⟨g,0,none⟩) (st.length+1) d).ownBlock=some C) c (c.setCell (a,12) (g,st.length,d)):=(Kp.refl _ c).setCell (p:=⟨a,12,none⟩) (fun _=>.inl rfl) _;have W:=q.kH;rw[B.o,HS.o]at W;have X:=BI W (j:=st.length) Zm;rw[Bt (enc:=mg) (k:=2) (fun _=>rfl)]at X;have aA:=q.blk.jy 12 (g,st.length,d);have aG:=q.Qq;have ax:=q.o;obtain⟨U,ay,az⟩:=ax.setStack (st:=st) (vs':=(g,st.length,d)) V aA (jb (D:=(·=a)) X ((Kp.refl (·=a) c).setCell (p:=⟨a,12,none⟩) (fun _=>rfl) _) (fun n h _ b=>by cases h;subst b;exact aG.2 rfl)) (fun n h=>.inl h) (by have:=q.Qs;rw[B.o]at this;omega);generalize c.setCell (a,12) (g,st.length,d)=w4 at*;have J:∀D:Nat->Prop,D w.heap.size->Kp D w4 ((w4.setCell w x.kind).setCell (w,1) x.name).drew:=fun D R=>
  (((Kp.refl D w4).setCell (p:=⟨w,0,none⟩) (fun _=>R) _).setCell (p:=⟨w,1,none⟩) (fun _=>R) _).drew
 have aB:=af.kp V (fun b=>by
  rcases b with b|b
  . omega
  . have e':g=w:=by simpa [Value.ownBlock]using b
    omega)
 have aC:=hH.l7 ((aB.jy 0 x.kind).jy 1 x.name);refine Cv (jE tQ rfl w rfl (mg x) (aC.ext jg) rfl) rfl ?_;have aM:=o.hk;have aL:=o.hB;have aN:=o.kr.ord;have aR:=o.blk.lt;refine⟨rfl,⟨_,U.kp' (J (·=w) rfl) (U.kr.kp (J (·=w) rfl) (fun C hb b=>Zm)) Zm (fun n h b=>SX ((o.o.loc.lt n h).2)) (fun n h b=>by
  have e':g=n:=by simpa [Value.ownBlock]using h
  omega) (fun C hb b=>Zm),az.le Zm⟩,?_⟩
 exact(((ah.trans ai).any).trans ay).own (J (·=w) rfl) (fun n h=>Zm)
theorem Io(w:World)(l:jk)(p:iZ)(r h:Nat)(k:Int)(m:M.Method)(t:uj)(d:Int)(s:oV)(C vs:Value)(b:jF w l p r h k m t d s C vs)(x:Tag)(o:m.stack<=s.stack.length):Calls prog 235 #[some h,.agg #[x.kind,x.name]] w fun n D=>n=.panicked (Ac (d+1))/\Ext w D:=by
 obtain⟨y,z,rfl⟩:=jA b.kH;obtain⟨c,g⟩:=SS (w.alloc (.cells #[x.kind,x.name] 209));have f:Ext w c:=by rw[g];exact kx
 have e:=b.ext f;obtain⟨E,F,H,a⟩:=ll c;have I:=fun i=>(e.blk.ext (a.jv i)).c 12 (.slice y s.stack.length z) rfl;obtain⟨-,-,-,-,-,-,-,-,J,-,-,B,-⟩:=hZ.lC fun i=>(e.blk.ext (a.jv i));have⟨j,v,u⟩:=jB a g f;have A:=b.JL;have G:=Tz o;clear b o a g f e;go_enter func235,ntmps235;go_wp2_with fail;rw[<-v.o];refine C8 j ?_ ?_;rotate_left;(repeat (go_big_quiet_step ((fail))));refine TD ?_;(rintro _ ⟨q,rfl⟩);rotate_left
 . exact jg
 go_wp2_with fail;refine(mK h d (B q) A.1 Zm).mono ?_;rintro n K ⟨rfl,rfl⟩;exact⟨rfl,rfl,u.trans (j.jv q)⟩
theorem NT(w:World)(l:jk)(p:iZ)(v f:Nat)(k:Int)(m:M.Method)(t:uj)(I:Int)(s:oV)(u vs:Value)(a:jF w l p v f k m t I s u vs)(x:Tag)(hs:(s.stack.length:Int)<m.stack):Calls prog 235 #[some f,.agg #[x.kind,x.name]] w fun d X=>d=.returned (.tuple #[])/\(∃vs',jF X l p v f k m t I ⟨s.locals,s.stack++[x]⟩ u vs'/\jV w u vs u vs')/\Kp (qo l f u vs) w X:=by
 obtain⟨i,j,rfl⟩:=jA a.kH;obtain⟨Y,U,C,K⟩:=nu w #[x.kind,x.name] 209;have z:=a.ext C;obtain⟨aj,N,az,b⟩:=ll Y;have F:=fun g=>(z.blk.ext (b.jv g)).c 12 (.slice i s.stack.length j) rfl;have r7:=fun g=>(z.blk.ext (b.jv g)).c 7 m.stack rfl;have⟨c,H,af,HA,ae,Z⟩:=nE b U C z K a;have hd:decide (m.stack<=(s.stack.length:Int))=false:=SL Zm;clear a b U C z K;go_enter func235,ntmps235;go_wp2_with fail;rw[<-H.o];refine C8 c ?_ ?_;rotate_left;(repeat (go_big_quiet_step ((fail))));refine TD ?_;(rintro _ ⟨W,rfl⟩);rotate_left
 . exact jg
 go_wp2_with fail;have q:=c.jv W;generalize N W=w1 at*;clear c F r7;have e:=HA.ext q;have L:=ae.ext q;have aC:=q.size;have aD:(w:Nat)<Y:=by rw[H.o];simp
 obtain⟨aj,N,az,b⟩:=qC.ex (fun W'=>Kp (fun J=>(Value.slice i s.stack.length j).ownBlock=some J) w1 W') _ Kp.rr;have S:¬(Value.slice i s.stack.length j).ownBlock=some w.heap.size:=fun d=>SX ((Z.kH.lt _ d).2)
 have F:=fun g=>(e.blk.kp (b.jv g) e.Qq.2).c 12 (.slice i s.stack.length j) rfl;obtain⟨-,r0,r1,-⟩:=hZ.lC fun g=>(L.kp (b.jv g) S);have⟨c,h,ag⟩:=jB b e q;have ay:s.stack.length+1<=4294967296:=SX e.mi.stack
 have aB:v<=w1:=SY e.blk.lt e.hk
 clear b e L q S;refine jW c 8 [([0,1,2,3,4,5],6),([],7)] [] ?_ ?_
 . exact jg
 refine lJ ?_;intro y r;go_wp2_with fail;refine kk c r kx ?_;clear r y;refine kN rfl fun y r=>?_;refine jo vT rfl (.tmp 21) (.tmp 23) rfl v (.slice i s.stack.length j) s.stack.length _ rfl (jb (D:=fun _=>False) h.kH kx fun _ _ _ x=>x) w1 1 (mg x) rfl rfl (hH.Fh _ _ rfl) (tX _) ay Zr ?_;intro n B w2 P O Q;change y _ _;have A:=(kx:Ext w1 _).any.trans O;refine kk c r A ?_;clear r y;have o:=h.blk.kp A h.Qq.2;have d0:=o.c 12 (.slice i s.stack.length j) rfl;have e0:=o.frozen 12;have z1:=o.lt;have⟨aa,ai,ah,G⟩:=jU o P A Q;clear P O A o Q F r0 r1;refine ku ?_;go_wp2_with fail;refine Ta ?_;have T:=fun D hD aA=>(Kp.refl D w2).setCell (p:=⟨f,12,none⟩) (fun _=>hD) aA;have R:(s.stack++[x]).length=s.stack.length+1:=by simp
 have av:n≠f:=fun d=>by
  subst d;rcases G.o with a|a
  . exact h.Qq.2 a
  . have:=h.blk.lt;simp at a;omega
 obtain⟨hS,ak,au⟩:=h.setStack (st:=s.stack++[x]) (vs':=(n,s.stack.length+1,B)) ((ah.weak fun J _ a=>.inr a).trans (T _ (.inl rfl) (n,s.stack.length+1,B))) (aa.jy 12 _) (by
  have h2:=jb ai (T (·=f) rfl (n,s.stack.length+1,B)) (fun V E _ d=>by cases E;exact av d);rw[R];simpa using h2) (fun V E=>by
   have ax:n=V:=by simpa [Value.ownBlock]using E
   subst ax;rcases G.o with a|a
   . exact .inl a
   . right;simp at a;omega) (by rw[R];omega)
 exact⟨rfl,⟨_,hS,au.le Zm⟩,((af.trans ag).any).trans ak⟩
def jL(w:World)(l:jk)(p:iZ)(B kb:Nat)(k:Int)(m:M.Method)(t:uj)(at_:Int)(vl vs:Value)(o:Option oV)(e:Ending)(w':World):Prop:=
 Kp (qo l kb vl vs) w w'/\ji w' l p/\
 ((o=none/\e=.panicked (Ac (at_+1)))\/∃s',o=some s'/\e=.returned (.tuple #[])/\∃vl' vs',jF w' l p B kb k m t at_ s' vl' vs'/\jV w.heap.size vl vs vl' vs')
theorem rq(w:World){l:jk}{p:iZ}{b a:Nat}{k:Int}{m:M.Method}{t:uj}{c:Int}{s:oV}{d vs:Value}(e:jF w l p b a k m t c s d vs)(x:Tag):Calls prog 235 #[some a,.agg #[x.kind,x.name]] w (jL w l p b a k m t c d vs (nY m x s)):=by
 by_cases f:m.stack<=s.stack.length
 . refine(Io w l p b a k m t c s d vs e x f).mono ?_;rintro i o ⟨rfl,g⟩;exact⟨g.any,e.kr.ext g,.inl ⟨by unfold nY;rw[Tv f],rfl⟩⟩
 . refine(NT w l p b a k m t c s d vs e x Zm).mono ?_;rintro i o ⟨rfl,⟨q,h,n⟩,j⟩;exact⟨j,h.kr,.inr ⟨_,by unfold nY;rw[Tt f],rfl,_,_,h,n⟩⟩
theorem nO(w:World){l:jk}{p:iZ}{z f:Nat}{k:Int}{m:M.Method}{t:uj}{q:Int}{s:oV}{v vs:Value}(e:jF w l p z f k m t q s v vs)(x:Tag):Calls prog 238 #[some f,.agg #[x.kind,x.name]] w (jL w l p z f k m t q v vs (oZ p k x s)):=by
 obtain⟨w0,ae,I,G⟩:=nu w #[x.kind,x.name] 209;have H:=e.ext I;have av:=e.kr.ord;have au:=e.kr.lt;have ax:=e.blk.lt;have ai:=e.JL;obtain⟨ak,V,ay,h⟩:=qC.ex (fun U=>hZ U w 209 #[x.kind,x.name]/\∃L O P,jF U l p z f k m t q L O P) w0 ⟨G,_,_,_,H⟩;have r0:∀b,(V b).cell? f=some (.pointer (some ⟨l.L,0,none⟩)):=fun b=>by
  obtain⟨_,L,O,P,K⟩:=h.jv b;exact K.blk.c 0 _ rfl
 have r1:∀b,(V b).cell? (f,1)=some (.int .i64 k):=fun b=>by
  obtain⟨_,L,O,P,K⟩:=h.jv b;exact K.blk.c 1 _ rfl
 obtain⟨-,r3,r4,-⟩:=hZ.lC fun b=>(h.jv b).1;have⟨i,T,D,n,C,A⟩:=nE h ae I H G e;clear e h ae I H G;rcases TN s.stack with d|⟨N,y,d⟩
 . have o:Zz (oZ p k x s=none):=Zy (by unfold oZ vF;rw[d];rfl);have F:=Zy d;clear d;go_enter func238,ntmps238;go_wp2_with fail;rw[<-T.o];refine jW i 13 [([0,1,2,3,4,5,6,7,8,10],9),([],11)] [12] ?_ ?_
   . exact⟨C.ext jg,_,_,_,n.ext jg⟩
   refine lJ ?_;intro j c;go_wp2_with fail;refine(wO (n.ext jg) F).mono ?_;rintro a w1 ⟨rfl,ah⟩;have X:=(D.trans jg).trans ah;exact⟨rfl,X.any,A.kr.ext X,.inl ⟨o,rfl⟩⟩
 . rw[TM]at d;have o:Zz (oZ p k x s=if may p k y x then some ⟨s.locals,N⟩else none):=Zy (by unfold oZ vF;rw[d];simp);have F:=Zy d;clear d;go_enter func238,ntmps238;go_wp2_with fail;rw[<-T.o];refine jW i 13 [([0,1,2,3,4,5,6,7,8,10],9),([],11)] [12] ?_ ?_
   . exact⟨C.ext jg,_,_,_,n.ext jg⟩
   refine lJ ?_;intro j c;go_wp2_with fail;refine(yU (n.ext jg) N y F).mono ?_;rintro a w1 ⟨rfl,⟨aj,W,Z⟩,J⟩;have Y:=((D.trans jg).any).trans J;have aa:=(C.ext jg).kp J (fun a=>by
    rcases a with a|a|a|a
    . omega
    . omega
    . have:=(A.loc.lt _ a).2;omega
    . have:=(A.kH.lt _ a).2;omega)
   have⟨B,Q,af⟩:=jB W aa Y;have ag:Zz (jV w v vs v aj):=Zy (Z.le (by have:=D.size;exact this));clear W Z J Y aa;go_wp2_with fail;refine kk i c ⟨Q,_,_,_,B⟩ ?_;clear c j;refine kN rfl fun j c=>?_;go_wp2_with fail;refine(BA B.kr k y x).mono ?_;rintro a w2 ⟨rfl,r⟩;have⟨g,S,R⟩:=jB (B.ext r) (af.trans r.any) (Q.ext r);clear r;cases u:may p k y x
   . have E:Zz (oZ p k x s=none):=Zy (by rw[o.o,u];rfl);clear u;go_wp2_with fail;refine kk i c ⟨R,_,_,_,g⟩ ?_;clear c j;refine rC ?_;go_wp2_with fail;refine(mK f q (g.blk.c 10 _ rfl) ai.1 Zm).mono ?_;rintro a w3 ⟨rfl,rfl⟩;exact⟨rfl,S,g.kr,.inl ⟨E,rfl⟩⟩
   . have E:Zz (oZ p k x s=some ⟨s.locals,N⟩):=Zy (by rw[o.o,u];rfl);clear u;go_wp2_with fail;refine kk i c ⟨R,_,_,_,g⟩ ?_;clear c j;refine rC ?_;go_wp2_with fail;refine Ta ?_;exact⟨S,g.kr,.inr ⟨_,E,rfl,_,_,g,ag⟩⟩
theorem xB{t:uj}{D: Value}(y:jF w l p B o k m t v s D vs):Calls prog 242 #[some o] w (jL w l p B o k m t v D vs (xY s)):=by
 have G:=y.JL;have i:=Zy y;clear y;rcases TN s.stack with b|⟨q,A,b⟩
 . have e:Zz (xY s=none):=Zy (by unfold xY vF;rw[b];rfl);have j:=Zy b;clear b;go_enter func242,ntmps242;go_wp2_with fail;refine(wO i j).mono ?_;rintro x E ⟨rfl,C⟩;exact⟨rfl,C.any,i.kr.ext C,.inl ⟨e,rfl⟩⟩
 . rw [TM] at b; have e : Zz (xY s = if A.kind = 2 \/ A.kind = 3 then some ⟨s.locals, q⟩ else none) := Zy (by unfold xY vF; rw [b]; simp); have j := Zy b; clear b; obtain ⟨c, K⟩ := A; have H : (c = 2 \/ (c = 3 /\ (c != 2) = true)) /\ xY s = some ⟨s.locals, q⟩ \/ ((c != 2) = true /\ (c != 3) = true) /\ xY s = none := by
    by_cases a:c=2
    . exact .inl ⟨.inl a,by rw[e.o,Tv (.inl a)]⟩
    . by_cases f:c=3
      . exact .inl ⟨.inr ⟨f,TI.2 a⟩,by rw[e.o,Tv (.inr f)]⟩
      . exact .inr ⟨⟨TI.2 a,TI.2 f⟩,by rw[e.o,Tt (by simp[a,f])]⟩
   rcases H with⟨z,a⟩|⟨⟨z,f⟩,a⟩
   . have u:=Zy a;clear a;rcases z with rfl|⟨rfl,z⟩
     all_goals
      go_enter func242,ntmps242;go_wp2_with fail;refine(yU i q _ j).mono ?_;rintro x E ⟨rfl,⟨I,g,n⟩,h⟩;have⟨d,F,r⟩:=jB g n h;clear g n h;go_wp2_with fail;refine Ta ?_;exact⟨r.alloc _,d.kr.ext kx,.inr ⟨_,u,rfl,_,_,d.ext kx,F⟩⟩
   . have u:=Zy a;clear a;go_enter func242,ntmps242;go_wp2_with fail;refine(yU i q _ j).mono ?_;rintro x E ⟨rfl,⟨I,g,n⟩,h⟩;have⟨d,r⟩:=jf g h;clear g n h;go_wp2_with fail;refine(mK o v ((d.ext kx).blk.c 10 _ rfl) G.1 Zm).mono ?_;rintro x J ⟨rfl,rfl⟩;exact⟨rfl,r.alloc _,d.kr.ext kx,.inl ⟨u,rfl⟩⟩
theorem Hq:yH 137 3:=⟨_,underlying137,by kernel_rfl⟩
theorem D5{P: Nat}{t:uj}{U:Int}(e:jF w l p P N k m t U s vl vs)(a:Int):Calls prog 243 #[some N,a] w fun u O=>((Cq m a=none/\u=.returned (.tuple #[.agg #[Tc,(),()],.bool false]))\/∃d r,Cq m a=some d/\d∈m.maps/\kM O (· <l.O) d r/\u=.returned (.tuple #[.agg r.toArray,.bool true]))/\Ext w O:=by
 obtain⟨w0,L,H,G⟩:=nu w #[Tc,(),()] 137;have ae:l.O<w:=SY e.kr.ord e.kr.lt
 obtain⟨hz,-,-,-,-,-,-,-,-,-,c9,-⟩:=e.blk.ca;obtain⟨_,_,vm,J,_,_,K⟩:=e.ml;simp only[mF,TH,UF,V8]at J;obtain⟨-,-,rfl⟩:=J;have⟨R,Q,F,S⟩:=jU K G H L;have af:=e.mi.maps;obtain⟨ah,aj,ai,ak,ta,tc⟩:=t;simp only at*;clear K G H L e;go_enter func243,ntmps243;go_wp2_with fail;rw[<-S.o];go_loopw [14] (fun z wr=>∃c:Nat,c<=m.maps.length/\z=.int .i64 c/\Ext w0 wr/\Zz (Cq m a=(m.maps.drop c).find? fun d=>d.at_=a)) (fun z _=>m.maps.length - (intOf z).toNat)
 case atStart=>exact⟨0,SV _,rfl,Kp.rr,Zy rfl⟩
 case round =>
  obtain⟨c,hq,rfl,v,n⟩:=hrel;have i:=Q.ext v;obtain⟨yz,y0,y1,y2,-⟩:=i.ca;obtain⟨f0,f1,f2,-⟩:=i.fz;have⟨E,o⟩:=jf i (F.trans v);clear i;by_cases Y:c<m.maps.length
  . obtain⟨b,x⟩:=om m.maps c Y;obtain⟨V,ag,r,rfl,aa,y,-,I⟩:=R.get x;have T:=Zy y;obtain⟨A,C,B,D,rfl⟩:=y.form;obtain⟨W,g1,g2⟩:=(I.ext (F.trans v)).three;have gz:=jc W;have q:=Zy x;clear y I x;by_cases f:b.at_=a
    . have g:Zz (Cq m a=some b):=Zy (by rw[n.o,oM q.o,VO (by simpa using f)]);have Z:(b.at_==a)=true:=by simpa using f
      clear f;go_wp2_with fail;have j:=Kp.wX (D:=(·=w)) (w:=wr) rfl b.at_ (.slice A b.locals.length C) (.slice B b.stack.length D);have h:=E.wX b.at_ (.slice A b.locals.length C) (.slice B b.stack.length D);refine Cv (iY Hq rfl w rfl [b.at_,.slice A b.locals.length C,.slice B b.stack.length D] ((hH.l7 h).ext (jw _)) rfl) rfl ?_;exact⟨.inr ⟨b,_,g,RA q,jM.ext kM.stays (jw _) (jM.kp kM.stays j (fun V h u=>Zm) (jM.ext kM.stays o.o T.o)),rfl⟩,(o.o.own j (fun k X=>Zm)).alloc _⟩
    . have g:Zz (Cq m a=(m.maps.drop (c+1)).find? fun d=>d.at_=a):=Zy (by rw[n.o,oM q.o,VN (by simpa using f)]);have Z:=SF.2 f;clear f;go_wp2;go_roundw
      case rel=>exact⟨c+1,Zm,by go_num,kx,g⟩
      case measure=>simp[intOf];omega
  . have g:Zz (Cq m a=none):=Zy (by rw[n.o,U4 Zm];rfl);go_wp2_with fail;have j:=Kp.wX (D:=(·=w)) (w:=wr) rfl Tc () ();have h:=E.wX Tc () ();refine Cv (iY Hq rfl w rfl [Tc,(),()] (hH.l7 h) rfl) rfl ?_;exact⟨.inl ⟨g,rfl⟩,o.own j (fun k X=>Zm)⟩
theorem Pn{enc:α->List Value}{k:Nat}(e:∀x,(enc x).length=k):∀(l:List α) (i:Nat) (x:α),l[i]?=some x->∀a b,(enc x)[a]?=some b->(l.flatMap enc)[i*k+a]?=some b:=by
 intro l;induction l with
 |nil=>intro i x f;simp at f
 | cons j h g =>
  intro i x d a b c;rw[UA];cases i with
  |zero=>
   simp at d;subst d;rw[Te (by rw[Ua,Tm];exact(Tw.1 c).1),Ua,Tm];exact c
  |succ i=>
   rw[TS (by rw[e,UT];omega),e,show(i+1)*k+a - k=i*k+a from by rw[UT];omega];exact g i x (by simpa using d) a b c
theorem lT{enc:α->List Value}{k:Nat}(d:∀x,(enc x).length=k){w:World}{base e g n c:Nat}{l:List α}(a:w.ownsRow base e k (g,n,c) n (l.flatMap enc)){i:Nat}{x:α}(h:l[i]?=some x):hH w g (i*k) (enc x):=by
 intro j m f;have:=a.cells (g:=g) rfl _ _ (Pn d l i x h j m f);unfold Addr.add at this;split at this
 . rename_i b;rw[b];exact this
 . simpa using this
theorem Cs{a b:List Tag}{x y:Tag}(c:a[q]?=some x)(d:b[q]?=some y):oJ p k (a.drop q) (b.drop q)=(may p k x y&&oJ p k (a.drop (q+1)) (b.drop (q+1))):=by
 rw[oM c,oM d];rfl
theorem Ea{a b:List Tag}(d:b.length<=q):oJ p k (a.drop q) (b.drop q)=true:=by
 have c:=U4 d;rw[c];cases a.drop q<;>rfl
theorem zF{aJ kb:Nat}{t:uj}{aP:Int}(q:jF w l p aJ kb k m t aP s vl vs)(a:SMap){cs:List Value}(hf:kM w (· <l.O) a cs)(aC:a.locals.length=s.locals.length):Calls prog 244 #[some kb,.agg cs.toArray] w fun af w'=>af=.returned (.bool (mP p k s a))/\Ext w w':=by
 have bn:=Zy hf;obtain⟨aS,aT,ah,ai,rfl⟩:=hf.form;obtain⟨_,_,he,aF,aG⟩:=hf;simp only[TH,UF,V8]at he;obtain⟨rfl,rfl⟩:=he;obtain⟨w0,aI,ak,b3⟩:=nu w #[a.at_,.slice aS a.locals.length aT,.slice ah a.stack.length ai] 137;have hA:=q.ext ak;obtain⟨sa,sc,rfl⟩:=jA q.kH;obtain⟨la,lc,rfl⟩:=jA q.loc;obtain⟨aA,ag,aD,c⟩:=ll w0;have bg:=fun b=>(hA.blk.ext (c.jv b)).c 12 (.slice sa s.stack.length sc) rfl;have r2:=fun b=>(b3.ext (c.jv b)).c 2 (.slice ah a.stack.length ai) rfl;have⟨f,az,av,HA,aN,ax⟩:=nE c aI ak hA b3 (Tn aF aG);have bq:a.locals.length<=6:=SY q.NY q.mi.locals
 have bu:s.stack.length<=5:=SY q.Qs q.mi.stack
 have aa:=Zy aC;clear q c aI ak hA b3 aF aG aC;by_cases E:a.stack.length=s.stack.length
 . have R:Zz (mP p k s a=(oJ p k s.locals a.locals&&oJ p k s.stack a.stack)):=Zy (by unfold mP;rw[Tz E];rfl);have aH:((a.stack.length:Int) !=(s.stack.length:Int))=false:=by simp[E]
   have Q:=Zy E;clear E;go_enter func244,ntmps244;go_wp2_with fail;rw[<-az.o];refine C8 f ?_ ?_;rotate_left;(repeat (go_big_quiet_step ((fail))));refine TD ?_;(rintro _ ⟨T,rfl⟩);rotate_left
   . exact jg
   have S:=f.jv T;generalize ag T=w1 at*;clear f bg r2 aH;have aB:=HA.ext S;have aj:=aN.ext S;obtain⟨-,-,p1,p2,-⟩:=aj.ca;have⟨aK,aM,W⟩:=jB aB aj (av.trans S);clear aB aj S;go_wp2;go_loopw [21] (fun A wr=>∃b:Nat,b<=a.locals.length/\A=.int .i64 b/\Ext w1 wr/\Zz (oJ p k s.locals a.locals=oJ p k (s.locals.drop b) (a.locals.drop b))) (fun A _=>a.locals.length - (intOf A).toNat)
   case atStart=>exact⟨0,SV _,rfl,Kp.rr,Zy rfl⟩
   case round=>
    obtain⟨b,hq,rfl,h,C⟩:=hrel;have g:=aK.ext h;have r:=aM.ext h;have bA:=r.c 2 (.slice ah a.stack.length ai) rfl;have⟨V,U,D⟩:=jB r g h;by_cases N:b<a.locals.length
    . obtain⟨i,z⟩:=om a.locals b N;obtain⟨B,y⟩:=om s.locals b (by rw[<-aa.o];exact N);obtain⟨aQ,bf,cs,rfl,aU,rfl,-,L⟩:=ax.1.get z;obtain⟨g0,g1⟩:=(L.ext (W.trans h)).two;have gz:=jc g0;have x:=g.loc;obtain⟨lg,aZ,au,aV,aW,aX⟩:=jT x (by rw[<-aa.o];omega);cases au;obtain⟨O,P⟩:=(lT (enc:=mg) (k:=2) (fun _=>rfl) x y).two;have G:Zz (oJ p k s.locals a.locals=(may p k B i&&oJ p k (s.locals.drop (b+1)) (a.locals.drop (b+1)))):=Zy (by rw[C.o,Cs y z]);obtain⟨I,K,e,J⟩:=nu wr #[i.kind,i.name] 209;obtain⟨aA,ag,aD,c⟩:=ll I;obtain⟨-,e0,e1,-,-,-,-,-,-,-,-,-,aR,-⟩:=hZ.lC fun d=>(g.blk.ext (e.trans (c.jv d)));have e2:=fun d=>(e.trans (c.jv d)).je O;have e3:=fun d=>(e.trans (c.jv d)).je P;obtain⟨-,e6,e7,-⟩:=hZ.lC fun d=>(J.ext (c.jv d));have⟨f,ae,Z,X⟩:=jU c K (g.kr.ext e) e;have aY:(b:Int)<s.locals.length:=SX aa.o
      clear L z y x O P K e J c g r;go_wp2_with fail;rw[<-ae.o];refine jW f 18 [([0,1,2,3,4,5,6,7,8,9,10,11,12,13,14,15],16)] [17] ?_ ?_
      . exact jg
      refine lJ ?_;intro H n;go_wp2_with fail;refine(BA (Z.ext jg) k B i).mono ?_;rintro af w5 ⟨rfl,v⟩;have u:=(jg:Ext I _).trans v;have F:=Zy (X.trans u);cases o:may p k B i
      . have j:Zz (mP p k s a=false):=Zy (by rw[R.o,G.o,o];rfl);clear o v;go_wp2_with fail;refine kk f n u ?_;clear n H;refine rC ?_;go_wp2;go_ret;exact⟨hQ j.symm,W.trans (D.trans F)⟩
      . have j:Zz (oJ p k s.locals a.locals=oJ p k (s.locals.drop (b+1)) (a.locals.drop (b+1))):=Zy (by rw[G.o,o];rfl);clear o v;go_wp2_with fail;refine kk f n u ?_;clear n H;refine rC ?_;go_wp2_with fail;refine⟨⟨b+1,Zm,by go_num,D.o.trans F.o,j⟩,by simp[intOf];omega⟩
    . have ay:Zz (mP p k s a=oJ p k s.stack a.stack):=Zy (by rw[R.o,C.o,Ea Zm];rfl);obtain⟨wo,rfl⟩:∃wo:World,wo=wr:=⟨_,rfl⟩;have aL:=U;have aO:=V;have Y:=Zy (W.trans h);have bz:a.stack.length<=5:=SX Q.o
      clear U V D g r h C p1 p2;go_wp2;go_loopw [48] (fun A wr=>∃b:Nat,b<=a.stack.length/\A=.int .i64 b/\Ext wo wr/\Zz (oJ p k s.stack a.stack=oJ p k (s.stack.drop b) (a.stack.drop b))) (fun A _=>a.stack.length - (intOf A).toNat)
      case atStart=>exact⟨0,SV _,rfl,Kp.rr,Zy rfl⟩
      case round=>
       obtain⟨b,hq,rfl,h,C⟩:=hrel;have g:=aL.ext h;have r:=aO.ext h;have⟨V,U,D⟩:=jB r g h;by_cases N:b<a.stack.length
       . obtain⟨i,z⟩:=om a.stack b N;obtain⟨B,y⟩:=om s.stack b (by rw[<-Q.o];exact N);obtain⟨aQ,bf,cs,rfl,aU,rfl,-,L⟩:=ax.2.get z;obtain⟨g0,g1⟩:=(L.ext (Y.trans h)).two;have gz:=jc g0;have x:=g.kH;obtain⟨lg,aZ,au,aV,aW,aX⟩:=jT x (by rw[<-Q.o];omega);cases au;obtain⟨O,P⟩:=(lT (enc:=mg) (k:=2) (fun _=>rfl) x y).two;have G:Zz (oJ p k s.stack a.stack=(may p k B i&&oJ p k (s.stack.drop (b+1)) (a.stack.drop (b+1)))):=Zy (by rw[C.o,Cs y z]);obtain⟨I,K,e,J⟩:=nu wr #[i.kind,i.name] 209;obtain⟨aA,ag,aD,c⟩:=ll I;obtain⟨-,e0,e1,-⟩:=hZ.lC fun d=>(g.blk.ext (e.trans (c.jv d)));have aR:=fun d=>(g.blk.ext (e.trans (c.jv d))).c 12 (lg,s.stack.length,sc) rfl;have e2:=fun d=>(e.trans (c.jv d)).je O;have e3:=fun d=>(e.trans (c.jv d)).je P;obtain⟨-,e6,e7,-⟩:=hZ.lC fun d=>(J.ext (c.jv d));have⟨f,ae,Z,X⟩:=jU c K (g.kr.ext e) e;have aY:(b:Int)<s.stack.length:=SX Q.o
         clear L z y x O P K e J c g r;go_wp2_with fail;rw[<-ae.o];refine jW f 18 [([0,1,2,3,4,5,6,7,8,9,10,11,12,13,14,15],16)] [17] ?_ ?_
         . exact jg
         refine lJ ?_;intro H n;go_wp2_with fail;refine(BA (Z.ext jg) k B i).mono ?_;rintro af w5 ⟨rfl,v⟩;have u:=(jg:Ext I _).trans v;have F:=Zy (X.trans u);cases o:may p k B i
         . have j:Zz (mP p k s a=false):=Zy (by rw[ay.o,G.o,o];rfl);clear o v;go_wp2_with fail;refine kk f n u ?_;clear n H;refine rC ?_;go_wp2;go_ret;exact⟨hQ j.symm,Y.trans (D.trans F)⟩
         . have j:Zz (oJ p k s.stack a.stack=oJ p k (s.stack.drop (b+1)) (a.stack.drop (b+1))):=Zy (by rw[G.o,o];rfl);clear o v;go_wp2_with fail;refine kk f n u ?_;clear n H;refine rC ?_;go_wp2_with fail;refine⟨⟨b+1,Zm,by go_num,D.o.trans F.o,j⟩,by simp[intOf];omega⟩
       . have j:Zz (mP p k s a=true):=Zy (by rw[ay.o,C.o,Ea Zm]);go_wp2;go_ret;exact⟨hQ j.symm,Y.trans h⟩
 . have R:Zz (mP p k s a=false):=Zy (by unfold mP;rw[SL E];rfl);have aH:((a.stack.length:Int) !=(s.stack.length:Int))=true:=TI.2 Zm;clear E;go_enter func244,ntmps244;go_wp2_with fail;rw[<-az.o];refine C8 f ?_ ?_;rotate_left;(repeat (go_big_quiet_step ((fail))));refine TD ?_;(rintro _ ⟨T,rfl⟩);rotate_left
   . exact jg
   go_wp2;go_ret;exact⟨hQ R.symm,av.trans (f.jv T)⟩
theorem BD{f:SMap}(a:xC m f=true):(f.locals.length:Int)=m.locals/\(f.stack.length:Int)<=m.stack:=by
 unfold xC at a;simp only[Ty,Tq]at a;exact⟨a.1.1.1.2,a.1.1.2⟩
theorem x9{v: Nat}{t:uj}{h:Int}{C: Value}(j:jF w l p v e k m t h s C vs)(a:Int):Calls prog 241 #[some e,a] w (jL w l p v e k m t h C vs (nS p k m a s)):=by
 have y:=j.JL;have L:=j.NY;have b:=Zy j;clear j;go_enter func241,ntmps241;go_wp2_with fail;refine(D5 b a).mono ?_;rintro r N ⟨(⟨A,rfl⟩|⟨i,F,B,z,u,rfl⟩),d⟩
 . have g:Zz (nS p k m a s=none):=Zy (by unfold nS;rw[A];rfl);have⟨f,o⟩:=jf (b.ext d) d;clear A d;go_wp2_with fail;refine(mK e h ((f.ext kx).blk.c 10 _ rfl) y.1 Zm).mono ?_;rintro r E ⟨rfl,rfl⟩;exact⟨rfl,(o.alloc _).any,f.kr.ext kx,.inl ⟨g,rfl⟩⟩
 . have g:Zz (nS p k m a s=if mP p k s i then some s else none):=Zy (by unfold nS;rw[B];rfl);have K:=BD (b.mi.xC i z);have D:=Zy u;obtain⟨G,I,H,J,rfl⟩:=u.form;have⟨f,o⟩:=jf (b.ext d) d;clear B d u z;go_wp2_with fail;refine(zF (f.ext kx) i (jM.ext kM.stays kx D) Zm).mono ?_;rintro r O ⟨rfl,x⟩;have c:=Zy ((o.alloc _).trans x);clear x;cases n:mP p k s i
   . have q:Zz (nS p k m a s=none):=Zy (by rw[g.o,n];rfl);clear n;go_wp2_with fail;refine(mK e h ((b.ext c).blk.c 10 _ rfl) y.1 Zm).mono ?_;rintro r E ⟨rfl,rfl⟩;exact⟨rfl,c.any,b.kr.ext c,.inl ⟨q,rfl⟩⟩
   . have q:Zz (nS p k m a s=some s):=Zy (by rw[g.o,n];rfl);clear n;go_wp2_with fail;refine Ta ?_;exact⟨c.any,b.kr.ext c,.inr ⟨_,q,rfl,_,_,b.ext c,jV.refl _ _ _⟩⟩
theorem lV{base': Nat}{e:TypeId}{size:Nat}{v:Value}(a:w.ownsRow base e size v n xs)(c:base'<=base):w.ownsRow base' e size v n xs:=
 ⟨a.1,a.2.imp id fun⟨b,cap,cur,e1,hg,r⟩=>⟨b,cap,cur,e1,TL c hg,r⟩⟩
theorem jF.fresh{c: World}{t:uj}{h:Int}{s': oV}{n g: Value}(a:jF w l p o e k m t h s n vs)(i:hZ c e 330 (JN l.L k m t h f g)) (j:Kp (·=e) w c) (u:c.ownsRow w 209 2 f s'.locals.length (s'.locals.flatMap mg)) (v:c.ownsRow w 209 2 g s'.stack.length (s'.stack.flatMap mg))(B:∀d,f.ownBlock=some d->g.ownBlock≠some d) (hl:(s'.locals.length:Int)=m.locals) (A:(s'.stack.length:Int)<=m.stack):Kp (qo l e n vs) w c/\ji c l p/\∃x y,jF c l p o e k m t h s' x y/\jV w n vs x y:=by
 have D:=a.hk;have C:=a.hB;have E:=a.kr.ord;have F:=a.blk.lt;have r:=a.kr.kp j (fun q i b=>Zm);refine⟨j.weak fun q _ b=>.inr (.inl b),r,f,g,⟨r,a.hB,a.hk,jM.kp jd.stays j (fun q i b=>Zm) a.ml,a.mi,i,lV u Zm,lV v Zm,B,a.JL,A,hl⟩,fun d z=>?_⟩;rcases z with b|b
 . exact .inr (.inr (u.lt d b).1)
 . exact .inr (.inr (v.lt d b).1)
theorem LH{aD: Nat}{t:uj}{e:Int}(g:jF w l p aD c k m t e s vl vs)(ax:Bool):Calls prog 228 #[some c,.bool ax] w (jL w l p aD c k m t e vl vs (sD p k m ax e s)):=by
 have aI:=g.JL;have bu:=g.NY;have aH:=g.blk.c 10 e rfl;have bz:=g.kr.ord;have bn:=g.hB;have bq:=g.hk;have d:=Zy g;clear g;cases ax
 all_goals
  go_enter func228,ntmps228;go_wp2_with fail;refine(D5 d e).mono ?_;rintro b O ⟨(⟨ae,rfl⟩|⟨a,cs,ag,aa,N,rfl⟩),h⟩
 . have r:Zz (sD p k m false e s=none):=Zy (by unfold sD;rw[ae];rfl);have⟨P,aj⟩:=jf (d.ext h) h;clear ae h;go_wp2_with fail;refine(mK c e ((P.ext kx).blk.c 10 _ rfl) aI.1 Zm).mono ?_;rintro b C ⟨rfl,rfl⟩;exact⟨rfl,(aj.alloc _).any,P.kr.ext kx,.inl ⟨r,rfl⟩⟩
 . have r:Zz (sD p k m false e s=some ⟨a.locals,a.stack⟩):=Zy (by unfold sD;rw[ag];rfl);have U:=BD (d.mi.xC a aa);have aV:=Tx d.blk.lt h.size;have aW:=d.mi.locals;have aX:=d.mi.stack;have HF:=Zy N;obtain⟨G,I,H,J,rfl⟩:=N.form;obtain⟨Y,aK,az,F⟩:=nu O #[a.at_,.slice G a.locals.length I,.slice H a.stack.length J] 137;have⟨q,ak⟩:=jf (h.trans az) (jM.ext kM.stays az HF);have y1:=F.c 1 (.slice G a.locals.length I) rfl;have ah:=Zy F;have aZ:=F.lt;have aO:=Zy aK;clear ag h N aa aH az F aK;go_wp2_with fail;rw[<-aO.o];have Q:Zz (SliceOf 2 kF Y (· <l.O) (.slice G a.locals.length I) a.locals/\SliceOf 2 kF Y (· <l.O) (.slice H a.stack.length J) a.stack):=Zy (by
    obtain⟨_,_,S,aA,aB⟩:=ak.o;simp only[TH,UF,V8]at S;obtain⟨rfl,rfl⟩:=S;exact⟨aA,aB⟩)
   refine(qX (SliceOf.toFlat (R:=kF) (fun _ _ _ _ b=>b) (fun _=>rfl) tX Q.1) Zm).mono ?_;rintro b C ⟨⟨v1,rfl,f⟩,x⟩;obtain⟨R,W,rfl⟩:=jA f;have o:=(d.ext (q.trans x)).blk;have aQ:=o.c 11 vl rfl;have aS:=o.frozen 11;have bf:=o.lt;have L:=ah.ext x;have y2:=L.c 2 (.slice H a.stack.length J) rfl;have n1:¬O=c:=Zm
   have n2:¬c=O:=Zm
   have⟨au,aM,D,av⟩:=jU o L x f;clear o L x f;go_wp2_with fail;obtain⟨v,B⟩:=SS (C.setCell (c,11) (.slice R a.locals.length W));have j:Kp (·=c) C v:=by rw[B];exact nH
   have u:hZ v c 330 (JN l.L k m t e (.slice R a.locals.length W) vs):=by rw[B];exact au.jy 11 _
   rw[<-B];have aU:C.heap.size<=v:=j.size;have V:=(Q.2.ext kF.stays D).keep kF.stays (Kp.same j (fun aP K b=>Zm)) (fun _ g=>g);refine(qX (SliceOf.toFlat (R:=kF) (fun _ _ _ _ b=>b) (fun _=>rfl) tX V) Zm).mono ?_;rintro b X ⟨⟨v2,rfl,A⟩,y⟩;obtain⟨g2,k2,rfl⟩:=jA A;have n:=u.ext y;have aR:=n.c 12 vs rfl;have aT:=n.frozen 12;have bg:=n.lt;have f:=av.o;have z:Kp (·=c) X (X.setCell (c,12) (.slice g2 a.stack.length k2)):=nH;have aC:=q.size;have aY:=D.size;have hF:=d.fresh (s':=⟨a.locals,a.stack⟩) (n.jy 12 _) (((((q.trans D).any (D:=(·=c))).trans j).trans y.any).trans z)
    (lV (jb (jb (jb f j (fun i T K b=>Zm)) y (fun _ _ _ b=>b)) z (fun i T K b=>Zm)) aC)
    (lV (jb A z (fun i T K b=>Zm)) Zm)
    (fun i h1 h2=>SY ((f.lt i h1).2) ((A.lt i h2).1)) U.1 U.2
   have E:=Zy hF;clear hF z f A n y V u j B;go_wp2_with fail;refine Ta ?_;exact⟨E.1,E.2.1,.inr ⟨_,r,rfl,E.2.2⟩⟩
 . have r:Zz (sD p k m true e s=some s):=Zy (by unfold sD;rw[ae];rfl);have⟨P,aj⟩:=jf (d.ext h) h;clear ae h;go_wp2_with fail;refine Ta ?_;exact⟨(aj.alloc _).any,P.kr.ext kx,.inr ⟨_,r,rfl,_,_,P.ext kx,jV.refl _ _ _⟩⟩
 . have r:Zz (sD p k m true e s=if !mP p k s a then none else some ⟨a.locals,a.stack⟩):=Zy (by unfold sD;rw[ag];simp);have U:=BD (d.mi.xC a aa);have aV:=Tx d.blk.lt h.size;have aW:=d.mi.locals;have aX:=d.mi.stack;have HF:=Zy N;obtain⟨G,I,H,J,rfl⟩:=N.form;obtain⟨wq,aJ,ay,F⟩:=nu O #[a.at_,.slice G a.locals.length I,.slice H a.stack.length J] 137;have⟨ai,aF,aL,aG⟩:=jU (h.trans ay) (jM.ext kM.stays ay HF) F aJ;clear ag h N aa aH ay F aJ;go_wp2_with fail;rw[<-aG.o];refine(zF (d.ext ai) a aF Zm).mono ?_;rintro b Y ⟨rfl,Z⟩;have u:=aL.ext Z;have y1:=u.c 1 (.slice G a.locals.length I) rfl;have ah:=Zy u;have aZ:=u.lt;have⟨q,ak⟩:=jf (ai.trans Z) (jM.ext kM.stays Z aF);clear Z u aG ai;cases af:mP p k s a
   . have aN:Zz (sD p k m true e s=none):=Zy (by rw[r.o,af];rfl);clear af;go_wp2_with fail;refine(mK c e ((d.ext q).blk.c 10 _ rfl) aI.1 Zm).mono ?_;rintro b C ⟨rfl,rfl⟩;exact⟨rfl,q.any,d.kr.ext q,.inl ⟨aN,rfl⟩⟩
   replace r:Zz (sD p k m true e s=some ⟨a.locals,a.stack⟩):=Zy (by rw[r.o,af];rfl);clear af;go_wp2_with fail;have Q:Zz (SliceOf 2 kF Y (· <l.O) (.slice G a.locals.length I) a.locals/\SliceOf 2 kF Y (· <l.O) (.slice H a.stack.length J) a.stack):=Zy (by
    obtain⟨_,_,S,aA,aB⟩:=ak.o;simp only[TH,UF,V8]at S;obtain⟨rfl,rfl⟩:=S;exact⟨aA,aB⟩)
   refine(qX (SliceOf.toFlat (R:=kF) (fun _ _ _ _ b=>b) (fun _=>rfl) tX Q.1) Zm).mono ?_;rintro b C ⟨⟨v1,rfl,f⟩,x⟩;obtain⟨R,W,rfl⟩:=jA f;have o:=(d.ext (q.trans x)).blk;have aQ:=o.c 11 vl rfl;have aS:=o.frozen 11;have bf:=o.lt;have L:=ah.ext x;have y2:=L.c 2 (.slice H a.stack.length J) rfl;have n1:¬O=c:=Zm
   have n2:¬c=O:=Zm
   have⟨au,aM,D,av⟩:=jU o L x f;clear o L x f;go_wp2_with fail;obtain⟨v,B⟩:=SS (C.setCell (c,11) (.slice R a.locals.length W));have j:Kp (·=c) C v:=by rw[B];exact nH
   have u:hZ v c 330 (JN l.L k m t e (.slice R a.locals.length W) vs):=by rw[B];exact au.jy 11 _
   rw[<-B];have aU:=j.size;have V:=(Q.2.ext kF.stays D).keep kF.stays (Kp.same j (fun aP K b=>Zm)) (fun _ g=>g);refine(qX (SliceOf.toFlat (R:=kF) (fun _ _ _ _ b=>b) (fun _=>rfl) tX V) Zm).mono ?_;rintro b X ⟨⟨v2,rfl,A⟩,y⟩;obtain⟨g2,k2,rfl⟩:=jA A;have n:=u.ext y;have aR:=n.c 12 vs rfl;have aT:=n.frozen 12;have bg:=n.lt;have f:=av.o;have z:Kp (·=c) X (X.setCell (c,12) (.slice g2 a.stack.length k2)):=nH;have aC:=q.size;have aY:=D.size;have hF:=d.fresh (s':=⟨a.locals,a.stack⟩) (n.jy 12 _) (((((q.trans D).any (D:=(·=c))).trans j).trans y.any).trans z)
    (lV (jb (jb (jb f j (fun i T K b=>Zm)) y (fun _ _ _ b=>b)) z (fun i T K b=>Zm)) aC)
    (lV (jb A z (fun i T K b=>Zm)) Zm)
    (fun i h1 h2=>SY ((f.lt i h1).2) ((A.lt i h2).1)) U.1 U.2
   have E:=Zy hF;clear hF z f A n y V u j B;go_wp2_with fail;refine Ta ?_;exact⟨E.1,E.2.1,.inr ⟨_,r,rfl,E.2.2⟩⟩
section
variable {w w1 w2:World} {l:jk} {p:M.iZ} {B kb:Nat} {k:Int} {m:M.Method} {t:uj} {at_:Int} {vl vs vl1 vs1:Value} {o:Option M.oV} {e:Ending} {s':M.oV}
theorem jL.after(d:Kp (qo l kb vl vs) w w1)(f:jV w vl vs vl1 vs1)(c:jL w1 l p B kb k m t at_ vl1 vs1 o e w2):jL w l p B kb k m t at_ vl vs o e w2:=
 ⟨d.look c.1 f,c.2.1,c.2.2.imp id fun⟨s',h1,h2,a,b,h3,h4⟩=>⟨s',h1,h2,a,b,h3,f.trans h4 d.size⟩⟩
theorem jL.behind(b:Ext w w1)(a:jL w1 l p B kb k m t at_ vl vs o e w2):jL w l p B kb k m t at_ vl vs o e w2:=
 jL.after b.any (jV.refl _ _ _) a
end
theorem yX:Calls prog 236 #[] w fun a b=>a=.returned (.agg #[nV.kind,nV.name])/\Ext w b:=by
 go_enter func236,ntmps236;go_wp2;refine Cv (jE tQ rfl w rfl [.int .i64 1,none_] (hH.l7 (hZ.new _ _ _)) rfl) rfl ?_;exact⟨rfl,kx⟩
theorem yN(w:World)(n:ByteArray):Calls prog 203 #[n] w fun a b=>a=.returned (.agg #[.int .i64 (lN n).kind,.string (lN n).name])/\Ext w b:=by
 go_enter func203,ntmps203;go_wp2;refine Cv (jE tQ rfl w rfl [.int .i64 2,n] (hH.l7 (hZ.new _ _ _)) rfl) rfl ?_;exact⟨rfl,kx⟩
theorem hZ.set2(d:hZ w b t #[u0,u1])(a c:Value):hZ ((w.setCell b a).setCell (b,1) c) b t #[a,c]:=
 (d.jy 0 a).jy 1 c
theorem Kp.KJ{a: World}(e:Kp D w a)(g:w<=b)(c d:Value):Kp D w ((a.setCell b c).setCell (b,1) d):=
 e.own (D':=(·=b)) (((Kp.refl (·=b) a).setCell (p:=⟨b,0,none⟩) (fun _=>rfl) c).setCell (p:=⟨b,1,none⟩) (fun _=>rfl) d) (fun h f=>Zm)
theorem BP(w:World)(x:Kind):Calls prog 204 #[.agg #[x.kind,x.name]] w fun l y=>l=.returned (.agg #[.int .i64 (mr x).kind,.string (mr x).name])/\Ext w y:=by
 obtain⟨b,c⟩:=x;obtain⟨g,f⟩:=SS ((w.alloc (.cells #[b,c] 128)).alloc (.cells #[Tc, ""] 209));have r:Ext w g:=by rw[f];exact kx
 have p:hZ g w 128 #[b,c]:=by rw[f];exact(hZ.new _ _ _).ext kx
 have q:hZ g (w+1) 209 #[Tc, ""]:=by rw[f];exact hZ.newAt _ _ Zl
 have⟨o,n,t,m⟩:=jU f r p q;clear f r p q;cases e:nN ⟨b,c⟩
 . have j:Zz (mr ⟨b,c⟩=EO):=Zy (by unfold mr;rw[e];rfl);have k:=Zy e;clear e;go_enter func204,ntmps204;go_wp2_with fail;rw[<-o.o];refine(Bv ⟨b,c⟩).mono ?_;rintro l z ⟨rfl,d⟩;rw[k.o];have a:=m.ext d;obtain⟨C,A,B,-⟩:=a.ca;obtain⟨u,v,-⟩:=a.fz;have⟨h,i⟩:=jf a (n.trans d);clear d a;go_wp2_with fail;refine Cv (jE tQ rfl (w+1) rfl [Tc, ""] (hH.l7 (h.set2 _ _)) rfl) rfl ?_;exact⟨by rw[j.o];rfl,i.KJ Zm _ _⟩
 . have j:Zz (mr ⟨b,c⟩=⟨b,c⟩):=Zy (by unfold mr;rw[e];rfl);have k:=Zy e;clear e;go_enter func204,ntmps204;go_wp2_with fail;rw[<-o.o];refine(Bv ⟨b,c⟩).mono ?_;rintro l z ⟨rfl,d⟩;rw[k.o];have a:=m.ext d;have s:=t.ext d;obtain⟨-,D,E,-⟩:=s.ca;obtain⟨C,A,B,-⟩:=a.ca;obtain⟨u,v,-⟩:=a.fz;have⟨h,i⟩:=jf a (n.trans d);clear d a s;go_wp2_with fail;refine Cv (jE tQ rfl (w+1) rfl [b,c] (hH.l7 (h.set2 _ _)) rfl) rfl ?_;exact⟨by rw[j.o],i.KJ Zm _ _⟩
theorem NR{t:uj}{f:Int}{n: Value}(g:jF w l p c b k m t f s n vs)(i:Ins)(j:i.op=1):Calls prog 213 #[some b,.agg #[i.op,i.a,i.name,i.member]] w (jL w l p c b k m t f n vs (jN p k m i s)):=by
 have q:Zz (jN p k m i s=nY m nV s):=Zy (by unfold jN;rw[j];rfl);have o:=Zy g;clear g j;go_enter func213,ntmps213;go_wp2_with fail;refine(yX).mono ?_;rintro r v ⟨rfl,h⟩;have d:=Zy ((kx:Ext w _).trans h);clear h;go_wp2_with fail;refine(rq _ (o.ext d) nV).mono ?_;rintro r x a;rw[<-q.o]at a;have e:=Zy (jL.behind d a);rcases a.2.2 with⟨-,rfl⟩|⟨u,-,rfl,-⟩
 . exact⟨rfl,e⟩
 . clear a;go_wp2_with fail;refine Ta ?_;exact e
theorem jF.pG{t:uj}{f:Int}(a:jF w l p e c k m t f s d vs):¬qo l c d vs w.heap.size:=by
 have g:=a.blk.lt;have h:=a.kr.ord;have i:=a.hB;have j:=a.hk;rintro(b|b|b|b)
 . omega
 . omega
 . have:=(a.loc.lt _ b).2;omega
 . have:=(a.kH.lt _ b).2;omega
theorem NL{A v:Nat}{t:uj}{B:Int}{x: Value}(u:jF w l p A v k m t B s x vs)(i:Ins)(D:i.op=4):Calls prog 216 #[some v,.agg #[i.op,i.a,i.name,i.member]] w (jL w l p A v k m t B x vs (jN p k m i s)):=by
 have g:Zz (jN p k m i s=(oZ p k nV s).bind fun G=>(oZ p k nV G).bind (nY m nV)):=Zy (by unfold jN;rw[D];rfl);obtain⟨z,E,y,C⟩:=nu w #[i.op,i.a,i.name,i.member] 140;have⟨F,a⟩:=jf E (u.ext y);have c:Zz (Kp (qo l v x vs) z z):=Zy Kp.rr;have⟨o,r,K⟩:=jB (jV.refl z x vs) y C;have L:=u.blk.lt;have N:=jF.pG u;clear D u y C E;go_enter func216,ntmps216;go_wp2_with fail;rw[<-F.o];refine(yX).mono ?_;rintro q U ⟨rfl,d⟩;replace a:=Zy (a.ext d);replace c:=Zy (c.trans d.any);clear d;go_wp2_with fail;refine(nO _ a nV).mono ?_;rintro q V e;replace e:=jL.after c o e;rcases e with⟨f,j,⟨b,rfl⟩|⟨H,b,rfl,O,R,h,n⟩⟩
 . exact⟨rfl,jL.behind r ⟨f,j,.inl ⟨by rw[g.o,b];try rfl,rfl⟩⟩⟩
 replace g:Zz (jN p k m i s=(oZ p k nV H).bind (nY m nV)):=Zy (by rw[g.o,b];try rfl);replace a:=Zy h;replace c:=Zy f;replace o:=Zy n;clear h f n j b;go_wp2_with fail;refine(yX).mono ?_;rintro q W ⟨rfl,d⟩;replace a:=Zy (a.ext d);replace c:=Zy (c.trans d.any);clear d;go_wp2_with fail;refine(nO _ a nV).mono ?_;rintro q X e;replace e:=jL.after c o e;rcases e with⟨f,j,⟨b,rfl⟩|⟨I,b,rfl,P,S,h,n⟩⟩
 . exact⟨rfl,jL.behind r ⟨f,j,.inl ⟨by rw[g.o,b];try rfl,rfl⟩⟩⟩
 replace g:Zz (jN p k m i s=nY m nV I):=Zy (by rw[g.o,b];try rfl);replace a:=Zy h;replace c:=Zy f;replace o:=Zy n;clear h f n j b;go_wp2_with fail;refine(yX).mono ?_;rintro q Y ⟨rfl,d⟩;replace a:=Zy (a.ext d);replace c:=Zy (c.trans d.any);clear d;go_wp2_with fail;refine(rq _ a nV).mono ?_;rintro q Z e;replace e:=jL.after c o e;rcases e with⟨f,j,⟨b,rfl⟩|⟨J,b,rfl,Q,T,h,n⟩⟩
 . exact⟨rfl,jL.behind r ⟨f,j,.inl ⟨by rw[g.o,b];try rfl,rfl⟩⟩⟩
 replace g:Zz (jN p k m i s=some J):=Zy (by rw[g.o,b];try rfl);replace a:=Zy h;replace c:=Zy f;replace o:=Zy n;clear h f n j b;go_wp2_with fail;refine Ta ?_;exact jL.behind r ⟨c,a.kr,.inr ⟨_,g,rfl,_,_,a,o⟩⟩
theorem LJ{r: Nat}{t:uj}(c:jF w l p r e k m t v s f vs)(i:Ins)(B:i.op=5):Calls prog 217 #[some e,.agg #[i.op,i.a,i.name,i.member]] w (jL w l p r e k m t v f vs (jN p k m i s)):=by
 have b:Zz (jN p k m i s=nY m GR s):=Zy (by unfold jN;rw[B];rfl);obtain⟨q,C,j,x⟩:=nu w #[i.op,i.a,i.name,i.member] 140;have⟨D,a⟩:=jf C (c.ext j);have g:Zz (Kp (qo l e f vs) q q):=Zy Kp.rr;have⟨h,u,F⟩:=jB (jV.refl q f vs) j x;have H:=c.blk.lt;have I:=jF.pG c;clear B c j x C;go_enter func217,ntmps217;go_wp2_with fail;rw[<-D.o];refine(rq _ a GR).mono ?_;rintro G L n;replace n:=jL.after g h n;rcases n with⟨o,z,⟨d,rfl⟩|⟨E,d,rfl,J,K,y,A⟩⟩
 . exact⟨rfl,jL.behind u ⟨o,z,.inl ⟨by rw[b.o,d];try rfl,rfl⟩⟩⟩
 replace b:Zz (jN p k m i s=some E):=Zy (by rw[b.o,d];try rfl);replace a:=Zy y;replace g:=Zy o;replace h:=Zy A;clear y o A z d;go_wp2_with fail;refine Ta ?_;exact jL.behind u ⟨g,a.kr,.inr ⟨_,b,rfl,_,_,a,h⟩⟩
theorem NQ{v f:Nat}{t:uj}{y:Int}{g: Value}(d:jF w l p v f k m t y s g vs)(i:Ins)(C:i.op=6):Calls prog 218 #[some f,.agg #[i.op,i.a,i.name,i.member]] w (jL w l p v f k m t y g vs (jN p k m i s)):=by
 have c:Zz (jN p k m i s=nY m (lN i.name) s):=Zy (by unfold jN;rw[C];rfl);obtain⟨u,D,o,j⟩:=nu w #[i.op,i.a,i.name,i.member] 140;have⟨E,a⟩:=jf D (d.ext o);have b:Zz (Kp (qo l f g vs) u u):=Zy Kp.rr;have⟨h,x,H⟩:=jB (jV.refl u g vs) o j;have I:=d.blk.lt;have J:=jF.pG d;have P:=j.c 2 i.name rfl;clear C d o j D;go_enter func218,ntmps218;go_wp2_with fail;rw[<-E.o];refine(yN _ i.name).mono ?_;rintro F N ⟨rfl,n⟩;replace a:=Zy (a.ext n);replace b:=Zy (b.trans n.any);clear n;go_wp2_with fail;refine(rq _ a (lN i.name)).mono ?_;rintro F O q;replace q:=jL.after b h q;rcases q with⟨r,A,⟨e,rfl⟩|⟨G,e,rfl,K,L,z,B⟩⟩
 . exact⟨rfl,jL.behind x ⟨r,A,.inl ⟨by rw[c.o,e];try rfl,rfl⟩⟩⟩
 replace c:Zz (jN p k m i s=some G):=Zy (by rw[c.o,e];try rfl);replace a:=Zy z;replace b:=Zy r;replace h:=Zy B;clear z r B A e;go_wp2_with fail;refine Ta ?_;exact jL.behind x ⟨b,a.kr,.inr ⟨_,c,rfl,_,_,a,h⟩⟩
theorem NS{f: Nat}{t:uj}{g: Value}(d:jF w l p u f k m t x s g vs)(i:Ins)(C:i.op=14):Calls prog 226 #[some f,.agg #[i.op,i.a,i.name,i.member]] w (jL w l p u f k m t x g vs (jN p k m i s)):=by
 have c:Zz (jN p k m i s=oZ p k nV s):=Zy (by unfold jN;rw[C];rfl);obtain⟨r,D,n,y⟩:=nu w #[i.op,i.a,i.name,i.member] 140;have⟨E,a⟩:=jf D (d.ext n);have b:Zz (Kp (qo l f g vs) r r):=Zy Kp.rr;have⟨h,v,H⟩:=jB (jV.refl r g vs) n y;have I:=d.blk.lt;have J:=jF.pG d;clear C d n y D;go_enter func226,ntmps226;go_wp2_with fail;rw[<-E.o];refine(yX).mono ?_;rintro F N ⟨rfl,j⟩;replace a:=Zy (a.ext j);replace b:=Zy (b.trans j.any);clear j;go_wp2_with fail;refine(nO _ a nV).mono ?_;rintro F O o;replace o:=jL.after b h o;rcases o with⟨q,A,⟨e,rfl⟩|⟨G,e,rfl,K,L,z,B⟩⟩
 . exact⟨rfl,jL.behind v ⟨q,A,.inl ⟨by rw[c.o,e];try rfl,rfl⟩⟩⟩
 replace c:Zz (jN p k m i s=some G):=Zy (by rw[c.o,e];try rfl);replace a:=Zy z;replace b:=Zy q;replace h:=Zy B;clear z q B A e;go_wp2_with fail;refine Ta ?_;exact jL.behind v ⟨b,a.kr,.inr ⟨_,c,rfl,_,_,a,h⟩⟩
theorem PG{t:uj}(c:jF w l p u e k m t x s f vs)(i:Ins)(B:i.op=13):Calls prog 225 #[some e,.agg #[i.op,i.a,i.name,i.member]] w (jL w l p u e k m t x f vs (jN p k m i s)):=by
 have b:Zz (jN p k m i s=nS p k m i.a s):=Zy (by unfold jN;rw[B];rfl);obtain⟨r,C,n,j⟩:=nu w #[i.op,i.a,i.name,i.member] 140;have⟨D,a⟩:=jf C (c.ext n);have g:Zz (Kp (qo l e f vs) r r):=Zy Kp.rr;have⟨h,v,F⟩:=jB (jV.refl r f vs) n j;have I:=c.blk.lt;have J:=jF.pG c;obtain⟨H,-,O,-⟩:=j.ca;clear B c n j C;go_enter func225,ntmps225;go_wp2_with fail;rw[<-D.o];refine(x9 a i.a).mono ?_;rintro G N o;replace o:=jL.after g h o;rcases o with⟨q,z,⟨d,rfl⟩|⟨E,d,rfl,K,L,y,A⟩⟩
 . exact⟨rfl,jL.behind v ⟨q,z,.inl ⟨by rw[b.o,d];try rfl,rfl⟩⟩⟩
 replace b:Zz (jN p k m i s=some E):=Zy (by rw[b.o,d];try rfl);replace a:=Zy y;replace g:=Zy q;replace h:=Zy A;clear y q A z d;go_wp2_with fail;refine Ta ?_;exact jL.behind v ⟨g,a.kr,.inr ⟨_,b,rfl,_,_,a,h⟩⟩
theorem LK{t:uj}(o:jF w l p z q k m t A s r vs)(i:Ins)(D:i.op=11):Calls prog 223 #[some q,.agg #[i.op,i.a,i.name,i.member]] w (jL w l p z q k m t A r vs (jN p k m i s)):=by
 have d:Zz (jN p k m i s=(oZ p k nV s).bind (nS p k m i.a)):=Zy (by unfold jN;rw[D];rfl);obtain⟨y,E,x,B⟩:=nu w #[i.op,i.a,i.name,i.member] 140;have⟨G,b⟩:=jf E (o.ext x);have c:Zz (Kp (qo l q r vs) y y):=Zy Kp.rr;have⟨g,u,F⟩:=jB (jV.refl y r vs) x B;have K:=o.blk.lt;have H:=jF.pG o;clear D o x B E;go_enter func223,ntmps223;go_wp2_with fail;rw[<-G.o];refine(yX).mono ?_;rintro C Q ⟨rfl,v⟩;replace b:=Zy (b.ext v);replace c:=Zy (c.trans v.any);clear v;go_wp2_with fail;refine(nO _ b nV).mono ?_;rintro C R e;replace e:=jL.after c g e;rcases e with⟨f,j,⟨a,rfl⟩|⟨I,a,rfl,L,O,h,n⟩⟩
 . exact⟨rfl,jL.behind u ⟨f,j,.inl ⟨by rw[d.o,a];try rfl,rfl⟩⟩⟩
 replace d:Zz (jN p k m i s=nS p k m i.a I):=Zy (by rw[d.o,a];try rfl);replace b:=Zy h;replace c:=Zy f;replace g:=Zy n;clear h f n j a;have T:=(F.kp c H).c 1 i.a rfl;go_wp2_with fail;refine(x9 b i.a).mono ?_;rintro C S e;replace e:=jL.after c g e;rcases e with⟨f,j,⟨a,rfl⟩|⟨J,a,rfl,N,P,h,n⟩⟩
 . exact⟨rfl,jL.behind u ⟨f,j,.inl ⟨by rw[d.o,a];try rfl,rfl⟩⟩⟩
 replace d:Zz (jN p k m i s=some J):=Zy (by rw[d.o,a];try rfl);replace b:=Zy h;replace c:=Zy f;replace g:=Zy n;clear h f n j a;go_wp2_with fail;refine Ta ?_;exact jL.behind u ⟨c,b.kr,.inr ⟨_,d,rfl,_,_,b,g⟩⟩
theorem JP{y: Nat}{t:uj}{z:Int}(o:jF w l p y q k m t z s r vs)(i:Ins)(B:i.op=12):Calls prog 224 #[some q,.agg #[i.op,i.a,i.name,i.member]] w (jL w l p y q k m t z r vs (jN p k m i s)):=by
 have b:Zz (jN p k m i s=(xY s).bind (nS p k m i.a)):=Zy (by unfold jN;rw[B];rfl);obtain⟨x,C,v,A⟩:=nu w #[i.op,i.a,i.name,i.member] 140;have⟨E,e⟩:=jf C (o.ext v);have f:Zz (Kp (qo l q r vs) x x):=Zy Kp.rr;have⟨g,u,D⟩:=jB (jV.refl x r vs) v A;have J:=o.blk.lt;have G:=jF.pG o;clear B o v A C;go_enter func224,ntmps224;go_wp2_with fail;rw[<-E.o];refine(xB e).mono ?_;rintro F P c;replace c:=jL.after f g c;rcases c with⟨d,j,⟨a,rfl⟩|⟨H,a,rfl,K,N,h,n⟩⟩
 . exact⟨rfl,jL.behind u ⟨d,j,.inl ⟨by rw[b.o,a];try rfl,rfl⟩⟩⟩
 replace b:Zz (jN p k m i s=nS p k m i.a H):=Zy (by rw[b.o,a];try rfl);replace e:=Zy h;replace f:=Zy d;replace g:=Zy n;clear h d n j a;have R:=(D.kp f G).c 1 i.a rfl;go_wp2_with fail;refine(x9 e i.a).mono ?_;rintro F Q c;replace c:=jL.after f g c;rcases c with⟨d,j,⟨a,rfl⟩|⟨I,a,rfl,L,O,h,n⟩⟩
 . exact⟨rfl,jL.behind u ⟨d,j,.inl ⟨by rw[b.o,a];try rfl,rfl⟩⟩⟩
 replace b:Zz (jN p k m i s=some I):=Zy (by rw[b.o,a];try rfl);replace e:=Zy h;replace f:=Zy d;replace g:=Zy n;clear h d n j a;go_wp2_with fail;refine Ta ?_;exact jL.behind u ⟨f,e.kr,.inr ⟨_,b,rfl,_,_,e,g⟩⟩
theorem LF{t:uj}(o:jF w l p z q k m t A s r vs)(i:Ins)(D:i.op=15):Calls prog 227 #[some q,.agg #[i.op,i.a,i.name,i.member]] w (jL w l p z q k m t A r vs (jN p k m i s)):=by
 have d:Zz (jN p k m i s=(xY s).bind (nY m (lN i.name))):=Zy (by unfold jN;rw[D];rfl);obtain⟨y,E,x,B⟩:=nu w #[i.op,i.a,i.name,i.member] 140;have⟨G,b⟩:=jf E (o.ext x);have c:Zz (Kp (qo l q r vs) y y):=Zy Kp.rr;have⟨g,u,F⟩:=jB (jV.refl y r vs) x B;have K:=o.blk.lt;have H:=jF.pG o;clear D o x B E;go_enter func227,ntmps227;go_wp2_with fail;rw[<-G.o];refine(xB b).mono ?_;rintro C Q e;replace e:=jL.after c g e;rcases e with⟨f,j,⟨a,rfl⟩|⟨I,a,rfl,L,O,h,n⟩⟩
 . exact⟨rfl,jL.behind u ⟨f,j,.inl ⟨by rw[d.o,a];try rfl,rfl⟩⟩⟩
 replace d:Zz (jN p k m i s=nY m (lN i.name) I):=Zy (by rw[d.o,a];try rfl);replace b:=Zy h;replace c:=Zy f;replace g:=Zy n;clear h f n j a;have T:=(F.kp c H).c 2 i.name rfl;go_wp2_with fail;refine(yN _ i.name).mono ?_;rintro C R ⟨rfl,v⟩;replace b:=Zy (b.ext v);replace c:=Zy (c.trans v.any);clear v;go_wp2_with fail;refine(rq _ b (lN i.name)).mono ?_;rintro C S e;replace e:=jL.after c g e;rcases e with⟨f,j,⟨a,rfl⟩|⟨J,a,rfl,N,P,h,n⟩⟩
 . exact⟨rfl,jL.behind u ⟨f,j,.inl ⟨by rw[d.o,a];try rfl,rfl⟩⟩⟩
 replace d:Zz (jN p k m i s=some J):=Zy (by rw[d.o,a];try rfl);replace b:=Zy h;replace c:=Zy f;replace g:=Zy n;clear h f n j a;go_wp2_with fail;refine Ta ?_;exact jL.behind u ⟨c,b.kr,.inr ⟨_,d,rfl,_,_,b,g⟩⟩
theorem NU{f: Nat}{t:uj}{g: Value}(c:jF w l p u f k m t x s g vs)(i:Ins)(C:i.op=10):Calls prog 222 #[some f,.agg #[i.op,i.a,i.name,i.member]] w (jL w l p u f k m t x g vs (jN p k m i s)):=by
 have d:Zz (jN p k m i s=oZ p k (mr m.ret) s):=Zy (by unfold jN;rw[C];rfl);obtain⟨r,D,n,y⟩:=nu w #[i.op,i.a,i.name,i.member] 140;have⟨E,a⟩:=jf D (c.ext n);have b:Zz (Kp (qo l f g vs) r r):=Zy Kp.rr;have⟨h,v,H⟩:=jB (jV.refl r g vs) n y;have I:=c.blk.lt;have J:=jF.pG c;obtain⟨-,-,-,-,-,P,Q,-⟩:=c.blk.ca;clear C c n y D;go_enter func222,ntmps222;go_wp2_with fail;rw[<-E.o];refine(BP _ m.ret).mono ?_;rintro F N ⟨rfl,j⟩;replace a:=Zy (a.ext j);replace b:=Zy (b.trans j.any);clear j;go_wp2_with fail;refine(nO _ a (mr m.ret)).mono ?_;rintro F O o;replace o:=jL.after b h o;rcases o with⟨q,A,⟨e,rfl⟩|⟨G,e,rfl,K,L,z,B⟩⟩
 . exact⟨rfl,jL.behind v ⟨q,A,.inl ⟨by rw[d.o,e];try rfl,rfl⟩⟩⟩
 replace d:Zz (jN p k m i s=some G):=Zy (by rw[d.o,e];try rfl);replace a:=Zy z;replace b:=Zy q;replace h:=Zy B;clear z q B A e;go_wp2_with fail;refine Ta ?_;exact jL.behind v ⟨b,a.kr,.inr ⟨_,d,rfl,_,_,a,h⟩⟩
theorem NW{t:uj}{u:Int}{T: Value}(h:jF w l p B n k m t u s T vs)(i:Ins)(y:i.op=2)(Q:0<=i.a/\i.a<m.locals):Calls prog 214 #[some n,.agg #[i.op,i.a,i.name,i.member]] w (jL w l p B n k m t u T vs (jN p k m i s)):=by
 have c:Zz (jN p k m i s=(s.locals[i.a.toNat]?).bind fun t=>if t.kind=0 then none else nY m t s):=Zy (by unfold jN;rw[y];rfl);obtain⟨r,H,q,o⟩:=i;dsimp only at y Q c;obtain⟨b,rfl⟩:∃b:Nat,H=b:=⟨H.toNat,Zm⟩;have ae:b<s.locals.length:=SX h.NY
 obtain⟨a,z⟩:=om s.locals b ae;replace c:Zz (jN p k m ⟨r,b,q,o⟩ s=if a.kind=0 then none else nY m a s):=Zy (by rw[c.o,Vi,z];rfl);obtain⟨d,S,v,I⟩:=nu w #[r,b,q,o] 140;have j:=h.ext v;have x:=j.loc;obtain⟨lg,af,aa,ai,aj,ak⟩:=jT x Zm;subst aa;obtain⟨U,V⟩:=(lT (enc:=mg) (k:=2) (fun _=>rfl) x z).two;obtain⟨ag,ah,au,f⟩:=ll d;have K:=fun e=>(j.blk.ext (f.jv e)).c 11 (lg,s.locals.length,af) rfl;have J:=fun e=>(I.ext (f.jv e)).c 1 b rfl;have L:=fun e=>(f.jv e).je U;have N:=fun e=>(f.jv e).je V;have av:(b:Int)<s.locals.length:=Zm
 have Z:=h.JL;have hz:=h.blk.lt;have⟨F,W,D,C⟩:=jU f S v j;clear h y z S v I j x f U V Q;have R:(a.kind==0)=true\/(a.kind==0)=false:=by cases (a.kind==0)<;>simp
 go_enter func214,ntmps214;go_wp2_with fail;rw[<-W.o];refine jW F 9 [([0,1,2,3,4,5,6,7],8)] [] ?_ ?_
 . exact jg
 refine lJ ?_;intro X P;go_wp2_with fail;refine kk F P kx ?_;clear P X;refine ku ?_;go_wp2_with fail
 . clear R K J L N;have A:(a.kind==0)=true:=by assumption
   replace c:Zz (jN p k m ⟨r,b,q,o⟩ s=none):=Zy (by rw[c.o,Tv (by simpa using A)]);have O:=C.ext (kx:Ext d ((d.alloc (.cells #[a.kind,a.name] 209)).drew));refine(mK n u (O.blk.c 10 _ rfl) Z.1 Zm).mono ?_;rintro Y w3 ⟨rfl,rfl⟩;exact⟨rfl,jL.behind D ⟨(kx:Ext d ((d.alloc (.cells #[a.kind,a.name] 209)).drew)).any,O.kr,.inl ⟨c,rfl⟩⟩⟩
 . clear R K J L N;have A:(a.kind==0)=false:=by assumption
   replace c:Zz (jN p k m ⟨r,b,q,o⟩ s=nY m a s):=Zy (by rw[c.o,Tt (by simpa using A)]);have E:Zz (Ext d ((d.alloc (.cells #[a.kind,a.name] 209)).drew)):=Zy kx;refine(rq _ (C.ext E) a).mono ?_;rintro Y w2 g;replace g:=jL.behind (D.trans E) g;rw[<-c.o]at g;have G:=Zy g;rcases g.2.2 with⟨-,rfl⟩|⟨s',-,rfl,-⟩
   . exact⟨rfl,G⟩
   . clear g;go_wp2_with fail;refine Ta ?_;exact G
theorem Lf:∀(a:List Tag) (q:Nat) (x:Tag),((a.flatMap mg).set (q*2) x.kind).set (q*2+1) x.name=(a.set q x).flatMap mg:=by
 intro a;induction a with
 |nil=>intro q x;rfl
 | cons d c b =>
  intro q x;cases q with
  |zero=>simp[mg]
  |succ q=>
   have:=b q x;rw[show(q+1)*2=q*2+2 from by omega];simp[mg,UA,Tk]at this |-;exact this
theorem jF.yA{t:uj}{h:Int}{f: Nat}(a:jF w l p g e k m t h s (b,s.locals.length,f) vs)(q:Nat)(x:Tag):jF ((w.setCell (b,q*2) x.kind).setCell (b,q*2+1) x.name) l p g e k m t h ⟨s.locals.set q x,s.stack⟩ (b,s.locals.length,f) vs/\Kp (qo l e (b,s.locals.length,f) vs) w ((w.setCell (b,q*2) x.kind).setCell (b,q*2+1) x.name):=by
 have d:Kp (·=b) w ((w.setCell (b,q*2) x.kind).setCell (b,q*2+1) x.name):=
  ((Kp.refl (·=b) w).setCell (p:=⟨b,q*2,none⟩) (fun _=>rfl) _).setCell (p:=⟨b,q*2+1,none⟩) (fun _=>rfl) _
 have n:=(a.loc.lt b rfl).1;have y:=a.kr.ord;have v:=a.hB;have r:=a.Qq.1;have j:=(a.loc.stored (q*2) x.kind).1.stored (q*2+1) x.name;rw[Lf]at j;refine⟨⟨a.kr.kp d (fun i o c=>Zm),a.hB,a.hk,jM.kp jd.stays d (fun i o c=>Zm) a.ml,a.mi,a.blk.kp d (fun c=>r (by rw[c];rfl)),by simpa using j.1,jb a.kH d (fun u n _ c=>a.ne b rfl (by rw[<-c];exact n)),a.ne,a.JL,a.Qs,by simpa using a.NY⟩,d.weak fun i _ c=>.inr (.inr (.inl (by rw[c];rfl)))⟩
theorem PH{r: Nat}{t:uj}(f:jF w l p r g k m t x s vl vs)(i:Ins)(A:i.op=3)(U:0<=i.a/\i.a<m.locals):Calls prog 215 #[some g,.agg #[i.op,i.a,i.name,i.member]] w (jL w l p r g k m t x vl vs (jN p k m i s)):=by
 have c:Zz (jN p k m i s=(vF s).map fun d=>⟨d.2.locals.set i.a.toNat d.1,d.2.stack⟩):=Zy (by unfold jN;rw[A];rfl);obtain⟨E,N,D,C⟩:=i;dsimp only at A U c;obtain⟨a,rfl⟩:∃a:Nat,N=a:=⟨N.toNat,Zm⟩;have aj:a<s.locals.length:=SX f.NY
 obtain⟨F,W,y,O⟩:=nu w #[E,a,D,C] 140;have o:=f.ext y;have V:=f.pG;obtain⟨q,B,ai,av,ax,ay⟩:=jT o.loc Zm;subst ai;obtain⟨ak,ag,aA,n⟩:=qC.ex (fun L=>Kp (qo l g (q,s.locals.length,B) vs) F L/\∃Z aa,jF L l p r g k m t x Z (q,s.locals.length,B) aa) F ⟨Kp.rr,_,_,o⟩;have af:∀j,(ag j).cell? (g,11)=some (.slice (some ⟨q,0,none⟩) s.locals.length B):=fun j=>by
  obtain⟨_,Z,aa,Y⟩:=n.jv j;exact Y.blk.c 11 _ rfl
 have e1:=fun j=>(O.kp (n.jv j).1 V).c 1 a rfl;have aB:(a:Int)<s.locals.length:=Zm
 have au:=f.JL;have Y:=f.blk.lt;have⟨v,J,G,h⟩:=jU n W y o;clear f A W y O o n U V;rcases TN s.stack with b|⟨st,d,b⟩
 . replace c:Zz (jN p k m ⟨E,a,D,C⟩ s=none):=Zy (by rw[c.o];unfold vF;rw[b];rfl);have u:=Zy b;clear b;go_enter func215,ntmps215;go_wp2_with fail;rw[<-J.o];refine jW v 8 [([0,1,2,3,4,5,6],7)] [] ?_ ?_
   . exact⟨jg,_,_,h.ext jg⟩
   refine lJ ?_;intro K z;go_wp2_with fail;refine(wO (h.ext jg) u).mono ?_;rintro ae w1 ⟨rfl,R⟩;have hE:=(G.trans jg).trans R;exact⟨rfl,hE.any,((h.ext jg).ext R).kr,.inl ⟨c,rfl⟩⟩
 . rw[TM]at b;replace c:Zz (jN p k m ⟨E,a,D,C⟩ s=some ⟨s.locals.set a d,st⟩):=Zy (by rw[c.o];unfold vF;rw[b];simp);have u:=Zy b;clear b;go_enter func215,ntmps215;go_wp2_with fail;rw[<-J.o];refine jW v 8 [([0,1,2,3,4,5,6],7)] [] ?_ ?_
   . exact⟨jg,_,_,h.ext jg⟩
   refine lJ ?_;intro K z;go_wp2_with fail;refine(yU (h.ext jg) st d u).mono ?_;rintro ae w1 ⟨rfl,⟨aC,P,T⟩,S⟩;have⟨H,I,e⟩:=jB (((Kp.refl _ F).drew).trans S) T P;clear P T S;go_wp2_with fail;refine kk v z ⟨H,_,_,e⟩ ?_;clear z K;obtain⟨aD,X⟩:=om s.locals a aj;obtain⟨x0,x1⟩:=(lT (enc:=mg) (k:=2) (fun _=>rfl) e.loc X).two;have f0:=e.loc.frozenAt (a*2);have f1:=e.loc.frozenAt (a*2+1);have az:=(e.loc.lt q rfl).2;clear af e1 X;refine ku ?_;go_wp2_with fail;refine Ta ?_;obtain⟨Q,ah⟩:=e.yA a d;exact jL.behind G ⟨H.look ah I,Q.kr,.inr ⟨_,c,rfl,_,_,Q,I⟩⟩
theorem FL{d a: World}(f:Ext w d)(g:Kp (·=l.D) d a)(h:ji a l p)(j:l.L<b)(m:w<=b)(u0 u1 u2 u3 u4:Value):Kp (·=l.D) w (((((a.setCell b u0).setCell (b,1) u1).setCell (b,2) u2).setCell (b,3) u3).setCell (b,4) u4)/\ji (((((a.setCell b u0).setCell (b,1) u1).setCell (b,2) u2).setCell (b,3) u3).setCell (b,4) u4) l p:=by
 have c:=Kp.wu (D:=(·=b)) (w:=a) rfl u0 u1 u2 u3 u4;generalize (((((a.setCell b u0).setCell (b,1) u1).setCell (b,2) u2).setCell (b,3) u3).setCell (b,4) u4)=w8 at*;exact⟨(f.any.trans g).own c (fun i e=>Zm),h.kp c (fun i k e=>Zm)⟩
theorem DZ{af K:Nat}{t:uj}{P:Int}(j:jF w l p af K k m t P s vl vs)(i:Ins):Calls prog 239 #[some K,.agg #[i.op,i.a,i.name,i.member]] w fun g w'=>Kp (·=l.D) w w'/\ji w' l p/\(((M.get p k i.name i.member).2≠1/\g=.panicked (Ac (P+1)))\/((M.get p k i.name i.member).2=1/\g=.returned (.agg (oO (M.get p k i.name i.member).1).toArray))):=by
 obtain⟨c,J⟩:=SS ((w.alloc (.cells #[i.op,i.a,i.name,i.member] 140)).alloc (.cells #[Tc, "",Tc,Tc, ""] 211));have U:Ext w c:=by rw[J];exact kx
 have b3:hZ c w 140 #[i.op,i.a,i.name,i.member]:=by rw[J];exact(hZ.new _ _ _).ext kx
 have d:hZ c (w+1) 211 #[Tc, "",Tc,Tc, ""]:=by rw[J];exact hZ.newAt _ _ Zl
 have T:=j.ext U;have hD:=j.kr.ET;have aG:=j.kr.ord;have hB:=j.hB;have hk:=j.hk;have hz:=j.blk.lt;have aa:=j.JL;have X:¬K=l.D:=Zm
 have ay:¬w=l.D:=Zm
 have ae:¬w+1=l.D:=Zm
 obtain⟨aB,aC,aF,O⟩:=qC.ex (fun W'=>Kp (·=l.D) c W') _ Kp.rr;obtain⟨-,r0,r1,-⟩:=hZ.lC fun Z=>(T.blk.kp (O.jv Z) X);obtain⟨-,-,-,r2,r3,-⟩:=hZ.lC fun Z=>(b3.kp (O.jv Z) ay);have⟨h,ah,E,C,N⟩:=ni O J U T d;obtain⟨r,u,v,x,y,Y⟩:∃aj b ak au g,(oO (M.get p k i.name i.member).1).toArray=#[.int .i64 aj,.string b,.int .i64 ak,.int .i64 au,.string g]:=⟨_,_,_,_,_,rfl⟩;have HV:=Zy Y;rw[Y];clear Y;clear j J U b3 d T O;go_enter func239,ntmps239;go_wp2_with fail;rw[<-ah.o];refine qp h 18 (.two [0,1,2,3,4,5,6,7,8,9,10,11] 12 16 (.one [13,14,15] 16 (.one [] 17 (.fin []))) (.one [] 12 (.one [13,14,15] 17 (.fin [])))) ?_ ?_
 . exact jg
 refine two [_,_,_,_,_,_,_,_,_,_,_,_] rfl rfl rfl fun ai hK=>?_;(repeat (go_big_quiet_step (fail)));((refine F5 hK (fun f a=>?_) fun f a=>?_)<;>clear hK ai)
 . go_wp2_with fail;refine(vW _ _ _ (C.kr.ext jg) k i.name i.member).mono ?_;rintro g L ⟨⟨ev,H,W⟩,G,A⟩;rw[HV.o]at H;subst H;have⟨o,ag⟩:=jf ((jg).trans A) G;clear G A;obtain⟨B,n⟩:=SS (L.alloc (.cells #[r,u,v,x,y] 211));have e:Zz (Kp (·=l.D) c B):=Zy (by rw[n];exact o.alloc _);have F:Zz (ji B l p):=Zy (by rw[n];exact ag.ext kx);have z:hZ B L 211 #[r,u,v,x,y]:=by rw[n];exact hZ.new _ _ _
   have S:=Zy n;obtain⟨-,u0,u1,u2,u3,u4,-⟩:=z.ca;have av:¬(w:Nat)+1=(L:Nat):=SY N.lt o.size
   have ax:¬(L:Nat)=w+1:=Zm
   clear z n;rcases W with⟨q,rfl⟩|⟨q,b,rfl,-⟩
   all_goals
    have D:=Zy q;clear q;go_wp2_with fail;refine kk h a o ?_;clear a f;refine Bi ?_;intro f a;go_wp2_with fail;refine kk h a (o.alloc _) ?_;clear a f;refine jX rfl fun f a=>?_;go_wp2_with fail;rw[<-S.o];refine kk h a e ?_;clear a f;clear h r0 r1 r2 r3;have d:=N.kp e ae;obtain⟨z4,x0,x1,x2,x3,x4,-⟩:=d.ca;obtain⟨f0,f1,f2,f3,f4,-⟩:=d.fz;have R:=Zy d;clear d;refine kL ?_;go_wp2_with fail
   . refine Cv (jE vO rfl (w+1) rfl [r,u,v,x,y] (hH.l7 (R.wu _ _ _ _ _)) rfl) rfl ?_;have I:=FL (b:=w.heap.size+1) E e F Zm Zm r u v x y;exact⟨I.1,I.2,.inr ⟨D,rfl⟩⟩
   . refine(mK K P ((C.blk.kp e X).c 10 _ rfl) aa.1 Zm).mono ?_;rintro g w9 ⟨rfl,rfl⟩;exact⟨rfl,E.any.trans e,F,.inl ⟨D,rfl⟩⟩
 . go_wp2_with fail;refine kk h a ((jg).alloc _) ?_;clear a f;refine jX rfl fun f a=>?_;go_wp2_with fail;have b5:hZ (c.alloc (.cells #[Tc, "",Tc,Tc, ""] 211)).drew c 211 #[Tc, "",Tc,Tc, ""]:=(hZ.new _ _ _).ext jg;have aD:=C.kr.ET;have az:¬c.heap.size=l.D:=Zm
   refine(vW _ _ _ (C.kr.ext (jw _).drew) k i.name i.member).mono ?_;rintro g L ⟨⟨ev,H,W⟩,G,A⟩;rw[HV.o]at H;subst H;have o:=Zy ((((Kp.refl _ c).alloc _).drew).trans A);have Q:=b5.kp A az;have aH:=E.size;have av:¬w.heap.size+1=(c:Nat):=SX N.lt
   have ax:¬c.heap.size=w+1:=Zm
   obtain⟨z5,y0,y1,y2,y3,y4,-⟩:=Q.ca;obtain⟨g0,g1,g2,g3,g4,-⟩:=Q.fz;obtain⟨B,n,z,V⟩:=SQ Q r u v x y;have⟨e,F,aA,S⟩:=jU (o.own V (fun k g=>Zm)) (G.kp V (fun b hb g=>Zm)) z n;obtain⟨-,u0,u1,u2,u3,u4,-⟩:=z.ca;clear b5 Q G A V z n;rcases W with⟨q,rfl⟩|⟨q,b,rfl,-⟩
   all_goals
    have D:=Zy q;clear q;go_wp2_with fail;refine kk h a o ?_;clear a f;refine Bi ?_;intro f a;go_wp2_with fail;rw[<-S.o];refine kk h a e ?_;clear a f;clear h r0 r1 r2 r3 y0 y1 y2 y3 y4 g0 g1 g2 g3 g4;have d:=N.kp e ae;obtain⟨z4,x0,x1,x2,x3,x4,-⟩:=d.ca;obtain⟨f0,f1,f2,f3,f4,-⟩:=d.fz;have R:=Zy d;clear d;refine kL ?_;go_wp2_with fail
   . refine Cv (jE vO rfl (w+1) rfl [r,u,v,x,y] (hH.l7 (R.wu _ _ _ _ _)) rfl) rfl ?_;have I:=FL (b:=w.heap.size+1) E e F Zm Zm r u v x y;exact⟨I.1,I.2,.inr ⟨D,rfl⟩⟩
   . refine(mK K P ((C.blk.kp e X).c 10 _ rfl) aa.1 Zm).mono ?_;rintro g w9 ⟨rfl,rfl⟩;exact⟨rfl,E.any.trans e,F,.inl ⟨D,rfl⟩⟩
theorem NM{t:uj}(y:jF w l p N n k m t Q s f vs)(i:Ins)(T:i.op=7):Calls prog 219 #[some n,.agg #[i.op,i.a,i.name,i.member]] w (jL w l p N n k m t Q f vs (jN p k m i s)):=by
 have b:Zz (jN p k m i s=if(M.get p k i.name i.member).2=1 then(oZ p k (lN i.name) s).bind (nY m (mr (M.get p k i.name i.member).1.kind))else none):=Zy (by unfold jN;rw[T];rfl);obtain⟨K,U,E,R⟩:=nu w #[i.op,i.a,i.name,i.member] 140;have⟨X,a⟩:=jf U (y.ext E);have c:Zz (Kp (qo l n f vs) K K):=Zy Kp.rr;have⟨o,P,O⟩:=jB (jV.refl K f vs) E R;have ag:=y.blk.lt;have aa:=jF.pG y;clear T y E R U;go_enter func219,ntmps219;go_wp2_with fail;rw[<-X.o];obtain⟨G,A⟩:∃G,M.get p k i.name i.member=G:=⟨_,rfl⟩;have J:=DZ a i;rw[A]at J;replace b:Zz (jN p k m i s=if G.2=1 then((oZ p k (lN i.name) s).bind (nY m (mr G.1.kind)))else none):=Zy (by rw[b.o,A]);have ai:=a.kr.ord;have af:=a.hB;have ah:=a.hk;refine J.mono ?_;rintro d L ⟨r,F,⟨B,rfl⟩|⟨B,I⟩⟩
 . exact⟨rfl,jL.behind P ⟨r.weak (fun Z _ d=>.inl d),F,.inl ⟨by rw[b.o,Tt B],rfl⟩⟩⟩
 replace b:Zz (jN p k m i s=((oZ p k (lN i.name) s).bind (nY m (mr G.1.kind)))):=Zy (by rw[b.o,Tv B]);replace I:d=.returned (.agg #[.int .i64 G.1.of.keeper,.string G.1.of.name,.int .i64 G.1.at_,.int .i64 G.1.kind.kind,.string G.1.kind.name]):=I;subst I;have D:=a.oQ r F;obtain⟨x,V,z,S⟩:=nu L #[.int .i64 G.1.of.keeper,.string G.1.of.name,.int .i64 G.1.at_,.int .i64 G.1.kind.kind,.string G.1.kind.name] 211;have H:=O.kp r (fun d=>aa (.inl d));obtain⟨aj,-,-,y2,-⟩:=H.ca;have ae:¬qo l n f vs L.heap.size:=D.pG;have C:Zz (Kp (qo l n f vs) w x):=Zy ((P.any.trans (r.weak (fun Z _ d=>.inl d))).trans z.any);have W:=Zy S;replace O:=Zy (H.ext z);replace a:=Zy (D.ext z);replace c:Zz (Kp (qo l n f vs) x x):=Zy Kp.rr;replace o:=Zy (jV.refl x f vs);have⟨Y,HG⟩:=jf V A;clear J r F B V z S H D A;go_wp2_with fail;rw[<-Y.o];clear y2;refine(yN _ i.name).mono ?_;rintro d L ⟨rfl,g⟩;replace a:=Zy (a.ext g);replace c:=Zy (c.trans g.any);clear g;go_wp2_with fail;refine(nO _ a (lN i.name)).mono ?_;rintro d x h;replace h:=jL.after c o h;rcases h with⟨j,u,⟨e,rfl⟩|⟨s2,e,rfl,ak,av,q,v⟩⟩
 . exact⟨rfl,jL.after C (jV.refl _ _ _) ⟨j,u,.inl ⟨by rw[b.o,e];try rfl,rfl⟩⟩⟩
 replace b:Zz (jN p k m i s=nY m (mr G.1.kind) s2):=Zy (by rw[b.o,e];try rfl);replace a:=Zy q;replace c:=Zy j;replace o:=Zy v;clear q j v u e;obtain⟨-,-,-,-,y3,y4,-⟩:=(W.kp c ae).ca;go_wp2_with fail;refine(BP _ G.1.kind).mono ?_;rintro d w3 ⟨rfl,g⟩;replace a:=Zy (a.ext g);replace c:=Zy (c.trans g.any);clear g;go_wp2_with fail;refine(rq _ a (mr G.1.kind)).mono ?_;rintro d w4 h;replace h:=jL.after c o h;rcases h with⟨j,u,⟨e,rfl⟩|⟨s4,e,rfl,au,ax,q,v⟩⟩
 . exact⟨rfl,jL.after C (jV.refl _ _ _) ⟨j,u,.inl ⟨by rw[b.o,e];try rfl,rfl⟩⟩⟩
 replace b:Zz (jN p k m i s=some s4):=Zy (by rw[b.o,e];try rfl);replace a:=Zy q;replace c:=Zy j;replace o:=Zy v;clear q j v u e;go_wp2_with fail;refine Ta ?_;exact jL.after C (jV.refl _ _ _) ⟨c,a.kr,.inr ⟨_,b,rfl,_,_,a,o⟩⟩
theorem NV{O: Nat}{t:uj}(y:jF w l p O n k m t Q s f vs)(i:Ins)(U:i.op=8):Calls prog 220 #[some n,.agg #[i.op,i.a,i.name,i.member]] w (jL w l p O n k m t Q f vs (jN p k m i s)):=by
 have b:Zz (jN p k m i s=if(M.get p k i.name i.member).2=1 then(oZ p k (mr (M.get p k i.name i.member).1.kind) s).bind (oZ p k (lN i.name))else none):=Zy (by unfold jN;rw[U];rfl);obtain⟨L,V,F,R⟩:=nu w #[i.op,i.a,i.name,i.member] 140;have⟨Y,a⟩:=jf V (y.ext F);have c:Zz (Kp (qo l n f vs) L L):=Zy Kp.rr;have⟨o,P,C⟩:=jB (jV.refl L f vs) F R;have ag:=y.blk.lt;have T:=jF.pG y;clear U y F R V;go_enter func220,ntmps220;go_wp2_with fail;rw[<-Y.o];obtain⟨G,A⟩:∃G,M.get p k i.name i.member=G:=⟨_,rfl⟩;have K:=DZ a i;rw[A]at K;replace b:Zz (jN p k m i s=if G.2=1 then((oZ p k (mr G.1.kind) s).bind (oZ p k (lN i.name)))else none):=Zy (by rw[b.o,A]);have aj:=a.kr.ord;have af:=a.hB;have ah:=a.hk;refine K.mono ?_;rintro d N ⟨r,H,⟨B,rfl⟩|⟨B,J⟩⟩
 . exact⟨rfl,jL.behind P ⟨r.weak (fun aa _ d=>.inl d),H,.inl ⟨by rw[b.o,Tt B],rfl⟩⟩⟩
 replace b:Zz (jN p k m i s=((oZ p k (mr G.1.kind) s).bind (oZ p k (lN i.name)))):=Zy (by rw[b.o,Tv B]);replace J:d=.returned (.agg #[.int .i64 G.1.of.keeper,.string G.1.of.name,.int .i64 G.1.at_,.int .i64 G.1.kind.kind,.string G.1.kind.name]):=J;subst J;have E:=a.oQ r H;obtain⟨x,W,z,S⟩:=nu N #[.int .i64 G.1.of.keeper,.string G.1.of.name,.int .i64 G.1.at_,.int .i64 G.1.kind.kind,.string G.1.kind.name] 211;have I:=C.kp r (fun d=>T (.inl d));obtain⟨ak,-,-,X,-⟩:=I.ca;have ai:¬qo l n f vs N.heap.size:=E.pG;have D:Zz (Kp (qo l n f vs) w x):=Zy ((P.any.trans (r.weak (fun aa _ d=>.inl d))).trans z.any);have ae:=Zy S;replace C:=Zy (I.ext z);replace a:=Zy (E.ext z);replace c:Zz (Kp (qo l n f vs) x x):=Zy Kp.rr;replace o:=Zy (jV.refl x f vs);have⟨Z,HG⟩:=jf W A;clear K r H B W z S I E A;go_wp2_with fail;rw[<-Z.o];clear X;refine(BP _ G.1.kind).mono ?_;rintro d N ⟨rfl,g⟩;replace a:=Zy (a.ext g);replace c:=Zy (c.trans g.any);clear g;go_wp2_with fail;refine(nO _ a (mr G.1.kind)).mono ?_;rintro d x h;replace h:=jL.after c o h;rcases h with⟨j,u,⟨e,rfl⟩|⟨s2,e,rfl,au,ax,q,v⟩⟩
 . exact⟨rfl,jL.after D (jV.refl _ _ _) ⟨j,u,.inl ⟨by rw[b.o,e];try rfl,rfl⟩⟩⟩
 replace b:Zz (jN p k m i s=oZ p k (lN i.name) s2):=Zy (by rw[b.o,e];try rfl);replace a:=Zy q;replace c:=Zy j;replace o:=Zy v;clear q j v u e;have X:=(C.kp c T).c 2 i.name rfl;go_wp2_with fail;refine(yN _ i.name).mono ?_;rintro d w3 ⟨rfl,g⟩;replace a:=Zy (a.ext g);replace c:=Zy (c.trans g.any);clear g;go_wp2_with fail;refine(nO _ a (lN i.name)).mono ?_;rintro d w4 h;replace h:=jL.after c o h;rcases h with⟨j,u,⟨e,rfl⟩|⟨s4,e,rfl,av,ay,q,v⟩⟩
 . exact⟨rfl,jL.after D (jV.refl _ _ _) ⟨j,u,.inl ⟨by rw[b.o,e];try rfl,rfl⟩⟩⟩
 replace b:Zz (jN p k m i s=some s4):=Zy (by rw[b.o,e];try rfl);replace a:=Zy q;replace c:=Zy j;replace o:=Zy v;clear q j v u e;go_wp2_with fail;refine Ta ?_;exact jL.after D (jV.refl _ _ _) ⟨c,a.kr,.inr ⟨_,b,rfl,_,_,a,o⟩⟩
attribute [local go_sem] Oper.semAt_some
theorem Gj{a:Option Addr}:Calls prog 240 #[.slice a n c] w fun b d=>b=.returned (.func (.func 248) #[] #[some w])/\w.alloc (.cells #[.slice a n c] 126)=d:=by
 go_enter func240,ntmps240;go_wp2;go_ret;exact⟨rfl,rfl⟩
def KE(x:Int×Kind):Array Value:=#[.int .i64 x.1,.agg #[.int .i64 x.2.kind,.string x.2.name]]
theorem Dh(a:List Kind)(h:Nat)(v:Value)(I w:Nat->Prop)(hBd:∀b,w b->b≠h/\¬I b):Qg prog 248 #[some h] KE (fun _=>False) w (fun xs=>xs=backTo a a.length) (fun c=>∃u,backTo a a.length=c++u) (fun _=>True) (fun k=>hZ k h 126 #[v]/\SliceOf 2 nC k I v a) (fun c e=>∃u,backTo a a.length=c++e::u):=by
 intro lp N Jx Jp k ⟨p,s⟩ z A U V o T;obtain⟨l,i,rfl,hn,ai⟩:=s.form;refine callsIn_of_wp func248 rfl trivial ?_ rfl;simp only[ntmps248,UY,TE,Uj,Nat.reduceAdd,Nat.reduceSub,Um,Ul,UX,Ug,TW,TF];have c0:=p.c 0 (.slice l a.length i) rfl;have G:IntKind.i64.wrap ((a.length:Int) - 1)=(a.length:Int) - 1:=TK _ Zm;gi_wp2;clear G;gi_loopg [3] a.length (fun j J wr=>∃c:List (Int×Kind),((j=0/\J=.int .i64 (-1))\/∃b:Nat,j=b+1/\J=.int .i64 b)/\j<=a.length/\Zz (backTo a a.length=c++backTo a j)/\Zz (N c wr/\hZ wr h 126 #[.slice l a.length i]/\SliceOf 2 nC wr I (.slice l a.length i) a))
 case atStart=>
  refine⟨[],?_,T9 _,Zy Zl,Zy ⟨T,p,s⟩⟩;rcases Wx a.length with m|m
  . left;exact⟨m,by rw[m];rfl⟩
  . right;exact⟨a.length - 1,Zm,by congr 1;omega⟩
 case round =>
  obtain⟨c,hm,ak,x,y⟩:=hrel;rcases hm with⟨rfl,rfl⟩|⟨b,rfl,rfl⟩
  . have L:Zz (backTo a a.length=c):=Zy (by rw[x.o];simp[backTo]);gi_wp2;refine Ta ?_;exact .inl ⟨⟨_,rfl⟩,.inl ⟨c,L.symm,y.1⟩⟩
  . obtain⟨e,t⟩:=get_some (show b<a.length by omega);obtain⟨D,d,r⟩:=y.o;obtain⟨O,aa,cs,rfl,hI,rfl,-,C⟩:=r.get t;obtain⟨Q,R⟩:=C.two;have P:=d.c 0 (.slice (some ⟨O,aa,none⟩) a.length i) rfl;have Z:(0:Int)<=(b:Int):=Zm
    have aj:(b:Int)<a.length:=Zm
    have W:=Tz Z;have f:Zz (backTo a a.length=(c++[((b:Int),e)])++backTo a b):=Zy (by rw[x.o,xP t,U1];rfl);obtain⟨fn,av,af,ag,H,n⟩:=o c ((b:Int),e) wr ⟨backTo a b,by rw[f.o,U1];rfl⟩ D;simp only[KE]at H n;have⟨HY,ae,g⟩:=jB o (Tn z A) (Tn hBd (Tn d r));have G:IntKind.i64.wrap ((b:Int) - 1)=(b:Int) - 1:=TK _ Zm;clear o z A U V hBd d r s t C D p;gi_wp2_with fail;refine n.mono ?_;rintro ah W1 ⟨q,(⟨rfl,E⟩|⟨rfl,Y⟩|⟨ch,rfl,X⟩)⟩
    . have B:=g.2.1.kp q (fun d=>(g.1 _ d).1 rfl);have F:=g.2.2.keep nC.stays (Kp.same q fun au hq d=>(g.1 _ d).2 hq) (fun _ S=>S);have K:=Zy (Tn E (Tn B F));clear E B F q Q R P H n W;gi_wp2_with fail;gi_roundg b
      case measure=>omega
      case rel=>
       refine⟨c++[((b:Int),e)],?_,Zm,f,K⟩;cases b with
       |zero=>left;exact⟨rfl,rfl⟩
       |succ b=>right;exact⟨b,rfl,by congr 1;omega⟩
    . gi_wp2_with fail;refine Ta ?_;exact .inl ⟨⟨_,rfl⟩,.inr ⟨_,⟨_,f⟩,Y⟩⟩
    . exact⟨rfl,.inr ⟨_,_,rfl,⟨_,f⟩,X⟩⟩
end Go.Proofs.YtlhgbjbkjalfjaaGreat
namespace Go.Proofs.YtlhgbjbkjalfjaaGreat
open Go Go.RowKit Tryz M
variable {b: Book}{c n: ByteArray}{Q R css: List (List Value)}{m: List (PM.Key×Int)}{xs: List Value}{base g k: Nat}{A D I J: Nat->Prop}{e t: TypeId}{q s v va vo: Value}{a d w: World}{p: iZ}{x: mD}
def xq(I:Nat->Prop)(w:World)(v:Value)(css:List (List Value))(b:Nat):Prop:=I b/\b<w.heap.size/\∀u∈v::css.flatten,u.ownBlock≠some b
structure qW(w:World)(I:Nat->Prop)(base:Nat)(v:Value)(css:List (List Value))(p:iZ):Prop where
 own:w.ownsRow base 145 2 v p.length css.flatten
 row:∀(k:Nat) (x:mD),p[k]?=some x->∃vo va co ca,css[k]?=some [vo,va]/\kv 47 4 jh w (xq I w v css) base vo co x.owns/\kv 150 2 mQ w (xq I w v css) base va ca x.asks
 len:css.length=p.length/\∀c∈css,c.length=2
 lt:∀u∈v::css.flatten,∀g,u.ownBlock=some g->base<=g/\g<w.heap.size
 apart:∀(i j:Nat) (u u':Value) (g:Nat),(v::css.flatten)[i]?=some u->(v::css.flatten)[j]?=some u'->u.ownBlock=some g->u'.ownBlock=some g->i=j
theorem qW.nil(w:World)(I:Nat->Prop)(base:Nat):qW w I base () [] []:=by
 refine⟨Tf _ _ _ _,by simp,by simp,fun g b d f=>?_,fun c h g i d a _ e _=>?_⟩
 . simp at b;subst b;cases f
 . cases c with
   |zero=>simp at a;subst a;cases e
   |succ c=>simp at a
theorem qW.keep{n: World}(c:qW w I base v css p)(g:Kp D w n)(r:∀a,D a->a<base/\¬I a):qW n I base v css p:=by
 have E:=g.size;have k:∀f∈v::css.flatten,∀b,f.ownBlock=some b->¬D b:=fun f j b e h=>SY ((c.lt f j b e).1) ((r b h).1)
 have o:∀a,xq I w v css a->¬D a:=fun a d h=>(r a h).2 d.1;have q:∀a,xq I w v css a->xq I n v css a:=fun a d=>⟨d.1,SX d.2.1,d.2.2⟩;refine⟨jb c.own g fun b e _=>k v Zl b e,fun B C A=>?_,c.len,fun f j b e=>SX (c.lt f j b e),c.apart⟩;obtain⟨m,l,t,s,i,u,x⟩:=c.row B C A;have z:m∈v::css.flatten:=TU _ (List.mem_flatten.2 ⟨_,RA i,by simp⟩);have y:l∈v::css.flatten:=TU _ (List.mem_flatten.2 ⟨_,RA i,by simp⟩);exact⟨m,l,t,s,i,u.keep jh.stays g (k m z) o q,x.keep mQ.stays g (k l y) o q⟩
theorem qW.snoc {W: World} {I : Nat -> Prop} {n1 n2: Nat} {v': Value} (d : qW w I base v css p) (G : Kp (fun b => v.ownBlock = some b) w W)(hb:base<=w) (ae:∀b,base<=b->I b) (h1:w<=n1) (h2:n1<=n2) (h3:n2<=W)(ho:kv 47 4 jh W (fun b=>(I b/\b<base)\/(w.heap.size<=b/\b<n1/\vo.ownBlock≠some b)) base vo R x.owns) (L:∀a,vo.ownBlock=some a->w.heap.size<=a/\a<n1)(ha:kv 150 2 mQ W (fun _=>False) base va Q x.asks) (z:∀a,va.ownBlock=some a->n1<=a/\a<n2)(ai:W.ownsRow base 145 2 v' (p.length+1) (css.flatten++[vo,va])) (A:∀a,v'.ownBlock=some a->v.ownBlock=some a\/(n2<=a/\a<W.heap.size)):qW W I base v' (css++[[vo,va]]) (p++[x]):=by
 have hz:=G.size;have H:(css++[[vo,va]]).flatten=css.flatten++[vo,va]:=by simp
 have K:∀c,c∈v'::(css++[[vo,va]]).flatten->c=v'\/c∈css.flatten\/c=vo\/c=va:=fun c i=>by
  rw[H]at i;simpa using i
 have V:∀c∈v'::(css++[[vo,va]]).flatten,∀a,c.ownBlock=some a->base<=a/\a<W.heap.size:=fun c i a m=>by
  rcases K c i with rfl|g|rfl|rfl
  . rcases A a m with n|n
    . have:=d.lt v Zl a n;omega
    . omega
  . have:=d.lt c (TU _ g) a m;omega
  . have:=L a m;omega
  . have:=z a m;omega
 have ag:∀b,xq I w v css b->∀c∈v'::(css++[[vo,va]]).flatten,c.ownBlock≠some b:=fun b h c i l=>by
  have aj:=h.2.1;rcases K c i with rfl|g|rfl|rfl
  . rcases A b l with n|n
    . exact h.2.2 v Zl n
    . omega
  . exact h.2.2 c (TU _ g) l
  . have:=L b l;omega
  . have:=z b l;omega
 have T:∀b,xq I w v css b->xq I W v' (css++[[vo,va]]) b:=fun b h=>⟨h.1,SX h.2.1,ag b h⟩
 have ah : ∀ b, ((I b /\ b < base) \/ (w.heap.size <= b /\ b < n1 /\ vo.ownBlock ≠ some b)) -> xq I W v' (css ++ [[vo, va]]) b := fun b h => by
  refine⟨h.elim And.left fun g=>ae b Zm,by rcases h with g|g<;>omega,fun c i l=>?_⟩;have ak:=V c i b l;rcases h with g|⟨g,n,t⟩
  . omega
  . rcases K c i with rfl|h7|rfl|rfl
    . rcases A b l with S|S
      . have:=d.lt v Zl b S;omega
      . omega
    . have:=d.lt c (TU _ h7) b l;omega
    . exact t l
    . have:=z b l;omega
 have N:∀c∈css.flatten,∀a,c.ownBlock=some a->¬v.ownBlock=some a:=fun c i a m l=>by
  obtain⟨k,j⟩:=UE.1 i;have:=d.apart 0 (k+1) v c a Zl (by simpa using j) l m;omega
 refine⟨by rw[H,TP];exact ai,fun r q o=>?_,⟨by simp[d.len.1],fun Y hc=>?_⟩,V,?_⟩
 . by_cases U:r<p.length
   . rw[Te U]at o;obtain⟨P,O,aa,Z,g,n,t⟩:=d.row r q o;have mo:P∈css.flatten:=List.mem_flatten.2 ⟨_,RA g,by simp⟩;have ma:O∈css.flatten:=List.mem_flatten.2 ⟨_,RA g,by simp⟩;exact⟨P,O,aa,Z,by rw[Te (by rw[d.len.1];exact U)];exact g,
      n.keep jh.stays G (N P mo) (fun b h=>h.2.2 v Zl) T,t.keep mQ.stays G (N O ma) (fun b h=>h.2.2 v Zl) T⟩
   . rw[TS Zm]at o;obtain⟨af,rfl⟩:r=p.length/\x=q:=by
      obtain⟨g,n⟩:=Tw.1 o;simp at g;refine⟨Zm,?_⟩;have t:r - p.length=0:=Zm
      simpa [t]using o
     subst af;refine⟨vo,va,R,Q,by rw[<-d.len.1,TS (T9 _)];simp,?_,?_⟩
     . exact ho.keep (D:=fun _=>False) jh.stays Kp.rr (fun _ _ d=>d) (fun _ _ d=>d) ah
     . exact ha.keep (D:=fun _=>False) mQ.stays Kp.rr (fun _ _ d=>d) (fun _ _ d=>d) fun b h=>h.elim
 . rcases TZ.1 hc with g|g
   . exact d.len.2 Y g
   . simp at g;subst g;rfl
 . rw [H]
   have cls : ∀ (k : Nat) (c : Value) (a : Nat), (v' :: (css.flatten ++ [vo, va]))[k]? = some c -> c.ownBlock = some a →
       (k=0/\(v.ownBlock=some a\/n2<=a))\/(∃D,k=D+1/\css.flatten[D]?=some c)\/(k=css.flatten.length+1/\w.heap.size<=a/\a<n1)\/(k=css.flatten.length+2/\n1<=a/\a<n2):=fun k c a j m=>by
    rcases k with _|k
    . simp at j;subst j;exact .inl ⟨rfl,(A a m).imp id And.left⟩
    . simp only[List.getElem?_cons_succ]at j;by_cases J:k<css.flatten.length
      . rw[Te J]at j;exact .inr (.inl ⟨k,rfl,j⟩)
      . rw[TS Zm]at j;obtain⟨F,hm⟩:∃F,k=css.flatten.length+F:=⟨k - css.flatten.length,Zm⟩;subst hm;rw[Nat.add_sub_cancel_left]at j;rcases F with _|_|F
        . simp at j;subst j;exact .inr (.inr (.inl ⟨rfl,L a m⟩))
        . simp at j;subst j;exact .inr (.inr (.inr ⟨rfl,z a m⟩))
        . simp at j
   intro k D c y a j J i u;have s:∀(r:Nat) (q:Value),css.flatten[r]?=some q->q.ownBlock=some a->a<w.heap.size/\¬v.ownBlock=some a:=fun r q o X=>
    ⟨(d.lt q (TU _ (RA o)) a X).2,N q (RA o) a X⟩
   have B:v.ownBlock=some a->a<w.heap.size:=fun l=>(d.lt v Zl a l).2;rcases cls k c a j i with⟨rfl,e⟩|⟨C,rfl,e⟩|⟨rfl,e⟩|⟨rfl,e⟩<;>rcases cls D y a J u with⟨rfl,f⟩|⟨E,rfl,f⟩|⟨rfl,f⟩|⟨rfl,f⟩
   . rfl
   . have:=s E y f u;rcases e with e|e
     . exact absurd e this.2
     . omega
   . rcases e with e|e
     . have:=B e;omega
     . omega
   . rcases e with e|e
     . have:=B e;omega
     . omega
   . have:=s C c e i;rcases f with f|f
     . exact absurd f this.2
     . omega
   . have:=d.apart (C+1) (E+1) c y a (by simpa using e) (by simpa using f) i u;omega
   . have:=(s C c e i).1;omega
   . have:=(s C c e i).1;omega
   . rcases f with f|f
     . have:=B f;omega
     . omega
   . have:=(s E y f u).1;omega
   . rfl
   . omega
   . rcases f with f|f
     . have:=B f;omega
     . omega
   . have:=(s E y f u).1;omega
   . omega
   . rfl
theorem qW.slice(a:qW w I base v css p)(k:∀b,I b->J b)(d:∀b,base<=b->b<w.heap.size->J b)(hl:p.length<=4294967296)(m:∀c∈p,c.owns.length<=4294967296/\c.asks.length<=4294967296):SliceOf 2 ja w J v p:=by
 have e:∀b,xq I w v css b->J b:=fun b l=>k b l.1;refine(SliceOf.owned a.own a.len.2 Zn ?_ d hl);refine CW a.len.1 fun n c r g f=>?_;obtain⟨q,o,t,s,h,i,j⟩:=a.row n c g;rw[h]at f;cases f;have:=m c (RA g);exact⟨q,o,rfl,(i.keep (D:=fun _=>False) jh.stays Kp.rr (fun _ _ a=>a) (fun _ _ a=>a) e).slice Zn d this.1,
  (j.keep (D:=fun _=>False) mQ.stays Kp.rr (fun _ _ a=>a) (fun _ _ a=>a) e).slice Zn d this.2⟩
theorem L8(a:Option Addr)(n c:Nat):(Value.slice a n c).ownBlock=a.map Addr.block:=by cases a<;>rfl
theorem JX{base': Nat}{size:Nat}{n:Nat}(a:w.ownsRow base e size v n xs)(c:base'<=base):w.ownsRow base' e size v n xs:=
 ⟨a.1,a.2.imp id fun⟨b,cap,cur,h1,h2,h3⟩=>⟨b,cap,cur,h1,TL c h2,h3⟩⟩
theorem Dj (w : World) (I : Nat -> Prop) (v : Value) (p : iZ) (hp : SliceOf 2 ja w I v p) (hI : ∀ a, I a -> a < w.heap.size) :Calls prog 22 #[.agg #[v]] w fun c w'=>(∃v' K,c=.returned (.agg #[v'])/\qW w' (fun a=>I a\/w.heap.size+3<=a) (w+3) v' K p)/\Ext w w':=by
 obtain⟨ax,Y,rfl,-,dS⟩:=hp.form;obtain⟨D,B⟩:=SS (((w.alloc (.cells #[.slice ax p.length Y] 25)).alloc (.cells #[()] 25)).alloc (.cells #[()] 25));have aN:Ext w D:=by rw[B];exact kx
 have b1:hZ D w 25 #[.slice ax p.length Y]:=by rw[B];exact(hZ.new _ _ _).ext kx
 have b2:hZ D (w+1) 25 #[()]:=by rw[B];exact(hZ.newAt _ _ Zl:hZ ((w.alloc (.cells #[.slice ax p.length Y] 25)).alloc (.cells #[()] 25)) (w+1) 25 #[()]).ext kx
 have b3:hZ D (w+2) 25 #[()]:=by rw[B];exact hZ.newAt _ _ Zl
 have bu:D.heap.size=w+3:=by rw[B];simp
 obtain⟨-,e0,-⟩:=b1.ca;have⟨bZ,bI,U,u,dJ,HP,P⟩:=qA B aN b2 b3 bu hp hI;clear B aN b1 b2 b3 bu hp hI;go_enter func22,ntmps22;go_upto_region 2 with(fail);rw[<-bZ.o];go_wp2_with fail;clear e0;go_loopw [12] (fun C wr=>∃(q:Nat) (K:List (List Value)) (v:Value),q<=p.length/\C=.int .i64 q/\qW wr (fun a=>I a\/w.heap.size+3<=a) (w+3) v K (p.take q)/\hZ wr (w+1) 25 #[()]/\hZ wr (w+2) 25 #[v]/\Ext w wr) (fun C _=>p.length - (intOf C).toNat)
 case atStart=>exact⟨0,[],(),SV _,rfl,qW.nil _ _ _,U,u,bI⟩
 case round=>
  obtain⟨q,cZ,v,hq,rfl,e,s,g,Z⟩:=hrel;have⟨V,U,u,O⟩:=jU e s g Z;have az:(p.take q).length=q:=by rw[Tj];omega
  have aK:=Zy az;obtain⟨m,n,bg⟩:=jA e.own;rw[az]at bg;subst bg;clear az;by_cases dC:q<p.length
  . obtain⟨x,hx⟩:=get_some dC;obtain⟨a,dX,cs,rfl,dw,⟨vo,va,rfl,ho,ha⟩,-,N⟩:=(HP.ext ja.stays Z).get hx;obtain⟨p1,p2,rfl,-,dE⟩:=ho.form;obtain⟨p3,p4,rfl,-,dO⟩:=ha.form;obtain⟨cO,dz,aZ,aV⟩:=ho.cells One.cls Zn;obtain⟨T,j1⟩:=N.two;have jz:=jc T;obtain⟨j,bn,aa,b5⟩:=nu wr #[.slice p1 x.owns.length p2,.slice p3 x.asks.length p4] 145;obtain⟨-,k0,-⟩:=b5.ca;have⟨cu,aj,y,bK,bV,HA,HX⟩:=qA bn aa b5 (aV.ext aa) aZ (ha.ext mQ.stays aa) hx;clear e s g Z ho ha N hx dw bn aa b5 aV aZ;go_upto_region 5 with(fail);rw[<-cu.o];clear T j1 jz;go_wp2_with fail;refine(QJ bK Zm).mono ?_;rintro c w6 ⟨⟨v6,rfl,aG⟩,ay⟩;obtain⟨t,G,rfl⟩:=jA aG;have aJ:=Zy ay;have bP:Zz (kv 47 4 jh w6 (fun a=>I a\/(j.heap.size<=a/\t.map Addr.block≠some a)) j (.slice t x.owns.length G) cO x.owns):=Zy ⟨aG,dz,bV.keep jh.stays (Ext.same (aj.trans ay)) fun a d=>.inl d⟩;clear ay aG k0;go_wp2_with fail;obtain⟨F,rfl⟩:∃F:World,F=wr:=⟨_,rfl⟩;go_loopw [21] (fun C wr=>∃(h:Nat) (K:List (List Value)),h<=x.owns.length/\C=.int .i64 h/\kv 47 4 jh wr (fun a=>I a\/(j.heap.size<=a/\t.map Addr.block≠some a)) j (.slice t x.owns.length G) K x.owns/\Kp (fun a=>(Value.slice t x.owns.length G).ownBlock=some a) w6 wr) (fun C _=>x.owns.length - (intOf C).toNat)
    case atStart=>exact⟨0,_,SV _,rfl,bP,Kp.rr⟩
    case round =>
     obtain⟨h,K,hu,rfl,e,hK⟩:=hrel;have⟨dH,HK⟩:=jf e hK;by_cases dD:h<x.owns.length
     . obtain⟨f,cg,c,i,dQ,dP⟩:=jT e.own Zm;cases c;obtain⟨ai,hy⟩:=get_some dD;obtain⟨Y,aU,-,aA,N⟩:=e.get hy;obtain⟨t1,t2,t3,t4,rfl⟩:=aA.form;obtain⟨T,j1,j2,j3⟩:=N.four;have jz:=jc T;obtain⟨w7,bq,S,b4⟩:=nu wr #[ai.name,ai.jl,.slice t1 ai.fields.length t2,.slice t3 ai.methods.length t4] 47;have⟨bQ,bT,cz,bG,ak,HY,bH⟩:=qA (e.ext jh.stays S) (jM.ext jh.stays S aA) bq (N.ext S) S hy aU;obtain⟨-,k0,k1,k2,k3,-⟩:=b4.ca;clear e hK aA N bq b4 S hy aU;go_upto_region 9 with(fail);rw[<-cz.o];clear T j1 j2 j3 jz;go_wp2_with fail;refine(Di _ (jh.inside bT) (fun a b=>b.2)).mono ?_;rintro c w8 ⟨⟨dL,rfl,aB⟩,aP⟩;obtain⟨o1,o2,o3,o4,rfl⟩:=aB.form;have au:=Zy aP;have bY:=Zy aB;have L:=bQ.ext jh.stays au;obtain⟨h0,h1,h2,h3⟩:=(bG.ext au).four;have df:=L.own.frozenAt (h*4);have dh:=L.own.frozenAt (h*4+1);have di:=L.own.frozenAt (h*4+2);have dm:=L.own.frozenAt (h*4+3);have dn:=jc h1;have bR:=Zy L;clear aP aB L k0 k1 k2 k3;go_upto_region 10 with(fail);have dU:=TL aJ.size (TL HK.size ak.size);have dV:(wr:Nat)<=w7:=ak.size;have dF:(F:Nat)<=j:=aj.size;have dW:(w:Nat)<=F:=O.size;have hJ:∀a,(I a\/(j.heap.size<=a/\Option.map Addr.block (some f:Option Addr)≠some a))->a≠f:=fun a d c=>by
        subst c;rcases d with d|d
        . have:=P.o _ d;omega
        . simp at d
       obtain⟨aQ,aY⟩:=bR.nI (J:=fun a=>I a\/(j.heap.size<=a/\Option.map Addr.block (some f:Option Addr)≠some a)) rfl jh.stays hJ HY bH
        (jh.stays _ _ _ _ _ _ ((Oq (D:=(·=f)) (q:=h) w8 rfl _ _ _ _).same fun a d c=>by
         rcases d with d|d
         . exact hJ a d.1 c
         . have:w7.heap.size<=a:=d;omega) (fun a d=>by
         rcases d with d|d
         . exact d.1
         . have:w7.heap.size<=a:=d;exact .inr ⟨Zm,by simp;omega⟩) bY.o) fun _ b=>b
       have⟨bO,bN⟩:=jf aQ ((HK.trans (ak.trans au).any).trans (aY.weak (D':=fun a=>(Value.slice (some ⟨f,0,none⟩:Option Addr) x.owns.length G).ownBlock=some a) fun a _ c=>by rw[c];rfl));clear aQ aY h0 h1 h2 h3 df dh di dm dn hJ;go_wp2_with fail;exact⟨⟨h+1,_,Zm,by go_num,bO.o,bN.o⟩,by simp[intOf];omega⟩
     . obtain rfl:h=x.owns.length:=Zm
       have dI:=Zy ((e.keep (J:=fun a=>I a\/j.heap.size<=a) jh.stays (Kp.refl (fun _=>False) _) (fun _ _ x=>x) (fun _ _ x=>x) fun a d=>d.imp id And.left).slice Zn (fun a d _=>.inr d) dE);have dF:(F:Nat)<j:=y.lt;have R:=aJ.own hK fun a c=>(e.own.lt a c).1;have k:=Zy (aj.trans R);have cK:=Zy R.size;have bB:=Zy (HA.ext mQ.stays R);have ah:=fun a c=>V.own.lt a c;have z:=Zy ah;have g:=u.ext k;have aT:=y.ext R;have n3:¬(Value.slice m q n).ownBlock=some (w.heap.size+2):=fun c=>SX (ah _ c)
       have n5:¬(Value.slice m q n).ownBlock=some F.heap.size:=fun c=>SX (ah _ c)
       obtain⟨dK,dN,dR,W⟩:=qC.ex (fun W'=>Kp (fun a=>(Value.slice m q n).ownBlock=some a) wr W') _ Kp.rr;obtain⟨-,r0,-⟩:=hZ.lC fun aI=>g.kp (W.jv aI) n3;obtain⟨-,-,r1,-⟩:=hZ.lC fun aI=>aT.kp (W.jv aI) n5;have⟨Q,bW,av⟩:=jB W (V.keep k fun _ b=>b.elim) (e.inside fun _ _ _ _ b=>jh.inside b);clear e hK R W ah g aT;go_wp2_with fail;refine jW Q 9 [([0,1,2,3,4],5),([6],7),([],8)] [] ?_ ?_
       . exact jg
       refine lJ ?_;intro J r;go_wp2_with fail;obtain⟨dM,dA,bf,aW⟩:=bB.cells One.ask Zn;refine(QI (aW.ext jg) Zm).mono ?_;rintro c E ⟨⟨dY,rfl,aF⟩,aO⟩;obtain⟨x7,y7,rfl⟩:=jA aF;have⟨H,aM,bX⟩:=jB (((Kp.refl _ wr).drew:Ext wr _).trans aO) aF bf;clear aO aF bf aW;go_wp2_with fail;refine kk Q r H.any ?_;clear r J;refine lJ ?_;intro J r;go_wp2_with fail;refine kk Q r (H.alloc _).any ?_;clear r J;refine kN rfl fun J r=>?_;have dB:q+1<=4294967296:=Zm
       have aC:=bW.own;rw[aK.o]at aC;have bU:=Zy aC;clear aC;have dx:w+3<=(E.alloc (.cells #[.slice t x.owns.length G,.slice x7 x.asks.length y7] 145)).heap.size:=by have:=k.size;have:=H.size;have:=O.size;have:=z.o;have:=u.lt;simp;omega
       refine jo Q5 rfl (.tmp 33) (.tmp 39) rfl (w+3) (.slice m q n) q cZ.flatten rfl (jb (D:=fun _=>False) bU (H.alloc _) fun _ _ _ x=>x) E 1 [.slice t x.owns.length G,.slice x7 x.asks.length y7] rfl rfl (hH.nL _ _ rfl) Zt dB dx ?_;intro o c2 aH aR af aX;change J _ _;have ae:=(H.alloc _).any.trans af;refine kk Q r ae ?_;clear r J;have g:=(u.ext k).kp ae n3;obtain⟨bz,d0,-⟩:=g.ca;have f0:=g.frozen 0;have⟨bE,l,aL,bL,bM⟩:=ni g ae aR aX (((Kp.refl _ E).alloc _:Ext E _).any.trans af);have cB:Zz ((E:Nat)<aH):=Zy (by have:=af.size;simp at this;omega);clear Q r0 r1 g ae aR af aX;refine ku ?_;go_upto_region 12 with(fail);obtain⟨X,hW⟩:=SS (aH.setCell ⟨w.heap.size+1+1,0,none⟩ (o,q+1,c2));have A:Kp (·=w+2) aH X:=by rw[hW];exact nH
       have ag:hZ X (w+2) 25 #[(o,q+1,c2)]:=by rw[hW];exact bE.jy 0 _
       rw[<-hW];have z1:=u.lt;have z2:=cK.o;have z3:=H.size;have z4:=aL.lt o rfl;have z5:=l.size;have z6:=A.size;have z7:(o<F/\(Value.slice m q n).ownBlock=some o)\/E<o:=by
        rcases bL.o with b|b
        . exact .inl ⟨(z _ b).2,b⟩
        . right;simp at b;omega
       have z8:=cB.o;have z9:=O.size;have bA:=k.size;have dG:=u.lt;have aD:=qW.snoc (x:=x) (v':=(o,q+1,c2)) (vo:=.slice t x.owns.length G) (va:=.slice x7 x.asks.length y7) (n1:=wr.heap.size) (n2:=E.heap.size) V (k.any.trans l) (SX V.own) (fun a b=>.inr b) bA z3 Zm
        ((av.keep jh.stays l (fun f i c=>S9 ((av.own.lt f i).1) ((z _ c).2) y.lt) (fun a d c=>by
         have:=z.o _ c;rcases d.1 with b|b
         . have:=P.o _ b;omega
         . have:=y.lt;omega) (fun a d=>by
         rcases d.1 with b|b
         . exact .inl ⟨.inl b,SX (P.o _ b)⟩
         . exact .inr ⟨SX y.lt,d.2,by rw[L8];exact b.2⟩)).low (SX y.lt)) (fun f i=>SY (av.o.own.lt f i) y.lt)
        ⟨JX (jb aM bM fun f i h4 c=>by have:=(z _ c).2;simp at h4;omega) Zr,dA,bX.o.free fun _ _ _ _ _ _ b=>b⟩ (fun f i=>by have:=aM.o.lt f i;simp at this;omega)
        (by rw[aK.o];exact aL) (fun f i=>by
         have e2:o=f:=by simpa [Value.ownBlock]using i
         subst e2;rcases z7 with b|b
         . exact .inl b.2
         . exact .inr ⟨Zm,z4.2⟩)
       rw[EI HX.o]at aD;have aS:=aD.keep A fun a c=>⟨Zm,fun b=>by
        rcases b with b|b
        . have:=P.o _ b;omega
        . omega⟩
       have s:=((U.ext k).kp l fun c=>SX (z.o _ c)).kp A Zm;have⟨bC,bF,bD,bJ⟩:=jU aS ag s ((((O.trans k).own l fun a c=>SX (z.o _ c))).own A fun a c=>Zm);clear aS aD ag A hW s z1 z2 z3 z4 z5 z6 z7 z8 z9 bA dG bz d0 f0 n3 n5;go_wp2_with fail;exact⟨⟨q+1,_,_,Zm,by go_num,bC.o,bD.o,bF.o,bJ.o⟩,by simp[intOf];omega⟩
  . obtain rfl:q=p.length:=Zm
    rw[TC]at e;have bS:=Zy e;obtain⟨-,d0,-⟩:=g.ca;obtain⟨bz,o0,-⟩:=s.ca;have f0:=s.frozen 0;clear e s g Z;go_wp2_with fail;have A:Kp (·=w+1) wr (wr.setCell ⟨w+1,0,none⟩ (.slice m p.length n)):=nH;have ag:=U.jy 0 (.slice m p.length n);have l:=Zy A;refine Cv (jE pR rfl (w+1) rfl [.slice m p.length n] (hH.l7 ag) rfl) rfl ?_;exact⟨⟨_,_,rfl,bS.keep l fun a c=>⟨Zm,fun b=>by
     rcases b with b|b
     . have:=P.o _ b;omega
     . omega⟩⟩,O.o.own l.o fun a c=>Zm⟩
theorem xV(b:SliceOf 2 ja w I v p):∀a∈p,a.owns.length<=4294967296/\a.asks.length<=4294967296:=fun a h=>by
 obtain⟨k,f⟩:=UE.1 h;obtain⟨i,j,rfl,-,-⟩:=b.form;obtain⟨_,_,_,_,_,⟨m,l,_,g,e⟩,_⟩:=b.get f;obtain⟨_,_,_,_,c⟩:=g.form;obtain⟨_,_,_,_,d⟩:=e.form;exact⟨c,d⟩
theorem zN(w:World)(I:Nat->Prop){v:Value}(p:iZ)(c:SliceOf 2 ja w I v p)(hI:∀a,I a->a<w.heap.size):Calls prog 22 #[.agg #[v]] w fun e d=>(∃b,e=.returned (.agg #[b])/\SliceOf 2 ja d (fun a=>I a\/w.heap.size<=a) b p)/\Ext w d:=by
 refine(Dj w I v p c hI).mono ?_;rintro e d ⟨⟨b,j,rfl,f⟩,h⟩;obtain⟨_,_,_,_,i⟩:=c.form;exact⟨⟨b,rfl,f.slice (fun a g=>g.imp id fun f=>Zm) (fun a g _=>.inr Zm) i (xV c)⟩,h⟩
def zw(x:FB):List Value:=[.int .i64 x.keeper,.string x.name,.int .i64 x.ref.keeper,.string x.ref.name]
def vJ(x:uB):List Value:=[.int .i64 x.one,.int .i64 x.two,.string x.name]
def nG:lZ FB:=fun _ _ x cs=>cs=zw x
def lq:lZ uB:=fun _ _ x cs=>cs=vJ x
theorem nG.stays:jM nG:=fun _ _ _ _ _ _ _ _ a=>a
theorem lq.stays:jM lq:=fun _ _ _ _ _ _ _ _ a=>a
theorem Dn:Elem 30 107 4:=kP (z:=.agg #[Tc, "",Tc, ""]) (bytes:=48) underlying30 Zo rfl Zn Zn
theorem yQ:Elem 31 112 3:=kP (z:=.agg #[Tc,Tc, ""]) (bytes:=32) underlying31 Zo rfl Zn Zn
def MH(b:Book)(x:FB):Bool:=(b.jI.map vD).any fun y=>decide (vD x=y)
def MI(b:Book)(x:uB):Bool:=(b.jq.map sP).any fun y=>decide (sP x=y)
theorem Pq{x:FB}(a:MH b x=false):vD x ∉ b.jI.map vD:=by
 intro c;unfold MH at a;rw[UK]at a;exact a _ c (Tz rfl)
theorem Ps{x:uB}(a:MI b x=false):sP x ∉ b.jq.map sP:=by
 intro c;unfold MI at a;rw[UK]at a;exact a _ c (Tz rfl)
structure Rc where
 l:jk
 p:iZ
 B:Nat
 R:Nat
 OE:Nat
 OP:Nat
 ME:Nat
 MP:Nat
def RZ(r:Rc)(ve:Value):Array Value:=#[ve,.map (some r.ME),.func (.func 45) #[] #[]]
def R3(r:Rc)(vp:Value):Array Value:=#[vp,.map (some r.MP),.func (.func 47) #[] #[]]
structure kS(w:World)(r:Rc)(ve vp:Value)(b:Book):Prop where
 kr:ji w r.l r.p
 hB:r.l.L<r.B
 low:r.B<=r.R/\r.B<=r.OE/\r.B<=r.OP/\r.B<=r.ME/\r.B<=r.MP
 blk:hZ w r.R 115 #[.pointer (some ⟨r.l.L,0,none⟩),.pointer (some ⟨r.OE,0,none⟩),.pointer (some ⟨r.OP,0,none⟩)]
 be:hZ w r.OE 153 (RZ r ve)
 bp:hZ w r.OP 157 (R3 r vp)
 me:∃m,kE w r.ME m/\m.map Prod.fst=b.jI.map vD
 mp:∃m,PM.kE w r.MP m/\m.map Prod.fst=b.jq.map sP
 re:w.ownsRow r.B 107 4 ve b.jI.length (b.jI.flatMap zw)
 rp:w.ownsRow r.B 112 3 vp b.jq.length (b.jq.flatMap vJ)
 ne:r.ME≠r.MP
 ok:nJ r.p b
def RD(r:Rc)(ve vp:Value)(b:Nat):Prop:=b=r.l.D\/b=r.OE\/b=r.OP\/b=r.ME\/b=r.MP\/ve.ownBlock=some b\/vp.ownBlock=some b
structure Rs where
 w:World
 ve:Value
 vp:Value
 b:Book
def kK(r:Rc)(s:Rs)(w:World):Prop:=
 Kp (RD r s.ve s.vp) s.w w/\∃ve vp b,jV s.w.heap.size s.ve s.vp ve vp/\s.b.le b/\kS w r ve vp b
def xH(r:Rc)(s:Rs)(b:Book)(w:World):Prop:=
 Kp (RD r s.ve s.vp) s.w w/\∃ve vp,jV s.w.heap.size s.ve s.vp ve vp/\kS w r ve vp b
theorem xH.is{r:Rc}{s:Rs}(a:xH r s b w)(f:s.b.le b):kK r s w:=by
 obtain⟨c,g,h,d,e⟩:=a;exact⟨c,g,h,b,d,f,e⟩
def Fj(b:Book)(x:FB):Book:=if MH b x=true\/200<=b.jI.length then b else⟨b.jI++[x],b.jq⟩
def Fp(b:Book)(x:uB):Book:=if MI b x=true\/200<=b.jq.length then b else⟨b.jI,b.jq++[x]⟩
theorem KM{x:FB}:b.le (Fj b x):=by
 unfold Fj;split
 . exact .refl _
 . exact⟨⟨[x],rfl⟩,[],by simp⟩
theorem KN{x:uB}:b.le (Fp b x):=by
 unfold Fp;split
 . exact .refl _
 . exact⟨⟨[],by simp⟩,[x],rfl⟩
theorem kS.begin{r:Rc}{a c:Value}(d:kS w r a c b):kK r ⟨w,a,c,b⟩ w:=
 ⟨Kp.rr,_,_,_,jV.refl _ _ _,Book.le.refl _,d⟩
theorem nX{e n: Nat}(d:w.ownsRow base e k v n xs){g:Nat}(a:v.ownBlock=some g):∃b,hZ w g e b:=by
 rcases d.2 with⟨rfl,_⟩|⟨i,h,c,rfl,_,f,_⟩
 . cases a
 . cases a;exact⟨c,f⟩
theorem kE.tN{m:List (Key×Int)}(a:kE w g m){t:TypeId}{cs:Array Value}(b:hZ w g t cs):False:=by
 obtain⟨_,_,a,_⟩:=a;unfold hZ at b;rw[a]at b;cases b
theorem PM.kE.tN(a:PM.kE w g m){t:TypeId}{cs:Array Value}(b:hZ w g t cs):False:=by
 obtain⟨_,_,a,_⟩:=a;unfold hZ at b;rw[a]at b;cases b
section
variable {w w' W:World} {r:Rc} {ve vp:Value} {b:M.Book} {s:Rs}
theorem kS.other(c:kS w r ve vp b){g:Nat}{t:TypeId}{cs:Array Value}(d:hZ w g t cs)(i:(t≠153/\t≠157/\t≠107/\t≠112):=by decide):¬RD r ve vp g:=by
 obtain⟨j,k,l,m⟩:=i;rintro(a|a|a|a|a|a|a)
 . subst a;obtain⟨h,e,_⟩:=c.kr.laid;exact e.tN d
 . subst a;exact j (hZ.inj d c.be)
 . subst a;exact k (hZ.inj d c.bp)
 . subst a;obtain⟨h,e,_⟩:=c.me;exact e.tN d
 . subst a;obtain⟨h,e,_⟩:=c.mp;exact e.tN d
 . obtain⟨_,f⟩:=nX c.re a;exact l (hZ.inj d f)
 . obtain⟨_,f⟩:=nX c.rp a;exact m (hZ.inj d f)
theorem kS.BH(c:kS w r ve vp b){g:Nat}(d:RD r ve vp g):g=r.l.D\/r.B<=g:=by
 obtain⟨e,f,h,i,j⟩:=c.low;rcases d with a|a|a|a|a|a|a
 . exact .inl a
 . right;omega
 . right;omega
 . right;omega
 . right;omega
 . exact .inr (c.re.lt g a).1
 . exact .inr (c.rp.lt g a).1
theorem kS.deep(c:kS w r ve vp b){g:Nat}(d:g<r.l.O):¬RD r ve vp g:=fun a=>by
 have:=c.kr.ord;have:=c.hB;rcases c.BH a with a|a<;>omega
theorem kS.kp(a:kS w r ve vp b)(e:Kp D w w')(o:ji w' r.l r.p)(d:∀c,r.B<=c->c<w.heap.size->¬D c):kS w' r ve vp b:=by
 obtain⟨j,k,l,m,n⟩:=a.low;obtain⟨p,h,q⟩:=a.me;obtain⟨s,i,t⟩:=a.mp;exact⟨o,a.hB,a.low,a.blk.kp e (d _ j a.blk.lt),a.be.kp e (d _ k a.be.lt),a.bp.kp e (d _ l a.bp.lt),⟨p,h.kp e (d _ m h.lt),q⟩,⟨s,i.kp e (d _ n i.lt),t⟩,
  jb a.re e (fun c g f=>d c f (a.re.lt c g).2),jb a.rp e (fun c g f=>d c f (a.rp.lt c g).2),a.ne,a.ok⟩
theorem kS.ext(a:kS w r ve vp b)(c:Ext w w'):kS w' r ve vp b:=a.kp c (a.kr.ext c) fun _ _ _ d=>d
theorem kS.oQ(a:kS w r ve vp b)(d:Kp (·=r.l.D) w w')(c:ji w' r.l r.p):kS w' r ve vp b:=
 a.kp d c fun f g _ e=>SY a.hB c.ord
theorem Kp.rd{n:Nat}{ve' vp':Value}(d:Kp (RD r ve vp) w a)(e:Kp (RD r ve' vp') a w')(h:jV w ve vp ve' vp'):Kp (RD r ve vp) w w':=
 ⟨e.os.trans d.os,e.tape.trans d.tape,e.output.trans d.output,TL d.size e.size,
  fun g f i=>(e.block g (Tx f d.size) (fun b=>i (by
   unfold RD at b |-;rcases b with b|b|b|b|b|b|b
   . exact .inl b
   . exact .inr (.inl b)
   . exact .inr (.inr (.inl b))
   . exact .inr (.inr (.inr (.inl b)))
   . exact .inr (.inr (.inr (.inr (.inl b))))
   . rcases h g (.inl b)with c|c|c
     . exact .inr (.inr (.inr (.inr (.inr (.inl c)))))
     . exact .inr (.inr (.inr (.inr (.inr (.inr c)))))
     . exact absurd f (Wu.2 c)
   . rcases h g (.inr b)with c|c|c
     . exact .inr (.inr (.inr (.inr (.inr (.inl c)))))
     . exact .inr (.inr (.inr (.inr (.inr (.inr c)))))
     . exact absurd f (Wu.2 c)))).trans (d.block g f i)⟩
theorem kK.start(c:kK r s w):∃a:Rs,a.w=w/\kS w r a.ve a.vp a.b/\kK r a w/\∀W,kK r a W->kK r s W:=by
 obtain⟨e,ve,vp,b,f,i,d⟩:=c;refine⟨⟨w,ve,vp,b⟩,rfl,d,d.begin,fun W c=>?_⟩;obtain⟨k,m,n,g,l,j,h⟩:=c;exact⟨Kp.rd (n:=0) e k f,m,n,g,f.trans l e.size,i.trans j,h⟩
theorem kS.Ov(c:kS w r ve vp b){g:Nat}(f:RD r ve vp g):g<w:=by
 rcases f with a|a|a|a|a|a|a
 . obtain⟨e,d,_⟩:=c.kr.laid;rw[a];exact d.lt
 . rw[a];exact c.be.lt
 . rw[a];exact c.bp.lt
 . obtain⟨e,d,_⟩:=c.me;rw[a];exact d.lt
 . obtain⟨e,d,_⟩:=c.mp;rw[a];exact d.lt
 . exact(c.re.lt g a).2
 . exact(c.rp.lt g a).2
theorem kK.qB(c:kK r s w)(e:Ext w w'):∃a:Rs,a.w=w'/\kS w' r a.ve a.vp a.b/\kK r a w'/\(∀W,kK r a W->kK r s W)/\∀W,kK r a W->Same (fun g=>g<r.l.O\/w<=g) w' W:=by
 obtain⟨o,ve,vp,b,h,k,d⟩:=c;have j:kK r s w':=⟨o.trans e.any,ve,vp,b,h,k,d.ext e⟩;refine⟨⟨w',ve,vp,b⟩,rfl,d.ext e,(d.ext e).begin,fun W c=>?_,fun W c=>Kp.same c.1 fun g f i=>?_⟩
 . obtain⟨p,t,u,l,q,n,m⟩:=c;exact⟨Kp.rd (n:=0) j.1 p h,t,u,l,h.trans q j.1.size,k.trans n,m⟩
 . rcases f with f|f
   . exact d.deep f i
   . exact absurd (d.Ov i) Zm
theorem xH.later{a:Book}(e:xH r ⟨d,ve,vp,b⟩ a W)(c:Ext w d):xH r ⟨w,ve,vp,b⟩ a W:=by
 obtain⟨g,i,j,h,f⟩:=e;exact⟨c.any.trans g,i,j,h.le c.size,f⟩
theorem kS.same(c:kS w r ve vp b)(a:Ext w w'):xH r ⟨w,ve,vp,b⟩ b w':=⟨a.any,ve,vp,jV.refl _ _ _,c.ext a⟩
theorem kK.at_(a:kK r s w):∃ve vp b,kS w r ve vp b:=by
 obtain⟨_,ve,vp,b,_,_,c⟩:=a;exact⟨ve,vp,b,c⟩
theorem kK.ext(c:kK r s w)(a:Ext w w'):kK r s w':=by
 obtain⟨f,ve,vp,b,g,e,d⟩:=c;exact⟨f.trans a.any,ve,vp,b,g,e,d.ext a⟩
theorem kK.oQ(d:kK r s w)(a:Kp (·=r.l.D) w w')(f:ji w' r.l r.p):kK r s w':=by
 obtain⟨e,ve,vp,b,i,h,g⟩:=d;exact⟨e.trans (a.weak fun j _ c=>.inl c),ve,vp,b,i,h,g.oQ a f⟩
theorem kK.kr(a:kK r s w):ji w r.l r.p:=by
 obtain⟨_,_,_,b⟩:=a.at_;exact b.kr
theorem kK.xQ(a:kK r s w):hZ w r.R 115 #[some r.l.L,some r.OE,some r.OP]:=by
 obtain⟨_,_,_,b⟩:=a.at_;exact b.blk
theorem kK.blk(b:kK r s W)(h0:kS s.w r s.ve s.vp s.b){g:Nat}{t:TypeId}{cs:Array Value}(a:hZ s.w g t cs)(c:(t≠153/\t≠157/\t≠107/\t≠112):=by decide):hZ W g t cs:=
 a.kp b.1 (h0.other a c)
theorem kK.same(a:kK r s W)(h0:kS s.w r s.ve s.vp s.b):Same (· <r.l.O) s.w W:=Kp.same a.1 fun _ b=>h0.deep b
theorem kS.Fj(d:kS w r ve vp b){x:FB}{ve':Value}(e:Kp (fun c=>c=r.ME\/c=r.OE\/ve.ownBlock=some c) w w')(o:∃k,kE w' r.ME k/\k.map Prod.fst=(b.jI++[x]).map vD)(g:hZ w' r.OE 153 (RZ r ve'))(q:w'.ownsRow r.B 107 4 ve' (b.jI.length+1) ((b.jI++[x]).flatMap zw)) (p:∀c,ve'.ownBlock=some c->ve.ownBlock=some c\/w.heap.size<=c) (s:nJ r.p ⟨b.jI++[x],b.jq⟩):xH r ⟨w,ve,vp,b⟩ ⟨b.jI++[x],b.jq⟩ w':=by
 have A:=d.hB;have B:=d.kr.ord;obtain⟨q1,q2,q3,q4,q5⟩:=d.low;obtain⟨k,t,C⟩:=d.me;obtain⟨u,i,v⟩:=d.mp;have n:∀c,c<=r.l.L->¬(c=r.ME\/c=r.OE\/ve.ownBlock=some c):=fun c h a=>by
  rcases a with a|a|a
  . omega
  . omega
  . have:=(d.re.lt c a).1;omega
 have j:∀{c:Nat} {l:TypeId} {m:Array Value},hZ w c l m->l≠153->l≠107->¬(c=r.ME\/c=r.OE\/ve.ownBlock=some c):=fun g y z a=>by
  rcases a with a|a|a
  . subst a;exact t.tN g
  . subst a;exact y (hZ.inj g d.be)
  . obtain⟨_,f⟩:=nX d.re a;exact z (hZ.inj g f)
 refine⟨e.weak fun c _ a=>?_,ve',vp,fun c h=>?_,d.kr.kp e n,d.hB,d.low,d.blk.kp e (j d.blk Zn Zn),g,d.bp.kp e (j d.bp Zn Zn),o,⟨u,i.kp e ?_,v⟩,by simpa using q,jb d.rp e (fun c h _=>?_),d.ne,s⟩
 . rcases a with a|a|a
   . exact .inr (.inr (.inr (.inl a)))
   . exact .inr (.inl a)
   . exact .inr (.inr (.inr (.inr (.inr (.inl a)))))
 . rcases h with a|a
   . exact(p c a).imp_right .inr
   . exact .inr (.inl a)
 . rintro(a|a|a)
   . exact d.ne a.symm
   . rw[a]at i;exact i.tN d.be
   . obtain⟨_,f⟩:=nX d.re a;exact i.tN f
 . obtain⟨_,f⟩:=nX d.rp h;exact j f Zn Zn
theorem kS.Fp(d:kS w r ve vp b){x:uB}{vp':Value}(e:Kp (fun c=>c=r.MP\/c=r.OP\/vp.ownBlock=some c) w w')(o:∃i,PM.kE w' r.MP i/\i.map Prod.fst=(b.jq++[x]).map sP)(g:hZ w' r.OP 157 (R3 r vp'))(q:w'.ownsRow r.B 112 3 vp' (b.jq.length+1) ((b.jq++[x]).flatMap vJ)) (p:∀c,vp'.ownBlock=some c->vp.ownBlock=some c\/w.heap.size<=c) (s:nJ r.p ⟨b.jI,b.jq++[x]⟩):xH r ⟨w,ve,vp,b⟩ ⟨b.jI,b.jq++[x]⟩ w':=by
 have z:=d.hB;have A:=d.kr.ord;obtain⟨q1,q2,q3,q4,q5⟩:=d.low;obtain⟨i,j,t⟩:=d.me;obtain⟨B,u,C⟩:=d.mp;have n:∀c,c<=r.l.L->¬(c=r.MP\/c=r.OP\/vp.ownBlock=some c):=fun c h a=>by
  rcases a with a|a|a
  . omega
  . omega
  . have:=(d.rp.lt c a).1;omega
 have k:∀{c:Nat} {l:TypeId} {m:Array Value},hZ w c l m->l≠157->l≠112->¬(c=r.MP\/c=r.OP\/vp.ownBlock=some c):=fun g v y a=>by
  rcases a with a|a|a
  . subst a;exact u.tN g
  . subst a;exact v (hZ.inj g d.bp)
  . obtain⟨_,f⟩:=nX d.rp a;exact y (hZ.inj g f)
 refine⟨e.weak fun c _ a=>?_,ve,vp',fun c h=>?_,d.kr.kp e n,d.hB,d.low,d.blk.kp e (k d.blk Zn Zn),d.be.kp e (k d.be Zn Zn),g,⟨i,j.kp e ?_,t⟩,o,jb d.re e (fun c h _=>?_),by simpa using q,d.ne,s⟩
 . rcases a with a|a|a
   . exact .inr (.inr (.inr (.inr (.inl a))))
   . exact .inr (.inr (.inl a))
   . exact .inr (.inr (.inr (.inr (.inr (.inr a)))))
 . rcases h with a|a
   . exact .inl a
   . exact .inr ((p c a).imp_right id)
 . rintro(a|a|a)
   . exact d.ne a
   . rw[a]at j;exact j.tN d.bp
   . obtain⟨_,f⟩:=nX d.rp a;exact j.tN f
 . obtain⟨_,f⟩:=nX d.re h;exact k f Zn Zn
theorem BB(m:List (Key×Int))(k:Key):(look m k).isSome=(m.map Prod.fst).any fun a=>decide (k=a):=by
 unfold look;rw[VK,Wh,List.isSome_find?];rfl
theorem PM.BB(m:List (PM.Key×Int))(k:PM.Key):(PM.look m k).isSome=(m.map Prod.fst).any fun a=>decide (k=a):=by
 unfold PM.look;rw[VK,Wh,List.isSome_find?];rfl
theorem H8{b:Book}{x:FB}{m:List (Key×Int)}(a:m.map Prod.fst=b.jI.map vD):(look m (x.keeper,x.name)).isSome=MH b x:=by
 rw[BB,a];rfl
theorem H9{b:Book}{x:uB}(a:m.map Prod.fst=b.jq.map sP):(PM.look m (x.one,x.two,x.name)).isSome=MI b x:=by
 rw[PM.BB,a];rfl
end
theorem MW:yH 112 3:=⟨_,underlying112,by kernel_rfl⟩
theorem IU{k:Int}{b:Int}:Calls prog 45 #[.agg #[k,n,b,c]] w fun a d=>a=.returned (.agg #[k,n])/\Ext w d:=by
 go_enter func45,ntmps45;go_wp2_with fail;refine Cv (jE Gg rfl (w+1) rfl [k,n] (hH.l7 (hZ.newAt _ _ Zl)) rfl) rfl ?_;exact⟨rfl,Zx⟩
theorem IV{k a:Int}:Calls prog 47 #[.agg #[k,a,n]] w fun b c=>b=.returned (.agg #[k,a,n])/\Ext w c:=by
 go_enter func47,ntmps47;go_wp2_with fail;refine Cv (jE MW rfl (w+1) rfl [k,a,n] (hH.l7 (hZ.newAt _ _ Zl)) rfl) rfl ?_;exact⟨rfl,Zx⟩
theorem IP{r:Rc}(f:kS w r q s b)(x:FB):Calls prog 74 #[some r.OE,.agg #[x.keeper,x.name,x.ref.keeper,x.ref.name]] w fun h t=>h=.returned (.bool (MH b x))/\Ext w t:=by
 obtain⟨F,i,j⟩:=f.me;obtain⟨u,k,e,g⟩:=nu w #[x.keeper,x.name,x.ref.keeper,x.ref.name] 107;obtain⟨y,D,E,a⟩:=ll u;obtain⟨-,-,G,H,-⟩:=hZ.lC fun c=>(f.be.ext e).ext (a.jv c);obtain⟨-,z,A,B,C,-⟩:=hZ.lC fun c=>g.ext (a.jv c);have o:=fun c=>oK ((i.kp e fun x=>x).kp (a.jv c) fun x=>x) x.keeper x.name;rw[H8 j]at o;have⟨d,m,l⟩:=jB a k e;clear f i j a k e g;go_enter func74,ntmps74;go_wp2_with fail;rw[<-m.o];refine C8 d ?_ ?_;rotate_left;(repeat (go_big_quiet_step (first|(go_at_call 45;refine(IU).mono ?_;rintro h v ⟨rfl,n⟩;exact⟨rfl,d.o.o v ((d.jv _).trans n)⟩)|fail)));refine TD ?_;(rintro _ ⟨p,rfl⟩);rotate_left
 . exact jg
 go_wp2;go_ret;exact⟨rfl,l.trans (d.jv p)⟩
theorem IQ{r:Rc}(f:kS w r q s b)(x:uB):Calls prog 76 #[some r.OP,.agg #[x.one,x.two,x.name]] w fun h t=>h=.returned (.bool (MI b x))/\Ext w t:=by
 obtain⟨E,i,j⟩:=f.mp;obtain⟨u,k,e,g⟩:=nu w #[x.one,x.two,x.name] 112;obtain⟨y,C,D,a⟩:=ll u;obtain⟨-,-,F,G,-⟩:=hZ.lC fun c=>(f.bp.ext e).ext (a.jv c);obtain⟨-,z,A,B,-⟩:=hZ.lC fun c=>g.ext (a.jv c);have o:=fun c=>PM.oK ((i.kp e fun x=>x).kp (a.jv c) fun x=>x) x.one x.two x.name;rw[H9 j]at o;have⟨d,m,l⟩:=jB a k e;clear f i j a k e g;go_enter func76,ntmps76;go_wp2_with fail;rw[<-m.o];refine C8 d ?_ ?_;rotate_left;(repeat (go_big_quiet_step (first|(go_at_call 47;refine(IV).mono ?_;rintro h v ⟨rfl,n⟩;exact⟨rfl,d.o.o v ((d.jv _).trans n)⟩)|fail)));refine TD ?_;(rintro _ ⟨p,rfl⟩);rotate_left
 . exact jg
 go_wp2;go_ret;exact⟨rfl,l.trans (d.jv p)⟩
theorem AV(r:Rc)(a:Rs)(l:kS a.w r a.ve a.vp a.b)(x:FB)(hx:xR r.p x):Calls prog 75 #[some r.OE,.agg #[x.keeper,x.name,x.ref.keeper,x.ref.name]] a.w fun b w'=>b=.returned (.tuple #[])/\xH r a (Fj a.b x) w':=by
 obtain⟨w0,az,O,L⟩:=nu a.w #[x.keeper,x.name,x.ref.keeper,x.ref.name] 107;obtain⟨j,k,A⟩:=jA l.re;have HL:Zz ((r.OE<a.w)/\∀d,(Value.slice j a.b.jI.length k).ownBlock=some d->d<a.w.heap.size):=Zy ⟨l.be.lt,fun d b=>(l.re.lt d (by rw[A];exact b)).2⟩;have⟨S,aK,aC,X,HX,HB⟩:=nE (l.ext O) az l O hx L;have bg:=l.ok.Ld;obtain⟨-,q,s,t,u,-⟩:=L.ca;clear l az O hx L;go_enter func75,ntmps75;go_wp2_with fail;rw[<-aK.o];go_wp2_with fail;refine(IP S x).mono ?_;rintro b I ⟨rfl,w⟩;have⟨aD,B,T⟩:=jB w (S.ext w) (HB.ext w);have Y:Zz (MH a.b x=true\/200<=a.b.jI.length->xH r a (Fj a.b x) I):=Zy fun c=>by
  have b:Fj a.b x=a.b:=Tv c;rw[b];exact aC.same (X.trans w)
 clear q s t u w;cases z:MH a.b x;rotate_left
 . have aG:=Zy z;clear z;go_wp2_with fail;refine Ta ?_;exact⟨rfl,Y (.inl aG)⟩
 have Z:=Zy (Pq z);have aJ:Zz (200<=a.b.jI.length\/Fj a.b x=⟨a.b.jI++[x],a.b.jq⟩):=Zy (by
  by_cases c:200<=a.b.jI.length
  . exact .inl c
  . exact .inr (Tt (by simp[z];omega)))
 clear z;obtain⟨q0,q1,q2,q3,-⟩:=B.be.ca;rw[A]at q1;by_cases hl:200<=a.b.jI.length
 . have hd:decide ((200:Int)<=(a.b.jI.length:Int))=true:=Tz Zm;go_wp2_with fail;refine Ta ?_;exact⟨rfl,Y (.inr hl)⟩
 have hd:decide ((200:Int)<=(a.b.jI.length:Int))=false:=SL Zm;have aQ:a.b.jI.length<200:=Zm
 obtain⟨aU,hm,ax⟩:=B.me;obtain⟨aM,aN,aR,e⟩:=ll I;obtain⟨-,H,r1,r2,-⟩:=hZ.lC fun m=>B.be.ext (e.jv m);rw[A]at H;obtain⟨-,q,s,t,u,-⟩:=hZ.lC fun m=>T.ext (e.jv m);have⟨i,HM,aa,C⟩:=jU e hm ax A;clear e hm ax A;go_wp2_with fail;clear q0 q1 q2 q3;refine jW i 15 [([0,1,2,3,4,5,6,7,8,10,11,12,13,14],9)] [] ?_ ?_
 . exact jg
 refine lJ ?_;intro n h;go_wp2_with fail;refine(IU).mono ?_;rintro b w2 ⟨rfl,ag⟩;have p:=Zy (((Kp.refl _ I).drew:Ext I _).trans ag);clear ag;go_wp2_with fail;refine kk i h p ?_;clear h n;clear i H r1 r2 q s t u;refine ku ?_;refine lW rfl rfl r.ME aU x.keeper x.name a.b.jI.length rfl rfl rfl (HM.kp p fun x=>x) (by
  have:=H8 (x:=x) aa;have h0:MH a.b x=false:=by
   unfold MH;rw[UK];intro bq hy aT;exact Z (by rw[Uo aT];exact hy)
  rw[h0]at this;simpa using this) ?_
 intro J av o aA;simp only[Act.put];have⟨K,aL⟩:=jf av aA;clear aA;have⟨g,U⟩:=jf (B.ext p) (T.ext p);have P:∀{d:Nat} {aW:TypeId} {cs:Array Value},hZ w2 d aW cs->d≠r.ME:=fun hb b=>by
  subst b;obtain⟨_,f,_⟩:=g.me;exact f.tN hb
 obtain⟨aM,aN,aR,e⟩:=qC.ex (fun W'=>Kp (fun d=>(Value.slice j a.b.jI.length k).ownBlock=some d) J W') _ Kp.rr;have y:=g.be.kp o (P g.be);have ak:=U.kp o (P U);rw[C.o]at y;have G:=g.re;rw[C.o]at G;have R:=jb G o (fun d Q _=>by
  obtain⟨_,f⟩:=nX G Q;exact P f)
 have aB:¬(Value.slice j a.b.jI.length k).ownBlock=some r.OE:=fun b=>by
  obtain⟨_,f⟩:=nX R b;exact absurd (hZ.inj y f) Zn
 have aV:¬(Value.slice j a.b.jI.length k).ownBlock=some a.w.heap.size:=fun b=>by
  have:=(HL.2 a.w b);omega
 obtain⟨-,H,-⟩:=hZ.lC fun m=>y.kp (e.jv m) aB;obtain⟨-,q,s,t,u,-⟩:=hZ.lC fun m=>ak.kp (e.jv m) aV;have⟨i,af,W,aH⟩:=jU e R y o;have bf:r.B<=J:=S9 g.be.lt g.low.2.1 o.size
 clear e av o y ak G R;go_wp2_with fail;refine jW i 8 [([0,1,2,3,4,5],6),([],7)] [] ?_ ?_
 . exact jg
 refine lJ ?_;intro n h;go_wp2_with fail;refine kk i h Zx ?_;clear h n;refine kN rfl fun n h=>?_;refine jo Dn rfl (.tmp 34) (.tmp 36) rfl r.B (.slice j a.b.jI.length k) a.b.jI.length _ rfl (jb (D:=fun _=>False) af Zx fun _ _ _ x=>x) J 1 (zw x) rfl rfl (hH.Fh _ _ rfl) (by simp[zw,Value.oneCell']) Zm Zr ?_;intro v N w4 aj ai au;change n _ _;have F:=(Zx:Ext J _).any.trans ai;refine kk i h F ?_;clear h n;have E:=W.kp F aB;obtain⟨aZ,d0,-⟩:=E.ca;have aY:=E.frozen 0;have⟨ae,aI,aF,V⟩:=jU aj F au E;clear aj ai F au E H q s t u;refine ku ?_;go_wp2_with fail;refine Ta ?_;have ay:=fun D hD aX=>(Kp.refl D w4).setCell (p:=⟨r.OE,0,none⟩) (fun _=>hD) aX;have aP:v≠r.OE:=fun b=>by
  subst b;obtain⟨_,f⟩:=nX ae rfl;exact absurd (hZ.inj V.o f) Zn
 have ah:=(aI.weak (D':=fun d=>(Value.slice j a.b.jI.length k).ownBlock=some d\/d=r.OE) fun _ _ c=>.inl c).trans (ay _ (.inr rfl) (v,a.b.jI.length+1,N));have nM:¬((Value.slice j a.b.jI.length k).ownBlock=some r.ME\/r.ME=r.OE):=by
  rintro(b|b)
  . obtain⟨_,f⟩:=nX af b;exact K.tN f
  . have:=K.o;rw[b]at this;exact this.tN W
 have aS:=aJ.resolve_left hl;rw[aS];refine⟨rfl,(xH.later (g.Fj (x:=x) (ve':=(v,a.b.jI.length+1,N)) ?_ ⟨_,K.kp ah nM,by rw[TB,aa.o,TB];rfl⟩ (V.jy 0 _) ?_ ?_ (g.ok.Sy aQ Z HX)) (X.trans (aD.trans p)))⟩
 . refine(aH.weak fun _ _ c=>.inl c).trans (ah.weak fun d _ c=>?_);rw[C.o];exact c.elim (fun c=>.inr (.inr c)) fun c=>.inr (.inl c)
 . have:=jb ae (ay (·=r.OE) rfl (v,a.b.jI.length+1,N)) (fun bn hq _ b=>by cases hq;exact aP b);simpa [Uz]using this
 . intro d Q;have aO:v=d:=by simpa [Value.ownBlock]using Q
   subst aO;rw[C.o];rcases aF.o with c|c
   . exact .inl c
   . right;have:=aL.o;simp at c;omega
theorem IW(r:Rc)(s:Rs){w:World}(a:kK r s w)(x:FB)(e:xR r.p x):Calls prog 75 #[some r.OE,.agg #[x.keeper,x.name,x.ref.keeper,x.ref.name]] w fun b c=>b=.returned (.tuple #[])/\kK r s c:=by
 obtain⟨f,rfl,d,-,g⟩:=a.start;refine(AV r f d x e).mono ?_;rintro b c ⟨rfl,a⟩;exact⟨rfl,g _ (a.is (KM))⟩
theorem AX(r:Rc)(a:Rs)(l:kS a.w r a.ve a.vp a.b)(x:uB)(hx:x.one<x.two/\keeps r.p x):Calls prog 78 #[some r.OP,.agg #[x.one,x.two,x.name]] a.w fun b w'=>b=.returned (.tuple #[])/\xH r a (Fp a.b x) w':=by
 obtain⟨w0,ay,N,K⟩:=nu a.w #[x.one,x.two,x.name] 112;obtain⟨j,k,z⟩:=jA l.rp;have HL:Zz ((r.OP<a.w)/\∀d,(Value.slice j a.b.jq.length k).ownBlock=some d->d<a.w.heap.size):=Zy ⟨l.bp.lt,fun d b=>(l.rp.lt d (by rw[z];exact b)).2⟩;have⟨R,aJ,aB,W,HX,HB⟩:=nE (l.ext N) ay l N hx K;have bf:=l.ok.Mg;obtain⟨-,q,s,t,-⟩:=K.ca;clear l ay N hx K;go_enter func78,ntmps78;go_wp2_with fail;rw[<-aJ.o];go_wp2_with fail;refine(IQ R x).mono ?_;rintro b H ⟨rfl,v⟩;have⟨aC,A,S⟩:=jB v (R.ext v) (HB.ext v);have X:Zz (MI a.b x=true\/200<=a.b.jq.length->xH r a (Fp a.b x) H):=Zy fun c=>by
  have b:Fp a.b x=a.b:=Tv c;rw[b];exact aB.same (W.trans v)
 clear q s t v;cases y:MI a.b x;rotate_left
 . have aF:=Zy y;clear y;go_wp2_with fail;refine Ta ?_;exact⟨rfl,X (.inl aF)⟩
 have Y:=Zy (Ps y);have aI:Zz (200<=a.b.jq.length\/Fp a.b x=⟨a.b.jI,a.b.jq++[x]⟩):=Zy (by
  by_cases c:200<=a.b.jq.length
  . exact .inl c
  . exact .inr (Tt (by simp[y];omega)))
 clear y;obtain⟨q0,q1,q2,q3,-⟩:=A.bp.ca;rw[z]at q1;by_cases hl:200<=a.b.jq.length
 . have hd:decide ((200:Int)<=(a.b.jq.length:Int))=true:=Tz Zm;go_wp2_with fail;refine Ta ?_;exact⟨rfl,X (.inr hl)⟩
 have hd:decide ((200:Int)<=(a.b.jq.length:Int))=false:=SL Zm;have aP:a.b.jq.length<200:=Zm
 obtain⟨aT,hm,av⟩:=A.mp;obtain⟨aL,aM,aQ,e⟩:=ll H;obtain⟨-,G,r1,r2,-⟩:=hZ.lC fun m=>A.bp.ext (e.jv m);rw[z]at G;obtain⟨-,q,s,t,-⟩:=hZ.lC fun m=>S.ext (e.jv m);have⟨i,HM,Z,B⟩:=jU e hm av z;clear e hm av z;go_wp2_with fail;clear q0 q1 q2 q3;refine jW i 15 [([0,1,2,3,4,5,6,7,8,10,11,12,13,14],9)] [] ?_ ?_
 . exact jg
 refine lJ ?_;intro n h;go_wp2_with fail;refine(IV).mono ?_;rintro b w2 ⟨rfl,af⟩;have p:=Zy (((Kp.refl _ H).drew:Ext H _).trans af);clear af;go_wp2_with fail;refine kk i h p ?_;clear h n;clear i G r1 r2 q s t;refine ku ?_;refine PM.xK _ rfl _ _ _ rfl r.MP aT x.one x.two x.name a.b.jq.length rfl rfl rfl (HM.kp p fun x=>x) (by
  have:=H9 (x:=x) Z;have h0:MI a.b x=false:=by
   unfold MI;rw[UK];intro bn hy aS;exact Y (by rw[Uo aS];exact hy)
  rw[h0]at this;simpa using this) ?_
 intro I au o az;simp only[Act.put];have⟨J,aK⟩:=jf au az;clear az;have⟨g,T⟩:=jf (A.ext p) (S.ext p);have O:∀{d:Nat} {aV:TypeId} {cs:Array Value},hZ w2 d aV cs->d≠r.MP:=fun hb b=>by
  subst b;obtain⟨_,f,_⟩:=g.mp;exact f.tN hb
 obtain⟨aL,aM,aQ,e⟩:=qC.ex (fun W'=>Kp (fun d=>(Value.slice j a.b.jq.length k).ownBlock=some d) I W') _ Kp.rr;have w:=g.bp.kp o (O g.bp);have aj:=T.kp o (O T);rw[B.o]at w;have F:=g.rp;rw[B.o]at F;have Q:=jb F o (fun d P _=>by
  obtain⟨_,f⟩:=nX F P;exact O f)
 have aA:¬(Value.slice j a.b.jq.length k).ownBlock=some r.OP:=fun b=>by
  obtain⟨_,f⟩:=nX Q b;exact absurd (hZ.inj w f) Zn
 have aU:¬(Value.slice j a.b.jq.length k).ownBlock=some a.w.heap.size:=fun b=>by
  have:=(HL.2 a.w b);omega
 obtain⟨-,G,-⟩:=hZ.lC fun m=>w.kp (e.jv m) aA;obtain⟨-,q,s,t,-⟩:=hZ.lC fun m=>aj.kp (e.jv m) aU;have⟨i,ae,V,aG⟩:=jU e Q w o;have aZ:r.B<=I:=S9 g.bp.lt g.low.2.2.1 o.size
 clear e au o w aj F Q;go_wp2_with fail;refine jW i 8 [([0,1,2,3,4,5],6),([],7)] [] ?_ ?_
 . exact jg
 refine lJ ?_;intro n h;go_wp2_with fail;refine kk i h Zx ?_;clear h n;refine kN rfl fun n h=>?_;refine jo yQ rfl (.tmp 34) (.tmp 36) rfl r.B (.slice j a.b.jq.length k) a.b.jq.length _ rfl (jb (D:=fun _=>False) ae Zx fun _ _ _ x=>x) I 1 (vJ x) rfl rfl (hH.Fh _ _ rfl) (by simp[vJ,Value.oneCell']) Zm Zr ?_;intro u L w4 ai ah ak;change n _ _;have E:=(Zx:Ext I _).any.trans ah;refine kk i h E ?_;clear h n;have C:=V.kp E aA;obtain⟨aY,d0,-⟩:=C.ca;have aX:=C.frozen 0;have⟨aa,aH,aD,U⟩:=jU ai E ak C;clear ai ah E ak C G q s t;refine ku ?_;go_wp2_with fail;refine Ta ?_;have ax:=fun D hD aW=>(Kp.refl D w4).setCell (p:=⟨r.OP,0,none⟩) (fun _=>hD) aW;have aO:u≠r.OP:=fun b=>by
  subst b;obtain⟨_,f⟩:=nX aa rfl;exact absurd (hZ.inj U.o f) Zn
 have ag:=(aH.weak (D':=fun d=>(Value.slice j a.b.jq.length k).ownBlock=some d\/d=r.OP) fun _ _ c=>.inl c).trans (ax _ (.inr rfl) (u,a.b.jq.length+1,L));have nM:¬((Value.slice j a.b.jq.length k).ownBlock=some r.MP\/r.MP=r.OP):=by
  rintro(b|b)
  . obtain⟨_,f⟩:=nX ae b;exact J.tN f
  . have:=J.o;rw[b]at this;exact this.tN V
 have aR:=aI.resolve_left hl;rw[aR];refine⟨rfl,(xH.later (g.Fp (x:=x) (vp':=(u,a.b.jq.length+1,L)) ?_ ⟨_,J.kp ag nM,by rw[TB,Z.o,TB];rfl⟩ (U.jy 0 _) ?_ ?_ (g.ok.Sz aP Y HX)) (W.trans (aC.trans p)))⟩
 . refine(aG.weak fun _ _ c=>.inl c).trans (ag.weak fun d _ c=>?_);rw[B.o];exact c.elim (fun c=>.inr (.inr c)) fun c=>.inr (.inl c)
 . have:=jb aa (ax (·=r.OP) rfl (u,a.b.jq.length+1,L)) (fun bg hq _ b=>by cases hq;exact aO b);simpa [Uz]using this
 . intro d P;have aN:u=d:=by simpa [Value.ownBlock]using P
   subst aN;rw[B.o];rcases aD.o with c|c
   . exact .inl c
   . right;have:=aK.o;simp at c;omega
theorem vB(r:Rc)(s:Rs){w:World}(a:kK r s w)(x:uB)(e:x.one<x.two/\keeps r.p x):Calls prog 78 #[some r.OP,.agg #[x.one,x.two,x.name]] w fun b c=>b=.returned (.tuple #[])/\kK r s c:=by
 obtain⟨f,rfl,d,-,g⟩:=a.start;refine(AX r f d x e).mono ?_;rintro b c ⟨rfl,a⟩;exact⟨rfl,g _ (a.is (KN))⟩
theorem Cw(r:Rc)(s:Rs){w:World}(a:kK r s w)(k:Int)(n:ByteArray):Calls prog 50 #[some r.R,k,n] w fun g w'=>g=.returned (.tuple #[])/\kK r s w':=by
 obtain⟨-,X,Y,Z,-⟩:=a.xQ.ca;have i:=Zy a;clear a;go_enter func50,ntmps50;go_wp2_with fail;refine(mJ _ _ _ i.kr k n).mono ?_;rintro g w1 ⟨rfl,h⟩;by_cases d:(find r.p k n).2=1;rotate_left
 . have aj:=SF.2 d;have ak:((find r.p k n).2 !=1)=true:=by simp[d]
   have O:=Zy h;clear h;generalize (find r.p k n).2=code at*;go_wp2_with fail;refine Ta ?_;exact⟨rfl,i.ext (O.trans Zx)⟩
 obtain⟨w2,F,A,x⟩:=nu w1 #[.int .i64 (find r.p k n).1.keeper,.string (find r.p k n).1.name] 60;have⟨R,e,N,K⟩:=jU F (i.ext (h.trans A)) d x;rw[d];obtain⟨-,d0,-⟩:=e.xQ.ca;clear h F A d X Y Z x;go_upto_region 2 with(fail);rw[<-R.o];go_wp2_with fail;refine(DW e.kr k n).mono ?_;rintro g w3 ⟨⟨az,rfl,o⟩,m⟩;obtain⟨af,ah,rfl,hn,au⟩:=o.form;obtain⟨t,rfl,D,z,G,sm⟩:=e.qB m;have⟨L,Q,J,I,V,U,P⟩:=qA (K.ext m) (o.keep (J:=fun y=>y<r.l.O\/w2<=y) oW.stays (fun _ _ _ _ a=>a) fun _ a=>.inr a) D z G sm (Mc e.kr.ok N);clear o D z G m d0 sm;generalize (path r.p k n).1=xs at*;generalize (path r.p k n).2=code at*;go_wp2;go_loopw [36] (fun q wr=>∃b:Nat,b<=xs.length/\q=.int .i64 b/\kK r t wr) (fun q _=>xs.length - (intOf q).toNat)
 case atStart=>exact⟨0,SV _,rfl,I⟩
 case round=>
  obtain⟨b,hq,rfl,c⟩:=hrel;have j:=Zy c;by_cases aa:b<xs.length
  . obtain⟨H,p⟩:=get_some aa;obtain⟨ag,ay,cs,rfl,hI,rfl,-,E⟩:=(Q.keep oW.stays (U _ c) fun _ a=>a).get p;have g0:=E.one;rw[V5]at g0;obtain⟨ae,ai,av,f⟩:=qC.ex (fun W=>kK r t W) _ c;obtain⟨-,-,r1,-⟩:=hZ.lC fun u=>(f.jv u).xQ;obtain⟨-,e0,e1,-⟩:=hZ.lC fun u=>(f.jv u).blk J L;have⟨l,S⟩:=jf f (P H (RA p));clear c f E p hI;go_wp2_with fail;refine jW l 9 [([0,1,2,3,4,5,6,7],8)] [] ?_ ?_
    . exact j.ext jg
    refine lJ ?_;intro T B;go_wp2_with fail;refine(IW r t (j.ext jg) ⟨H,n,(find r.p k n).1⟩ S).mono ?_;rintro g w5 ⟨rfl,C⟩;have v:=Zy C;clear C;go_wp2_with fail;refine kk l B v ?_;clear B T;clear l r1 e0 e1;refine tH rfl ?_;go_wp2_with fail;exact⟨⟨b+1,Zm,by go_num,v.o⟩,by simp[intOf];omega⟩
  . have ax:b=xs.length:=Zm
    clear c;go_wp2_with fail;refine Ta ?_;exact⟨rfl,V _ j⟩
theorem yu(r:Rc)(s:Rs){w:World}(G:kK r s w)(j l:Int)(k:Kind)(I:qE r.p j l k):Calls prog 98 #[some r.R,j,l,.agg #[k.kind,k.name]] w fun z T=>z=.returned (.tuple #[])/\kK r s T:=by
 obtain⟨X,K,H,n⟩:=nu w #[k.kind,k.name] 128;obtain⟨g,rfl,t,i,D,sm⟩:=G.qB H;obtain⟨-,V,W,-⟩:=n.ca;have⟨N,d,F,L⟩:=jU K i D I;have E:Zz (kK r s g.w):=Zy (D _ i);clear G D K H I sm;go_enter func98,ntmps98;go_upto_region 1 with(fail);rw[<-N.o];cases Q:(k.kind==1);rotate_left
 . go_wp2_with fail;refine Ta ?_;exact⟨rfl,E.o⟩
 cases J:(j==l);rotate_left
 . go_wp2_with fail;refine Ta ?_;exact⟨rfl,E.o⟩
 have f:=L.o.keeps (by simpa using Q) (by simpa using J);rcases Int.lt_or_gt_of_ne (show j≠l by simpa using J)with q|q
 . have R:¬l<j:=Zm
   go_wp2_with fail;have u:=Zy f;rw[Int.min_eq_left (Int.le_of_lt q),Int.max_eq_right (Int.le_of_lt q)]at f;have v:=Zy f;clear f;obtain⟨O,P,S,e⟩:=qC.ex (fun y=>kK r g y) _ i;obtain⟨-,-,-,C,-⟩:=hZ.lC fun h=>(e.jv h).xQ;obtain⟨-,A,B,-⟩:=hZ.lC fun h=>(e.jv h).blk t n;have c:=Zy e;clear e i t n;refine qp c 14 (.two [0,1,2,3,4,5,7,8,10,11] 6 9 (.one [] 9 (.one [12] 13 (.fin []))) (.one [] 6 (.one [12] 13 (.fin [])))) ?_ ?_
   . exact d.o.ext jg
   refine two [_,_,_,_,_,_,_,_,_,_] rfl rfl rfl fun x o=>?_;(repeat (go_big_quiet_step (fail)));((refine F5 o (fun b a=>?_) fun b a=>?_)<;>clear o x)
   all_goals
    go_wp2_with fail;refine kk c a (d.o.ext jg) ?_;clear a b;refine jX rfl fun b a=>?_;go_wp2_with fail;refine kk c a (d.o.ext jg) ?_;clear a b;refine Bi ?_;intro b a;go_wp2_with fail;first|with_reducible refine(vB r g (d.o.ext jg) ⟨_,_,k.name⟩ u.o).mono ?_|with_reducible refine(vB r g (d.o.ext jg) ⟨_,_,k.name⟩ v.o).mono ?_
    rintro z U ⟨rfl,p⟩;have m:=Zy p;clear p;go_wp2_with fail;refine kk c a m.o ?_;clear a b;clear c C A B;refine OQ rfl ?_;go_wp2_with fail;refine Ta ?_;exact⟨rfl,F.o _ m.o⟩
 . have R:¬j<l:=Zm
   go_wp2_with fail;have u:=Zy f;rw[Int.min_eq_right (Int.le_of_lt q),Int.max_eq_left (Int.le_of_lt q)]at f;have v:=Zy f;clear f;obtain⟨O,P,S,e⟩:=qC.ex (fun y=>kK r g y) _ i;obtain⟨-,-,-,C,-⟩:=hZ.lC fun h=>(e.jv h).xQ;obtain⟨-,A,B,-⟩:=hZ.lC fun h=>(e.jv h).blk t n;have c:=Zy e;clear e i t n;refine qp c 14 (.two [0,1,2,3,4,5,7,8,10,11] 6 9 (.one [] 9 (.one [12] 13 (.fin []))) (.one [] 6 (.one [12] 13 (.fin [])))) ?_ ?_
   . exact d.o.ext jg
   refine two [_,_,_,_,_,_,_,_,_,_] rfl rfl rfl fun x o=>?_;(repeat (go_big_quiet_step (fail)));((refine F5 o (fun b a=>?_) fun b a=>?_)<;>clear o x)
   all_goals
    go_wp2_with fail;refine kk c a (d.o.ext jg) ?_;clear a b;refine jX rfl fun b a=>?_;go_wp2_with fail;refine kk c a (d.o.ext jg) ?_;clear a b;refine Bi ?_;intro b a;go_wp2_with fail;first|with_reducible refine(vB r g (d.o.ext jg) ⟨_,_,k.name⟩ u.o).mono ?_|with_reducible refine(vB r g (d.o.ext jg) ⟨_,_,k.name⟩ v.o).mono ?_
    rintro z U ⟨rfl,p⟩;have m:=Zy p;clear p;go_wp2_with fail;refine kk c a m.o ?_;clear a b;clear c C A B;refine OQ rfl ?_;go_wp2_with fail;refine Ta ?_;exact⟨rfl,F.o _ m.o⟩
theorem Oo{b:Nat}(a:D b)(c d e f:Value):Kp D w ((((w.setCell b c).setCell (b,1) d).setCell (b,2) e).setCell (b,3) f):=
 (((((Kp.refl D w).setCell (p:=⟨b,0,none⟩) (fun _=>a) c).setCell (p:=⟨b,1,none⟩) (fun _=>a) d).setCell (p:=⟨b,2,none⟩) (fun _=>a) e).setCell (p:=⟨b,3,none⟩) (fun _=>a) f)
theorem R7{b:Nat}{u0 u1 u2 u3:Value}(f:hZ w b t #[u0,u1,u2,u3]){a c d e:Value}:hZ ((((w.setCell b a).setCell (b,1) c).setCell (b,2) d).setCell (b,3) e) b t #[a,c,d,e]:=by
 have g:hZ (w.setCell b a) b t #[a,u1,u2,u3]:=f.jy 0 a;have h:hZ ((w.setCell b a).setCell (b,1) c) b t #[a,c,u2,u3]:=g.jy 1 c;have i:hZ (((w.setCell b a).setCell (b,1) c).setCell (b,2) d) b t #[a,c,d,u3]:=h.jy 2 d;exact i.jy 3 e
theorem IL (r : Rc) (s : Rs) {w: World} (b : kK r s w) (h g : Ref) (c d : Class) (hc : cls? r.p h = some c) (hd : cls? r.p g = some d)(hf:∀a∈c.methods,(oC d a.name).isSome=true->sK r.p h.keeper g.keeper a):Calls prog 54 #[some r.R,.agg #[h.keeper,h.name],.agg #[g.keeper,g.name]] w fun e w'=>e=.returned (.tuple #[])/\kK r s w':=by
 obtain⟨i,E⟩:=SS ((w.alloc (.cells #[h.keeper,h.name] 60)).alloc (.cells #[g.keeper,g.name] 60));have C:Ext w i:=by rw[E];exact kx
 have b4:hZ i w 60 #[h.keeper,h.name]:=by rw[E];exact(hZ.new _ _ _).ext kx
 have Q:hZ i (w+1) 60 #[g.keeper,g.name]:=by rw[E];exact hZ.newAt _ _ Zl
 obtain⟨bR,x,aM⟩:=p8 i r.l r.p (b.ext C).kr h.keeper h.name c hc;obtain⟨u1,v1,u2,v2,rfl⟩:=x.form;obtain⟨bS,W,aN⟩:=p8 i r.l r.p (b.ext C).kr g.keeper g.name d hd;obtain⟨y1,z1,y2,z2,rfl⟩:=W.form;obtain⟨bI,aB,bN,j⟩:=ll i;obtain⟨-,r0,-⟩:=hZ.lC fun z=>(b.xQ.ext C).ext (j.jv z);obtain⟨-,v,B,-⟩:=hZ.lC fun z=>Q.ext (j.jv z);have⟨f,bE,bu,aS,bn,bf,bg,aZ,HF⟩:=sV j E C b W aN x aM hf;have bU:∀F,(Instr.field 47 (.agg #[c.name,c.jl,.slice u1 c.fields.length v1,.slice u2 c.methods.length v2]) 3).run prog F=.ok (.slice u2 c.methods.length v2) F:=(fun F=>by kernel_rfl);have⟨aT,aU⟩:=jf b4 Q;clear W aN x aM j E C b b4 Q hf hc hd;go_enter func54,ntmps54;go_upto_region 1 with(fail);rw[<-bE.o];refine qp f 7 (.two [0,1,2,3,4] 5 6 (.one [] 6 (.fin [])) (.one [] 5 (.fin []))) ?_ ?_
 . exact jg
 refine two [_,_,_,_,_] rfl rfl rfl fun bH hK=>?_;(repeat (go_big_quiet_step (fail)));refine Sq hK (Sl (e:=6) (d:=16) (n:=i.heap.size) (v:=fun _:Unit=>.agg #[d.name,d.jl,.slice y1 d.fields.length z1,.slice y2 d.methods.length z2]) (V:=fun _=>True) (z:=#["", "",(),()]) (t:=47) ⟨rfl,?_,?_,?_⟩ Zn (f.o.o _ jg) (T9 _) ?_ rfl rfl)<;>clear hK bH
 . rintro u _ ⟨N,rfl⟩ hn P p;simp (decide:=true)only[Act.put,Tu,Tk,Ti]at p |-;go_wp2_with fail;refine(bf _ (f.jv _).any).mono ?_;rintro e w8 ⟨rfl,D⟩;go_wp2_with fail;exact p () w8 trivial (f.o.o _ ((f.jv _).trans D)) (Jw.of D fun _ _ e=>e)
 . intro a' F P p;go_wp2_with fail;exact p
 . rintro _ ⟨N,rfl⟩;exact f.o.o _ ((f.jv _).alloc _)
 . rintro n - _ - ⟨N, rfl⟩ aK G; have aD := f.jv N; generalize aB N = w1 at *; obtain ⟨f0, f1, f2, f3,-⟩ := G.fz; obtain ⟨bJ, q0, q1, q2, q3,-⟩ := G.ca; have ⟨ak, ah, aY⟩ := jB aD G aK; clear f r0 v B aD G aK; go_simp; go_upto_region 2 with (fail); obtain ⟨K, I⟩ := SS (((((w1.setCell n d.name).setCell (n, 1) d.jl).setCell (n, 2) (.slice y1 d.fields.length z1)).setCell (n, 3) (.slice y2 d.methods.length z2))); have aC : hZ K n 47 #[d.name, d.jl, .slice y1 d.fields.length z1, .slice y2 d.methods.length z2] := by rw [I]; exact R7 ah
   have o:Ext i K:=ak.own (D':=(·=n)) (by rw[I];exact Oo (D:=(·=n)) rfl _ _ _ _) fun bT e=>SX aY.o
   rw[<-I];obtain⟨J,rfl,ha,U,up,sm⟩:=aS.qB (bu.trans o);have ae:=Zy (aT.ext o);have aV:=Zy (aU.ext o);have aW:=Zy aC;have⟨y,H1,UP⟩:=jB ha U up;have aj:=Zy (by
    obtain⟨vf,vm,e,-,Z⟩:=bg.o;simp only[TH,UF,V8]at e;obtain⟨rfl,rfl⟩:=e;exact Z.ext jd.stays o)
   have⟨bq,SM,bz⟩:=jB (jh.stays _ _ _ _ _ _ (Ext.same o) (fun _ b=>b) bn) sm o;obtain⟨bI,aB,bN,j⟩:=ll J.w;obtain⟨-,r0,-⟩:=hZ.lC fun z=>U.xQ.ext (j.jv z);obtain⟨-,v,B,-⟩:=hZ.lC fun z=>ae.ext (j.jv z);have f:=Zy j;clear f0 f1 f2 f3 bJ q0 q1 q2 q3 I aC o ha U up sm j ah ak;refine jW f 9 [([0,1,2,3,4,8],5)] [6,7] ?_ ?_
   . exact jg
   refine lJ ?_;intro P p;go_wp2_with fail;refine(aZ _ ((bz.trans jg).any)).mono ?_;rintro e w3 ⟨rfl,aF⟩;have au:=Zy (((Kp.refl _ J.w).drew:Ext J.w _).trans aF);clear aF;go_wp2_with fail;refine kk f p au ?_;clear p P;clear r0 v B f;refine rC ?_;go_wp2_with fail;have bW:c.methods.length<=4294967296:=by obtain⟨_,_,_,_,b⟩:=aj.form;exact b
   have bB:=Zy (H1.ext au);go_loopw [25] (fun q wr=>∃t:Nat,t<=c.methods.length/\q=.int .i64 t/\kK r J wr) (fun q _=>c.methods.length - (intOf q).toNat)
   case atStart=>exact⟨0,SV _,rfl,bB⟩
   case round =>
    obtain⟨t,hq,rfl,k⟩:=hrel;have HR:=Zy k;by_cases bL:t<c.methods.length
    . obtain⟨a,X⟩:=get_some bL;obtain⟨bP,cu,cs,rfl,hI,Y,-,x⟩:=(aj.keep jd.stays (k.same y) fun _ b=>b).get X;obtain⟨a1,c1,a2,c2,a3,c3,rfl⟩:=Y.form;obtain⟨v,B,g2,g3,g4,g5,g6,g7⟩:=x.eight;have gz:=jc v;obtain⟨w5,aP,l,R⟩:=nu wr #[.string a.name,.slice a1 a.args.length c1,.int .i64 a.ret.kind,.string a.ret.name,.int .i64 a.locals,.int .i64 a.stack,.slice a2 a.code.length c2,.slice a3 a.maps.length c3] 132;obtain⟨s2,rfl,aJ,h2,aR,-⟩:=k.qB l;have⟨bF,m,H2,az,ai,af,ag,aX⟩:=wL aP aJ h2 aR R ((k.blk y ae).ext l) ((k.blk y aV).ext l) ((k.blk y aW).ext l);have aa:=Zy (by
       obtain⟨va,vc,vm,e,Z,-,-⟩:=Y;simp only[TH,UF,V8]at e;obtain⟨rfl,-,-⟩:=e;exact Z.ext nC.stays l)
      have⟨HD,av,bO⟩:=jB (jh.stays _ _ _ _ _ _ (Ext.same l) (fun _ b=>b) (jh.stays _ _ _ _ _ _ (k.same y) (fun _ b=>b) bq)) (HF a (RA X)) l;obtain⟨-,e0,e1,e2,e3,-⟩:=aX.ca;obtain⟨-,k0,-⟩:=R.ca;clear k Y x hI X aP l aJ h2 aR R;go_upto_region 5 with(fail);rw[<-bF.o];clear v B g2 g3 g4 g5 g6 g7 gz;go_wp2_with fail;refine(yV d HD a.name).mono ?_;rintro e w6 ⟨rfl,aG⟩;have A:=Zy (H2.ext aG);clear aG e0 e1 e2 e3 k0;cases aO:oC d a.name with
      |none=>
       simp only[Hh,Option.elim];go_wp2_with fail;exact⟨⟨t+1,Zm,by go_num,az.o _ A.o⟩,by simp[intOf];omega⟩
      | some ix =>
       simp only[Hh,Option.elim];have aH:=av.o (by rw[aO];rfl);have ax:=Zy aH;have bV:decide ((ix:Int)<0)=false:=SL Zm;obtain⟨-,S,-⟩:=(A.blk m af).ca;obtain⟨-,T,-⟩:=(A.blk m ag).ca;obtain⟨-,-,k1,k2,k3,-⟩:=(A.blk m ai).ca;clear aH av aO;go_wp2_with fail;refine(yu r s2 A h.keeper g.keeper a.ret ax.1).mono ?_;rintro e w7 ⟨rfl,V⟩;have bC:=Zy V;obtain⟨-,-,k4,-⟩:=(V.blk m ai).ca;clear S T k1 k2 k3 V;go_wp2_with fail;obtain⟨wo,rfl⟩:∃wo:World,wo=wr:=⟨_,rfl⟩;have bX:a.args.length<=4294967296:=by obtain⟨_,_,_,_,b⟩:=aa.form;exact b
       go_loopw [45] (fun q wr=>∃u:Nat,u<=a.args.length/\q=.int .i64 u/\kK r s2 wr) (fun q _=>a.args.length - (intOf q).toNat)
       case atStart=>exact⟨0,SV _,rfl,bC⟩
       case round=>
        obtain⟨u,hu,rfl,H⟩:=hrel;have ay:=Zy H;by_cases bM:u<a.args.length
        . obtain⟨L,hx⟩:=get_some bM;obtain⟨b9,cz,bQ,rfl,bK,rfl,-,aL⟩:=(aa.keep nC.stays (H.same m) fun _ b=>b).get hx;obtain⟨j0,j1⟩:=aL.two;have jz:=jc j0;obtain⟨w8,aQ,D,aA⟩:=nu wr #[L.kind,L.name] 128;have⟨bG,O,bA⟩:=jB aQ (ay.ext D) (ax.2 L (RA hx));obtain⟨-,S,-⟩:=(O.blk m af).ca;obtain⟨-,T,-⟩:=(O.blk m ag).ca;obtain⟨-,k1,k2,-⟩:=aA.ca;clear H aL bK hx aQ D aA k4;go_upto_region 10 with(fail);rw[<-bG.o];clear j0 j1 jz;go_wp2_with fail;refine(yu r s2 O h.keeper g.keeper L bA).mono ?_;rintro e w9 ⟨rfl,aI⟩;have bD:=Zy aI;clear aI S T k1 k2;go_wp2_with fail;exact⟨⟨u+1,Zm,by go_num,bD.o⟩,by simp[intOf];omega⟩
        . have bZ:u=a.args.length:=Zm
          clear H k4;go_wp2_with fail;exact⟨⟨t+1,Zm,by go_num,az.o _ ay.o⟩,by simp[intOf];omega⟩
    . have bY:t=c.methods.length:=Zm
      clear k;go_wp2_with fail;refine Ta ?_;exact⟨rfl,UP _ HR⟩
theorem rA (r : Rc) (s : Rs) (w : World) (d : kK r s w) (k : Int) (n : ByteArray) :Calls prog 20 #[some r.R,k,n] w fun t w'=>t=.returned (.tuple #[])/\kK r s w':=by
 obtain⟨-,c0,-⟩:=d.xQ.ca;have ae:=Zy d;clear d;go_enter func20,ntmps20;go_wp2_with fail;refine(mJ _ _ _ ae.kr k n).mono ?_;rintro t w1 ⟨rfl,Y⟩;by_cases hc:(find r.p k n).2=1;rotate_left
 . have cB:((find r.p k n).2 !=1)=true:=by simp[hc]
   have bH:=Zy Y;clear Y;generalize (find r.p k n).2=code at*;go_wp2_with fail;refine Ta ?_;exact⟨rfl,ae.ext (bH.trans kx)⟩
 rw[hc];generalize (find r.p k n).1=q;obtain⟨w2,bg,aK,b2⟩:=nu w1 #[q.keeper,q.name] 60;obtain⟨s1,rfl,ha,J,up,-⟩:=ae.qB (Y.trans aK);have⟨bQ,HA,H1,UP,az⟩:=ni bg ha J up b2;obtain⟨-,d0,-⟩:=J.xQ.ca;clear Y bg aK hc c0 b2 ha J up;go_upto_region 2 with(fail);rw[<-bQ.o];go_wp2_with fail;refine(Cw r s1 H1 k n).mono ?_;rintro t E ⟨rfl,aa⟩;have ag:=Zy aa;obtain⟨aD,aJ,aZ,e⟩:=ll E;obtain⟨-,R,-⟩:=hZ.lC fun l=>aa.xQ.ext (e.jv l);obtain⟨-,H,I,-⟩:=hZ.lC fun l=>(aa.blk HA az).ext (e.jv l);have f:=Zy e;clear aa e d0;go_wp2_with fail;refine jW f 6 [([0,1,2,3,4],5)] [] ?_ ?_
 . exact jg
 refine lJ ?_;intro A m;go_wp2_with fail;refine(q9 (ag.kr.ext jg) q).mono ?_;rintro t w4 ⟨⟨dw,rfl,hs⟩,aL⟩;obtain⟨bT,X,rfl,hn,dm⟩:=hs.form;have Z:=((Kp.refl _ E).drew:Ext E _).trans aL;obtain⟨s2,rfl,aS,h2,bz,bu⟩:=ag.qB Z;have HS:=Zy (hs.keep (J:=fun u=>u<r.l.O\/E<=u) xI.stays (fun _ _ _ _ d=>d) fun _ d=>.inr d);have af:Zz (∀c∈chain r.p q,∃bU,cls? r.p c=some bU):=Zy fun c o=>M.ng o;have⟨bI,bA,H2,aF,aC⟩:=ni Z aS h2 bz bu;have bE:=Zy ((ag.blk HA az).ext Z);have bK:Zz (ko r.p q=true->mH r.p (chain r.p q)=true):=Zy fun d=>by
  unfold ko at d;simp only[Ty]at d;exact d.2
 clear hs aL Z aS h2 bz bu;generalize chain r.p q=b at*;go_wp2_with fail;refine kk f m bI ?_;clear m A;clear f R H I;refine ku ?_;go_wp2;go_loopw [40] (fun i wr=>∃a:Nat,a<=b.length/\i=.int .i64 a/\kK r s2 wr) (fun i _=>b.length - (intOf i).toNat)
 case atStart=>exact⟨0,SV _,rfl,H2⟩
 case round =>
  obtain⟨a,hq,rfl,g⟩:=hrel;have F:=Zy g;by_cases au:a<b.length
  . obtain⟨c,o⟩:=get_some au;obtain⟨aj,av,cs,rfl,hI,rfl,-,N⟩:=(HS.keep xI.stays (aC _ g) fun _ d=>d).get o;obtain⟨Q,j1⟩:=N.two;have jz:=jc Q;obtain⟨j,C⟩:=af.o c (RA o);obtain⟨w5,P,K,ak⟩:=nu wr #[.int .i64 c.keeper,.string c.name] 60;obtain⟨v,rfl,L,x,S,-⟩:=g.qB K;obtain⟨cz,aX,aV⟩:=p8 v.w r.l r.p x.kr c.keeper c.name j C;obtain⟨u1,v1,u2,v2,rfl⟩:=aX.form;have cO:∀h,(Instr.field 47 (.agg #[j.name,j.jl,.slice u1 j.fields.length v1,.slice u2 j.methods.length v2]) 1).run prog h=.ok j.jl h:=(fun h=>by kernel_rfl);obtain⟨aD,aJ,aZ,e⟩:=ll v.w;obtain⟨-,R,-⟩:=hZ.lC fun l=>x.xQ.ext (e.jv l);obtain⟨-,H,I,-⟩:=hZ.lC fun l=>ak.ext (e.jv l);have⟨f,ai,ay,T,G,bC,bF⟩:=qA e P L x S ak aV;clear g N hI o C P K L x S ak aX aV e;go_upto_region 7 with(fail);rw[<-ai.o];clear Q j1 jz;refine jW f 7 [([0,1,2,3,4],5)] [6] ?_ ?_
    . exact jg
    refine lJ ?_;intro A m;go_wp2_with fail;refine(bF _ jg.any).mono ?_;rintro t w6 ⟨rfl,aM⟩;have aA:=Zy (((Kp.refl _ v.w).drew:Ext v.w _).trans aM);have ah:=Zy (T.ext aA);clear aM;go_wp2_with fail;refine kk f m aA ?_;clear m A;clear f R H I;refine r9 [_] rfl fun bS hK=>?_;(repeat (go_big_quiet_step (fail)));refine qn hK ?_;clear hK bS;cases dn:(j.jl.toList==[])
    . obtain⟨-,k0,-⟩:=(ah.blk ay bC).ca;go_wp2_with fail;refine(Cw r v ah c.keeper j.jl).mono ?_;rintro t w7 ⟨rfl,aQ⟩;have V:=Zy aQ;clear aQ k0;go_wp2_with fail;exact⟨⟨a+1,Zm,by go_num,G.o _ V.o⟩,by simp[intOf];omega⟩
    . go_wp2_with fail;exact⟨⟨a+1,Zm,by go_num,G.o _ ah.o⟩,by simp[intOf];omega⟩
  . have bX : a = b.length := by omega
    obtain⟨aD,aJ,aZ,e⟩:=qC.ex (fun W'=>kK r s2 W') _ g;obtain⟨-,R,-⟩:=hZ.lC fun l=>(e.jv l).xQ;obtain⟨-,H,I,-⟩:=hZ.lC fun l=>(e.jv l).blk bA bE;have f:=Zy e;clear g e;go_wp2_with fail;refine jW f 7 [([0,1,2,3,4],5)] [6] ?_ ?_
    . exact F.ext jg
    refine lJ ?_;intro A m;go_wp2_with fail;refine(mU (F.ext jg).kr q).mono ?_;rintro t w5 ⟨rfl,aP,aO⟩;have U:=Zy ((F.ext jg).oQ aO aP);clear aP aO;cases aW:ko r.p q
    . go_wp2_with fail;refine kk f m U ?_;clear m A;refine rC ?_;go_wp2_with fail;refine Ta ?_;exact⟨rfl,UP _ (aF _ U)⟩
    go_wp2_with fail;refine kk f m U ?_;clear m A;clear f R H I;refine rC ?_;have bL:=Zy (bK aW);clear aW;go_wp2_with fail;obtain⟨v,rfl,L,x,S,bZ⟩:=U.qB Kp.rr;have⟨ay,T,G⟩:=jB L x S;have aB:Zz (∀h,kK r v h->SliceOf 2 xI h (fun u=>u<r.l.O\/E<=u) (.slice bT b.length X) b):=Zy fun h hW=>HS.keep xI.stays (aC _ (G _ hW)) fun _ d=>d;clear L x S bZ;go_loopw [68] (fun i wr=>∃a:Nat,a<=b.length/\i=.int .i64 a/\kK r v wr) (fun i _=>b.length - (intOf i).toNat)
    case atStart=>exact⟨0,SV _,rfl,T⟩
    case round =>
     obtain⟨a,hq,rfl,g⟩:=hrel;have F:=Zy g;by_cases au:a<b.length
     . obtain⟨c,o⟩:=get_some au;have bf:=aB.o _ g;obtain⟨aj,av,cs,rfl,hI,rfl,-,N⟩:=bf.get o;obtain⟨Q,j1⟩:=N.two;have jz:=jc Q;have df:(0:Int)<=(a:Int)+1:=Zm
       have dh:(a:Int)+1<=b.length:=Zm
       have di:(b.length:Int)<=X:=Zm
       obtain⟨j,C⟩:=af.o c (RA o);obtain⟨w5,P,K,aH⟩:=nu wr #[.int .i64 c.keeper,.string c.name] 60;obtain⟨s4,rfl,aT,h4,ax,-⟩:=g.qB K;have bP:Zz (∀h,kK r s4 h->SliceOf 2 xI h (fun u=>u<r.l.O\/E<=u) (.slice (some ⟨aj,av,none⟩) b.length X) b):=Zy fun h hW=>aB.o _ (ax _ hW);have bN:Zz (∀p∈b.drop (a+1),∃B,cls? r.p p=some B/\∀bq∈j.methods,(oC B bq.name).isSome=true->sK r.p c.keeper p.keeper bq):=Zy fun p D=>by
        obtain⟨B,O⟩:=af.o p (Vv D);have h0:=bL.o;rw[<-V9 (a+1) b]at h0;have J:=(tT h0).2 c (RA (i:=a) (by rw[Uu,Tv Zm];exact o)) p D;exact⟨B,O,L9 T.kr.ok C O J⟩
       have⟨bG,ai,bB,H4,aG,bD⟩:=nE C P aT h4 ax aH;clear g bf N hI o C P K aT h4 ax aH;go_upto_region 15 with(fail);rw[<-ai.o];clear Q j1 jz;by_cases cK:X=a+1
       . have hz:b.length - (a+1)=0:=Zm
         go_wp2;go_loopw [78] (fun i wr=>i=.int .i64 0/\kK r s4 wr) (fun i _=>0)
         case atStart=>exact⟨rfl,H4⟩
         case round=>
          obtain⟨rfl,y⟩:=hrel;have W:=Zy y;clear y;go_wp2_with fail;exact⟨⟨a+1,Zm,by go_num,aG.o _ W.o⟩,by simp[intOf];omega⟩
       . have aY:(b.drop (a+1)).length=b.length - (a+1):=Ui;have bM:=Zy aY;clear aY;go_wp2;go_loopw [78] (fun i wr=>∃z:Nat,z<=b.length - (a+1)/\i=.int .i64 z/\kK r s4 wr) (fun i _=>b.length - (a+1) - (intOf i).toNat)
         case atStart=>exact⟨0,SV _,rfl,H4⟩
         case round=>
          obtain⟨z,hj,rfl,y⟩:=hrel;have W:=Zy y;by_cases bW:z<b.length - (a+1)
          . obtain⟨p,D⟩:=get_some (l:=b.drop (a+1)) (k:=z) (by rw[bM.o];exact bW);obtain⟨b',bY,cu,he,bV,rfl,-,aU⟩:=((bP _ y).drop (i:=a+1) Zm).get D;obtain⟨rfl,rfl⟩:b'=aj/\bY=av+(a+1)*2:=by simp only[TT,Addr.mk.injEq,UF]at he;exact⟨he.1.symm,he.2.symm⟩
            obtain⟨p0,p1⟩:=aU.two;have pz:=jc p0;obtain⟨B,O,hf⟩:=bN.o p (RA D);obtain⟨w7,bn,aN,aI⟩:=nu wr #[.int .i64 p.keeper,.string p.name] 60;have⟨bR,V⟩:=jf bn (W.ext aN);obtain⟨-,e0,e1,-⟩:=(V.blk bB bD).ca;obtain⟨-,e2,e3,-⟩:=aI.ca;have⟨HD,bJ⟩:=jf O hf;clear y he bV aU D O hf bn aN aI;go_upto_region 18 with(fail);rw[<-bR.o];clear p0 p1 pz;go_wp2_with fail;refine(IL r s4 V c p j B bG HD bJ).mono ?_;rintro t w8 ⟨rfl,aR⟩;have bO:=Zy aR;clear aR e0 e1 e2 e3;go_wp2_with fail;exact⟨⟨z+1,Zm,by go_num,bO.o⟩,by simp[intOf];omega⟩
          . have cZ:z=b.length - (a+1):=Zm
            clear y;go_wp2_with fail;exact⟨⟨a+1,Zm,by go_num,aG.o _ W.o⟩,by simp[intOf];omega⟩
     . have bX:a=b.length:=Zm
       clear g;go_wp2_with fail;refine Ta ?_;exact⟨rfl,UP _ (aF _ (G _ F))⟩
structure lU(w:World)(J:Nat->Prop)(base g0 n cap:Nat)(css:List (List Value))(k:Nat)(vo va:Value)(xo:List Class)(xa:List M.Ask):Prop where
 own:w.ownsRow base 145 2 (.slice (some ⟨g0,0,none⟩) n cap) n css.flatten
 len:∀c∈css,c.length=2
 at_:css[k]?=some [vo,va]
 o:∃co,kv 47 4 jh w J base vo co xo
 a:∃ca,kv 150 2 mQ w J base va ca xa
 no:vo.ownBlock≠some g0
 na:va.ownBlock≠some g0
 ne:∀g,vo.ownBlock=some g->va.ownBlock≠some g
 hJ:∀b,J b->b<w.heap.size/\b≠g0/\vo.ownBlock≠some b/\va.ownBlock≠some b
section
variable {w w1:World} {J J':Nat->Prop} {base g0 n cap k:Nat} {css:List (List Value)} {vo va vo' va':Value} {xo xo':List M.Class} {xa xa':List M.Ask}
theorem lU.kp(a:lU w J base g0 n cap css k vo va xo xa)(f:Kp D w w1)(e:∀b,D b->b≠g0/\vo.ownBlock≠some b/\va.ownBlock≠some b/\¬J b):lU w1 J base g0 n cap css k vo va xo xa:=by
 obtain⟨l,o⟩:=a.o;obtain⟨j,m⟩:=a.a;have i:∀b,J b->¬D b:=fun b g c=>(e b c).2.2.2 g;exact⟨jb a.own f fun h d _ c=>by cases d;exact(e _ c).1 rfl,a.len,a.at_,⟨l,o.keep jh.stays f (fun h d c=>(e _ c).2.1 d) i fun _ a=>a⟩,⟨j,m.keep mQ.stays f (fun h d c=>(e _ c).2.2.1 d) i fun _ a=>a⟩,a.no,a.na,a.ne,fun b g=>⟨Tx (a.hJ b g).1 f.size,(a.hJ b g).2⟩⟩
theorem lU.ext(a:lU w J base g0 n cap css k vo va xo xa)(b:Ext w w1):lU w1 J base g0 n cap css k vo va xo xa:=a.kp b fun _ a=>a.elim
theorem lU.lt(b:lU w J base g0 n cap css k vo va xo xa):(base<=g0/\g0<w)/\(∀a,vo.ownBlock=some a->base<=a/\a<w.heap.size)/\∀a,va.ownBlock=some a->base<=a/\a<w.heap.size:=by
 obtain⟨f,d⟩:=b.o;obtain⟨e,c⟩:=b.a;exact⟨b.own.lt g0 rfl,d.own.lt,c.own.lt⟩
theorem lU.cells(a:lU w J base g0 n cap css k vo va xo xa):w.cell? (g0,k*2)=some vo/\w.cell? (g0,k*2+1)=some va:=by
 have d:=a.own.1;have f:=(Tw.1 a.at_).1;have c:=mI a.len k _ a.at_ 0 vo rfl;have b:=mI a.len k _ a.at_ 1 va rfl;have e:=(Tw.1 b).1;rw[d]at e;exact⟨(a.own.cellAt (k*2) Zm).trans c,(a.own.cellAt (k*2+1) Zm).trans b⟩
theorem lU.Si(b:lU w J base g0 n cap css k vo va xo xa)(h:Kp (fun d=>va.ownBlock=some d) w w1){l:List (List Value)}(q:kv 150 2 mQ w1 J base va' l xa')(j:∀c,va'.ownBlock=some c->va.ownBlock=some c\/w.heap.size<=c):lU (w1.setCell (g0,k*2+1) va') J base g0 n cap (css.set k [vo,va']) k vo va' xo xa'/\Kp (fun d=>d=g0\/va.ownBlock=some d) w (w1.setCell (g0,k*2+1) va'):=by
 obtain⟨⟨-,t⟩,s,u⟩:=b.lt;have g:∀c,(va.ownBlock=some c\/w.heap.size<=c)->c≠g0/\vo.ownBlock≠some c/\¬J c:=fun c e=>by
  refine⟨fun a=>?_,fun a=>?_,fun a=>?_⟩<;>rcases e with e|e
  . exact b.na (a▸e)
  . omega
  . exact b.ne c a e
  . have:=(s c a).2;omega
  . exact(b.hJ c a).2.2.2 e
  . have:=(b.hJ c a).1;omega
 have o:=b.own;obtain⟨m,p⟩:=b.o;have r:=jb o h fun c e _ a=>by cases e;exact(g _ (.inl a)).1 rfl
 have i:Kp (·=g0) w1 (w1.setCell (g0,k*2+1) va'):=nH;refine⟨⟨oD r b.len b.at_ (r:=1) Zn va',nW b.len rfl,TJ (Tw.1 b.at_).1,⟨m,?_⟩,⟨l,?_⟩,b.no,fun a=>(g _ (j _ a)).1 rfl,fun c e a=>(g _ (j _ a)).2.1 e,fun d f=>⟨?_,(b.hJ d f).2.1,(b.hJ d f).2.2.1,fun a=>(g _ (j _ a)).2.2 f⟩⟩,?_⟩
 . exact(p.keep jh.stays h (fun c e a=>b.ne c e a) (fun d f a=>(b.hJ d f).2.2.2 a) fun _ b=>b).keep jh.stays i (fun c e a=>b.no (a▸e)) (fun d f a=>(b.hJ d f).2.1 a) fun _ b=>b
 . exact q.keep mQ.stays i (fun c e a=>(g c (j c e)).1 a) (fun d f a=>(b.hJ d f).2.1 a) fun _ b=>b
 . have:=(b.hJ d f).1;have:=h.size;have:=i.size;omega
 . exact(h.weak fun d _ a=>.inr a).trans (i.weak fun d _ a=>.inl a)
theorem lU.Sj(d:lU w J base g0 n cap css k vo va xo xa)(j:Kp (fun a=>vo.ownBlock=some a) w w1){q:List (List Value)}(r:kv 47 4 jh w1 J' base vo' q xo')(m:∀c,vo'.ownBlock=some c->vo.ownBlock=some c\/w.heap.size<=c)(v:∀a,J a->J' a) (i:∀a,J' a->J a\/a<base\/(w.heap.size<=a/\a<w1.heap.size/\vo'.ownBlock≠some a)):lU (w1.setCell (g0,k*2) vo') J' base g0 n cap (css.set k [vo',va]) k vo' va xo' xa/\Kp (fun a=>a=g0\/vo.ownBlock=some a) w (w1.setCell (g0,k*2) vo'):=by
 obtain⟨⟨B,z⟩,A,p⟩:=d.lt;have h:∀c,(vo.ownBlock=some c\/w.heap.size<=c)->c≠g0/\va.ownBlock≠some c/\¬J c:=fun c e=>by
  refine⟨fun b=>?_,fun b=>?_,fun b=>?_⟩<;>rcases e with e|e
  . exact d.no (b▸e)
  . omega
  . exact d.ne c e b
  . have:=(p c b).2;omega
  . exact(d.hJ c b).2.2.1 e
  . have:=(d.hJ c b).1;omega
 have u:=d.own;obtain⟨t,x⟩:=d.a;have y:=jb u j fun c e _ b=>by cases e;exact(h _ (.inl b)).1 rfl
 have l:Kp (·=g0) w1 (w1.setCell (g0,k*2) vo'):=nH;have o:∀a,J' a->a≠g0:=fun a g b=>by
  rcases i a g with f|f|f
  . exact(d.hJ a f).2.1 b
  . omega
  . omega
 have s:=oD y d.len d.at_ (r:=0) Zn vo';rw[U3]at s;refine⟨⟨s,nW d.len rfl,TJ (Tw.1 d.at_).1,⟨q,?_⟩,⟨t,?_⟩,fun b=>(h _ (m _ b)).1 rfl,d.na,fun c e b=>(h _ (m _ e)).2.1 b,fun a g=>⟨?_,o a g,fun b=>?_,fun b=>?_⟩⟩,?_⟩
 . exact r.keep jh.stays l (fun c e b=>(h c (m c e)).1 b) o fun _ d=>d
 . exact(x.keep mQ.stays j (fun c e b=>d.ne c b e) (fun a g b=>(d.hJ a g).2.2.1 b) v).keep mQ.stays l (fun c e b=>d.na (b▸e)) o fun _ d=>d
 . have:=j.size;have:=l.size;rcases i a g with f|f|f
   . have:=(d.hJ a f).1;omega
   . omega
   . omega
 . rcases i a g with f|f|f
   . exact(h a (m a b)).2.2 f
   . have:=(r.own.lt a b).1;omega
   . exact f.2.2 b
 . rcases i a g with f|f|f
   . exact(d.hJ a f).2.2.2 b
   . have:=(p a b).1;omega
   . have:=(p a b).2;omega
 . exact(j.weak fun a _ b=>.inr b).trans (l.weak fun a _ b=>.inl b)
end
theorem qW.at_{a f: Nat}(b:qW w I base (a,p.length,f) css p)(s:p[k]?=some x):∃d c,css[k]?=some [d,c]/\lU w (xq I w (a,p.length,f) css) base a p.length f css k d c x.owns x.asks:=by
 obtain⟨d,c,m,l,g,o,q⟩:=b.row k x s;have i:=mI b.len.2 k _ g 0 d rfl;have j:=mI b.len.2 k _ g 1 c rfl;have t:d∈(Value.slice (some ⟨a,0,none⟩) p.length f)::css.flatten:=TU _ (RA i);have u:c∈(Value.slice (some ⟨a,0,none⟩) p.length f)::css.flatten:=TU _ (RA j);refine⟨d,c,g,b.own,b.len.2,g,⟨m,o⟩,⟨l,q⟩,fun e=>?_,fun e=>?_,fun n r e=>?_,fun v h=>⟨h.2.1,fun e=>h.2.2 (a,p.length,f) List.mem_cons_self (by subst e;rfl),h.2.2 _ t,h.2.2 _ u⟩⟩
 . have:=b.apart 0 (k*2+0+1) _ d a rfl (by simpa using i) rfl e;omega
 . have:=b.apart 0 (k*2+1+1) _ c a rfl (by simpa using j) rfl e;omega
 . have:=b.apart (k*2+0+1) (k*2+1+1) d c n (by simpa using i) (by simpa using j) r e;omega
theorem qW.turned{q: World}{d e: Nat}{u t: Value}{l:List Class}{j:List M.Ask}(b:qW w I base (d,p.length,e) css p)(V:p[k]?=some x)(E:css[k]?=some [vo,va])(D:Kp (fun a=>a=d\/vo.ownBlock=some a\/va.ownBlock=some a) w q) (m:lU q A base d p.length e (css.set k [u,t]) k u t l j) (C:∀a,A a->I a\/base<=a)(hl:p.length<=1000) (T:∀r∈p,r.owns.length<=1000/\r.asks.length<=1000) (ho:l.length<=4000) (ha:j.length<=4000):SliceOf 2 ja q (fun a=>I a\/base<=a) (d,p.length,e) (p.set k ⟨l,j⟩):=by
 have S:q.ownsRow base 145 2 (d,p.length,e) (p.set k ⟨l,j⟩).length (css.set k [u,t]).flatten:=by rw[Ux];exact m.own
 have hv:(Value.slice (some ⟨d,0,none⟩) p.length e)=.slice (some ⟨d,0,none⟩) (p.set k ⟨l,j⟩).length e:=by rw[Ux]
 have U:SliceOf 2 ja q (fun a=>I a\/base<=a) (d,p.length,e) (p.set k ⟨l,j⟩):=SliceOf.owned S m.len Zn (CW (by rw[Ux,Ux,b.len.1]) fun s r aa o n=>by
  by_cases F:s=k
  . subst F;have R:=(Tw.1 V).1;rw[TJ R]at o;rw[m.at_]at n;cases o;cases n;obtain⟨O,r1⟩:=m.o;obtain⟨N,r2⟩:=m.a;exact⟨u,t,rfl,(r1.keep (D:=fun _=>False) jh.stays Kp.rr (fun _ _ b=>b) (fun _ _ b=>b) C).slice Zn (fun a c _=>.inr c) Zm,
     (r2.keep (D:=fun _=>False) mQ.stays Kp.rr (fun _ _ b=>b) (fun _ _ b=>b) C).slice Zn (fun a c _=>.inr c) Zm⟩
  . rw[List.getElem?_set_ne (Ne.symm F)]at o n;obtain⟨L,K,O,N,v,P,Q⟩:=b.row s r o;rw[v]at n;cases n;have ae:=T r (RA o);have W:=mI b.len.2 s _ v 0 L rfl;have X:=mI b.len.2 s _ v 1 K rfl;have G:=mI b.len.2 k _ E 0 vo rfl;have H:=mI b.len.2 k _ E 1 va rfl;have Y:=TU (Value.slice (some ⟨d,0,none⟩) p.length e) (RA G);have Z:=TU (Value.slice (some ⟨d,0,none⟩) p.length e) (RA H);have J:∀(h:Nat) (i:Value),css.flatten[h]?=some i->h≠k*2+0->h≠k*2+1->∀g,i.ownBlock=some g->¬(g=d\/vo.ownBlock=some g\/va.ownBlock=some g):=fun h i z n0 n1 g y f=>by
     rcases f with rfl|f|f
     . have:=b.apart 0 (h+1) _ i g rfl (by simpa using z) rfl y;omega
     . have:=b.apart (k*2+0+1) (h+1) vo i g (by simpa using G) (by simpa using z) f y;omega
     . have:=b.apart (k*2+1+1) (h+1) va i g (by simpa using H) (by simpa using z) f y;omega
    have B:∀a,xq I w (d,p.length,e) css a->¬(a=d\/vo.ownBlock=some a\/va.ownBlock=some a):=fun a c f=>by
     rcases f with rfl|f|f
     . exact c.2.2 (.slice (some ⟨a,0,none⟩) p.length e) List.mem_cons_self rfl
     . exact c.2.2 _ Y f
     . exact c.2.2 _ Z f
    exact⟨L,K,rfl,(P.keep jh.stays D (J _ _ W Zm Zm) B fun a c=>.inl c.1).slice Zn (fun a c _=>.inr c) Zm,
     (Q.keep mQ.stays D (J _ _ X Zm Zm) B fun a c=>.inl c.1).slice Zn (fun a c _=>.inr c) Zm⟩) (fun a c _=>.inr c) (by rw[Ux];omega)
 exact U
section
variable {w w1:World} {J J':Nat->Prop} {base g0 n cap k:Nat} {css:List (List Value)} {vo va vo' va':Value} {xo xo':List M.Class} {xa xa':List M.Ask}
theorem KA(w:World)(f:lU w J base g0 n cap css k vo va xo xa)(hl:xa.length<=1000)(l:ByteArray):Calls prog 271 #[.agg #[l],some (g0,k*2)] w fun a y=>a=.returned (.tuple #[])/\(∃va' xa',va'.ownBlock=va.ownBlock/\xa'.length<=xa.length/\lU y J base g0 n cap (css.set k [vo,va']) k vo va' xo xa')/\Kp (fun d=>d=g0\/va.ownBlock=some d) w y:=by
 obtain⟨H,x,g,p⟩:=nu w #[l] 316;have b:=f.ext g;obtain⟨C,v⟩:=b.a;have r:=K8 H J base va C xa v Zm (fun d F a=>(b.hJ d F).2.2.2 a) w l (p.c 0 _ rfl) (fun a=>SX ((f.lt.2.2 _ a).2));have z:=Zy r;obtain⟨-,q⟩:=b.cells;have D:=b.lt.1.2;have⟨B,A,c⟩:=jB x g b;clear x g b v r f p;go_enter func271,ntmps271;go_upto_region 1 with(fail);rw[<-B.o];go_wp2_with fail;refine z.mono ?_;rintro a w1 ⟨⟨va',L,xa',rfl,i,j,s⟩,e⟩;obtain⟨I,K,rfl⟩:=jA j.own;have u:=c.Si e j fun E h=>.inl (by rw[<-i];exact h);have t:=jb c.own e fun E h _ a=>by cases h;exact c.na a
 have M:=t.frozenAt (k*2+1);have G:=e.lL q c.na;have N:=jc G;have⟨o,m⟩:=jf u (Tn i s);clear u j i s t e q D;go_wp2_with fail;refine Ta ?_;exact⟨rfl,⟨_,_,m.1,m.2,o.1⟩,(A.any.trans o.2)⟩
theorem KC(w:World)(b:lU w J base g0 n cap css k vo va xo xa)(hl:xo.length<=1000)(l:ByteArray):Calls prog 266 #[.agg #[l],some (g0,k*2)] w fun a y=>a=.returned (.tuple #[])/\(∃vo' xo',vo'.ownBlock=vo.ownBlock/\xo'.length<=xo.length/\lU y J base g0 n cap (css.set k [vo',va]) k vo' va xo' xa)/\Kp (fun e=>e=g0\/vo.ownBlock=some e) w y:=by
 obtain⟨H,x,g,p⟩:=nu w #[l] 315;have c:=b.ext g;obtain⟨C,v⟩:=c.o;have r:=O9 H J base vo C xo v Zm (fun e F a=>(c.hJ e F).2.2.1 a) w l (p.c 0 _ rfl) (fun a=>SX ((b.lt.2.1 _ a).2));have z:=Zy r;obtain⟨q,-⟩:=c.cells;have D:=c.lt.1.2;have⟨B,A,d⟩:=jB x g c;clear x g c v r b p;go_enter func266,ntmps266;go_upto_region 1 with(fail);rw[<-B.o];go_wp2_with fail;refine z.mono ?_;rintro a w1 ⟨⟨vo',L,xo',rfl,i,j,s⟩,f⟩;obtain⟨I,K,rfl⟩:=jA j.own;have u:=d.Sj f j (fun E h=>.inl (by rw[<-i];exact h)) (fun _ b=>b) (fun _ b=>.inl b);have t:=jb d.own f fun E h _ a=>by cases h;exact d.no a
 have M:=t.frozenAt (k*2);have G:=f.lL q d.no;have N:=jc G;have⟨o,m⟩:=jf u (Tn i s);clear u j i s t f q D;go_wp2_with fail;refine Ta ?_;exact⟨rfl,⟨_,_,m.1,m.2,o.1⟩,(A.any.trans o.2)⟩
theorem QD(w:World)(b:lU w J base g0 n cap css k vo va xo xa)(hl:xa.length<=1000)(h:ByteArray)(i:Int):Calls prog 270 #[.agg #[.string h,.int .i64 i],.pointer (some ⟨g0,k*2,none⟩)] w fun a T=>a=.returned (.tuple #[])/\(∃va' xa',xa'.length<=xa.length+1/\lU T J base g0 n cap (css.set k [vo,va']) k vo va' xo xa')/\Kp (fun d=>d=g0\/va.ownBlock=some d) w T:=by
 obtain⟨w0,S,u,s⟩:=nu w #[.string h,.int .i64 i] 313;have W:=Zy (KA w0 (b.ext u) hl h);obtain⟨-,e0,e1,-⟩:=s.ca;have ez:=b.lt.1.2;have q:=Zy b.lt;have⟨X,V,U⟩:=jB S u s;clear S u b s;go_enter func270,ntmps270;go_upto_region 1 with(fail);rw[<-X.o];go_wp2_with fail;refine W.mono ?_;rintro a o ⟨rfl,⟨va',xa',x,N,f⟩,c⟩;obtain⟨E,y⟩:=f.a;obtain⟨r,t,rfl⟩:=jA y.own;have K:=U.kp c (by
  have:=q.o;rintro(a|a)
  . omega
  . have:=this.2.2 _ a;omega)
 obtain⟨-,D⟩:=f.cells;have O:=f.lt;obtain⟨ae,af,ag,j⟩:=qC.ex (fun Y=>Kp (fun d=>(Value.slice r xa'.length t).ownBlock=some d) o Y) _ Kp.rr;have r1:=fun z=>(j.jv z).lL D f.na;have L:¬(Value.slice r xa'.length t).ownBlock=some w.heap.size:=fun a=>by rw[x]at a;have:=(q.2.2 _ a).2;omega
 obtain⟨-,q0,q1,-⟩:=hZ.lC fun z=>K.kp (j.jv z) L;have gz:g0<o:=O.1.2;have⟨l,e,C,A,p⟩:=ni j f y (V.any.trans c) (Tn x N);clear j f y c x N D O K L e0 e1 ez;go_upto_region 2 with(fail);refine jW l 9 [([0,1,2,3,4,5,6],7),([],8)] [] ?_ ?_
 . exact jg
 refine lJ ?_;intro m c;go_wp2_with fail;refine kk l c Zx ?_;clear c m;refine kN rfl fun m c=>?_;refine jo JG rfl (.tmp 14) (.tmp 17) rfl base (.slice r xa'.length t) xa'.length E.flatten rfl (jb (D:=fun _=>False) C.own Zx fun _ _ _ aa=>aa) o 1 [.string h,.int .i64 i] rfl rfl (hH.Fh _ _ rfl) Zt (SX p.2) (by have:=q.o.1;have:=A.size;simp;omega) ?_;intro G Z w9 I H M;change m _ _;have g:=(Zx:Ext o _).any.trans H;refine kk l c g ?_;clear c m;have R:kv 150 2 mQ w9 J base (.slice (some ⟨G,0,none⟩) (xa'.length+1) Z) (E++[[.string h,.int .i64 i]]) (xa'++[⟨h,i⟩]):=
  C.snoc mQ.stays g (fun d hb a=>(e.hJ d hb).2.2.2 a) (fun _ b=>b) I rfl rfl
 have Q:=e.Si g R (fun F v=>by
  obtain rfl:G=F:=TG v;rcases M with a|a
  . exact .inl a
  . right;simp at a;omega)
 have P:=jb e.own g fun F v _ a=>by cases v;exact e.na a
 have fr:=P.frozenAt (k*2+1);have k1:=g.lL e.cells.2 e.na;have kz:=jc k1;have B:=Zy Q;clear Q R P g I H M l r1 q0 q1;refine ku ?_;go_wp2_with fail;refine Ta ?_;refine⟨rfl,⟨_,_,?_,by have b:=B.1;rw[UQ]at b;exact b⟩,A.trans (B.2.weak fun d _ a=>a.imp id fun a=>by rw[<-p.o.1];exact a)⟩;have:=p.2;rw[TP];simp;omega
theorem O3(w:World)(a:lU w J base g0 n cap css k vo va xo xa)(hl:xo.length<=1000)(I:Nat->Prop)(hI:∀b,I b->b<base)(x:Class)(cs:List Value)(L:jh w I x cs):Calls prog 265 #[.agg cs.toArray,.pointer (some ⟨g0,k*2,none⟩)] w fun c w'=>c=.returned (.tuple #[])/\(∃J' vo' xo',(∀b,J' b->J b\/I b\/w.heap.size<=b)/\xo'.length<=xo.length+1/\lU w' J' base g0 n cap (css.set k [vo',va]) k vo' va xo' xa)/\Kp (fun b=>b=g0\/vo.ownBlock=some b) w w':=by
 obtain⟨p1,p2,p3,p4,rfl⟩:=L.form;obtain⟨w0,af,D,B⟩:=nu w #[.string x.name,.string x.jl,.slice p1 x.fields.length p2,.slice p3 x.methods.length p4] 311;have HF:=Zy (KC w0 (a.ext D) hl x.name);obtain⟨-,e0,e1,e2,e3,-⟩:=B.ca;have ez:=a.lt.1.2;have q:=Zy a.lt;have⟨ai,P,ah,HX,p⟩:=ni af D B L hI;clear af D a B L hI;go_enter func265,ntmps265;go_upto_region 1 with(fail);rw[<-ai.o];go_wp2_with fail;refine HF.mono ?_;rintro c f ⟨rfl,⟨vo',xo',H,Z,l⟩,e⟩;obtain⟨U,K⟩:=l.o;obtain⟨s,t,rfl⟩:=jA K.own;have X:=ah.kp e (by
  have:=q.o;rintro(c|c)
  . omega
  . have:=this.2.1 _ c;omega)
 obtain⟨T,-⟩:=l.cells;have F:=l.lt;obtain⟨av,ay,az,r⟩:=qC.ex (fun W'=>Kp (fun b=>(Value.slice s xo'.length t).ownBlock=some b) f W') _ Kp.rr;have r1:=fun O=>(r.jv O).lL T l.no;have Y:¬(Value.slice s xo'.length t).ownBlock=some w.heap.size:=fun c=>by rw[H]at c;have:=(q.2.1 _ c).2;omega
 obtain⟨-,q0,q1,q2,q3,-⟩:=hZ.lC fun O=>X.kp (r.jv O) Y;have gz:g0<f:=F.1.2;have ag:jh f I x _:=jh.stays _ _ _ _ _ _ (Kp.same (P.any.trans e) fun b d c=>by
  have:=p.o b d;have:=q.o;rcases c with c|c
  . omega
  . have:=this.2.1 _ c;omega) (fun _ a=>a) HX.o
 have⟨o,g,S,z,A,aj,Q⟩:=qA r l K (P.any.trans e) (Tn H Z) ag F;clear r l K e H Z T F X Y e0 e1 e2 e3 ez ag;go_upto_region 2 with(fail);refine jW o 10 [([0,1,2,3,4,5,6],7),([],8),([],9)] [] ?_ ?_
 . exact jg
 refine lJ ?_;intro i e;go_wp2_with fail;refine(Di I (jh.stays _ _ _ _ _ _ (Ext.same (jg:Ext f _)) (fun _ a=>a) aj) (fun b d=>by have:=p.o b d;have:=Q.1;simp;omega)).mono ?_;rintro c y ⟨⟨ax,rfl,N⟩,V⟩;obtain⟨q4,q5,q6,q7,rfl⟩:=N.form;have⟨h,ak⟩:=jf (((Kp.refl _ f).drew:Ext f _).trans V) (jh.inside N);clear V N;go_wp2_with fail;refine kk o e h.any ?_;clear e i;refine kN rfl fun i e=>?_;go_wp2_with fail;refine kk o e (h.any.alloc _) ?_;clear e i;refine kN rfl fun i e=>?_;refine jo JH rfl (.tmp 14) (.tmp 18) rfl base (.slice s xo'.length t) xo'.length U.flatten rfl (jb (D:=fun _=>False) S.own (h.alloc _) fun _ _ _ x=>x) y 1 [.string x.name,.string x.jl,.slice q4 x.fields.length q5,.slice q6 x.methods.length q7] rfl rfl (hH.Fh _ _ rfl) Zt (SX A.2) (by have:=q.o.1;have:=z.size;have:=h.size;simp;omega) ?_;intro C c9 w9 W u v;change i _ _;have m:=(h.alloc _:Ext f _).any.trans u;refine kk o e m ?_;clear e i;have aA:=h.size;have au:=u.size;simp only[Tp]at au v;have G:∀j,(Value.slice s xo'.length t).ownBlock=some j->base<=j/\j<f.heap.size:=Q.2.1;have ae:kv 47 4 jh w9 (fun b=>J b\/I b\/(f.heap.size<=b/\b<y.heap.size)) base (.slice (some ⟨C,0,none⟩) (xo'.length+1) c9) (U++[[.string x.name,.string x.jl,.slice q4 x.fields.length q5,.slice q6 x.methods.length q7]]) (xo'++[x]):=
  S.snoc jh.stays m (fun b d c=>(g.hJ b d).2.2.1 c) (fun _ a=>.inl a) W rfl (jh.stays _ _ _ _ _ _ (Kp.same (((Kp.refl _ y).alloc _:Ext y _).any.trans u) fun b d c=>by
   have:=G b c;rcases d.1 with a|a
   . have:=p.o b a;omega
   . simp at a;omega) (fun b d=>by
   rcases d.1 with a|a
   . exact .inr (.inl a)
   . simp at a;exact .inr (.inr ⟨a,d.2⟩)) ak)
 have hp:=g.Sj m ae (fun j E=>by
  obtain rfl:C=j:=TG E;rcases v with c|c
  . exact .inl c
  . right;omega) (fun _ a=>.inl a) (fun b d=>by
  rcases d with a|a|a
  . exact .inl a
  . exact .inr (.inl (p b a))
  . refine .inr (.inr ⟨a.1,Zm,fun c=>?_⟩);obtain rfl:C=b:=TG c;rcases v with c|c
    . have:=G _ c;omega
    . omega)
 have aa:=jb g.own m fun j E _ c=>by cases E;exact g.no c
 have fr:=aa.frozenAt (k*2);have k1:=m.lL g.cells.1 g.no;have kz:=jc k1;have R:=Zy hp;clear hp ae aa m W u v o r1 q0 q1 q2 q3 G;refine ku ?_;go_wp2_with fail;refine Ta ?_;refine⟨rfl,⟨_,_,_,fun b d=>?_,?_,by have a:=R.1;rw[UQ]at a;exact a⟩,z.trans (R.2.weak fun b _ c=>c.imp id fun c=>by rw[<-A.o.1];exact c)⟩
 . have:=z.size;rcases d with a|a|a
   . exact .inl a
   . exact .inr (.inl a)
   . right;right;omega
 . have:=A.2;rw[TP];simp;omega
end
end Go.Proofs.YtlhgbjbkjalfjaaGreat
