/- Walks. -/
import Derived.Test.YtlhgbjbkjalfjaaGreatTwCoreLm
import Derived.Tactics2
import Derived.Defers
import Derived.Recover
set_option maxRecDepth 100000
set_option maxHeartbeats 4000000
set_option linter.all false
namespace Go.Proofs.YtlhgbjbkjalfjaaGreat
open Go Go.RowKit Tryz M
variable {f k: Int}{m: M.Method}{c e: Nat}{a d vs: Value}{w: World}{p: iZ}{l: jk}{s: oV}{t: uj}
attribute [local go_sem] Oper.semAt_some
theorem nU{I:Nat->Prop}{cs:List Value}(h:jd w I m cs):∃i:uj,cs=mF m i:=by
 obtain⟨a,d,b,e,c,f,g⟩:=h.form;exact⟨⟨a,d,b,e,c,f⟩,g⟩
theorem jF.old(b:jF w l p e c k m t f s d vs){q:Nat}(g:qo l c d vs q):q<w:=by
 have h:=b.blk.lt;have i:=b.kr.ET;rcases g with a|a|a|a
 . omega
 . omega
 . exact(b.loc.lt q a).2
 . exact(b.kH.lt q a).2
theorem jF.low(b:jF w l p e c k m t f s d vs){q:Nat}(j:q<l.O):¬qo l c d vs q:=by
 have g:=b.hB;have h:=b.kr.ord;have i:=b.hk;rintro(a|a|a|a)
 . omega
 . omega
 . have:=(b.loc.lt q a).1;omega
 . have:=(b.kH.lt q a).1;omega
theorem GD{x:Kind}:∀(a:List Kind) (s:oV),pF p k (a++[x]) s=(pF p k a s).bind (oZ p k (mr x)):=by
 intro a;induction a with
 |nil=>intro s;simp[pF]
 |cons d e b=>
  intro s;simp only[TF,pF];cases oZ p k (mr d) s with
  |none=>rfl
  |some c=>exact b c
theorem GA{r:List Kind}:∀{b:List Kind} {s:oV},pF p k b s=none->pF p k (b++r) s=none:=by
 intro b;induction b with
 |nil=>intro s a;simp[pF]at a
 |cons e g d=>
  intro s a;simp only[TF,pF]at a |-;cases c:oZ p k (mr e) s with
  |none=>rfl
  |some f=>rw[c]at a;exact d a
def MK(l:jk)(p:iZ)(B kb:Nat)(k:Int)(m:M.Method)(t:uj)(at_:Int)(s:oV)(vl vs:Value)(w8:World)(pre:List (Int×Kind))(W:World):Prop:=
 ∃s' vl' vs',pF p k (pre.map Prod.snd) s=some s'/\jF W l p B kb k m t at_ s' vl' vs'/\jV (w8.heap.size+3) vl vs vl' vs'/\Kp (qo l kb vl vs) w8 W
def RF(l:jk)(p:iZ)(kb:Nat)(k:Int)(at_:Int)(s:oV)(vl vs:Value)(w8:World)(ch:List PanicEntry)(pre:List (Int×Kind))(W:World):Prop:=
 ch=Ac (at_+1)/\pF p k (pre.map Prod.snd) s=none/\ji W l p/\Kp (qo l kb vl vs) w8 W
def zn(ev:Value)(c:Int):Prop:=(c=1/\ev=Value.nilIface)\/(c≠1/\∃b,ev=.iface 248 (.pointer (some ⟨b,0,none⟩)))
theorem Hk.weak{c:Int}(d:Hk w a c):zn a c:=d.imp id fun⟨e,b,h2,_⟩=>⟨e,b,h2⟩
theorem LD{aa b:Nat}{U:Int}{x: Value}(c:jF w l p aa b k m t U s x vs)(i:Ins)(dn:i.op=9):Calls prog 221 #[some b,.agg #[i.op,i.a,i.name,i.member]] w (jL w l p aa b k m t U x vs (jN p k m i s)):=by
 obtain⟨G,hG⟩:∃G,call p k i.name i.member=G:=⟨_,rfl⟩;have P:Zz (jN p k m i s=if G.2=1 then(pF p k (M.method p G.1).args.reverse s).bind fun s1=>(oZ p k (lN i.name) s1).bind (nY m (mr (M.method p G.1).ret))else none):=Zy (by unfold jN;rw[dn,hG];rfl);obtain⟨O,aP⟩:=SS ((w.alloc (.cells #[some b] 328)).alloc (.cells #[i.op,i.a,i.name,i.member] 140));have bF:Ext w O:=by rw[aP];exact kx
 have b2:hZ O w 328 #[some b]:=by rw[aP];exact(hZ.new _ _ _).ext kx
 have b3:hZ O (w+1) 140 #[i.op,i.a,i.name,i.member]:=by rw[aP];exact hZ.newAt _ _ Zl
 have hA:=c.ext bF;have hD:=c.kr.ET;have fB:=c.kr.ord;have hB:=c.hB;have L:=c.hk;have hz:=c.blk.lt;have eB:=c.JL;have aZ:¬b=l.D:=Zm
 have aN:¬w=l.D:=Zm
 have cZ:¬w+1=l.D:=Zm
 obtain⟨aS,aT,bf,o⟩:=qC.ex (fun A=>Kp (·=l.D) O A) _ Kp.rr;obtain⟨-,r0,r1,-⟩:=hZ.lC fun r=>(hA.blk.kp (o.jv r) aZ);obtain⟨-,-,-,r2,r3,-⟩:=hZ.lC fun r=>(b3.kp (o.jv r) cZ);have r4:=fun r=>(b2.kp (o.jv r) aN).c 0 (some b) rfl;have⟨h,dW,aF,HA,aQ,bu,HG⟩:=qA o aP bF hA b2 b3 hG;have hv:(zT G.1).toArray=#[.int .i64 G.1.of.keeper,.string G.1.of.name,.int .i64 G.1.at_]:=rfl;have⟨HV,ai⟩:=jf hv c;have dU:=Zy c.pG;clear c dn aP bF b2 b3 hA o hG hv;refine(Ur (n:=10)).1 ?_;refine xJ func221 rfl ?_;simp only[ntmps221,UY,TE,Uj,Nat.reduceAdd,Nat.reduceSub,Um,Ul,UX,Ug,TW,TF];refine xm fun J n=>?_;go_wp2_with fail;rw[<-dW.o];refine xm fun J n=>?_
 have dB : ∀ (b7 : Nat) (q : World) (ev : Value), Kp (· = l.D) O q -> ji q l p -> hZ q b7 78 #[.int .i64 G.1.of.keeper, .string G.1.of.name, .int .i64 G.1.at_] -> O.heap.size <= b7 -> zn ev G.2 →
     J {tmps:=#[.pointer (some ⟨b,0,none⟩),.agg #[i.op,i.a,i.name,i.member],.pointer (some ⟨w,0,none⟩),.pointer (some ⟨w+1,0,none⟩),
      .pointer (some ⟨b7,0,none⟩),ev,undef,undef,undef,.tuple #[.agg #[.int .i64 G.1.of.keeper,.string G.1.of.name,.int .i64 G.1.at_],ev],.pointer (some ⟨b,0,none⟩),.pointer (some ⟨b,0,none⟩),.pointer (some ⟨b,0,none⟩),.pointer (some ⟨l.L,0,none⟩),
      .pointer (some ⟨b,0,none⟩),.pointer (some ⟨b,0,none⟩),.pointer (some ⟨b,1,none⟩),.int .i64 k,.pointer (some ⟨w+1,2,none⟩),.string i.name,.pointer (some ⟨w+1,3,none⟩),.string i.member,
      .tuple #[.agg #[.int .i64 G.1.of.keeper,.string G.1.of.name,.int .i64 G.1.at_],ev],.agg #[.int .i64 G.1.of.keeper,.string G.1.of.name,.int .i64 G.1.at_],ev,undef,undef,undef,undef,undef,undef,undef,undef,undef,undef,undef,undef,undef,undef,undef,undef,undef,undef,undef,undef,undef,undef,undef,undef,undef,undef,undef,undef,undef],defers:=[]} q:=by
  clear h r0 r1 r2 r3 r4;intro b7 q ev au bY bU fe av;have⟨z,af,dK⟩:=jB au bY bU;have s2:=(aQ.kp au aN).c 0 (some b) rfl;clear au bY bU;refine n _ _ ?_;clear n J;refine xm fun J n=>?_;rcases av with⟨hc,rfl⟩|⟨hc,u,rfl⟩;rotate_left
  . replace P:Zz (jN p k m i s=none):=Zy (by rw[P.o,Tt hc]);go_wp2_with fail;refine(mK b U ((HA.blk.kp z aZ).c 10 _ rfl) eB.1 Zm).mono ?_;rintro a w9 ⟨rfl,rfl⟩;exact⟨rfl,jL.behind aF ⟨z.weak (fun u _ a=>.inl a),af,.inl ⟨P,rfl⟩⟩⟩
  replace P:Zz (jN p k m i s=(pF p k (M.method p G.1).args.reverse s).bind fun s1=>(oZ p k (lN i.name) s1).bind (nY m (mr (M.method p G.1).ret))):=Zy (by rw[P.o,Tv hc]);have cK:Zz (kC p G.1=true):=Zy (by
   have:=HG.o;rw[<-this]at hc |-;obtain⟨fI,hr⟩:=qU hc;exact qK hr)
  go_wp2_with fail;clear s2;obtain⟨aS,aT,bf,o⟩:=ll q;have cB:=HA.blk.kp z aZ;have cz:=aQ.kp z aN;have r0:=fun r=>(cB.ext (o.jv r)).c 0 (some l.L) rfl;have r4:=fun r=>(cz.ext (o.jv r)).c 0 (some b) rfl;obtain⟨-,r5,r6,r7,-⟩:=hZ.lC fun r=>(dK.ext (o.jv r));have h:=Zy o;clear o cB cz;refine xm fun J n=>?_;have dC:∀(b8:Nat) (d:World) (j:uj),Ext q d->hZ d b8 132 (mF (M.method p G.1) j).toArray->q<=b8->jd d (· <l.O) (M.method p G.1) (mF (M.method p G.1) j)→
   J {tmps:=#[.pointer (some ⟨b,0,none⟩),.agg #[i.op,i.a,i.name,i.member],.pointer (some ⟨w,0,none⟩),.pointer (some ⟨w+1,0,none⟩),
    .pointer (some ⟨b7,0,none⟩),.nilIface,.pointer (some ⟨b8,0,none⟩),undef,undef,.tuple #[.agg #[.int .i64 G.1.of.keeper,.string G.1.of.name,.int .i64 G.1.at_],.nilIface],.pointer (some ⟨b,0,none⟩),.pointer (some ⟨b,0,none⟩),.pointer (some ⟨b,0,none⟩),.pointer (some ⟨l.L,0,none⟩),
    .pointer (some ⟨b,0,none⟩),.pointer (some ⟨b,0,none⟩),.pointer (some ⟨b,1,none⟩),.int .i64 k,.pointer (some ⟨w+1,2,none⟩),.string i.name,.pointer (some ⟨w+1,3,none⟩),.string i.member,
    .tuple #[.agg #[.int .i64 G.1.of.keeper,.string G.1.of.name,.int .i64 G.1.at_],.nilIface],.agg #[.int .i64 G.1.of.keeper,.string G.1.of.name,.int .i64 G.1.at_],.nilIface,.nilIface,.bool false,undef,undef,.pointer (some ⟨b,0,none⟩),.pointer (some ⟨b,0,none⟩),.pointer (some ⟨b,0,none⟩),.pointer (some ⟨l.L,0,none⟩),.agg #[.int .i64 G.1.of.keeper,.string G.1.of.name,.int .i64 G.1.at_],.agg (mF (M.method p G.1) j).toArray,undef,undef,undef,undef,undef,undef,undef,undef,undef,undef,undef,undef,undef,undef,undef,undef,undef,undef,undef],defers:=[]} d:=by
   clear h r0 r4 r5 r6 r7;intro b8 d j W bV fo Q;have⟨y,bz,aG⟩:=jB W bV Q;clear W bV Q;refine n _ _ ?_;clear n J;have fq:=bz.c 1 (.slice j.a1 (M.method p G.1).args.length j.c1) rfl;refine Jk ?_;refine Fy (n:=10) fun J n=>wpIn_wide.2 ?_;go_wp2_with fail;refine(Gj).mono ?_;rintro a w9 ⟨rfl,rfl⟩;go_wp2_with fail;refine Kl ?_;have fw:=(HA.blk.kp z aZ |>.ext y).lt;have bS:=(HA.oQ z af).ext y;have H:=Zy bS;have dx:=jd.args aG;have dV:=Zy dx;clear bS dx;have HN:=Zy dU.o;refine Mj (gf:=248) (lb:=#[some d]) (α:=Int×Kind) rfl (enters_of func248 Zo rfl) (encs:=KE) (fun C=>rfl)
    (Bb:=fun k=>qo l b x vs k\/d+3<=k)
    (Dh (M.method p G.1).args d (.slice j.a1 (M.method p G.1).args.length j.c1) (· <l.O) _ ?hBd) ?hIt ?hD1 ?hD2 ?hB1 ?hB2
    (MK l p aa b k m t U s x vs d) (fun _ _ _=>False) (RF l p b k U s x vs d) ⟨_,func221⟩ ?hIp ?hI ?hIx ?h0 ?hIB
    (fun ah C v a₁ W₁=>MK l p aa b k m t U s x vs d ah v/\(d:Nat)+2<(v:Nat)/\W₁=v.alloc (.cells #[C.2.kind,C.2.name] 128)/\
     a₁={tmps:=#[.pointer (some ⟨b,0,none⟩),.agg #[i.op,i.a,i.name,i.member],.pointer (some ⟨w,0,none⟩),.pointer (some ⟨w+1,0,none⟩),
    .pointer (some ⟨b7,0,none⟩),.nilIface,.pointer (some ⟨b8,0,none⟩),undef,.pointer (some ⟨v,0,none⟩),.tuple #[.agg #[.int .i64 G.1.of.keeper,.string G.1.of.name,.int .i64 G.1.at_],.nilIface],.pointer (some ⟨b,0,none⟩),.pointer (some ⟨b,0,none⟩),.pointer (some ⟨b,0,none⟩),.pointer (some ⟨l.L,0,none⟩),
    .pointer (some ⟨b,0,none⟩),.pointer (some ⟨b,0,none⟩),.pointer (some ⟨b,1,none⟩),.int .i64 k,.pointer (some ⟨w+1,2,none⟩),.string i.name,.pointer (some ⟨w+1,3,none⟩),.string i.member,
    .tuple #[.agg #[.int .i64 G.1.of.keeper,.string G.1.of.name,.int .i64 G.1.at_],.nilIface],.agg #[.int .i64 G.1.of.keeper,.string G.1.of.name,.int .i64 G.1.at_],.nilIface,.nilIface,.bool false,undef,undef,.pointer (some ⟨b,0,none⟩),.pointer (some ⟨b,0,none⟩),.pointer (some ⟨b,0,none⟩),.pointer (some ⟨l.L,0,none⟩),.agg #[.int .i64 G.1.of.keeper,.string G.1.of.name,.int .i64 G.1.at_],.agg (mF (M.method p G.1) j).toArray,
    .pointer (some ⟨b8,1,none⟩),.slice j.a1 (M.method p G.1).args.length j.c1,.func (.func 248) #[] #[some d],.int .i64 C.1,.agg #[C.2.kind,C.2.name],undef,undef,undef,undef,undef,undef,undef,undef,undef,undef,undef,undef,undef,undef],defers:=[]}) ?hassign ?hAx ?hbody ?hdone ?hstop ?hpanic
   case hBd=>
    intro B hq;have dw:(qo l b x vs B\/d.heap.size+3<=B)\/B=(d.alloc (.cells #[.slice j.a1 (M.method p G.1).args.length j.c1] 126)).heap.size+1:=hq;simp only[Tp]at dw;have I:=H.pG;rcases dw with(c|c)|c
    . exact⟨fun a=>I (a▸c),fun a=>jF.low H a c⟩
    . omega
    . omega
   case hIt=>
    intro v hW;exact⟨(hZ.new _ _ _).ext hW,(dV.ext nC.stays ((Kp.refl _ d).alloc _)).ext nC.stays hW⟩
   case hD1=>exact fun c=>c
   case hD2=>exact fun c=>c
   case hB1=>
    simp only[Tp];rintro(c|c)
    . have:=jF.old H c;omega
    . omega
   case hB2=>
    simp only[Tp];rintro(c|c)
    . have:=jF.old H c;omega
    . omega
   case hIp=>
    rintro bP s1 dD B' ⟨I,D,N,K⟩ L;simp only[Tp]at L;have bT:=H.kr.lt;exact⟨I,D,N.kp L (fun u Y a=>by rcases a with a|a;exact a;omega),K.own L (fun u a=>by rcases a with a|a;exact a.elim;omega)⟩
   case hI=>
    rintro s1 dD B' ⟨s',R,S,I,D,N,K⟩ L;simp only[Tp]at L;have bT:=H.kr.lt;have dZ:=H.kr.ord;have no:∀f,(R.ownBlock=some f\/S.ownBlock=some f)->¬(False\/f=d.heap.size+1+1):=fun f E a=>by
     rcases a with a|a
     . exact a
     . rcases N f E with c|c|c
       . have:=(H.loc.lt f c).2;omega
       . have:=(H.kH.lt f c).2;omega
       . omega
    exact⟨s',R,S,I,D.kp' L (D.kr.kp L (fun u Y a=>by rcases a with a|a;exact a;omega)) (fun a=>by rcases a with a|a;exact a;omega) (fun f E=>no f (.inl E)) (fun f E=>no f (.inr E)) (fun u Y a=>by rcases a with a|a;exact a;omega),N,K.own L (fun u a=>by rcases a with a|a;exact a.elim;omega)⟩
   case hIx=>exact fun _ _ _ _ c=>c.elim
   case h0=>exact⟨s,x,vs,rfl,H.ext kx,jV.refl _ _ _,(kx:Ext d _).any⟩
   case hIB=>exact fun _ _ _=>trivial
   case hassign=>
    intro ah C v J fA hi cO n;simp only[KE];simp only[Tp]at cO;gi_wp2_with fail
   case hAx=>
    rintro ah C v a₁ W₁ ⟨_,_,rfl,_⟩;exact((Kp.refl _ v).alloc _)
   case hbody=>
    rintro ah C v a₁ W₁ W₂ ⟨⟨s',R,S,I,D,N,K⟩,cO,rfl,rfl⟩ ay aO;simp only[Tp]at ay aO;have bT:=H.kr.lt;have dZ:=H.kr.ord;have eT:(w:Nat)+1<(d:Nat):=by
     have:=bu.lt;have:=z.size;have:=y.size;omega
    have no:∀f,(R.ownBlock=some f\/S.ownBlock=some f)->f≠d.heap.size+1+1/\(f<w.heap.size\/d.heap.size+3<=f)/\(qo l b x vs f\/d.heap.size+3<=f):=fun f E=>by
     rcases N f E with c|c|c
     . have:=(ai.loc.lt f c).2;exact⟨Zm,.inl this,.inl (.inr (.inr (.inl c)))⟩
     . have:=(ai.kH.lt f c).2;exact⟨Zm,.inl this,.inl (.inr (.inr (.inr c)))⟩
     . exact⟨Zm,.inr c,.inr c⟩
    have aW:Ext v (v.alloc (.cells #[C.2.kind,C.2.name] 128)):=kx;have bE:=D.ext aW;have bR:=bE.kp' ay (bE.kr.kp ay (fun u Y a=>Zm)) Zm (fun f E=>(no f (.inl E)).1) (fun f E=>(no f (.inr E)).1) (fun u Y a=>Zm);have cb:=(hZ.new v 128 #[C.2.kind,C.2.name]).kp ay Zm;have df:¬qo l b R S v.heap.size:=D.pG;have di:¬qo l b R S w.heap.size:=by
     rintro(a|a|a|a)
     . omega
     . omega
     . have:=(no _ (.inl a)).2.1;omega
     . have:=(no _ (.inr a)).2.1;omega
    have cu:=((((aQ.kp z aN).ext y).kp K HN).ext aW).kp ay Zm;have bX:=(K.trans aW.any).own ay (fun k a=>Zm);obtain⟨aS,aT,bf,o⟩:=qC.ex (fun A=>Kp (qo l b R S) W₂ A) _ Kp.rr;have r2:=fun r=>(cu.kp (o.jv r) di).c 0 (some b) rfl;obtain⟨-,r7,r8,-⟩:=hZ.lC fun r=>(cb.kp (o.jv r) df);have⟨h,dG,dQ,bL,H3⟩:=ni o bR bX no N;have HS:Zz (pF p k ((ah++[C]).map Prod.snd) s=oZ p k (mr C.2) s'):=Zy (by rw[TB,UU,VR,GD,I];rfl);have eU:(d:Nat)+3<=(W₂:Nat):=Zm
    clear I D N K ay aO bE bR cb cu bX o aW no df di;gi_wp2_with fail;refine Ow h 4 [([0,1],2),([],3)] [] ?_ (fun _=>trivial) ?_
    . exact jg
    refine NB [_,_] rfl rfl fun J n=>?_;(repeat (go_big_quiet_step (fail)));refine qn n fun g e=>?_;clear n J;gi_wp2_with fail;refine⟨trivial,?_⟩;refine(CallsIn.inRound _ (Ur.2 (BP W₂.drew C.2))).mono ?_;rintro a w4 ⟨rfl,aJ⟩;have aj:=Zy (((Kp.refl _ W₂).drew).trans aJ);clear aJ;gi_wp2_with fail;refine kk h e aj.any ?_;clear e g;refine RX rfl fun g e=>?_;gi_wp2_with fail;refine⟨trivial,?_⟩;refine(CallsIn.inRound _ (Ur.2 (nO w4 (dG.ext aj) (mr C.2)))).mono ?_;rintro a T ag;have aK:=jL.behind aj ag;have aV:Kp (fun k=>qo l b x vs k\/d+3<=k) W₂ T:=aK.1.weak (fun u _ a=>by
     rcases a with a|a|a|a
     . exact .inl (.inl a)
     . exact .inl (.inr (.inl a))
     . exact(bL u (.inl a)).2.2
     . exact(bL u (.inr a)).2.2)
    have bG:Kp (qo l b x vs) d T:=dQ.mix aV (fun k L a=>by rcases a with a|a;exact a;omega);rcases aK with⟨X,aY,⟨F,rfl⟩|⟨s2,F,rfl,bn,bq,aI,aM⟩⟩
    . exact⟨rfl,aV,rfl,by rw[HS.o,F],aY,bG⟩
    . have HF:Zz (Kp (fun k=>qo l b x vs k\/d+3<=k) W₂ T/\MK l p aa b k m t U s x vs d (ah++[C]) T):=Zy ⟨aV,s2,bn,bq,by rw[HS.o,F],aI,H3.trans aM eU,bG⟩;have bC:=Zy X;clear aV bG X aY aI aM F ag;gi_wp2_with fail;refine kk h e bC ?_;clear e g;refine NC ?_;gi_wp2_with fail;exact HF
   case hdone =>
    rintro xs v rfl ⟨s',R,S,I,D,N,K⟩ n;have dz:(backTo (M.method p G.1).args (M.method p G.1).args.length).map Prod.snd=(M.method p G.1).args.reverse:=by rw[pX _ _ (T9 _),TC]
    rw[dz]at I;have eP:=H.kr.ord;have eH:=H.kr.lt;have eT:(w:Nat)+1<(d:Nat):=by
     have:=bu.lt;have:=z.size;have:=y.size;omega
    have aO:(d.alloc (.cells #[.slice j.a1 (M.method p G.1).args.length j.c1] 126)).heap.size=d+1:=by simp
    rw[aO]at n |-;replace P:Zz (jN p k m i s=(oZ p k (lN i.name) s').bind (nY m (mr (M.method p G.1).ret))):=Zy (by rw[P.o,I];rfl);have bK:=Zy (aF.any.trans (((z.weak (fun u _ a=>.inl a)).trans y.any).trans K));refine⟨by simp,by simp,?_⟩;show Code.yG _ _ _ _ _ _
    refine OU (ds:=[{target:=.collected (d+1),args:=#[]}]) (R:=fun a A=>A.heap[d.heap.size+1]?=some (.deferred (some []))/\jL w l p aa b k m t U x vs (jN p k m i s) a (A.putObj (d+1) (.deferred none))) ?_ ?_ ?_;rotate_left
    . rintro ak A hd ⟨L,hR⟩;show LeavesInM _ _ _ _ _ _ ak.defers _ _
      rw[hd];refine⟨by simp,.inl ⟨_,_,rfl,run_takeDeferred L,?_⟩⟩;exact⟨.tuple #[],by simp[results,Tryz.f221,go_sem],hR⟩
    . rintro bP ak A hd ⟨L,hR⟩;show LeavesInM _ _ _ _ _ _ ak.defers _ _
      rw[hd];exact⟨by simp,.inl ⟨_,_,rfl,run_takeDeferred L,hR⟩⟩
    have bZ:(d:Nat)+2<=(v:Nat):=SX ((Tg.1 n).1)
    have aD:∀(v1 v2:Value),jV (d+2) x vs v1 v2->∀B,w.heap.size<=B->B<d.heap.size+2->¬qo l b v1 v2 B:=fun v1 v2 F B fD fE=>by
     rintro(a|a|a|a)
     . omega
     . omega
     . rcases F B (.inl a)with c|c|c
       . have:=(ai.loc.lt B c).2;omega
       . have:=(ai.kH.lt B c).2;omega
       . omega
     . rcases F B (.inr a)with c|c|c
       . have:=(ai.loc.lt B c).2;omega
       . have:=(ai.kH.lt B c).2;omega
       . omega
    have bQ:∀(v1 v2:Value) (bH:Option oV) (a:Ending) (A aA:World),jV (d+2) x vs v1 v2->Kp (qo l b x vs) w A->A.heap[d.heap.size+1]?=some (.deferred (some []))->jL A l p aa b k m t U v1 v2 bH a aA->(d:Nat)+2<=(A:Nat)→
        aA.heap[d.heap.size+1]?=some (.deferred (some []))/\jL w l p aa b k m t U x vs bH a (aA.putObj (d+1) (.deferred none)):=fun v1 v2 bH a A aA F eF hd hE fF=>by
     have az:=Kp.putObj aA (d+1) (.deferred none);have eG:Kp (qo l b x vs) w aA:=eF.look hE.1 (F.le Zm);refine⟨(hE.1.block _ Zm (aD v1 v2 F _ Zm Zm)).trans hd,eG.own az (fun k a=>Zm),hE.2.1.kp az (fun u Y a=>Zm),?_⟩;rcases hE.2.2 with⟨I,D⟩|⟨s2,I,D,ak,u,h5,h6⟩
     . exact .inl ⟨I,D⟩
     . have dm:=F.trans h6 Zm;have dh:∀f,(ak.ownBlock=some f\/u.ownBlock=some f)->¬f=d.heap.size+1:=fun f E a=>aD ak u dm f Zm Zm (by
        rcases E with c|c
        . exact .inr (.inr (.inl c))
        . exact .inr (.inr (.inr c)))
       exact .inr ⟨s2,I,D,ak,u,h5.kp' az (h5.kr.kp az (fun u Y a=>Zm)) Zm (fun f E=>dh f (.inl E)) (fun f E=>dh f (.inr E)) (fun u Y a=>Zm),dm.le Zm⟩
    have aU:jV (d+2) x vs R S:=N.le Zm;have fu:w<=b8/\b8<d:=by
     have:=bz.lt;have:=z.size;have:=aF.size;omega
    have n0:∀B,w.heap.size<=B->¬qo l b x vs B:=fun B hq c=>SX (jF.old ai c)
    have⟨B2,B3,B8⟩:=jB (((aQ.kp z aN).ext y).kp K (n0 _ Zm)) (((bu.kp z cZ).ext y).kp K (n0 _ Zm)) (bz.kp K (n0 _ Zm));obtain⟨aS,aT,bf,o⟩:=qC.ex (fun A=>Kp (qo l b R S) v A) _ Kp.rr;have r2:=fun r=>(B2.kp (o.jv r) (aD _ _ aU _ Zm Zm)).c 0 (some b) rfl;have r3:=fun r=>(B3.kp (o.jv r) (aD _ _ aU _ Zm Zm)).c 2 i.name rfl;have⟨h,bJ,aR,dI⟩:=jU o bQ aD D;have aH:=Zy aU;have dO:=Zy n;clear I D N K n bQ aD aU n0 o dz;go_wp2_with fail;refine jW h 5 [([0,1,2],3),([],4)] [] ?_ ?_
    . exact jg
    refine lJ ?_;intro g e;go_wp2_with fail;refine(yN v.drew i.name).mono ?_;rintro a w4 ⟨rfl,aJ⟩;have aj:=Zy (((Kp.refl _ v).drew).trans aJ);clear aJ;go_wp2_with fail;refine kk h e aj.any ?_;clear e g;refine kN rfl fun g e=>?_;go_wp2_with fail;refine(nO w4 (dI.ext aj) (lN i.name)).mono ?_;rintro a T ag;have aK:=jL.behind aj ag;have Z:=bJ.o R S _ a v T aH bK dO aK bZ;rcases aK with⟨X,aY,⟨F,rfl⟩|⟨s2,F,rfl,bn,bq,aI,aM⟩⟩
    . rw[F]at Z;exact⟨rfl,Z.1,by rw[P.o,F];exact Z.2⟩
    replace P:Zz (jN p k m i s=nY m (mr (M.method p G.1).ret) s2):=Zy (by rw[P.o,F];rfl);have dP:=Zy Z.1;have⟨bD,bC,dH,dR⟩:=jU (aH.trans aM bZ) X aI (bK.look X (aH.le Zm));have ek:(d:Nat)+2<=(T:Nat):=SX X.size
    have⟨dE,dF⟩:=jf (B2.kp X (aR _ _ aH _ Zm Zm)) (B8.kp X (aR _ _ aH _ Zm Zm));clear ag Z X aY F aI aM r3;go_wp2_with fail;refine kk h e bC ?_;clear e g;clear r2;refine tH rfl ?_;clear h;obtain⟨aS,aT,bf,o⟩:=qC.ex (fun A=>Kp (qo l b bn bq) T A) _ Kp.rr;have r2:=fun r=>(dE.kp (o.jv r) (aR _ _ bD _ Zm Zm)).c 0 (some b) rfl;obtain⟨-,-,-,r4,r5,-⟩:=hZ.lC fun r=>(dF.kp (o.jv r) (aR _ _ bD _ Zm Zm));have h:=Zy o;clear o;go_wp2_with fail;refine jW h 5 [([0,1,2],3),([],4)] [] ?_ ?_
    . exact jg
    refine lJ ?_;intro g e;go_wp2_with fail;refine(BP T.drew (M.method p G.1).ret).mono ?_;rintro a w6 ⟨rfl,bW⟩;have bA:=Zy (((Kp.refl _ T).drew).trans bW);clear bW;go_wp2_with fail;refine kk h e bA.any ?_;clear e g;refine kN rfl fun g e=>?_;go_wp2_with fail;refine(rq w6 (dH.ext bA) (mr (M.method p G.1).ret)).mono ?_;rintro a w9 ag;have aX:=jL.behind bA ag;have aC:=aX.1;have Z:=bJ.o bn bq _ a T w9 bD dR dP aX ek;rw[<-P.o]at Z;have⟨bI,dN⟩:=jf Z aC;have eD:=aX.2.2;clear Z aX aC ag;rcases eD with⟨-,rfl⟩|⟨s9,-,rfl,-⟩
    . exact⟨rfl,bI⟩
    go_wp2_with fail;refine kk h e dN ?_;clear e g;clear r2 r4 r5;refine tH rfl ?_;go_wp2_with fail;exact⟨rfl,bI⟩
   case hstop=>exact fun _ _ _ _ c=>c.elim
   case hpanic=>
    rintro bP ah v ⟨eY,eQ⟩ ⟨rfl,D,N,K⟩ n;refine⟨by simp,by simp,?_⟩;have eP:=H.kr.ord;have eH:=H.kr.lt;have az:=Kp.putObj v (d.alloc (.cells #[.slice j.a1 (M.method p G.1).args.length j.c1] 126)).heap.size (.deferred none);have aO:(d.alloc (.cells #[.slice j.a1 (M.method p G.1).args.length j.c1] 126)).heap.size=d+1:=by simp
    have eu:jN p k m i s=none:=by
     rw[P.o];have e1:(M.method p G.1).args.reverse=ah.map Prod.snd++eY.map Prod.snd:=by
      have:=congrArg (List.map Prod.snd) eQ;rw[pX _ _ (T9 _),TC,TB]at this;exact this
     rw[e1,GA D];rfl
    have ed:=((z.weak (fun u _ a=>.inl a)).trans y.any).trans K;refine⟨by simp,.inl ⟨_,_,rfl,run_takeDeferred n,?_⟩⟩;exact jL.behind aF ⟨ed.own az (fun k a=>SY z.size y.size),N.kp az (fun k L a=>Zm),.inl ⟨eu,rfl⟩⟩
  refine qp h 7 (.two [0,1,2,3,4] 5 6 (.one [] 6 (.fin [])) (.one [] 5 (.fin []))) ?_ ?_
  . exact jg
  clear n;have bN:=Zy dC;clear dC;refine two [_,_,_,_,_] rfl rfl rfl fun J n=>?_;(repeat (go_big_quiet_step (fail)));((refine F5 n (fun g e=>?_) fun g e=>?_)<;>clear n J)
  . go_wp2_with fail;refine(lH q.drew l p (af.ext jg) G.1 cK).mono ?_;rintro a d ⟨⟨cs,Q,rfl⟩,W⟩;obtain⟨j,rfl⟩:=nU Q;have⟨y,aG⟩:=jf ((jg).trans W) Q;clear Q W;simp only[mF];go_wp2_with fail;refine kk h e y ?_;clear e g;refine jX rfl fun g e=>?_;go_wp2_with fail;refine kk h e (y.alloc _) ?_;clear e g;refine kL ?_;go_wp2_with fail;exact bN _ _ j (y.alloc _) (hZ.new _ _ _) y.size (jM.ext jd.stays (kx:Ext d _) aG)
  . go_wp2_with fail;refine kk h e ((jg).alloc _) ?_;clear e g;refine jX rfl fun g e=>?_;go_wp2_with fail;have b5:hZ (q.alloc (.cells #["",(),Tc, "",Tc,Tc,(),()] 132)).drew q 132 #["",(),Tc, "",Tc,Tc,(),()]:=(hZ.new _ _ _).ext jg;refine(lH ((q.alloc (.cells #["",(),Tc, "",Tc,Tc,(),()] 132)).drew) l p (af.ext (jw _).drew) G.1 cK).mono ?_;rintro a d ⟨⟨cs,Q,rfl⟩,W⟩;obtain⟨j,rfl⟩:=nU Q;have y:=Zy ((((Kp.refl _ q).alloc _).drew).trans W);have V:=b5.ext W;obtain⟨z5,y0,y1,y2,y3,y4,y5,y6,y7,-⟩:=V.ca;obtain⟨g0,g1,g2,g3,g4,g5,g6,g7,-⟩:=V.fz;have eO:=Q;obtain⟨w9,bg⟩:=SS (((((((((d.setCell q (.string (M.method p G.1).name)).setCell (q,1) (.slice j.a1 (M.method p G.1).args.length j.c1)).setCell (q,2) (.int .i64 (M.method p G.1).ret.kind)).setCell (q,3) (.string (M.method p G.1).ret.name)).setCell (q,4) (.int .i64 (M.method p G.1).locals)).setCell (q,5) (.int .i64 (M.method p G.1).stack)).setCell (q,6) (.slice j.a2 (M.method p G.1).code.length j.c2)).setCell (q,7) (.slice j.a3 (M.method p G.1).maps.length j.c3)));have aC:Kp (·=q) d w9:=by rw[bg];exact Kp.AZ (D:=(·=q)) rfl _ _ _ _ _ _ _ _
    have b9:hZ w9 q 132 (mF (M.method p G.1) j).toArray:=by rw[bg];exact V.AZ _ _ _ _ _ _ _ _
    have fG:=af.lt;have fC:=af.ord;have⟨dM,aG,dL,dY⟩:=jU (y.own aC (fun k a=>Zm)) (jM.kp jd.stays aC (fun u Y a=>Zm) Q) b9 bg;clear b5 V Q eO W bg aC b9;simp only[mF];go_wp2_with fail;refine kk h e y ?_;clear e g;clear h r0 r4 r5 r6 r7;refine kL ?_;go_wp2_with fail;rw[<-dY.o];exact bN _ _ j dM dL (T9 _) aG
 refine qp h 18 (.two [0,1,2,3,4,5,6,7,8,9,10,11] 12 16 (.one [13,14,15] 16 (.one [] 17 (.fin []))) (.one [] 12 (.one [13,14,15] 17 (.fin [])))) ?_ ?_
 . exact jg
 clear n;have bM:=Zy dB;clear dB;refine two [_,_,_,_,_,_,_,_,_,_,_,_] rfl rfl rfl fun J n=>?_;(repeat (go_big_quiet_step (fail)));((refine F5 n (fun g e=>?_) fun g e=>?_)<;>clear n J)
 . go_wp2_with fail;have ax:=uF _ _ _ (HA.kr.ext jg) k i.name i.member;rw[HG.o]at ax;refine ax.mono ?_;rintro a w3 ⟨⟨ev,he,av⟩,aL,aB⟩;rw[HV.o]at he;subst he;have⟨ae,dS,bB⟩:=jB ((jg).trans aB) aL (Hk.weak av);clear aL aB ax av;go_wp2_with fail;refine kk h e ae ?_;clear e g;refine Bi ?_;intro g e;go_wp2_with fail;refine kk h e (ae.alloc _) ?_;clear e g;refine jX rfl fun g e=>?_;go_wp2_with fail;refine kk h e (ae.alloc _) ?_;clear e g;refine kL ?_;go_wp2_with fail;exact bM _ _ _ (ae.alloc _) (dS.ext kx) (hZ.new _ _ _) ae.size bB
 . go_wp2_with fail;refine kk h e ((jg).alloc _) ?_;clear e g;refine jX rfl fun g e=>?_;go_wp2_with fail;have b5:hZ (O.alloc (.cells #[Tc, "",Tc] 78)).drew O 78 #[Tc, "",Tc]:=(hZ.new _ _ _).ext jg;have eZ:=HA.kr.ET;have eX:¬O.heap.size=l.D:=Zm
   have fH:=aF.size;have ax:=uF ((O.alloc (.cells #[Tc, "",Tc] 78)).drew) _ _ (HA.kr.ext (jw _).drew) k i.name i.member;rw[HG.o]at ax;refine ax.mono ?_;rintro a w3 ⟨⟨ev,he,av⟩,aL,aB⟩;rw[HV.o]at he;subst he;have ae:=Zy ((((Kp.refl _ O).alloc _).drew).trans aB);have V:=b5.kp aB eX;obtain⟨z5,y0,y1,y2,-⟩:=V.ca;obtain⟨g0,g1,g2,-⟩:=V.fz;obtain⟨q,dA,bO,au⟩:=SN V (.int .i64 G.1.of.keeper) (.string G.1.of.name) (.int .i64 G.1.at_);have⟨z,af,dJ,dX,bB⟩:=ni (ae.own au (fun k a=>Zm)) (aL.kp au (fun u Y a=>Zm)) bO dA (Hk.weak av);clear b5 V aL aB au bO dA ax av;go_wp2_with fail;refine kk h e ae ?_;clear e g;refine Bi ?_;intro g e;go_wp2_with fail;rw[<-dX.o];refine kk h e z ?_;clear e g;clear h r0 r1 r2 r3 r4 y0 y1 y2 g0 g1 g2;refine kL ?_;go_wp2_with fail;exact bM _ _ _ z af dJ (T9 _) bB
end Go.Proofs.YtlhgbjbkjalfjaaGreat
namespace Go.Proofs.YtlhgbjbkjalfjaaGreat
open Go Go.RowKit Tryz M
variable {lk: Bool}{cs: List (Value×Value)}{xs: List Value}{m: M.Method}{C K L a b c d e f g i j k n o q y: Nat}{D I: Nat->Prop}{r: Nat×Nat}{R: Nat×Nat->Prop}{P: Program}{u0 u1 u2 u3 u4 v vs: Value}{W w: World}{p: iZ}{l: jk}{s: oV}{t: uj}
theorem Nc:Elem 303 349 2:=kP (z:=.agg #[(),()]) (bytes:=48) underlying303 Zo rfl Zn Zn
def Rj(x:Value×Value):List Value:=[x.1,x.2]
def Jq(W:World)(S:Nat)(v vl vs:Value)(b:Nat):Prop:=S<=b/\b<W.heap.size/\v.ownBlock≠some b/\vl.ownBlock≠some b/\vs.ownBlock≠some b
def MQ(W:World)(S:Nat)(v vl vs:Value)(known:List oV)(cs:List (Value×Value)):Prop:=
 cs.length=known.length/\W.ownsRow S 349 2 v known.length (cs.flatMap Rj)/\
  ∀(j:Nat) (c:Value×Value) (f:oV),cs[j]?=some c->known[j]?=some f->SliceOf 2 kF W (Jq W S v vl vs) c.1 f.locals/\SliceOf 2 kF W (Jq W S v vl vs) c.2 f.stack
def Kn(W:World)(S:Nat)(v vl vs:Value)(known:List oV):Prop:=∃cs:List (Value×Value),MQ W S v vl vs known cs
theorem Kn.nil(W:World)(a:Nat)(c vs:Value):Kn W a () c vs []:=
 ⟨[],rfl,Tf _ _ _ _,fun f d e b=>by simp at b⟩
theorem oF{base: Nat}(d:w.ownsRow base e k v n xs){g:Nat}(a:v.ownBlock=some g):∃b,hZ w g e b:=by
 rcases d.2 with⟨c,_⟩|⟨i,h,b,c,_,f,_⟩
 . rw[c]at a;cases a
 . rw[c]at a;cases a;exact⟨b,f⟩
theorem Kn.kp{g: World}{k:Int}{B:Int}{e o vs': Value}{u:List oV}(G:Kn W c v e vs u)(f:jF W l p y n k m t B s e vs) (j:Kp (qo l n e vs) W g) (r:jV W e vs o vs') (T:n<c):Kn g c v o vs' u:=by
 obtain⟨D,H,q,I⟩:=G;have Q:=f.hB;have R:=f.hk;have U:=f.kr.ord;refine⟨D,H,jb q j fun P L S a=>?_,fun N C F J K=>?_⟩
 . obtain⟨O,h⟩:=oF q L;rcases a with a|a|a|a
   . omega
   . omega
   . obtain⟨E,i⟩:=oF f.loc a;exact absurd (hZ.inj h i) Zn
   . obtain⟨E,i⟩:=oF f.kH a;exact absurd (hZ.inj h i) Zn
 . have w:Same (Jq W c v e vs) W g:=Kp.same j fun d h a=>by
    obtain⟨q1,q2,q3,q4,q5⟩:=h;rcases a with a|a|a|a
    . omega
    . omega
    . exact q4 a
    . exact q5 a
   have x:∀d,Jq W c v e vs d->Jq g c v o vs' d:=fun d ⟨q1,q2,q3,q4,q5⟩=>⟨q1,Tx q2 j.size,q3,fun a=>by
    rcases r d (.inl a)with b|b|b
    . exact q4 b
    . exact q5 b
    . omega,fun a=>by
    rcases r d (.inr a)with b|b|b
    . exact q4 b
    . exact q5 b
    . omega⟩
   obtain⟨z,A⟩:=I N C F J K;exact⟨z.keep kF.stays w x,A.keep kF.stays w x⟩
theorem MQ.snoc{e: World}{v' d c1 c2: Value}{m:List oV}{f:oV}(x:MQ W a v d vs m cs)(y:SliceOf 2 kF W (Jq W a v d vs) c1 f.locals) (z:SliceOf 2 kF W (Jq W a v d vs) c2 f.stack)(B:e.ownsRow a 349 2 v' (m.length+1) (cs.flatMap Rj++[c1,c2])) (o:Kp (fun b=>v.ownBlock=some b) W e) (C:∀l,v'.ownBlock=some l->v.ownBlock=some l\/W.heap.size<=l):Kn e a v' d vs (m++[f]):=by
 obtain⟨n,D,u⟩:=x;have i:Same (Jq W a v d vs) W e:=Kp.same o fun b A k=>A.2.2.1 k;have j:∀b,Jq W a v d vs b->Jq e a v' d vs b:=fun b ⟨q1,q2,q3,q4,q5⟩=>⟨q1,Tx q2 o.size,fun k=>by
  rcases C b k with q|q
  . exact q3 q
  . omega,q4,q5⟩
 refine⟨cs++[(c1,c2)],by simp[n],?_,fun p t w c g=>?_⟩
 . rw[TP,Uz];simpa [Rj]using B
 . rcases V3 p cs.length with h|h|h
   . rw[Te h]at c;rw[Te Zm]at g;obtain⟨r,s⟩:=u p t w c g;exact⟨r.keep kF.stays i j,s.keep kF.stays i j⟩
   . subst h;rw[TS (T9 _)]at c;rw[n,TS (T9 _)]at g;simp at c g;subst c g;exact⟨y.keep kF.stays i j,z.keep kF.stays i j⟩
   . rw[U9 Zr]at c;cases c
theorem MQ.ext{d: World}{c: Value}{f:List oV}(o:MQ W a v c vs f cs)(b:Ext W d):MQ d a v c vs f cs:=by
 obtain⟨k,l,m⟩:=o;have g:∀e,Jq W a v c vs e->Jq d a v c vs e:=fun e ⟨q1,q2,q3⟩=>⟨q1,Tx q2 b.size,q3⟩;refine⟨k,jb l b (fun _ _ _ s=>s),fun r j n p q=>?_⟩;obtain⟨h,i⟩:=m r j n p q;exact⟨h.keep kF.stays (Ext.same b) g,i.keep kF.stays (Ext.same b) g⟩
abbrev Own:=Nat->Option (Nat×Nat)
def nA(n:Nat)(own own':Own):Prop:=∀b,b<n->own' b=own b
theorem nA.refl(n:Nat)(a:Own):nA n a a:=fun _ _=>rfl
theorem nA.trans{a b c:Own}(f:nA n a b)(g:nA e b c)(i:n<=e):nA n a c:=fun d h=>(g d Zm).trans (f d h)
def Own.add(own:Own)(g:Nat)(r:Nat×Nat):Own:=fun b=>if b=g then some r else own b
theorem Own.add_eq(a:Own)(g:Nat)(r:Nat×Nat):a.add g r g=some r:=by simp[Own.add]
theorem Own.lY{a:Own}(r:Nat×Nat)(c:b≠g):a.add g r b=a b:=by simp[Own.add,c]
theorem Own.yI{b:Own}(a:b g=some r\/n<=g):nA n b (b.add g r):=fun d e=>by
 by_cases c:d=g
 . subst c;rcases a with a|a
   . rw[Own.add_eq,a]
   . omega
 . exact Own.lY r c
def MO(l:jk)(own:Own)(b:Nat):Prop:=b=l.D\/own b≠none
def PO(own:Own)(R:Nat×Nat->Prop)(b:Nat):Prop:=∃r,own b=some r/\R r
theorem PO.mo{c:Own}(a:PO c R b):MO l c b:=by
 obtain⟨d,a,_⟩:=a;exact .inr (by rw[a];simp)
theorem Kp.mo{h j:Own}{a b: World}(c:Kp (MO l h) w a)(d:Kp (MO l j) a b)(k:nA w h j):Kp (MO l h) w b:=
 ⟨d.os.trans c.os,d.tape.trans c.tape,d.output.trans c.output,TL c.size d.size,
  fun g f i=>(d.block g (Tx f c.size) (fun e=>i (by
   rcases e with e|e
   . exact .inl e
   . exact .inr (by rw[<-k g f];exact e)))).trans (c.block g f i)⟩
structure l6(w:World)(own:Own)(B:Nat)(r:Nat×Nat)(e k:Nat)(v:Value)(n:Nat)(xs:List Value):Prop where
 row:w.ownsRow B e k v n xs
 role:∀g,v.ownBlock=some g->own g=some r
section
variable {w w':World} {own own':Own} {B:Nat} {r:Nat×Nat} {e k:Nat} {v:Value} {n:Nat} {xs:List Value} {R:Nat×Nat->Prop} {D:Nat->Prop}
theorem l6.keep(b:l6 w own B r e k v n xs)(i:Kp D w w')(g:nA w own own')(f:∀d,own d=some r->B<=d->¬D d):l6 w' own' B r e k v n xs:=
 ⟨jb b.row i (fun a c h=>f a (b.role a c) h),fun a c=>(g a (b.row.lt a c).2).trans (b.role a c)⟩
theorem l6.nil(w:World)(own:Own)(B:Nat)(r:Nat×Nat)(e k:Nat):l6 w own B r e k () 0 []:=
 ⟨Tf _ _ _ _,fun b a=>by cases a⟩
theorem l6.form(c:l6 w own B r e k v n xs):∃a b,v=.slice a n b:=jA c.row
theorem l6.take(a:l6 w own B r e k (g,n,c) n xs){j:Nat}(b:j<=n):l6 w own B r e k (g,j,c) j (xs.take (j*k)):=
 ⟨BI a.row b,fun f d=>a.role f d⟩
theorem l6.ext(a:l6 w own B r e k v n xs)(b:Ext w w'):l6 w' own B r e k v n xs:=a.keep b (nA.refl _ _) fun _ _ _ c=>c
theorem l6.blk(a:l6 w own B r e k v n xs){g:Nat}(b:v.ownBlock=some g):B<=g/\g<w:=a.row.lt g b
theorem l6.xL(a:l6 w own B r e k v n xs)(d:Kp (PO own R) w w')(b:nA w own own')(f:¬R r):l6 w' own' B r e k v n xs:=
 a.keep d b fun g c _ ⟨h,h1,h2⟩=>by rw[c]at h1;cases h1;exact f h2
end
structure GC where
 f:Fr
 cb:Nat
 t:uj
 vl:Value
 vs:Value
structure GO where
 o:qG
 v:Value
structure Gh where
 status:Int
 cs:List GC
 os:List GO
 outs:List Int
 back:Val
 vc:Value
 vh:Value
 vo:Value
def Gh.st(g:Gh):St:=⟨g.status,g.cs.map GC.f,g.os.map GO.o,g.outs,g.back⟩
def Bp(p:iZ)(c:GC):Array Value:=
 #[.int .i64 c.f.of.of.keeper,.string c.f.of.of.name,.int .i64 c.f.of.at_,.string (M.method p c.f.of).name,.slice c.t.a1 (M.method p c.f.of).args.length c.t.c1,.int .i64 (M.method p c.f.of).ret.kind,.string (M.method p c.f.of).ret.name,
  .int .i64 (M.method p c.f.of).locals,.int .i64 (M.method p c.f.of).stack,.slice c.t.a2 (M.method p c.f.of).code.length c.t.c2,.slice c.t.a3 (M.method p c.f.of).maps.length c.t.c3,.int .i64 c.f.pc,c.vl,c.vs,.int .i64 (M.method p c.f.of).stack]
def uZ(c:GC):List Value:=[.pointer (some ⟨c.cb,0,none⟩)]
def qd(o:GO):List Value:=[.int .i64 o.o.of.keeper,.string o.o.of.name,o.v]
def yl(l:jk)(lk:Bool)(g:Gh):Array Value:=#[.pointer (some ⟨l.L,0,none⟩),.bool lk,.int .i64 g.status,g.vc,g.vh,g.vo,.int .i64 g.back.kind,.int .i64 g.back.n]
structure qy(w:World)(l:jk)(p:iZ)(own:Own)(B i:Nat)(c:GC):Prop where
 blk:hZ w c.cb 176 (Bp p c)
 role:own c.cb=some (4,i)
 low:B<=c.cb
 ml:jd w (· <l.O) (M.method p c.f.of) (mF (M.method p c.f.of) c.t)
 loc:l6 w own B (5,i) 37 2 c.vl c.f.locals.length (c.f.locals.flatMap jY)
 kH:l6 w own B (6,i) 37 2 c.vs c.f.stack.length (c.f.stack.flatMap jY)
def Hl(w:World)(own:Own):Prop:=∀b i,own b=some (4,i)->∃k:Int,w.cell? ⟨b,0,none⟩=some (.int .i64 k)
theorem Hl.kp{g: World}{c f:Own}(h:Hl w c)(k:Kp D w g)(i:∀a b,c a=some (4,b)->¬D a)(e:∀a b,f a=some (4,b)->c a=some (4,b)):Hl g f:=fun a b d=>by
 obtain⟨l,j⟩:=h a b (e a b d);exact⟨l,k.lL j (i a b (e a b d))⟩
theorem Own.GN{d:Own}(e:r.1≠4)(a:d.add g r b=some (4,i)):d b=some (4,i):=by
 by_cases c:b=g
 . subst c;rw[Own.add_eq]at a;cases a;exact absurd rfl e
 . rwa[Own.lY r c]at a
structure jm(w:World)(l:jk)(p:iZ)(own:Own)(B mb:Nat)(lk:Bool)(g:Gh):Prop where
 kr:ji w l p
 hB:l.L<B
 blk:hZ w mb 170 (yl l lk g)
 role:own mb=some (0,0)
 low:B<=mb
 calls:l6 w own B (1,0) 171 1 g.vc g.cs.length (g.cs.flatMap uZ)
 call:∀i c,g.cs[i]?=some c->qy w l p own B i c
 heap:l6 w own B (2,0) 63 3 g.vh g.os.length (g.os.flatMap qd)
 obj:∀j o,g.os[j]?=some o->l6 w own B (7,j) 37 2 o.v o.o.fields.length (o.o.fields.flatMap jY)
 outs:l6 w own B (3,0) 3 1 g.vo g.outs.length (g.outs.flatMap uR)
 dom:∀b,own b≠none->B<=b/\b<w.heap.size
 good:M.Good p g.st
 xU:Hl w own
section
variable {w w':World} {l:jk} {p:M.iZ} {own own':Own} {B mb:Nat} {lk:Bool} {g:Gh} {D:Nat->Prop} {R:Nat×Nat->Prop}
theorem qy.keep{c:GC}(b:qy w l p own B i c)(e:Kp D w w')(g:nA w own own')(f:∀a,(own a=some (4,i)\/own a=some (5,i)\/own a=some (6,i))->B<=a->¬D a)(h:∀a,a<l.O->¬D a):qy w' l p own' B i c:=
 ⟨b.blk.kp e (f _ (.inl b.role) b.low),(g _ b.blk.lt).trans b.role,b.low,jM.kp jd.stays e (fun a d=>h a d) b.ml,b.loc.keep e g (fun a d=>f a (.inr (.inl d))),b.kH.keep e g (fun a d=>f a (.inr (.inr d)))⟩
theorem jm.keep(c:jm w l p own B mb lk g)(d:Kp D w w')(f:nA w own own)(q:∀a,own a≠none->B<=a/\a<w'.heap.size)(m:ji w' l p)(k:∀a,own a≠none->¬D a)(n:∀a,a<l.O->¬D a):jm w' l p own B mb lk g:=by
 have e:∀a i,own a=some i->¬D a:=fun a i b=>k a (by rw[b];simp);exact⟨m,c.hB,c.blk.kp d (e _ _ c.role),(f _ c.blk.lt).trans c.role,c.low,c.calls.keep d f fun a b _=>e a _ b,
  fun h j o=>(c.call h j o).keep d f (fun a b _=>by rcases b with b|b|b<;>exact e a _ b) n,
  c.heap.keep d f fun a b _=>e a _ b,fun s t r=>(c.obj s t r).keep d f fun a b _=>e a _ b,c.outs.keep d f fun a b _=>e a _ b,q,c.good,c.xU.kp d (fun a h b=>e a _ b) fun _ _ u=>u⟩
theorem jm.zO(b:jm w l p own B mb lk g)(d:(w:Nat)<=w'):∀a,own a≠none->B<=a/\a<w'.heap.size:=fun a c=>⟨(b.dom a c).1,Tx (b.dom a c).2 d⟩
theorem jm.ext(a:jm w l p own B mb lk g)(b:Ext w w'):jm w' l p own B mb lk g:=
 a.keep b (nA.refl _ _) (a.zO b.size) (a.kr.ext b) (fun _ _ c=>c) (fun _ _ c=>c)
theorem jm.Rb(a:jm w l p own B mb lk g){b:Nat}(d:b<=l.L):own b=none:=by
 cases c:own b with
 |none=>rfl
 |some e=>have:=(a.dom b (by rw[c];simp)).1;have:=a.hB;omega
theorem jm.oQ(a:jm w l p own B mb lk g)(c:Kp (·=l.D) w w')(f:ji w' l p):jm w' l p own B mb lk g:=
 a.keep c (nA.refl _ _) (a.zO c.size) f (fun d b e=>by have:=a.kr.ord;exact b (a.Rb Zm)) (fun d b e=>SX a.kr.ord)
theorem jm.FU(a:jm w l p own B mb lk g)(b:Kp (PO own R) w w'):ji w' l p:=
 a.kr.kp b fun d c ⟨f,e,_⟩=>by rw[a.Rb c]at e;cases e
theorem jm.yg(b:jm w l p own B mb lk g):∀a,a<l.O->¬PO own R a:=fun a c ⟨d,e,_⟩=>by
 have:=b.kr.ord;rw[b.Rb Zm]at e;cases e
theorem qy.xL{c:GC}(d:qy w l p own B i c)(g:Kp (PO own R) w w')(f:nA w own own')(hR:¬R (4,i)/\¬R (5,i)/\¬R (6,i))(e:∀b,b<l.O->¬PO own R b):qy w' l p own' B i c:=
 d.keep g f (fun b a _ ⟨h,h1,h2⟩=>by
  rcases a with a|a|a<;>rw[a]at h1<;>cases h1
  . exact hR.1 h2
  . exact hR.2.1 h2
  . exact hR.2.2 h2) e
theorem jm.at_(a:jm w l p own B mb lk g){r:List GC}{c:GC}(b:g.cs=r++[c]):qy w l p own B r.length c:=a.call _ _ (by rw[b];simp)
theorem jm.G5(b:jm w l p own B mb lk g){r:List GC}{c j:GC}(t:g.cs=r++[c])(s:j.cb=c.cb)(f:Kp (PO own fun k=>k=(4,r.length)\/k=(5,r.length)\/k=(6,r.length)) w w')(h:nA w own own')(A:∀a,own' a≠none->B<=a/\a<w'.heap.size)
    (q:qy w' l p own' B r.length j) (z:M.Good p {g with cs:=r++[j]}.st) {D':Nat->Prop} (D:Kp D' w w') (y:∀a d,own a=some (4,d)->D' a->a=c.cb) (u:∀a d,own' a=some (4,d)->own a=some (4,d)):jm w' l p own' B mb lk {g with cs:=r++[j]}:=by
 refine⟨b.FU f,b.hB,b.blk.kp f ?_,(h _ b.blk.lt).trans b.role,b.low,?_,?_,b.heap.xL f h Zl,fun F H E=>(b.obj F H E).xL f h Zl,b.outs.xL f h Zl,A,z,fun a d o=>?_⟩;rotate_right
 . by_cases m:a=c.cb
   . exact⟨_,by rw[m,<-s];exact q.blk.c 0 _ rfl⟩
   . obtain⟨G,C⟩:=b.xU a d (u a d o);exact⟨G,D.lL C fun I=>m (y a d (u a d o) I)⟩
 . rintro⟨k,n,x⟩;rw[b.role]at n;cases n;simp at x
 . have:=b.calls.xL f h Zl;rw[t]at this;simpa [uZ,s]using this
 . intro d v e;simp only at e;rcases V3 d r.length with i|i|i
   . rw[Te i]at e;refine(b.call d v (by rw[t,Te i];exact e)).xL f h ?_ b.yg;refine⟨?_,?_,?_⟩<;>simp<;>omega
   . subst i;simp at e;subst e;exact q
   . rw[U9 Zr]at e;cases e
theorem jm.GZ(b:jm w l p own B mb lk g)(a:Gh)(c:Kp (PO own (·=(0,0))) w w')(f:hZ w' mb 170 (yl l lk a))(k:(a.cs=g.cs/\a.vc=g.vc)\/(l6 w own B (1,0) 171 1 a.vc a.cs.length (a.cs.flatMap uZ)/\∃n,g.cs=a.cs++n))(v:a.os=g.os/\a.vh=g.vh/\a.outs=g.outs/\a.vo=g.vo) (t:M.Good p a.st):jm w' l p own B mb lk a:=by
 obtain⟨j,q,r,s⟩:=v;have e:=nA.refl w own;refine⟨b.FU c,b.hB,f,b.role,b.low,?_,?_,?_,?_,?_,b.zO c.size,t,b.xU.kp c (fun i m f ⟨A,h1,h2⟩=>by rw[f]at h1;cases h1;cases h2) fun _ _ z=>z⟩
 . rcases k with⟨d,i⟩|⟨d,_⟩
   . rw[d,i];exact b.calls.xL c e Zl
   . exact d.xL c e Zl
 . intro m o h;refine(b.call m o ?_).xL c e Zl b.yg;rcases k with⟨d,_⟩|⟨_,n,d⟩
   . rw[<-d];exact h
   . rw[d,Te (Tw.1 h).1];exact h
 . rw[j,q];exact b.heap.xL c e Zl
 . rw[j];exact fun x y u=>(b.obj x y u).xL c e Zl
 . rw[r,s];exact b.outs.xL c e Zl
end
def jZ(w:World)(l:jk)(p:iZ)(own:Own)(B mb:Nat)(lk:Bool)(v:Value)(s:St)(e:Ending)(w':World):Prop:=
 e=.returned v/\Kp (MO l own) w w'/\∃own' g',nA w.heap.size own own'/\jm w' l p own' B mb lk g'/\g'.st=s
theorem jZ.after{h i: World}{a g:Own}{s:St}{e:Ending}(c:Kp (MO l a) w h)(d:nA w a g)(k:jZ h l p g b f lk v s e i):jZ w l p a b f lk v s e i:=by
 obtain⟨m,n,t,j,o,q,r⟩:=k;exact⟨m,c.mo n d,t,j,d.trans o c.size,q,r⟩
theorem jZ.behind{d f: World}{c:Own}{s:St}{e:Ending}(h:Ext w d)(g:jZ d l p c a b lk v s e f):jZ w l p c a b lk v s e f:=
 g.after h.any (nA.refl _ _)
theorem jm.stop{e: World}{a:Own}{g:Gh}(f:jm w l p a b d lk g)(c:Ext w e):jZ w l p a b d lk v g.st (.returned v) e:=
 ⟨rfl,c.any,a,g,nA.refl _ _,f.ext c,rfl⟩
section
variable {w w':World} {l:jk} {p:M.iZ} {own:Own} {B mb:Nat} {lk:Bool} {g:Gh} {r:List GC} {c:GC}
theorem Gh.fr(a:g.cs=r++[c]):g.st.frames=r.map GC.f++[c.f]:=by unfold Gh.st;rw[a];simp
theorem Gh.top(a:g.cs=r++[c]):M.top g.st=c.f:=yF (Gh.fr a)
theorem jm.Du(a:jm w l p own B mb lk g)(b:g.cs=r++[c]):kZ p c.f g.st.heap.length=true:=a.good.top (Gh.fr b)
theorem jm.mi(a:jm w l p own B mb lk g)(b:g.cs=r++[c]):Kv (M.method p c.f.of):=
 tJ (nQ a.kr.ok (jD.1 (a.Du b)).1).1
theorem jm.setStack(j:jm w l p own B mb lk g)(u:g.cs=r++[c])(xs:List Val)(v':Value)(e:hZ w' c.cb 176 ((Bp p c).setIfInBounds 13 v'))(v:w'.ownsRow B 37 2 v' xs.length (xs.flatMap jY))
    (C:∀b,v'.ownBlock=some b->c.vs.ownBlock=some b\/w.heap.size<=b) (k:Kp (fun a=>a=c.cb\/c.vs.ownBlock=some a) w w') (z:M.Good p {g with cs:=r++[{c with f:={c.f with stack:=xs},vs:=v'}]}.st):
    Kp (MO l own) w w'/\∃i,nA w own i/\jm w' l p i B mb lk {g with cs:=r++[{c with f:={c.f with stack:=xs},vs:=v'}]}:=by
 have h:=j.at_ u;have x:∀a,(a=c.cb\/c.vs.ownBlock=some a)->PO own (fun b=>b=(4,r.length)\/b=(6,r.length)) a:=fun a e=>by
  rcases e with d|d
  . subst d;exact⟨_,h.role,.inl rfl⟩
  . exact⟨_,h.kH.role a d,.inr rfl⟩
 have q:=k.weak fun a _ d=>x a d;refine⟨k.weak fun a _ d=>(x a d).mo,?_⟩;have⟨i,n,A,E,y⟩:∃i,nA w own i/\(∀a,i a≠none->B<=a/\a<w'.heap.size)/\(∀b,v'.ownBlock=some b->i b=some (6,r.length))/\∀a o,i a=some (4,o)->own a=some (4,o):=by
  cases d:v'.ownBlock with
  |none=>exact⟨own,nA.refl _ _,j.zO k.size,(fun b s=>by cases s),fun _ _ m=>m⟩
  |some b=>
   refine⟨own.add b (6,r.length),Own.yI ?_,fun a e=>?_,(fun F s=>by cases s;exact Own.add_eq _ _ _),fun a o e=>Own.GN Zl e⟩
   . rcases C b d with m|m
     . exact .inl (h.kH.role b m)
     . exact .inr m
   . by_cases t:a=b
     . subst t;exact v.lt a d
     . rw[Own.lY _ t]at e;exact j.zO k.size a e
 have D:¬((5,r.length)=((4,r.length):Nat×Nat)\/(5,r.length)=((6,r.length):Nat×Nat)):=by simp
 refine⟨i,n,j.G5 u rfl (q.weak fun a _ ⟨b,e1,e2⟩=>⟨b,e1,e2.elim .inl fun d=>.inr (.inr d)⟩) n A ⟨e,(n _ h.blk.lt).trans h.role,h.low,jM.kp jd.stays q (fun a e=>j.yg a e) h.ml,h.loc.xL q n D,⟨v,E⟩⟩ z k (fun a o e d=>d.elim id fun d=>by rw[h.kH.role a d]at e;cases e) y⟩
theorem jm.Sk(h:jm w l p own B mb lk g)(k:g.cs=r++[c])(n:Int)(m:M.Good p {g with cs:=r++[{c with f:={c.f with pc:=n}}]}.st):
    Kp (MO l own) w (w.setCell (c.cb,11) n)/\jm (w.setCell (c.cb,11) n) l p own B mb lk {g with cs:=r++[{c with f:={c.f with pc:=n}}]}:=by
 have a:=h.at_ k;have j:Kp (·=c.cb) w (w.setCell (c.cb,11) n):=nH;have d:Kp (PO own (·=(4,r.length))) w (w.setCell (c.cb,11) n):=j.weak fun e _ b=>⟨_,by rw[b];exact a.role,rfl⟩;have i:=nA.refl w own;refine⟨d.weak fun e _ b=>b.mo,h.G5 k rfl (d.weak fun e _ ⟨q,e1,e2⟩=>⟨q,e1,.inl e2⟩) i (h.zO j.size) ⟨a.blk.jy 11 _,a.role,a.low,jM.kp jd.stays d (fun e o=>h.yg e o) a.ml,a.loc.xL d i Zl,a.kH.xL d i Zl⟩ m j (fun _ _ _ b=>b) fun _ _ s=>s⟩
end
def Hg(n:Nat)(q:Nat×Nat):Prop:=q=(4,n)\/q=(6,n)
theorem Kp.po{g i:Own}{a b: World}(c:Kp (PO g R) w a)(d:Kp (PO i R) a b)(j:nA w g i):Kp (PO g R) w b:=
 ⟨d.os.trans c.os,d.tape.trans c.tape,d.output.trans c.output,TL c.size d.size,
  fun f e h=>(d.block f (Tx e c.size) (fun⟨k,e1,e2⟩=>h ⟨k,by rw[<-j f e];exact e1,e2⟩)).trans (c.block f e h)⟩
theorem jm.Hb{h i: World}{f:Own}{m: Nat}{g:Gh}{r:List GC}{c:GC}(d:jm w l p f j m lk g)(e:g.cs=r++[c])(k:Kp (fun b=>b=c.cb\/c.vs.ownBlock=some b) h i):Kp (PO f (Hg r.length)) h i:=
 k.weak fun b _ a=>by
  rcases a with a|a
  . subst a;exact⟨_,(d.at_ e).role,.inl rfl⟩
  . exact⟨_,(d.at_ e).kH.role b a,.inr rfl⟩
theorem kX(w:World)(l:jk)(p:iZ)(y:Own)(q n:Nat)(lk:Bool)(g:Gh)(a:jm w l p y q n lk g)(r:List GC)(c:GC)(h:g.cs=r++[c]):Calls prog 70 #[some n] w fun u B=>u=.returned (some c.cb)/\Ext w B:=by
 have m:g.cs.length=r.length+1:=by rw[h];simp
 obtain⟨s,t,d,-,-,E⟩:=jT a.calls.row Zm;have i:=a.calls.row;rw[d,m]at i;have f:=(lT (enc:=uZ) (k:=1) (fun _=>rfl) (l:=g.cs) i (i:=r.length) (x:=c) (by rw[h];simp)).one;rw[V5]at f;rw[m]at d;have k:(yl l lk g)[3]?=some (.slice (some ⟨s,0,none⟩) (r.length+1) t):=by rw[<-d];rfl
 have F:r.length+1<=8:=by have:=a.good.nf;rw[Gh.fr h]at this;simpa using this
 have H:IntKind.i64.wrap ((r.length:Int)+1 - 1)=r.length:=by rw[TK _ Zm];omega
 obtain⟨D,v,G,b⟩:=ll w;have z:=fun j=>(a.blk.ext (b.jv j)).c 3 _ k;have A:=fun j=>(b.jv j).je f;have⟨e,C⟩:=jf b a;clear a b k f i d;go_enter func70,ntmps70;go_wp2_with fail;refine C8 e ?_ ?_;rotate_left;(repeat (go_big_quiet_step ((fail))));refine TD ?_;(rintro _ ⟨o,rfl⟩);rotate_left
 . exact jg
 have x:=e.jv o;generalize v o=w1 at*;clear e z A;go_wp2;go_ret;exact⟨rfl,x⟩
theorem jZ.mk'{d: World}{b c:Own}{s:St}{a:Gh}(h:Kp (MO l b) w d)(i:nA w b c)(g:jm d l p c e f lk a)(j:a.st=s):jZ w l p b e f lk v s (.returned v) d:=
 ⟨rfl,h,c,a,i,g,j⟩
theorem D8(w:World)(l:jk)(p:iZ)(s:Own)(t q:Nat)(lk:Bool)(g:Gh)(k:jm w l p s t q lk g)(r:List GC)(c:GC)(b:g.cs=r++[c])(F:g.status=1)(a:Int)(h0:0<=a):Calls prog 169 #[some q,a] w fun x A=>jZ w l p s t q lk (.int .i64 (jump p a g.st).1) (jump p a g.st).2 x A/\Kp (PO s (Hg r.length)) w A:=by
 have u:=Zy k;have v:Zz (jump p a g.st=if((M.method p c.f.of).code.length:Int)<=a then(10,g.st)else(1,{g.st with frames:=r.map GC.f++[{c.f with pc:=a}]})):=Zy (by
  unfold jump;rw[Gh.top b,pO (Gh.fr b)])
 have B:=Zy (vV k.good (Gh.fr b) F h0).2.2.1;have e:=Zy b;clear k b;go_enter func169,ntmps169;go_wp2_with fail;refine(kX _ _ _ _ _ _ _ _ u r c e).mono ?_;rintro x G ⟨rfl,n⟩;have m:=u.ext n;have o:=m.at_ e;obtain⟨K,-,-,-,-,-,-,-,-,-,I,-,H,-⟩:=o.blk.ca;have J:=o.blk.frozen 11;have⟨j,h⟩:=jf m n;clear m o n;by_cases d:((M.method p c.f.of).code.length:Int)<=a
 . have i:Zz (jump p a g.st=(10,g.st)):=Zy (by rw[v.o,Tv d]);have E:=Tz d;go_wp2;go_ret;rw[i.o];exact⟨jZ.mk' h.any (nA.refl _ _) j rfl,h.any⟩
 . have i:Zz (jump p a g.st=(1,{g.st with frames:=r.map GC.f++[{c.f with pc:=a}]})):=Zy (by rw[v.o,Tt d]);have E:=VB d;clear d;go_wp2;go_ret;have y:=B.o;rw[i.o]at y;rw[i.o];have z:(⟨g.status,r++[{c with f:={c.f with pc:=a}}],g.os,g.outs,g.back,g.vc,g.vh,g.vo⟩:Gh).st={g.st with frames:=r.map GC.f++[{c.f with pc:=a}]}:=by simp[Gh.st]
   obtain⟨C,D⟩:=j.Sk e a (by rw[z];exact y);exact⟨jZ.mk' (h.any.trans C) (nA.refl _ _) D z,h.any.trans (j.Hb e ((Kp.refl _ G).setCell (p:=⟨c.cb,11,none⟩) (fun _=>.inl rfl) _))⟩
theorem BC{f:Own}{g:Gh}(e:jm w l p f d b lk g)(r:List GC)(c:GC)(h:g.cs=r++[c])(i:g.status=1)(a:Int)(h0:0<=a):Calls prog 169 #[some b,a] w (jZ w l p f d b lk (.int .i64 (jump p a g.st).1) (jump p a g.st).2):=
 (D8 w l p f d b lk g e r c h i a h0).mono fun _ _ e=>e.1
theorem D9(w:World)(l:jk)(p:iZ)(k:Own)(m j:Nat)(lk:Bool)(g:Gh)(b:jm w l p k m j lk g)(r:List GC)(c:GC)(a:g.cs=r++[c])(A:g.status=1):Calls prog 165 #[some j] w fun e v=>jZ w l p k m j lk (.int .i64 (next p g.st).1) (next p g.st).2 e v/\Kp (PO k (Hg r.length)) w v:=by
 have n:=Zy b;have y:Zz (next p g.st=jump p (c.f.pc+1) g.st):=Zy (by unfold next;rw[Gh.top a]);have i:=jD.1 (b.Du a);have C:=(b.mi a).code;have D:=i.2.1;have E:=i.2.2.1;have F:IntKind.i64.wrap (c.f.pc+1)=c.f.pc+1:=TK _ Zm;have d:=Zy a;clear b a i;go_enter func165,ntmps165;go_wp2_with fail;refine(kX _ _ _ _ _ _ _ _ n r c d).mono ?_;rintro e G ⟨rfl,h⟩;have f:=n.ext h;have u:=f.at_ d;have B:=u.blk.c 11 c.f.pc rfl;have⟨x,o⟩:=jf f h;clear f u h;go_wp2_with fail;refine(D8 _ _ _ _ _ _ _ _ x r c d A (c.f.pc+1) Zm).mono ?_;rintro e H ⟨s,t⟩;have z:=Zy (o.any.trans t);clear t;have q:=Zy (jZ.behind o s);obtain⟨rfl,-⟩:=s;rw[<-y.o]at q |-;go_wp2;go_ret;exact⟨q,z⟩
theorem uy{e:Own}{g:Gh}(d:jm w l p e b a lk g)(r:List GC){c:GC}(f:g.cs=r++[c])(h:g.status=1):Calls prog 165 #[some a] w (jZ w l p e b a lk (.int .i64 (next p g.st).1) (next p g.st).2):=
 (D9 w l p e b a lk g d r c f h).mono fun _ _ d=>d.1
theorem FW(w:World)(l:jk)(p:iZ)(x:Own)(z J:Nat)(lk:Bool)(g:Gh)(n:jm w l p x z J lk g)(r:List GC)(c:GC)(d:g.cs=r++[c])(az:g.status=1)(v:Val)(hv:jS v g.os.length=true):Calls prog 163 #[some J,.agg #[v.kind,v.n]] w fun a w'=>jZ w l p x z J lk (.int .i64 (push p v g.st).1) (push p v g.st).2 a w'/\Kp (PO x (Hg r.length)) w w':=by
 obtain⟨y,ag,F,O⟩:=nu w #[v.kind,v.n] 37;have Q:=n.ext F;have e:=jD.1 (n.Du d);have aG:=(n.mi d).stack;have aI:=e.2.2.2.2.1;have G:=n.at_ d;have ay:¬(w=c.cb\/c.vs.ownBlock=some w.heap.size):=by
  rintro(a|a)
  . have:=G.blk.lt;omega
  . have:=(G.kH.blk a).2;omega
 have i:Zz (push p v g.st=if(M.method p c.f.of).stack<=(c.f.stack.length:Int)then(10,g.st)else next p {g.st with frames:=r.map GC.f++[{c.f with stack:=c.f.stack++[v]}]}):=Zy (by
  unfold push;rw[Gh.top d,pO (Gh.fr d)])
 have V:(c.f.stack.length:Int)<(M.method p c.f.of).stack->M.Good p {g.st with frames:=r.map GC.f++[{c.f with stack:=c.f.stack++[v]}]}:=fun H=>by
  refine n.good.turn (Gh.fr d) (jD.2 ⟨e.1,e.2.1,e.2.2.1,e.2.2.2.1,by simp;omega,e.2.2.2.2.2.1,?_⟩);intro aC o;rcases TZ.1 o with o|o
  . exact e.2.2.2.2.2.2 aC o
  . simp only[U7]at o;subst o;simpa [Gh.st]using hv
 obtain⟨aF,f,aH,C⟩:=qC.ex (fun W'=>Kp (fun j=>j=c.cb\/c.vs.ownBlock=some j) y W') _ Kp.rr;obtain⟨-,r0,r1,-⟩:=hZ.lC fun aD=>(O.kp (C.jv aD) ay);have⟨m,A,q,ax⟩:=jU C Q F ag;have ah:=Zy V;have s:=Zy d;clear n Q F ag O C V G d e;go_enter func163,ntmps163;go_wp2_with fail;rw[<-ax.o];refine jW m 7 [([0,4],1),([2,3],5)] [6] ?_ ?_
 . exact jg
 refine lJ ?_;intro t k;go_wp2_with fail;refine(kX _ _ _ _ _ _ _ _ (A.ext jg) r c s).mono ?_;rintro a w1 ⟨rfl,S⟩;have h:=Zy (((Kp.refl _ y).drew:Ext y _).trans S);clear S;go_wp2_with fail;refine kk m k h.any ?_;clear k t;refine lJ ?_;intro t k;have E:=A.ext h;have ae:=E.at_ s;have⟨K,b⟩:=jf E ae;clear E ae;by_cases H:(c.f.stack.length:Int)<(M.method p c.f.of).stack
 . replace i:Zz (push p v g.st=next p {g.st with frames:=r.map GC.f++[{c.f with stack:=c.f.stack++[v]}]}):=Zy (by rw[i.o,Tt Zm]);go_wp2_with fail;refine(Kc w1 c.cb 13 z c.f.stack.length (M.method p c.f.of).stack b.blk rfl rfl v.kind v.n b.kH.row Zm H ?_ ?_).mono ?_
   . intro a;have:=b.kH.role _ a;rw[b.o.role]at this;cases this
   . have:=b.low;have:=b.blk.lt;omega
   rintro a w2 ⟨rfl,D,P,Y,af,R,u⟩;have I:(⟨g.status,r++[{c with f:={c.f with stack:=c.f.stack++[v]},vs:=(D,c.f.stack.length+1,P)}],g.os,g.outs,g.back,g.vc,g.vh,g.vo⟩:Gh).st={g.st with frames:=r.map GC.f++[{c.f with stack:=c.f.stack++[v]}]}:=by simp[Gh.st]
   obtain⟨W,aA,aa,X⟩:=K.setStack s (c.f.stack++[v]) (D,c.f.stack.length+1,P) R (by
    rw[TP,Uz];simpa [jY]using Y) (fun aB hq=>by
    have:D=aB:=by simpa [Value.ownBlock]using hq
    subst this;exact af) u (by rw[I];exact ah H)
   have ai:Zz (Kp (fun j=>j=c.cb\/c.vs.ownBlock=some j) y w2):=Zy (h.any.trans u);have⟨au,aj⟩:=jf ((q.trans h).any.trans (K.Hb s u)) ((q.trans h).any.trans W);have ak:=Zy X;have L:Zz (nA w x aA):=Zy (fun j hb=>aa j (SY q.size h.size));rw[<-I]at i;clear Y af R u W aa X I r0 r1;go_wp2_with fail;refine kk m k ai ?_;clear k t;clear m;refine rC ?_;go_wp2_with fail;refine(D9 _ _ _ _ _ _ _ _ ak r _ rfl az).mono ?_;rintro a w3 ⟨U,Z⟩;have av:=Zy (au.po Z L);clear Z;have N:=Zy (jZ.after aj L U);obtain⟨rfl,-⟩:=U;rw[<-i.o]at N |-;go_wp2;go_ret;exact⟨N,av⟩
 . replace i:Zz (push p v g.st=(10,g.st)):=Zy (by rw[i.o,Tv Zm]);go_wp2_with fail;refine(CK w1 c.cb 13 c.f.stack.length (M.method p c.f.of).stack b.blk rfl rfl b.kH.form v.kind v.n Zm).mono ?_;rintro a w2 ⟨rfl,T⟩;have B:=Zy (h.trans T);clear T r0 r1;go_wp2_with fail;refine kk m k B.any ?_;clear k t;clear m;refine rC ?_;go_wp2;go_ret;rw[i.o];exact⟨jZ.behind q (A.stop B),(q.trans B).any⟩
theorem rV{e:Own}{g:Gh}(d:jm w l p e b a lk g)(r:List GC)(c:GC)(f:g.cs=r++[c])(h:g.status=1)(v:Val)(i:jS v g.os.length=true):Calls prog 163 #[some a,.agg #[v.kind,v.n]] w (jZ w l p e b a lk (.int .i64 (push p v g.st).1) (push p v g.st).2):=
 (FW w l p e b a lk g d r c f h v i).mono fun _ _ d=>d.1
def Hn(w:World)(vh:Value)(h:List qG):Prop:=
 ∃a cap,vh=.slice a h.length cap/\∀(n:Nat) (o:qG),h[n]?=some o->∃b off v,a=some ⟨b,off,none⟩/\hH w b (off+n*3) [.int .i64 o.of.keeper,.string o.of.name,v]
theorem Hn.ext{c: World}{b:Value}{a:List qG}(l:Hn w b a)(k:Ext w c):Hn c b a:=by
 obtain⟨d,f,g,h⟩:=l;exact⟨d,f,g,fun n o m=>by
  obtain⟨e,p,q,i,j⟩:=h n o m;exact⟨e,p,q,i,j.ext k⟩⟩
theorem jm.Nv{n:Own}{m: Nat}{g:Gh}(c:jm w l p n f m lk g):Hn w g.vh g.st.heap:=by
 obtain⟨h,i,a⟩:=c.heap.form;refine⟨h,i,by rw[a];simp[Gh.st],fun r s d=>?_⟩;simp only[Gh.st,V4,Uk]at d;obtain⟨o,e,rfl⟩:=d;have b:=c.heap.row;obtain⟨k,q,j,_⟩:=jT b (SX ((Tw.1 e).1));rw[j]at b a;cases a;have:=lT (enc:=qd) (k:=3) (fun _=>rfl) b e;exact⟨k,0,o.v,rfl,by simpa [qd]using this⟩
theorem mZ(k:Int)(d:w.cell? a=some (.int .i64 k)):Calls prog 72 #[some a] w fun b c=>b=.returned k/\w=c:=by
 go_enter func72,ntmps72;go_wp2;go_ret;exact⟨rfl,rfl⟩
theorem AQ{a:List qG}{b:qG}(c:a[n]?=some b):vI a n=b.of:=by simp[vI,c]
theorem vG(w:World)(l:jk)(p:iZ)(S:ji w l p)(k:Int)(vh:Value)(c:List qG)(Y:Hn w vh c)(v:Val)(hv:v.kind=2->0<=v.n/\v.n<c.length)(t:Kind):Calls prog 147 #[some l.L,k,vh,.agg #[v.kind,v.n],.agg #[t.kind,t.name]] w fun F w'=>F=.returned (.bool (hasType p k c v t))/\Ext w w':=by
 obtain⟨e,a⟩:=t;obtain⟨g,f⟩:=v;obtain⟨u,s⟩:=SS ((w.alloc (.cells #[g,f] 37)).alloc (.cells #[e,a] 128));have A:Ext w u:=by rw[s];exact kx
 have Q:hZ u w 37 #[g,f]:=by rw[s];exact(hZ.new _ _ _).ext kx
 have R:hZ u (w+1) 128 #[e,a]:=by rw[s];exact hZ.newAt _ _ Zl
 have⟨HH,N,n,aa,ae,z⟩:=nE (Y.ext A) (S.ext A) A Q R s;obtain⟨ai,ak,rfl,-⟩:=Y;clear S A Q R s;by_cases r:e=1
 . subst r;have b:Zz (hasType p k c ⟨g,f⟩ ⟨1,a⟩=decide (g=1)):=Zy (by unfold hasType;rw[Tv rfl]);go_enter func147,ntmps147;go_wp2;go_ret;exact⟨hQ (by rw[b.o];rfl),by rw[<-z.o];exact n⟩
 have az:=SF.2 r;by_cases C:g=3
 . subst C;have b:Zz (hasType p k c ⟨3,f⟩ ⟨e,a⟩=true):=Zy (by unfold hasType;rw[Tt r,Tv rfl]);go_enter func147,ntmps147;go_wp2;go_ret;exact⟨hQ b.symm,by rw[<-z.o];exact n⟩
 have aB:=SF.2 C;by_cases H:g=2
 . subst H;have b:Zz (hasType p k c ⟨2,f⟩ ⟨e,a⟩=(decide ((find p k a).2=1)&&under p (vI c f) (find p k a).1)):=Zy (by unfold hasType;rw[Tt r,Tt C];rfl);obtain⟨af,ag⟩:=hv rfl;simp only at af ag;obtain⟨d,rfl⟩:∃d:Nat,f=d:=⟨f.toNat,Zm⟩;obtain⟨m,G⟩:∃m,c[d]?=some m:=⟨c[d]'Zm,Ou _⟩;obtain⟨a',au,ea,X⟩:=HH.o;cases ea;obtain⟨aj,aC,fv,rfl,W⟩:=X d m G;replace b:Zz (hasType p k c ⟨2,d⟩ ⟨e,a⟩=(decide ((find p k a).2=1)&&under p m.of (find p k a).1)):=Zy (by rw[b.o,AQ G]);obtain⟨qz,-,q1,-⟩:=ae.ca;have K:=Zy W;clear X G W;go_enter func147,ntmps147;go_wp2_with fail;rw[<-z.o];refine(mJ _ _ _ N k a).mono ?_;rintro F w1 ⟨rfl,T⟩;generalize find p k a=F1 at*;obtain⟨⟨I,J⟩,c1⟩:=F1;simp only at*;obtain⟨x,Z,U,P⟩:=nu w1 #[I,J] 60;have⟨O,i⟩:=jf Z (T.trans U);obtain⟨ah,av,ay,j⟩:=ll x;have aG:=fun h=>((aa.ext i).ext (j.jv h)).c 1 d rfl;obtain⟨-,aD,aF,-⟩:=hZ.lC fun h=>(P.ext (j.jv h));have aH:=fun h=>(K.ext (i.trans (j.jv h))).three.1;have aI:=fun h=>(K.ext (i.trans (j.jv h))).three.2.1;have y:=Zy j;clear Z U P j T q1 qz;by_cases B:c1=1
   . subst B;replace b:Zz (hasType p k c ⟨2,d⟩ ⟨e,a⟩=under p m.of ⟨I,J⟩):=Zy (by rw[b.o];rfl);go_wp2_with fail;rw[<-O.o];refine jW y 13 [([0,1,2,3,4,5,6,7,8,9,10],11)] [12] ?_ ?_
     . exact jg
     refine lJ ?_;intro E q;go_wp2_with fail;refine(uW (N.ext (i.trans jg)) m.of ⟨I,J⟩).mono ?_;rintro F w4 ⟨rfl,V⟩;have L:=Zy (((Kp.refl _ x).drew:Ext x _).trans V);clear V;go_wp2_with fail;refine kk y q L ?_;clear q E;refine r9 [_] rfl fun D o=>?_;(repeat (go_big_quiet_step (fail)));refine qn o ?_;clear o D;go_wp2;go_ret;exact⟨hQ b.symm,n.trans (i.trans L)⟩
   . have ax:=SF.2 B;replace b:Zz (hasType p k c ⟨2,d⟩ ⟨e,a⟩=false):=Zy (by rw[b.o];simp[B]);clear B;go_wp2_with fail;rw[<-O.o];refine jW y 13 [([0,1,2,3,4,5,6,7,8,9,10],11)] [12] ?_ ?_
     . exact jg
     refine lJ ?_;intro E q;go_wp2_with fail;refine kk y q ((Kp.refl _ x).drew:Ext x _) ?_;clear q E;refine r9 [_] rfl fun D o=>?_;(repeat (go_big_quiet_step (fail)));refine qn o ?_;clear o D;go_wp2;go_ret;exact⟨hQ b.symm,n.trans (i.drew)⟩
 . have aA:=TI.2 H;have b:Zz (hasType p k c ⟨g,f⟩ ⟨e,a⟩=false):=Zy (by unfold hasType;rw[Tt r,Tt C,Tv H]);go_enter func147,ntmps147;go_wp2;go_ret;exact⟨hQ b.symm,by rw[<-z.o];exact n⟩
theorem ym{V:Own}{g:Gh}(I:jm w l p V L K lk g)(v:Val)(E:jS v g.os.length=true)(t:Ref):Calls prog 168 #[some K,.agg #[v.kind,v.n],.agg #[t.keeper,t.name]] w fun H W=>H=.returned (object p v t g.st)/\Ext w W:=by
 obtain⟨q,m⟩:=v;obtain⟨d,o⟩:=SS ((w.alloc (.cells #[q,m] 37)).alloc (.cells #[t.keeper,t.name] 60));have B:Ext w d:=by rw[o];exact kx
 have F:hZ d w.heap.size 37 #[q,m]:=by rw[o];exact(hZ.new _ _ _).ext kx
 have G:hZ d (w.heap.size+1) 60 #[t.keeper,t.name]:=by rw[o];exact hZ.newAt _ _ Zl
 have⟨n,r,N,O,A⟩:=ni (I.ext B) B F G o;clear I B F G o;by_cases i:q=3
 . subst i;have c:Zz (object p ⟨3,m⟩ t g.st=3):=Zy (by unfold object;rw[Tv rfl]);go_enter func168,ntmps168;go_wp2;go_ret;exact⟨by rw[c.o];rfl,by rw[<-A.o];exact r.o⟩
 have ag:=SF.2 i;obtain⟨X,aa,ae,b⟩:=ll d;have ax:=fun a=>(n.o.ext (b.jv a)).blk.c 0 (some l.L) rfl;obtain⟨R,S,j⟩:=n.o.heap.form;have ay:=fun a=>(n.o.ext (b.jv a)).blk.c 4 (.slice R g.os.length S) (by rw[<-j];rfl);obtain⟨-,ah,ai,-⟩:=hZ.lC fun a=>(N.o.ext (b.jv a));obtain⟨-,aj,ak,-⟩:=hZ.lC fun a=>(O.o.ext (b.jv a));by_cases z:q=2
 . subst z;obtain⟨T,U⟩:=sJ E rfl;simp only at T U;obtain⟨e,rfl⟩:∃e:Nat,m=e:=⟨m.toNat,by omega⟩;obtain⟨k,D⟩:∃k,g.os[e]?=some k:=⟨g.os[e]'Zm,Ou _⟩;have c:Zz (object p ⟨2,e⟩ t g.st=if under p k.o.of t then 1 else 10):=Zy (by
    have:vI g.st.heap e=k.o.of:=AQ (by simp[Gh.st,D]);unfold object;rw[Tt i,this];rfl)
   have x:=n.o.heap.row;rw[j]at x;obtain⟨Y,Z,Q,-⟩:=jT x Zm;cases Q;have C:=lT (enc:=qd) (k:=3) (fun _=>rfl) x D;have au:=fun a=>(hH.ext C (b.jv a)).three.1;have av:=fun a=>(hH.ext C (b.jv a)).three.2.1;have⟨h,P⟩:=jf b j;clear b j x C D E i;go_enter func168,ntmps168;go_wp2_with fail;rw[<-A.o];refine jW h 21 [([0,1,2,3,4,5,6,7,8,9,10,11,12,13,14,15,16,17],18)] [19,20] ?_ ?_
   . exact jg
   refine lJ ?_;intro u f;go_wp2_with fail;refine(uW (n.o.kr.ext jg) k.o.of t).mono ?_;rintro H w4 ⟨rfl,J⟩;have s:=Zy (((Kp.refl _ d).drew:Ext d _).trans J);clear J;cases y:under p k.o.of t
   . replace c:Zz (object p ⟨2,e⟩ t g.st=10):=Zy (by rw[c.o,y];rfl);clear y;go_wp2_with fail;refine kk h f s.o ?_;clear f u;refine rC ?_;go_wp2;go_ret;exact⟨by rw[c.o];rfl,r.o.trans s.o⟩
   . replace c:Zz (object p ⟨2,e⟩ t g.st=1):=Zy (by rw[c.o,y];rfl);clear y;go_wp2_with fail;refine kk h f s.o ?_;clear f u;refine rC ?_;go_wp2;go_ret;exact⟨by rw[c.o];rfl,r.o.trans s.o⟩
 . have af:=TI.2 z;have c:Zz (object p ⟨q,m⟩ t g.st=10):=Zy (by unfold object;rw[Tt i,Tv z]);have⟨h,P⟩:=jf b j;clear b j E i z;go_enter func168,ntmps168;go_wp2_with fail;rw[<-A.o];refine jW h 21 [([0,1,2,3,4,5,6,7,8,9,10,11,12,13,14,15,16,17],18)] [19,20] ?_ ?_
   . exact jg
   refine lJ ?_;intro u f;go_wp2_with fail;refine kk h f ((Kp.refl _ d).drew:Ext d _) ?_;clear f u;refine rC ?_;go_wp2;go_ret;exact⟨by rw[c.o];rfl,r.o.drew⟩
theorem Iq(w:World)(l:jk)(p:iZ)(j:Own)(k a:Nat)(lk:Bool)(g:Gh)(d:jm w l p j k a lk g)(c:Int):Calls prog 90 #[some a,c] w (jZ w l p j k a lk (.tuple #[]) (end_ c g.st)):=by
 have t:=d.blk.c 2 g.status rfl;obtain⟨o,q,i⟩:=d.calls.form;have u:=d.blk.c 3 (.slice o g.cs.length q) (by rw[<-i];rfl);have v:=d.blk.frozen 2;have x:=d.blk.frozen 3;have z:=d.blk.lt;have⟨b,s⟩:=jf d i;clear d i;by_cases e:c=1
 . subst e;have f:Zz (end_ 1 g.st=g.st):=Zy (by unfold end_;rw[Tv rfl]);go_enter func90,ntmps90;go_wp2_with fail;refine Ta ?_;rw[f.o];exact b.stop Kp.rr
 . have y:=TI.2 e;have f:Zz (end_ c g.st={g.st with status:=c,frames:=[]}):=Zy (by unfold end_;rw[Tt e]);clear e;go_enter func90,ntmps90;go_wp2_with fail;refine Ta ?_;rw[f.o];have r:Kp (·=a) w ((w.setCell (a,2) c).setCell (a,3) ()):=
    ((Kp.refl (·=a) w).setCell (p:=⟨a,2,none⟩) (fun _=>rfl) _).setCell (p:=⟨a,3,none⟩) (fun _=>rfl) _
   have m:Kp (PO j (·=(0,0))) w ((w.setCell (a,2) c).setCell (a,3) ()):=r.weak fun n _ h=>⟨_,by rw[h];exact b.role,rfl⟩;refine jZ.mk' (m.weak fun n _ h=>h.mo) (nA.refl _ _) (b.GZ {g with status:=c,cs:=[],vc:=()} m ((b.blk.jy 2 _).jy 3 _) (.inr ⟨l6.nil _ _ _ _ _ _,g.cs,rfl⟩) ⟨rfl,rfl,rfl,rfl⟩ ?_) (by simp[Gh.st]);exact⟨b.good.heap,by simp[Gh.st],by simp[Gh.st],b.good.outs,b.good.sH,b.good.back⟩
theorem LC.set2(c:LC l p w W)(i:w<=b)(d e:Value)(h:l.L<w):LC l p w ((W.setCell b d).setCell (b,1) e):=by
 have a:=((Kp.refl (·=b) W).setCell (p:=⟨b,0,none⟩) (fun _=>rfl) d).setCell (p:=⟨b,1,none⟩) (fun _=>rfl) e;exact⟨c.kp.own a (fun g f=>Zm),c.at_.kp a (fun g a f=>Zm)⟩
theorem D6{aO:Own}{aA: Nat}{g:Gh}(A:jm w l p aO aA y lk g)(r:List GC)(c:GC)(ai:g.cs=r++[c])(n:ByteArray):Calls prog 167 #[some y,n] w fun m w'=>m=.returned (.tuple #[.agg #[.int .i64 (pY p n g.st).1.keeper,.string (pY p n g.st).1.name],.bool (pY p n g.st).2])/\LC l p w w':=by
 obtain⟨q,ay,F,b4⟩:=nu w #[Tc, ""] 60;have ah:=(A.ext F).kr.lt;have aJ:=A.kr.lt;have aQ:=A.kr.ET;have HM:=Zy A.blk.lt;obtain⟨⟨⟨h,i⟩,x⟩,hF⟩:∃aB,find p c.f.of.of.keeper n=aB:=⟨_,rfl⟩;have HV:Zz (pY p n g.st=(⟨h,i⟩,decide (x=1)&&ko p ⟨h,i⟩)):=Zy (by unfold pY;rw[Gh.top ai,hF]);have ax:∀k,LC l p q k->Calls prog 49 #[some l.L,c.f.of.of.keeper,n] k fun m w'=>m=.returned (.tuple #[.agg #[h,i],x])/\Ext k w':=fun k hW=>by
  have:=mJ k l p hW.at_ c.f.of.of.keeper n;rw[hF]at this;exact this
 have K:=Zy ax;have a:=Zy (LC.refl (A.ext F).kr).drew;obtain⟨aH,aI,aM,v⟩:=qC.ex (fun W=>LC l p q W) q (LC.refl (A.ext F).kr);have s:=Zy (A.ext F);have R:=fun H=>(s.oQ (v.jv H).kp (v.jv H).at_).blk.c 0 (some l.L) rfl;have⟨e,aD,aC,aG,J⟩:=ni v F b4 ay ai;have aN:=b4.lt;clear A v F b4 ay hF ax ai;rw[HV.o];go_enter func167,ntmps167;go_wp2_with fail;rw[<-aG.o];rename_i aa G
 have az : ∀ (z : Nat) (u : World), LC l p q u -> hZ u z 60 #[h, i] -> q <= z -> aa { tmps := #[.pointer (some ⟨y, 0, none⟩), .string n, undef, undef, .pointer (some ⟨w, 0, none⟩), .bool false, .pointer (some ⟨z, 0, none⟩), .int .i64 x, .tuple #[.agg #[h, i], x], .pointer (some ⟨y, 0, none⟩), .pointer (some ⟨y, 0, none⟩), .pointer (some ⟨y, 0, none⟩), .pointer (some ⟨l.L, 0, none⟩), .pointer (some ⟨y, 0, none⟩), .pointer (some ⟨c.cb, 0, none⟩), .int .i64 c.f.of.of.keeper, .string n, .tuple #[.agg #[h, i], x], .agg #[h, i], .int .i64 x, undef, undef, undef, undef, undef, undef, undef, undef, undef, undef, undef], defers := [] } u := by
  intro z u E hB t;refine G _ _ ?_;clear G e R a K;have aj:¬(w=l.D):=Zm
  have aR:(w:Nat)<q:=aN;have ae:=aC.kp E.kp aj;have aT:¬z=w:=Zm
  have aU:¬w=z:=Zm
  have aP:l.D<l.L:=s.kr.ord.2.2;have x0:=ae.c 0 Tc rfl;obtain⟨aH,aI,aM,v⟩:=qC.ex (fun W=>Kp (fun o=>o=l.D\/o=w.heap.size) u W/\ji W l p) u ⟨Kp.rr,E.at_⟩;have aK:¬(z=l.D\/z=w):=Zm
  have aL:¬(y=l.D\/y=w):=by
   have:=s.hB;have:=s.low;have:=HM.o;omega
  obtain⟨-,q0,q1,-⟩:=hZ.lC fun H=>(hB.kp (v.jv H).1 aK);have qm:=fun H=>((s.oQ E.kp E.at_).blk.kp (v.jv H).1 aL).c 0 (some l.L) rfl;have⟨e,D,I⟩:=jB v E ae;clear E hB v ae x0;have au:∀k o,Kp (·=l.D) u k->ji k l p->k.heap[w.heap.size]?=u.heap[w.heap.size]?→o=(decide (x=1)&&ko p ⟨h,i⟩)→
      Kp (fun o=>o=l.D\/o=w.heap.size) u ((k.setCell w h).setCell (w,1) i)/\ji ((k.setCell w h).setCell (w,1) i) l p/\
      LC l p w ((k.setCell w h).setCell (w,1) i)/\hZ ((k.setCell w h).setCell (w,1) i) w 60 #[h,i]:=fun k o hk hL hb _=>by
   have h4:hZ k w 60 #[Tc, ""]:=I.keep hb;have h5:LC l p w k:=(⟨aD.any,s.kr⟩:LC l p w q).trans (D.trans ⟨hk,hL⟩);have h6:=LC.set2 h5 (T9 _) h i aJ;exact⟨(hk.weak fun o _ m=>.inl m).trans (((Kp.refl _ k).setCell (p:=⟨w,0,none⟩) (fun _=>.inr rfl) _).setCell (p:=⟨w,1,none⟩) (fun _=>.inr rfl) _),h6.at_,h6,h4.set2 _ _⟩
  have ak:=Zy au;clear au;by_cases X:x=1
  . subst X;go_wp2_with fail;refine jW e 12 [([0,1,2,3,4,5,6,7,8],9),([10],11)] [] ?_ ?_
    . exact⟨jg,D.at_.ext jg⟩
    refine lJ ?_;intro d b;go_wp2_with fail;refine(mU (D.at_.ext jg) ⟨h,i⟩).mono ?_;rintro m w9 ⟨rfl,ag,av⟩;have Q:=((Kp.refl _ u).drew).trans av;obtain⟨L,N,O,P⟩:=ak.o w9 _ Q ag (Q.block _ (by have:=I.lt;exact this) aj) rfl;have af:=I.kp Q aj;obtain⟨gz,x0,x1,-⟩:=af.ca;obtain⟨B,C,-⟩:=af.fz;have⟨Y,Z,F3,F4,aF⟩:=ni L N O P (Tn (Q.weak (D':=fun o=>o=l.D\/o=w.heap.size) fun o _ m=>.inl m) ag);clear av ag Q L N O P af;go_wp2_with fail;refine kk e b aF ?_;clear b d;refine lJ ?_;intro d b;go_wp2_with fail;refine kk e b ⟨Y,Z⟩ ?_;clear b d;refine ku ?_;go_wp2_with fail;refine Cv (iY Gg rfl w rfl [h,i] (hH.l7 F4) rfl) rfl ?_;exact⟨by simp,F3⟩
  . have aS:=SF.2 X;have hd:(decide (x=1)&&ko p ⟨h,i⟩)=false:=by rw[SL X];rfl
    have HD:=Zy hd;obtain⟨L,N,O,P⟩:=ak.o u.drew _ jg (D.at_.ext jg) rfl rfl;obtain⟨gz,x0,x1,-⟩:=I.ca;obtain⟨B,C,-⟩:=I.fz;have⟨Y,Z,F3,F4⟩:=jU L N O P;clear L N O P X hd;go_wp2_with fail;refine jW e 12 [([0,1,2,3,4,5,6,7,8],9),([10],11)] [] ?_ ?_
    . exact⟨jg,D.at_.ext jg⟩
    refine lJ ?_;intro d b;go_wp2_with fail;refine kk e b ⟨jg,D.at_.ext jg⟩ ?_;clear b d;refine lJ ?_;intro d b;go_wp2_with fail;refine kk e b ⟨Y,Z⟩ ?_;clear b d;refine ku ?_;go_wp2_with fail;refine Cv (iY Gg rfl w rfl [h,i] (hH.l7 F4) rfl) rfl ?_;exact⟨by rw[HD.o];rfl,F3⟩
 have V:=Zy az;clear az;clear G;refine qp e 14 (.two [0,1,2,3,4,7] 5 12 (.two [] 6 12 (.two [] 8 12 (.one [9,10,11] 12 (.one [] 13 (.fin []))) (.one [] 8 (.one [9,10,11] 13 (.fin [])))) (.one [] 6 (.one [] 8 (.one [9,10,11] 13 (.fin []))))) (.one [] 5 (.one [] 6 (.one [] 8 (.one [9,10,11] 13 (.fin [])))))) ?_ ?_
 . exact a
 refine two [_,_,_,_,_,_] rfl rfl rfl fun aa G=>?_;(repeat (go_big_quiet_step (fail)));((refine F5 G (fun d b=>?_) fun d b=>?_)<;>clear G aa)
 . go_wp2_with fail;refine(kX _ _ _ _ _ _ _ _ (s.oQ a.kp a.at_) r c J).mono ?_;rintro m wc ⟨rfl,j⟩;replace a:=Zy (a.ext j);clear j;go_wp2_with fail;refine kk e b a ?_;clear b d;refine Fw rfl rfl (fun d b=>?_) fun d b=>?_
   . go_wp2_with fail;refine(mZ c.f.of.of.keeper (((s.oQ a.kp a.at_).at_ J).blk.c 0 _ rfl)).mono ?_;rintro m we ⟨rfl,rfl⟩;go_wp2_with fail;refine kk e b a ?_;clear b d;refine Fw rfl rfl (fun d b=>?_) fun d b=>?_
     . go_wp2_with fail;refine(K _ a).mono ?_;rintro m wc ⟨rfl,j⟩;replace a:=Zy (a.ext j);clear j;go_wp2_with fail;refine kk e b a ?_;clear b d;refine Bi ?_;intro d b;go_wp2_with fail;refine kk e b (a.ext (jw _)) ?_;clear b d;refine jX rfl fun d b=>?_;go_wp2_with fail;refine kk e b (a.ext (jw _)) ?_;clear b d;have t:(q:Nat)<=wc:=a.kp.size;have f:=Zy (hZ.new (wc) 60 #[h,i]);replace a:=Zy (a.ext (jw (.cells #[h,i] 60)));clear e R;refine kL ?_;go_wp2_with fail;exact V _ _ a f t
     . go_wp2_with fail;refine kk e b (a.ext (jw _)) ?_;clear b d;have t:=a.kp.size;have f:Zz (hZ (wc.alloc (.cells #[Tc, ""] 60)) wc 60 #[Tc, ""]):=Zy (hZ.new _ _ _);replace a:=Zy (a.ext (jw (.cells #[Tc, ""] 60)));refine jX rfl fun d b=>?_;go_wp2_with fail;refine(K _ a).mono ?_;rintro m wc ⟨rfl,j⟩;replace f:=Zy (f.ext j);replace a:=Zy (a.ext j);clear j;go_wp2_with fail;refine kk e b a ?_;clear b d;refine Bi ?_;intro d b;obtain⟨U,S,T,-⟩:=f.ca;obtain⟨B,C,-⟩:=f.fz;go_wp2_with fail;replace a:=Zy (LC.set2 a t h i ah);replace f:=Zy (f.set2 h i);refine kk e b a ?_;clear b d;clear S T B C U;clear e R;refine kL ?_;go_wp2_with fail;exact V _ _ a f t
   . go_wp2_with fail;refine kk e b (a.ext (jw _)) ?_;clear b d;have t:=a.kp.size;have f:Zz (hZ (wc.alloc (.cells #[Tc, ""] 60)) wc 60 #[Tc, ""]):=Zy (hZ.new _ _ _);replace a:=Zy (a.ext (jw (.cells #[Tc, ""] 60)));refine jX rfl fun d b=>?_;go_wp2_with fail;refine(mZ c.f.of.of.keeper (((s.oQ a.kp a.at_).at_ J).blk.c 0 _ rfl)).mono ?_;rintro m we ⟨rfl,rfl⟩;go_wp2_with fail;refine kk e b a ?_;clear b d;refine jX rfl fun d b=>?_;go_wp2_with fail;refine(K _ a).mono ?_;rintro m wc ⟨rfl,j⟩;replace f:=Zy (f.ext j);replace a:=Zy (a.ext j);clear j;go_wp2_with fail;refine kk e b a ?_;clear b d;refine Bi ?_;intro d b;obtain⟨U,S,T,-⟩:=f.ca;obtain⟨B,C,-⟩:=f.fz;go_wp2_with fail;replace a:=Zy (LC.set2 a t h i ah);replace f:=Zy (f.set2 h i);refine kk e b a ?_;clear b d;clear S T B C U;clear e R;refine kL ?_;go_wp2_with fail;exact V _ _ a f t
 . go_wp2_with fail;refine kk e b (a.ext (jw _)) ?_;clear b d;have t:(q:Nat)<=q:=a.kp.size;have f:Zz (hZ (q.drew.alloc (.cells #[Tc, ""] 60)) q 60 #[Tc, ""]):=Zy (hZ.new _ _ _);replace a:=Zy (a.ext (jw (.cells #[Tc, ""] 60)));refine jX rfl fun d b=>?_;go_wp2_with fail;refine(kX _ _ _ _ _ _ _ _ (s.oQ a.kp a.at_) r c J).mono ?_;rintro m wc ⟨rfl,j⟩;replace f:=Zy (f.ext j);replace a:=Zy (a.ext j);clear j;go_wp2_with fail;refine kk e b a ?_;clear b d;refine jX rfl fun d b=>?_;go_wp2_with fail;refine(mZ c.f.of.of.keeper (((s.oQ a.kp a.at_).at_ J).blk.c 0 _ rfl)).mono ?_;rintro m we ⟨rfl,rfl⟩;go_wp2_with fail;refine kk e b a ?_;clear b d;refine jX rfl fun d b=>?_;go_wp2_with fail;refine(K _ a).mono ?_;rintro m wc ⟨rfl,j⟩;replace f:=Zy (f.ext j);replace a:=Zy (a.ext j);clear j;go_wp2_with fail;refine kk e b a ?_;clear b d;refine Bi ?_;intro d b;obtain⟨U,S,T,-⟩:=f.ca;obtain⟨B,C,-⟩:=f.fz;go_wp2_with fail;replace a:=Zy (LC.set2 a t h i ah);replace f:=Zy (f.set2 h i);refine kk e b a ?_;clear b d;clear S T B C U;clear e R;refine kL ?_;go_wp2_with fail;exact V _ _ a f t
theorem Hy:Elem 35 63 3:=kP (z:=.agg #[Tc, "",()]) (bytes:=48) underlying35 Zo rfl Zn Zn
theorem l6.relabel{d f:Own}(c:l6 w d a r e k v n xs)(i:∀b r,d b=some r->f b=some r):l6 w f a r e k v n xs:=
 ⟨c.row,fun g h=>i g r (c.role g h)⟩
theorem qy.relabel{f g:Own}{c:GC}(a:qy w l p f d i c)(b:∀e h,f e=some h->g e=some h):qy w l p g d i c:=
 ⟨a.blk,b _ _ a.role,a.low,a.ml,a.loc.relabel b,a.kH.relabel b⟩
theorem jm.relabel{h d:Own}{g:Gh}(a:jm w l p h e f lk g)(c:∀b i,h b=some i->d b=some i)(m:∀b,d b≠none->e<=b/\b<w.heap.size)(n:Hl w d):jm w l p d e f lk g:=
 ⟨a.kr,a.hB,a.blk,c _ _ a.role,a.low,a.calls.relabel c,fun q j k=>(a.call q j k).relabel c,a.heap.relabel c,fun r s o=>(a.obj r s o).relabel c,a.outs.relabel c,m,a.good,n⟩
theorem jm.QB{n: World}{t:Own}{g:Gh}(a:jm w l p t o f lk g)(j:qG)(r:Value)(O:l6 w t o (7,g.os.length) 37 2 r j.fields.length (j.fields.flatMap jY))
    (d h:Nat) (N:n.ownsRow o 63 3 (d,g.os.length+1,h) (g.os.length+1) (g.os.flatMap qd++[.int .i64 j.of.keeper,.string j.of.name,r])) (B:Kp (fun b=>g.vh.ownBlock=some b) w n) (A:g.vh.ownBlock=some d\/w<=d)
    (H:M.Good p ({g with os:=g.os++[⟨j,r⟩],vh:=(d,g.os.length+1,h)}:Gh).st):
    Kp (MO l t) w (n.setCell (f,4) (d,g.os.length+1,h))/\∃F,nA w t F/\jm (n.setCell (f,4) (d,g.os.length+1,h)) l p F o f lk {g with os:=g.os++[⟨j,r⟩],vh:=(d,g.os.length+1,h)}:=by
 have y:Kp (·=f) n (n.setCell (f,4) (d,g.os.length+1,h)):=nH;obtain⟨q,v⟩:=SS (n.setCell (f,4) (d,g.os.length+1,h));have C:g.vh.ownBlock≠some f:=fun c=>by have:=a.heap.role _ c;rw[a.role]at this;cases this
 have I:hZ q f 170 (yl l lk {g with os:=g.os++[⟨j,r⟩],vh:=(d,g.os.length+1,h)}):=by rw[v];exact(a.blk.kp B C).jy 4 _
 have L:d≠f:=fun c=>by
  subst c;rcases A with u|u
  . exact C u
  . have:=a.blk.lt;omega
 have D:q.ownsRow o 63 3 (d,g.os.length+1,h) (g.os.length+1) (g.os.flatMap qd++[.int .i64 j.of.keeper,.string j.of.name,r]):=by
  rw[v];exact jb N y (fun m e _ c=>L (by cases e;exact c))
 rw[<-v]at y |-;clear v;have i:Kp (PO t fun m=>m=(0,0)\/m=(2,0)) w q:=(B.weak fun b _ c=>⟨_,a.heap.role b c,.inr rfl⟩).trans (y.weak fun b _ c=>⟨_,by rw[c];exact a.role,.inl rfl⟩);have k:=Own.yI (by
  rcases A with u|u
  . exact .inl (a.heap.role _ u)
  . exact .inr Zm)
 have K:∀b,t.add d (2,0) b≠none->o<=b/\b<q.heap.size:=fun b s=>by
  by_cases c:b=d
  . subst c;exact D.lt b rfl
  . rw[Own.lY _ c]at s;exact a.zO i.size b s
 refine⟨i.weak fun b _ c=>c.mo,_,k,a.FU i,a.hB,I,(k _ a.blk.lt).trans a.role,a.low,a.calls.xL i k Zl,fun z G J=>(a.call z G J).xL i k Zl a.yg,⟨?_,fun m e=>?_⟩,?_,a.outs.xL i k Zl,K,H,a.xU.kp i (fun b z s ⟨m,h1,h2⟩=>by rw[s]at h1;cases h1;simp at h2) fun b z s=>Own.GN Zl s⟩
 . simpa [qd]using D
 . cases e;exact Own.add_eq _ _ _
 . intro E m e;simp only at e;rcases V3 E g.os.length with x|x|x
   . rw[Te x]at e;exact(a.obj E m e).xL i k Zl
   . subst x;simp at e;subst e;exact O.xL i k Zl
   . rw[U9 Zr]at e;cases e
theorem Cm (w : World) (l : jk) (p : iZ) (y : Own) (Q H : Nat) (lk : Bool) {g: Gh} (R : jm w l p y Q H lk g) (r : Ref) (hr : ko p r = true) (bW : g.os.length < 12) :Calls prog 88 #[some H,.agg #[.int .i64 r.keeper,.string r.name]] w (jZ w l p y Q H lk (.agg #[.int .i64 2,g.os.length]) (create p r g.st).2):=by
 obtain⟨f,h⟩:=r;obtain⟨I,Z⟩:=SS (((w.alloc (.cells #[f,h] 60)).alloc (.cells #[Tc,Tc] 37)).alloc (.cells #[f,h,()] 63));have aD:Ext w I:=by rw[Z];exact kx
 have b3:hZ I w 60 #[f,h]:=by rw[Z];exact(hZ.new _ _ _).ext kx
 have b4:hZ I (w+1) 37 #[Tc,Tc]:=by rw[Z];exact(hZ.newAt (W:=w.alloc (.cells #[f,h] 60)) (g:=w.heap.size+1) _ _ Zl).ext kx
 have b5:hZ I (w+2) 63 #[f,h,()]:=by rw[Z];exact hZ.newAt _ _ Zl
 have dx:=R.kr.lt;have dn:=R.kr.ET;have⟨HA,bI,bE,bF,aO,bQ,n⟩:=qA (R.ext aD) aD b3 b4 b5 Z R;clear R aD b3 b4 b5 Z;go_enter func88,ntmps88;go_wp2_with fail;rw[<-bQ.o];obtain⟨aS,A,bu,q⟩:=qC.ex (fun W'=>LC l p I W') _ (LC.refl HA.kr);have bS:¬w=l.D:=Zm
 have rm:=fun D=>(HA.oQ (q.jv D).kp (q.jv D).at_).blk.c 0 (some l.L) rfl;obtain⟨-,cO,cZ,-⟩:=hZ.lC fun D=>(bE.kp (q.jv D).kp bS);have j:=Zy q;clear q;refine jW j 8 [([0,1,2,3,4,7],5)] [6] ?_ ?_
 . exact(LC.refl HA.kr).drew
 refine lJ ?_;intro i d;go_wp2_with fail;refine(wN (HA.kr.ext jg) ⟨f,h⟩).mono ?_;rintro b z ⟨⟨bC,rfl,S⟩,aX,aW⟩;obtain⟨fa,dm,rfl,hn,dz⟩:=S.form;have⟨T,HS⟩:=jf ((LC.refl HA.kr).drew.step aX aW) S;clear S aX aW;go_wp2_with fail;refine kk j d T ?_;clear d i;clear j rm cO cZ;refine rC ?_;have dI:=T.kp.size;have dH:w.heap.size+3<=(I:Nat):=SX aO.lt
 have bH:=Zy (aO.kp T.kp Zm);have ax:Zz (fresh p ⟨f,h⟩=⟨⟨f,h⟩,(layout p ⟨f,h⟩).map fun A=>if A.kind.kind=1 then mM 0 else qQ⟩):=Zy rfl;have bV:(layout p ⟨f,h⟩).length<=1000:=by
  have h1:=rU n.kr.ok (chain p ⟨f,h⟩).reverse;have h2:=vR p ⟨f,h⟩;unfold layout;rw[Tv hr];rw[Va]at h1;omega
 obtain⟨k,aJ⟩:∃k,layout p ⟨f,h⟩=k:=⟨_,rfl⟩;rw[aJ]at HS ax bV;simp only[aJ];clear aJ;go_wp2;go_loopw [17] (fun C wr=>∃(c:Nat) (fv:Value),c<=k.length/\C=.int .i64 c/\Kp (·=w+2) z wr/\hZ wr (w+2) 63 #[f,h,fv]/\
     wr.ownsRow z 37 2 fv c (((k.take c).map fun A=>if A.kind.kind=1 then mM 0 else qQ).flatMap jY)) (fun C _=>k.length - (intOf C).toNat)
 case atStart=>exact⟨0,(),SV _,rfl,Kp.rr,bH,Tf _ _ _ _⟩
 case round =>
  obtain⟨c,fv,hq,rfl,L,aa,O⟩:=hrel;obtain⟨t,u,rfl⟩:=jA O;by_cases bX:c<k.length
  . obtain⟨⟨⟨xk,xn⟩,xa,kq,kn⟩,hx⟩:=om k c bX;obtain⟨a,cB,cs,rfl,aV,rfl,-,aZ⟩:=HS.get hx;have dw:I.heap.size<=a:=aV;have X:hH wr a (cB+c*5) _:=fun cz bC hj=>L.lL (aZ cz bC hj) Zm;have g0:=X 0 xk rfl;have g1:=X 1 xn rfl;have g2:=X 2 xa rfl;have g3:=X 3 kq rfl;have g4:=X 4 kn rfl;rw[U3]at g0;have gz:=jc g0;have dE:(c:Int)<k.length:=Zm
    have dG:IntKind.i64.wrap ((c:Int)+1)=c+1:=TK _ Zm;obtain⟨J,aM⟩:=SS (wr.alloc (.cells #[xk,xn,xa,kq,kn] 211));have ae:Ext wr J:=by rw[aM];exact kx
    have Y:¬(Value.slice t c u).ownBlock=some (w.heap.size+2):=fun b=>SX ((O.lt _ b).1)
    obtain⟨aS,A,bu,q⟩:=qC.ex (fun W'=>Kp (fun a=>(Value.slice t c u).ownBlock=some a) J W') _ Kp.rr;have r2:=fun D=>((aa.ext ae).kp (q.jv D) Y).c 2 (.slice t c u) rfl;have⟨j,aR,aP,aQ,U,ay,HX⟩:=qA q aM (aa.ext ae) Y (jb (D:=fun _=>False) O ae fun _ _ _ K=>K) (L.trans ae.any) hx;have dJ:z.heap.size<=J:=ay.size;clear q aM ae aa Y O L hx aZ X aV;by_cases au:kq=1
    . subst au;go_wp2_with fail;rw[<-aR.o];refine jW j 5 [([0,1],2),([],3),([],4)] [] ?_ ?_
      . exact jg
      refine lJ ?_;intro i d;go_wp2_with fail;refine(CY 0).mono ?_;rintro b w5 ⟨rfl,af⟩;have s:=Zy (((Kp.refl _ J).drew:Ext J _).trans af);clear af;go_wp2_with fail;refine kk j d s.any ?_;clear d i;refine kN rfl fun i d=>?_;go_wp2_with fail;refine kk j d (s.alloc _).any ?_;clear d i;refine kN rfl fun i d=>?_;refine jo rQ rfl (.tmp 26) (.tmp 28) rfl z (.slice t c u) c _ rfl (jb (D:=fun _=>False) U (s.alloc _) fun _ _ _ K=>K) w5 1 (jY (mM 0)) rfl rfl (hH.nL _ _ rfl) (wQ _) Zm (by have:=s.size;simp;omega) ?_;intro m x v N E G;change i _ _;have o:=(s.alloc _).any.trans E;refine kk j d o ?_;clear d i;have F:=aP.kp o aQ;obtain⟨hz,-,-,x2,-⟩:=F.ca;have f2:=F.frozen 2;have aA:Zz ((v.ownsRow z 37 2 (m,c+1,x) (c+1) (((k.take (c+1)).map fun A=>if A.kind.kind=1 then mM 0 else qQ).flatMap jY))/\Kp (·=w+2) z v/\hZ v (w+2) 63 #[f,h,.slice t c u]/\m≠w+2):=Zy (by
       refine⟨?_,?_,F,?_⟩
       . rw[TQ,HX.o];simpa [mM,jY]using N
       . exact(ay.own o (fun a b=>U.lt a b |>.1))
       . rcases G with b|b
         . have:=(U.lt m b).1;omega
         . have:=s.size;simp at b;omega)
      clear j r2 F N E G o;refine ku ?_;go_wp2_with fail;have B:Kp (·=w+2) v (v.setCell ⟨w+2,2,none⟩ (m,c+1,x)):=nH;obtain⟨q1,q2,q3,q4⟩:=aA.o;exact⟨⟨c+1,(m,c+1,x),Zm,by go_num,q2.trans B,q3.jy 2 _,jb q1 B (fun a e _ b=>q4 (by cases e;exact b))⟩,by simp[intOf];omega⟩
    . have dA:=SF.2 au;have bK:=Zy au;clear au;go_wp2_with fail;rw[<-aR.o];refine jW j 5 [([0,1],2),([],3),([],4)] [] ?_ ?_
      . exact jg
      refine lJ ?_;intro i d;go_wp2_with fail;refine(IE).mono ?_;rintro b w5 ⟨rfl,af⟩;have s:=Zy (((Kp.refl _ J).drew:Ext J _).trans af);clear af;go_wp2_with fail;refine kk j d s.any ?_;clear d i;refine kN rfl fun i d=>?_;go_wp2_with fail;refine kk j d (s.alloc _).any ?_;clear d i;refine kN rfl fun i d=>?_;refine jo rQ rfl (.tmp 32) (.tmp 34) rfl z (.slice t c u) c _ rfl (jb (D:=fun _=>False) U (s.alloc _) fun _ _ _ K=>K) w5 1 (jY qQ) rfl rfl (hH.nL _ _ rfl) (wQ _) Zm (by have:=s.size;simp;omega) ?_;intro m x v N E G;change i _ _;have o:=(s.alloc _).any.trans E;refine kk j d o ?_;clear d i;have F:=aP.kp o aQ;obtain⟨hz,-,-,x2,-⟩:=F.ca;have f2:=F.frozen 2;have aA:Zz ((v.ownsRow z 37 2 (m,c+1,x) (c+1) (((k.take (c+1)).map fun A=>if A.kind.kind=1 then mM 0 else qQ).flatMap jY))/\Kp (·=w+2) z v/\hZ v (w+2) 63 #[f,h,.slice t c u]/\m≠w+2):=Zy (by
       refine⟨?_,?_,F,?_⟩
       . rw[TQ,HX.o];simpa [qQ,jY,bK.o]using N
       . exact(ay.own o (fun a b=>U.lt a b |>.1))
       . rcases G with b|b
         . have:=(U.lt m b).1;omega
         . have:=s.size;simp at b;omega)
      clear j r2 F N E G o;refine ku ?_;go_wp2_with fail;have B:Kp (·=w+2) v (v.setCell ⟨w+2,2,none⟩ (m,c+1,x)):=nH;obtain⟨q1,q2,q3,q4⟩:=aA.o;exact⟨⟨c+1,(m,c+1,x),Zm,by go_num,q2.trans B,q3.jy 2 _,jb q1 B (fun a e _ b=>q4 (by cases e;exact b))⟩,by simp[intOf];omega⟩
  . have bZ:c=k.length:=Zm
    subst bZ;rw[TC]at O;have aF:(fresh p ⟨f,h⟩).fields.length=k.length/\(fresh p ⟨f,h⟩).of=⟨f,h⟩:=by rw[ax.o];simp
    have aG:=(bI.any.trans T.kp).own L (fun a b=>Zm);have aY:=T.at_.kp L (fun a e b=>Zm);have ag:=n.oQ aG aY;obtain⟨P,bB,bf,bz,bg,bR⟩:∃P:Own,(∀a r,y a=some r->P a=some r)/\(∀a,P a≠none->Q<=a/\a<wr.heap.size)/\(∀a,(Value.slice t k.length u).ownBlock=some a->P a=some (7,g.os.length))/\(∀a,a<z.heap.size->P a=y a)/\∀a C,P a=some (4,C)->y a=some (4,C):=by
     have aT:Q<=w:=by have:=(n.dom H (by rw[n.o.role];simp)).2;have:=n.low;omega
     cases b:(Value.slice t k.length u).ownBlock with
     |none=>exact⟨y,fun _ _ R=>R,ag.dom,(fun a e=>by cases e),(fun _ _=>rfl),fun _ _ K=>K⟩
     | some qb =>
      have bY:=O.lt qb b;have cu:y qb=none:=by
       cases e2:y qb with
       |none=>rfl
       |some r=>have:=(n.dom qb (by rw[e2];simp)).2;omega
      refine⟨y.add qb (7,g.os.length),fun a r e=>?_,fun a e=>?_,(fun a e=>by cases e;exact Own.add_eq _ _ _),(fun a e=>Own.lY _ Zm),fun a C e=>Own.GN Zl e⟩
      . rw[Own.lY _ (fun e3=>by subst e3;rw[cu]at e;cases e)];exact e
      . by_cases e3:a=qb
        . subst e3;exact⟨Zm,bY.2⟩
        . rw[Own.lY _ e3]at e;exact ag.dom a e
    have V:=ag.relabel bB bf fun a C e=>ag.xU a C (bR a C e);have aT:Q<=z:=by have:=(n.dom H (by rw[n.o.role];simp)).2;have:=n.low;omega
    have bA:l6 wr P Q (7,g.os.length) 37 2 (.slice t k.length u) (fresh p ⟨f,h⟩).fields.length ((fresh p ⟨f,h⟩).fields.flatMap jY):=by
     rw[aF.1,ax.o];exact⟨lV O aT,bz⟩
    obtain⟨ha,aI,aK⟩:=V.heap.form;have aL:¬g.vh.ownBlock=some H:=fun b=>by have:=V.heap.role _ b;rw[V.role]at this;cases this
    have Y:¬g.vh.ownBlock=some (w.heap.size+2):=fun b=>SX ((n.heap.blk b).2)
    obtain⟨aS,A,bu,q⟩:=qC.ex (fun W'=>Kp (fun a=>g.vh.ownBlock=some a) wr W') _ Kp.rr;have rm:=fun D=>(V.blk.kp (q.jv D) aL).c 4 (.slice ha g.os.length aI) (by rw[<-aK];rfl);obtain⟨-,df,dh,di,-⟩:=hZ.lC fun D=>(aa.kp (q.jv D) Y);have⟨j,az,bO,ai,aB,bM,aN,bP,bJ⟩:=sV q V bA bg aK aG ((bF.kp T.kp Zm).kp L Zm) aL aF;have dK:=L.size;clear q V bA bg aK aG aY ag bB bf bz L aa O aL Y aF;go_wp2_with fail;refine jW j 8 [([0,1,2,3,4,5],6),([],7)] [] ?_ ?_
    . exact jg
    refine lJ ?_;intro i d;go_wp2_with fail;refine kk j d kx ?_;clear d i;refine kN rfl fun i d=>?_;refine jo Hy rfl (.tmp 42) (.tmp 44) rfl Q (.slice ha g.os.length aI) g.os.length (g.os.flatMap qd) rfl (by rw[<-aB.o];exact jb (D:=fun _=>False) az.heap.row kx fun _ _ _ K=>K) wr 1 [f,h,.slice t k.length u] rfl rfl (hH.Fh _ _ rfl) Zt Zm Zr ?_;intro m x v N E G;change i _ _;rw[<-aB.o]at E G;have o:=(kx:Ext wr _).any.trans E;refine kk j d o ?_;clear d i;have av:=az.blk.kp o bP;have x4:=av.c 4 (.slice ha g.os.length aI) (by rw[<-aB.o];rfl);have f4:=av.frozen 4;have hz:=av.lt;have S:({g with os:=g.os++[⟨fresh p ⟨f,h⟩,.slice t k.length u⟩],vh:=(m,g.os.length+1,x)}:Gh).st=(create p ⟨f,h⟩ g.st).2:=by simp[Gh.st,create]
    obtain⟨aj,cK,aH,ak⟩:=az.QB (fresh p ⟨f,h⟩) (.slice t k.length u) bO m x (by rw[bJ.o.2];exact N) o (by
     rcases G with b|b
     . exact .inl b
     . right;simp at b;omega) (by rw[S];exact n.good.grow hr (by simpa [Gh.st]using bW))
    have bq:cK (w+1)=none:=by
     rw[aH _ Zm,ai.o _ Zm];cases b:y (w+1)with
     |none=>rfl
     |some r=>have:=(n.dom _ (by rw[b];simp)).2;omega
    obtain⟨W,hW⟩:=SS (v.setCell (H,4) (m,g.os.length+1,x));rw[<-hW]at aj ak;have y4:=ak.blk.c 4 (m,g.os.length+1,x) rfl;have⟨HW,bL,ah,bD,bN⟩:=ni hW aj ak aH bq;have bn:P (w+1)=none:=by
     rw[ai.o _ Zm];cases b:y (w+1)with
     |none=>rfl
     |some r=>have:=(n.dom _ (by rw[b];simp)).2;omega
    have aU:=aN.kp aj (fun b=>by
     rcases b with b|b
     . omega
     . exact b bn)
    have aC:=aN.kp o (fun b=>SX ((n.heap.blk b).2));obtain⟨zz,z0,z1,-⟩:=aC.ca;obtain⟨dL,dM,-⟩:=aC.fz;have dB:=n.blk.lt;have dC:¬H=w+1:=Zm
    have dD:¬w+1=H:=Zm
    have⟨bG,HS⟩:=jf aU S;have dF:IntKind.i64.wrap ((g.os.length:Int)+1 - 1)=g.os.length:=by rw[TK _ Zm];omega
    clear aj ak aH bq bn aU aC y4 N E G o av j rm df dh di S hW;refine ku ?_;go_wp2_with fail;rw[<-HW.o];have B:Kp (·=w+1) W ((W.setCell ⟨w+1,0,none⟩ (.int .i64 2)).setCell ⟨w+1,1,none⟩ g.os.length):=nH;refine Cv (jE Ai rfl (w+1) rfl [.int .i64 2,g.os.length] (hH.l7 (bG.set2 _ _)) rfl) rfl ?_;have bT:=ah.kr.kp B (fun a e b=>Zm);have bU:=ah.keep B (nA.refl _ _) (ah.zO B.size) bT (fun a e b=>by subst b;exact e bN) (fun a e b=>SX ah.kr.ord);refine jZ.mk' ?_ (fun a e=>?_) bU HS
    . refine Kp.own (D':=(·=w+1)) ?_ B (fun a b=>Zm);exact(bM.weak fun a _ b=>.inl b).mo (bL) (fun a e=>ai.o a Zm)
    . rw[bD.o a Zm,ai.o a Zm]
section
variable {w w':World} {l:jk} {p:M.iZ} {own:Own} {B mb:Nat} {lk:Bool} {g:Gh} {r:List GC} {c:GC}
theorem jm.fresh(c:jm w l p own B mb lk g){b:Nat}(d:w<=b):¬MO l own b:=by
 rintro(a|a)
 . have:=c.kr.ET;omega
 . have:=(c.dom b a).2;omega
def Gh.kH(g:Gh)(r:List GC)(c:GC)(st:List Val)(vs:Value):Gh:={g with cs:=r++[{c with f:={c.f with stack:=st},vs:=vs}]}
theorem Gh.Ro(st:List Val)(vs:Value):(g.kH r c st vs).st={g.st with frames:=r.map GC.f++[{c.f with stack:=st}]}:=by simp[Gh.kH,Gh.st]
theorem Gh.nk(b:g.cs=r++[c]){n:Nat}{st vs:List Val}(a:c.f.stack=st++vs)(e:vs.length=n)(vs':Value):M.nk n g.st=some (vs,(g.kH r c st vs').st):=by
 unfold M.nk;have d:c.f.stack.length - n=st.length:=by rw[a];simp;omega
 rw[Gh.top b,pO (Gh.fr b),Tt (by rw[a];simp;omega),d,Gh.Ro,a];simp
theorem Gh.zb(a:g.cs=r++[c]){n:Nat}(b:c.f.stack.length<n):M.nk n g.st=none:=by
 unfold M.nk;rw[Gh.top a,Tv b]
theorem Gh.pop(a:g.cs=r++[c]){st:List Val}{v:Val}(b:c.f.stack=st++[v])(vs':Value):M.pop g.st=some (v,(g.kH r c st vs').st):=by
 unfold M.pop;rw[Gh.nk a (n:=1) b rfl vs'];rfl
theorem Gh.zV(a:g.cs=r++[c])(b:c.f.stack=[]):M.pop g.st=none:=by
 unfold M.pop;rw[Gh.zb a (by rw[b];simp)];rfl
theorem jm.popped(e:jm w l p own B mb lk g)(j:g.cs=r++[c]){a:Option Addr}{n k:Nat}{st:List Val}(o:c.vs=.slice a (st.length+n) k)(m:∃vs,c.f.stack=st++vs/\vs.length=n)(L:0<n)(s:hZ w' c.cb 176 ((Bp p c).setIfInBounds 13 (.slice a st.length k)))(i:Kp (·=c.cb) w w'):Kp (MO l own) w w'/\jm w' l p own B mb lk (g.kH r c st (.slice a st.length k)):=by
 obtain⟨vs,m,H⟩:=m;have d:=e.at_ j;have G:c.f.stack.length=st.length+n:=by rw[m];simp[H]
 have y:=d.kH.row;rw[o,G]at y;obtain⟨t,N,b,-⟩:=jT y Zm;cases b;have z:=BI y (j:=st.length) Zm;rw[m,Bt (enc:=jY) (k:=2) (fun _=>rfl)]at z;have D:c.vs.ownBlock≠some c.cb:=fun b=>by have:=d.kH.role _ b;rw[d.role]at this;cases this
 have h:=jD.1 (e.Du j);obtain⟨E,O,K,F⟩:=e.setStack j st (t,st.length,k) s (jb z i (fun g v _ b=>D (by rw[o];subst b;exact v))) (fun u A=>.inl (by rw[o];exact A)) (i.weak fun q _ b=>.inl b) (by
  rw[show({g with cs:=r++[{c with f:={c.f with stack:=st},vs:=(t,st.length,k)}]}:Gh).st={g.st with frames:=r.map GC.f++[{c.f with stack:=st}]}from by simp[Gh.st]];refine e.good.turn (Gh.fr j) (jD.2 ⟨h.1,h.2.1,h.2.2.1,h.2.2.2.1,?_,h.2.2.2.2.2.1,fun J I=>h.2.2.2.2.2.2 J (by rw[m];simp[I])⟩);have:=h.2.2.2.2.1;simp only;omega)
 refine⟨E,?_⟩;have x:Kp (PO own (·=(4,r.length))) w w':=i.weak fun q _ b=>⟨_,by rw[b];exact d.role,rfl⟩;have C:=nA.refl w own;refine e.G5 j rfl (x.weak fun q _ ⟨t,e1,e2⟩=>⟨t,e1,.inl e2⟩) C (e.zO i.size) ⟨s,d.role,d.low,jM.kp jd.stays x (fun q s=>e.yg q s) d.ml,d.loc.xL x C Zl,⟨?_,fun u A=>d.kH.role u (by rw[o];exact A)⟩⟩ F.good i (fun _ _ _ b=>b) fun _ _ u=>u;exact jb z i (fun g v _ b=>D (by rw[o];subst b;exact v))
end
theorem vY{i:Own}{g:Gh}(b:jm w l p i f k lk g)(r:List GC)(c:GC)(e:g.cs=r++[c])(st:List Val)(v:Val)(h:c.f.stack=st++[v]):Calls prog 164 #[some (c.cb,13)] w fun a j=>a=.returned (.tuple #[.agg #[v.kind,v.n],.bool true])/\Kp (MO l i) w j/\∃x,jm j l p i f k lk (g.kH r c st x):=by
 have d:=b.at_ e;have s:=jD.1 (b.Du e);have z:=(b.mi e).stack;have A:=s.2.2.2.2.1;have t:c.f.stack.length=st.length+1:=by rw[h];simp
 refine(Om w c.cb 13 f c.vs st.length st v d.blk rfl (by rw[<-h,<-t];exact d.kH.row) rfl Zm (fun a=>by have:=d.kH.role _ a;rw[d.role]at this;cases this)).mono ?_;rintro a j ⟨rfl,⟨y,B,u,q⟩,o⟩;obtain⟨m,n⟩:=b.popped e u ⟨[v],h,rfl⟩ Zm q o;exact⟨rfl,m,_,n⟩
theorem ru{m:Own}{g:Gh}(f:jm w l p m d k lk g)(r:List GC)(c:GC)(h:g.cs=r++[c])(i:c.f.stack=[]):Calls prog 164 #[some (c.cb,13)] w fun a n=>a=.returned (.tuple #[.agg #[Tc,Tc],.bool false])/\Ext w n:=by
 have b:=f.at_ h;obtain⟨e,j,a⟩:=b.kH.form;rw[i]at a;exact Ol w c.cb 13 c.vs b.blk rfl ⟨e,j,a⟩
theorem Cn{m:Own}{v: Nat}{g:Gh}(b:jm w l p m i v lk g)(r:List GC)(c:GC)(e:g.cs=r++[c])(st vs:List Val)(n:Nat)(k:c.f.stack=st++vs)(q:vs.length=n)(s:0<n):Calls prog 166 #[some (c.cb,13),n] w fun a h=>∃f,a=.returned (.tuple #[f,.bool true])/\h.ownsRow w 37 2 f n (vs.flatMap jY)/\Kp (MO l m) w h/\∃C,jm h l p m i v lk (g.kH r c st C):=by
 have d:=b.at_ e;have B:=jD.1 (b.Du e);have E:=(b.mi e).stack;have F:=B.2.2.2.2.1;have j:c.f.stack.length=st.length+n:=by rw[k];simp[q]
 refine(o9 w c.cb 13 i _ _ c.vs c.f.stack.length c.f.stack d.blk rfl d.kH.row rfl n Zm s Zm (fun a=>by have:=d.kH.role _ a;rw[d.role]at this;cases this)).mono ?_;rintro a h ⟨f,rfl,t,⟨D,G,u,o⟩,A⟩;rw[j]at u;rw[j,V7]at o;have x:c.f.stack.drop (c.f.stack.length - n)=vs:=by rw[j,V7,k,List.drop_left]
 rw[x]at t;obtain⟨y,z⟩:=b.popped e u ⟨vs,k,q⟩ s o A;exact⟨f,rfl,t,y,_,z⟩
theorem uH{k:Own}{g:Gh}(e:jm w l p k b j lk g)(r:List GC)(c:GC)(f:g.cs=r++[c])(n:Nat)(h:c.f.stack.length<n)(i:n<=1000):Calls prog 166 #[some (c.cb,13),n] w fun d m=>d=.returned (.tuple #[(),.bool false])/\w=m:=by
 have a:=e.at_ f;exact Cu w c.cb 13 c.vs _ a.blk rfl a.kH.form n h i
theorem QU{n:Own}{g:Gh}(h:jm w l p n d b lk g)(r:List GC)(c:GC)(m:g.cs=r++[c])(x:g.status=1)(i:Ins)(u:oP (M.method p c.f.of) i=true)(a:i.op=1):Calls prog 112 #[some b,.agg #[i.op,i.a,i.name,i.member]] w (jZ w l p n d b lk (.int .i64 (jH p lk i g.st).1) (jH p lk i g.st).2):=by
 have s:Zz (jH p lk i g.st=push p (mM i.a) g.st):=Zy (by unfold jH;rw[Tv a]);have v:=(qJ u).2.2.2.1 a;have⟨o,q⟩:=jf h m;clear h m a;go_enter func112,ntmps112;go_wp2_with fail;refine(CY i.a).mono ?_;rintro t y ⟨rfl,j⟩;have e:=Zy ((kx:Ext w _).trans j);clear j;go_wp2_with fail;refine(rV (o.ext e) r c q x (mM i.a) (pJ _ v)).mono ?_;rintro t z k;have f:=Zy (jZ.behind e k);obtain⟨rfl,-⟩:=k;rw[<-s.o]at f |-;go_wp2;go_ret;exact f
theorem Pf{n:Own}{g:Gh}(f:jm w l p n b a lk g)(r:List GC)(c:GC)(k:g.cs=r++[c])(u:g.status=1)(i:Ins)(m:i.op=5):Calls prog 116 #[some a,.agg #[i.op,i.a,i.name,i.member]] w (jZ w l p n b a lk (.int .i64 (jH p lk i g.st).1) (jH p lk i g.st).2):=by
 have s:Zz (jH p lk i g.st=push p qQ g.st):=Zy (by unfold jH;rw[m];rfl);have⟨o,q⟩:=jf f k;clear f k m;go_enter func116,ntmps116;go_wp2_with fail;refine(IE).mono ?_;rintro t v ⟨rfl,h⟩;have d:=Zy ((kx:Ext w _).trans h);clear h;go_wp2_with fail;refine(rV (o.ext d) r c q u qQ (Aa _)).mono ?_;rintro t x j;have e:=Zy (jZ.behind d j);obtain⟨rfl,-⟩:=j;rw[<-s.o]at e |-;go_wp2;go_ret;exact e
theorem RV{n:Own}{g:Gh}(h:jm w l p n d b lk g)(r:List GC)(c:GC)(m:g.cs=r++[c])(v:g.status=1)(i:Ins)(u:oP (M.method p c.f.of) i=true)(a:i.op=13):Calls prog 124 #[some b,.agg #[i.op,i.a,i.name,i.member]] w (jZ w l p n d b lk (.int .i64 (jH p lk i g.st).1) (jH p lk i g.st).2):=by
 have s:Zz (jH p lk i g.st=jump p i.a g.st):=Zy (by unfold jH;rw[a];rfl);have t:=((qJ u).2.2.1 (.inr (.inr a))).1;have j:Ext w (w.alloc (.cells #[i.op,i.a,i.name,i.member] 140)):=kx;have⟨e,o,q⟩:=jB j h m;clear h m a j;go_enter func124,ntmps124;go_wp2_with fail;refine(BC (o.ext e) r c q v i.a t).mono ?_;rintro x y k;have f:=Zy (jZ.behind e k);obtain⟨rfl,-⟩:=k;rw[<-s.o]at f |-;go_wp2;go_ret;exact f
theorem Ph{X:Own}{I: Nat}{g:Gh}(C:jm w l p X L I lk g)(r:List GC)(c:GC)(R:g.cs=r++[c])(T:g.status=1)(i:Ins)(S:oP (M.method p c.f.of) i=true)(n:i.op=11):Calls prog 122 #[.pointer (some ⟨I,0,none⟩),.agg #[.int .i64 i.op,.int .i64 i.a,.string i.name,.string i.member]] w (jZ w l p X L I lk (.int .i64 (jH p lk i g.st).1) (jH p lk i g.st).2):=by
 have HI:=Zy (qJ S);obtain⟨w0,V,D,B⟩:=nu w #[.int .i64 i.op,.int .i64 i.a,.string i.name,.string i.member] 140;have⟨af,h,N,aa,O,d⟩:=nE (C.fresh (T9 _)) (C.ext D) D B V R;have av:=B.lt;clear C D B V R S;rcases TN c.f.stack with b|⟨v,o,b⟩
 . have a:Zz (jH p lk i g.st=(10,g.st)):=Zy (by unfold jH;rw[n];simp only[Gh.zV d.o b];rfl);have z:=Zy b;clear b n;go_enter func122,ntmps122;go_wp2_with fail;rw[<-O.o];refine(kX _ _ _ _ _ _ _ _ h.o r c d.o).mono ?_;rintro k w1 ⟨rfl,e⟩;have⟨q,s⟩:=jf (h.o.ext e) (N.o.trans e);clear e;go_wp2_with fail;refine(ru q.o r c d.o z.o).mono ?_;rintro k Y ⟨rfl,E⟩;have⟨Z,ae⟩:=jf (q.o.ext E) (s.o.trans E);clear E;go_wp2;go_ret;rw[a.o];exact jZ.mk' (ae.o.alloc _).any (nA.refl _ _) (Z.o.ext kx) rfl
 . rw[TM]at b;have U:=(jD.1 (h.o.Du d.o)).2.2.2.2.2.2 o (by rw[b];simp);have aj:Zz (jS o g.os.length=true):=Zy (by simpa [Gh.st]using U);have a:Zz (∀f,jH p lk i g.st=if o.kind=1 then(if o.n=0 then jump p i.a (g.kH r c v f).st else next p (g.kH r c v f).st)else(10,(g.kH r c v f).st)):=Zy (fun f=>by unfold jH;rw[n];simp only[Gh.pop d.o b f];rfl);have⟨z,ag⟩:=jf b n;clear b n U;obtain⟨J,K⟩:=o;simp only at a;go_enter func122,ntmps122;go_wp2_with fail;rw[<-O.o];refine(kX _ _ _ _ _ _ _ _ h.o r c d.o).mono ?_;rintro k w1 ⟨rfl,e⟩;have⟨q,s⟩:=jf (h.o.ext e) e;clear e;go_wp2_with fail;refine(vY q.o r c d.o v ⟨J,K⟩ z.o).mono ?_;rintro k Y ⟨rfl,G,f,H⟩;replace a:=Zy (a.o f);obtain⟨w3,W,F,P⟩:=nu Y #[.int .i64 J,.int .i64 K] 37;have⟨y,x⟩:=jf (H.ext F) (((N.o.trans s.o).any.trans G).trans F.any);have Q:=(aa.o.ext s.o).kp G af.o;obtain⟨yz,-,y1,-⟩:=Q.ca;have⟨A,ah,ai⟩:=jB W P (H.fresh (T9 _));clear F P G H Q W;by_cases t:J=1
   . subst t;by_cases u:K=0
     . subst u;replace a:=Zy (a.o.trans (Tv rfl));replace a:=Zy (a.o.trans (Tv rfl));go_wp2_with fail;rw[<-A.o];refine(BC y.o r _ rfl T i.a (HI.o.2.2.1 (.inl ag.o)).1).mono ?_;rintro k w4 m;have j:=Zy (jZ.after x.o (nA.refl _ _) m);obtain⟨rfl,-⟩:=m;rw[<-a.o]at j |-;go_wp2;go_ret;exact j.o
     . have au:=SF.2 u;replace a:=Zy (a.o.trans (Tv rfl));replace a:=Zy (a.o.trans (Tt u));clear u;go_wp2_with fail;rw[<-A.o];refine(uy y.o r rfl T).mono ?_;rintro k w4 m;have j:=Zy (jZ.after x.o (nA.refl _ _) m);obtain⟨rfl,-⟩:=m;rw[<-a.o]at j |-;go_wp2;go_ret;exact j.o
   . have ak:=TI.2 t;replace a:=Zy (a.o.trans (Tt t));clear t;go_wp2;go_ret;rw[a.o,<-A.o];exact jZ.mk' x.o (nA.refl _ _) y.o rfl
theorem jm.QC{i: World}{q:Own}{g:Gh}(a:jm w l p q o e lk g)(n:Int)
    (d f:Nat) (v:i.ownsRow o 3 1 (d,g.outs.length+1,f) (g.outs.length+1) (g.outs.flatMap uR++[.int .i64 n])) (A:Kp (fun b=>g.vo.ownBlock=some b) w i) (z:g.vo.ownBlock=some d\/w<=d)
    (F:M.Good p ({g with outs:=g.outs++[n],vo:=(d,g.outs.length+1,f)}:Gh).st):
    Kp (MO l q) w (i.setCell (e,5) (d,g.outs.length+1,f))/\∃D,nA w q D/\jm (i.setCell (e,5) (d,g.outs.length+1,f)) l p D o e lk {g with outs:=g.outs++[n],vo:=(d,g.outs.length+1,f)}:=by
 have u:Kp (·=e) i (i.setCell (e,5) (d,g.outs.length+1,f)):=nH;obtain⟨j,t⟩:=SS (i.setCell (e,5) (d,g.outs.length+1,f));have B:g.vo.ownBlock≠some e:=fun c=>by have:=a.outs.role _ c;rw[a.role]at this;cases this
 have G:hZ j e 170 (yl l lk {g with outs:=g.outs++[n],vo:=(d,g.outs.length+1,f)}):=by rw[t];exact(a.blk.kp A B).jy 5 _
 have J:d≠e:=fun c=>by
  subst c;rcases z with s|s
  . exact B s
  . have:=a.blk.lt;omega
 have C:j.ownsRow o 3 1 (d,g.outs.length+1,f) (g.outs.length+1) (g.outs.flatMap uR++[.int .i64 n]):=by
  rw[t];exact jb v u (fun r x _ c=>J (by cases x;exact c))
 rw[<-t]at u |-;clear t;have h:Kp (PO q fun r=>r=(0,0)\/r=(3,0)) w j:=(A.weak fun b _ c=>⟨_,a.outs.role b c,.inr rfl⟩).trans (u.weak fun b _ c=>⟨_,by rw[c];exact a.role,.inl rfl⟩);have k:=Own.yI (by
  rcases z with s|s
  . exact .inl (a.outs.role _ s)
  . exact .inr Zm)
 have I:∀b,q.add d (3,0) b≠none->o<=b/\b<j.heap.size:=fun b m=>by
  by_cases c:b=d
  . subst c;exact C.lt b rfl
  . rw[Own.lY _ c]at m;exact a.zO h.size b m
 refine⟨h.weak fun b _ c=>c.mo,_,k,a.FU h,a.hB,G,(k _ a.blk.lt).trans a.role,a.low,a.calls.xL h k Zl,fun y E H=>(a.call y E H).xL h k Zl a.yg,a.heap.xL h k Zl,fun K L v=>(a.obj K L v).xL h k Zl,⟨?_,fun r x=>?_⟩,I,F,a.xU.kp h (fun b y m ⟨r,h1,h2⟩=>by rw[m]at h1;cases h1;simp at h2) fun b y m=>Own.GN Zl m⟩
 . simpa [uR]using C
 . cases x;exact Own.add_eq _ _ _
theorem QV {B: Own} {x: Nat} {g: Gh} (Z : jm w l p B x n lk g) (r : List GC) (c : GC) (aC : g.cs = r ++ [c]) (aD : g.status = 1) (i : Ins) (hi : oP (M.method p c.f.of) i = true) (A : i.op = 14) :Calls prog 125 #[some n,.agg #[i.op,i.a,i.name,i.member]] w (jZ w l p B x n lk (.int .i64 (jH p lk i g.st).1) (jH p lk i g.st).2):=by
 have HI:=Zy (qJ hi);obtain⟨w0,aH,aa,W⟩:=nu w #[i.op,i.a,i.name,i.member] 140;have⟨aQ,y,au,aL,av,k⟩:=nE (Z.fresh (T9 _)) (Z.ext aa) aa W aH aC;have bz:=W.lt;clear Z aa W aH aC hi;rcases TN c.f.stack with h|⟨j,C,h⟩
 . have a:Zz (jH p lk i g.st=(10,g.st)):=Zy (by unfold jH;rw[A];simp only[Gh.zV k.o h];rfl);have T:=Zy h;clear h A;go_enter func125,ntmps125;go_wp2_with fail;rw[<-av.o];refine(kX _ _ _ _ _ _ _ _ y r c k).mono ?_;rintro b w1 ⟨rfl,m⟩;have⟨D,E⟩:=jf (y.ext m) (au.trans m);clear m;go_wp2_with fail;refine(ru D r c k T).mono ?_;rintro b w2 ⟨rfl,ae⟩;have⟨aK,aN⟩:=jf (D.ext ae) (E.trans ae);clear ae;go_wp2;go_ret;rw[a.o];exact jZ.mk' (aN.alloc _).any (nA.refl _ _) (aK.ext kx) rfl
 . rw [TM] at h; have aG := (jD.1 (y.Du k)).2.2.2.2.2.2 C (by rw [h]; simp); have aR : Zz (jS C g.os.length = true) := Zy (by simpa [Gh.st] using aG); have a : Zz (∀ e, jH p lk i g.st = if C.kind = 1 then next p (if (g.kH r c j e).st.outs.length < 40 then { (g.kH r c j e).st with outs := (g.kH r c j e).st.outs ++ [C.n] } else (g.kH r c j e).st) else (10, (g.kH r c j e).st)) := Zy (fun e => by unfold jH; rw [A]; simp only [Gh.pop k.o h e]; rfl); have ⟨T, aY⟩ := jf h A; clear h A aG; obtain ⟨vk, v⟩ := C; simp only at a; go_enter func125, ntmps125; go_wp2_with fail; rw [<- av.o]; refine (kX _ _ _ _ _ _ _ _ y r c k).mono ?_; rintro b w1 ⟨rfl, m⟩; have ⟨D, E⟩ := jf (y.ext m) m; clear m; go_wp2_with fail; refine (vY D r c k j ⟨vk, v⟩ T).mono ?_; rintro b w2 ⟨rfl, f, e, s⟩; replace a := Zy (a e); obtain ⟨w3, aI, af, b5⟩ := nu w2 #[vk, v] 37; have ⟨d, F⟩ := jf (s.ext af) (((au.trans E).any.trans f).trans af.any); have ax := (aL.ext E).kp f aQ; obtain ⟨yz,-, y1,-⟩ := ax.ca; have ⟨U, aM, aP⟩ := jB aI b5 (s.fresh (T9 _)); obtain ⟨t, u, aj⟩ := s.outs.form; have m5 := s.blk.c 5 (.slice t g.outs.length u) (by rw [show (Value.slice t g.outs.length u) = g.vo from aj.symm]; rfl); have mz := s.blk.lt; have I : Zz (g.vo = .slice t g.outs.length u) := Zy aj; clear af b5 f s ax aI aj; by_cases O : vk = 1
   . subst O;replace a:=Zy (a.trans (Tv rfl));have aU:=zk aR rfl;simp only at aU;by_cases P:g.outs.length<40
     . have aT:(g.outs.length:Int)<40:=Zm
       replace a:=Zy (a.trans (by rw[Tv (show(g.kH r c j e).st.outs.length<40 from P)]));have ai:¬g.vo.ownBlock=some n:=fun b=>by have:=d.outs.role _ b;rw[d.o.role]at this;cases this
       have aF:¬g.vo.ownBlock=some w2.heap.size:=fun b=>aP.o (.inr (by rw[d.o.outs.role _ b];simp));obtain⟨aZ,bf,bu,G⟩:=qC.ex (fun W'=>Kp (fun V=>g.vo.ownBlock=some V) w3 W') _ Kp.rr;have rm:=fun ak=>(d.blk.kp (G.jv ak) ai).c 5 (.slice t g.outs.length u) (by rw[<-I.o];rfl);have aW:=fun ak=>(aM.kp (G.jv ak) aF).c 1 v rfl;have⟨H,aS⟩:=jf G ai;have bn:=d.low;have bq:=d.blk.lt;clear G ai aF P;go_wp2_with fail;rw[<-U.o];refine jW H 9 [([0,1,2,3,4,5,6],7),([],8)] [] ?_ ?_
       . exact jg
       refine lJ ?_;intro J f;go_wp2_with fail;refine kk H f kx ?_;clear f J;refine kN rfl fun J f=>?_;refine jo Al rfl (.tmp 32) (.tmp 35) rfl x (.slice t g.outs.length u) g.outs.length (g.outs.flatMap uR) rfl (by rw[<-I.o];exact jb (D:=fun _=>False) d.outs.row kx fun _ _ _ aX=>aX) w3 1 [v] rfl rfl (hH.Fh _ _ rfl) Zt Zm Zr ?_;intro Y X w9 aA ag ah;change J _ _;rw[<-I.o]at ag ah;have L:=(kx:Ext w3 _).any.trans ag;refine kk H f L ?_;clear f J;have Q:=d.blk.kp L aS;have x5:=Q.c 5 (.slice t g.outs.length u) (by rw[<-I.o];rfl);have f5:=Q.frozen 5;have S:=Q.lt;have q:=d.good;obtain⟨ay,aJ,aB,az⟩:=d.QC v Y X aA L (by
        rcases ah with b|b
        . exact .inl b
        . right;simp at b;omega) ⟨q.heap,q.frames,q.nf,by simp[Gh.st,Gh.kH];omega,(fun aV R=>by
          simp only[Gh.st,Gh.kH,TZ,U7]at R;rcases R with R|rfl
          . exact q.sH aV R
          . unfold nZ;simp;omega),q.back⟩
       obtain⟨K,N⟩:=SS (w9.setCell (n,5) (Y,g.outs.length+1,X));have HX:Zz (Kp (MO l B) w K/\nA w B aJ):=Zy (by
        rw[N];exact⟨F.mo ay (nA.refl _ _),fun V hb=>aB V (SX F.size)⟩)
       have HW:=Zy N;have aO:Zz (jm K l p aJ x n lk {(g.kH r c j e)with outs:=g.outs++[v],vo:=(Y,g.outs.length+1,X)}):=Zy (by rw[N];exact az);clear ay aB az N aA ag ah L Q H rm aW q m5 mz;refine ku ?_;go_wp2_with fail;rw[<-HW.o];refine(uy aO r rfl aD).mono ?_;rintro b w4 z;have o:=Zy (jZ.after HX.1 HX.2 z);obtain⟨rfl,-⟩:=z;replace o:Zz (jZ w l p B x n lk (.int .i64 (jH p lk i g.st).1) (jH p lk i g.st).2 _ w4):=Zy (by rw[a.o];exact o);clear x5 f5 S;go_wp2;go_ret;have S:=o.o;rw[a.o]at S |-;exact S
     . have aT:¬(g.outs.length:Int)<40:=Zm
       replace a:=Zy (a.trans (by rw[Tt (show¬(g.kH r c j e).st.outs.length<40 from P)]));clear P;go_wp2_with fail;rw[<-U.o];refine(uy d r rfl aD).mono ?_;rintro b w4 z;have o:=Zy (jZ.after F (nA.refl _ _) z);obtain⟨rfl,-⟩:=z;rw[<-a.o]at o |-;go_wp2;go_ret;exact o
   . have bg:=TI.2 O;replace a:=Zy (a.trans (Tt O));clear O;go_wp2;go_ret;rw[a.o,<-U.o];exact jZ.mk' F (nA.refl _ _) d rfl
theorem uX{Q:Own}{D: Nat}{g:Gh}(v:jm w l p Q D C lk g)(r:List GC)(c:GC)(y:g.cs=r++[c])(z:c.f.stack=[]):Calls prog 170 #[some C] w fun b R=>b=.returned (.tuple #[.agg #[Tc,Tc],.bool false])/\Ext w R:=by
 obtain⟨S,B,j,i⟩:=nu w #[Tc,Tc] 37;have⟨o,H,F,K,q⟩:=ni (v.ext j) j i B y;have aa:=i.lt;have J:=Zy z;clear v j i B y z;go_enter func170,ntmps170;go_wp2_with fail;rw[<-K.o];refine(kX _ _ _ _ _ _ _ _ o r c q).mono ?_;rintro b w1 ⟨rfl,k⟩;have⟨E,s⟩:=jf (o.ext k) k;clear k;go_wp2_with fail;refine(ru E r c q J).mono ?_;rintro b f ⟨rfl,m⟩;obtain⟨a,e⟩:=SS (f.alloc (.cells #[Tc,Tc] 37));have n:Ext S a:=by rw[e];exact(s.trans m).alloc _
 have ae:(w:Nat)<f:=SY m.size s.size
 have u:hZ a f 37 #[Tc,Tc]:=by rw[e];exact hZ.new _ _ _
 have P:¬(f:Nat)=w:=Zm
 obtain⟨U,W,Z,h⟩:=qC.ex (fun O=>Kp (·=w) a O) _ Kp.rr;obtain⟨-,af,ag,-⟩:=hZ.lC fun T=>(u.kp (h.jv T) P);have⟨t,L⟩:=jf h e;have d:=F.ext n;obtain⟨hz,x0,x1,-⟩:=d.ca;obtain⟨X,Y,-⟩:=d.fz;have⟨G,I⟩:=jf d n;clear n u m e h d;go_wp2_with fail;rw[<-L.o];refine jW t 13 [([0,1,2,3,4,5,6,7,8,9,10,11],12)] [] ?_ ?_
 . exact jg
 refine lJ ?_;intro N x;go_wp2_with fail;have A:Kp (·=w) a ((a.drew.setCell w Tc).setCell (w,1) Tc):=(((Kp.refl (·=w) a).drew).setCell (p:=⟨w,0,none⟩) (fun _=>rfl) _).setCell (p:=⟨w,1,none⟩) (fun _=>rfl) _;refine kk t x A ?_;clear x N;refine ku ?_;go_wp2_with fail;refine Cv (iY Ai rfl w rfl [Tc,Tc] (hH.l7 ((G.ext jg).set2 _ _)) rfl) rfl ?_;exact⟨rfl,(H.trans I).own A (fun V b=>Zm)⟩
theorem yn{k:Own}{z: Nat}{g:Gh}(q:jm w l p k z y lk g)(r:List GC)(c:GC)(S:g.cs=r++[c])(st:List Val)(v:Val)(T:c.f.stack=st++[v]):Calls prog 170 #[some y] w fun f V=>f=.returned (.tuple #[.agg #[v.kind,v.n],.bool (decide (v.kind=2\/v.kind=3))])/\Kp (MO l k) w V/\∃m,jm V l p k z y lk (g.kH r c st m):=by
 obtain⟨b,e⟩:=v;obtain⟨w0,U,J,H⟩:=nu w #[Tc,Tc] 37;have P:=Zy (q.fresh (T9 _));have au:=q.kr.lt;have⟨N,Z,X,ae,O⟩:=ni (q.ext J) J H U S;have ax:=H.lt;have HS:=Zy T;clear q J H U S T;go_enter func170,ntmps170;go_wp2_with fail;rw[<-ae.o];refine(kX _ _ _ _ _ _ _ _ N r c O).mono ?_;rintro f w1 ⟨rfl,K⟩;have⟨W,B⟩:=jf (N.ext K) K;clear K;go_wp2_with fail;refine(vY W r c O st ⟨b,e⟩ HS).mono ?_;rintro f n ⟨rfl,a,m,R⟩;obtain⟨d,x⟩:=SS (n.alloc (.cells #[b,e] 37));have t:Ext n d:=by rw[x];exact kx
 have ay:(w:Nat)<n:=SY a.size B.size
 have Q:hZ d n 37 #[b,e]:=by rw[x];exact hZ.new _ _ _
 have af:¬(n:Nat)=w:=Zm
 obtain⟨ah,ai,av,E⟩:=qC.ex (fun W'=>Kp (·=w) d W') _ Kp.rr;obtain⟨-,az,aA,-⟩:=hZ.lC fun ag=>(Q.kp (E.jv ag) af);have⟨h,F⟩:=jf E x;have u:=((X.ext B).kp a P).ext t;obtain⟨hz,x0,x1,-⟩:=u.ca;obtain⟨f0,f1,-⟩:=u.fz;have⟨A,aa,o⟩:=jB u (((Z.trans B).any.trans a).trans t.any) (R.ext t);have i:Kp (·=w) d ((d.drew.setCell w b).setCell (w,1) e):=(((Kp.refl (·=w) d).drew).setCell (p:=⟨w,0,none⟩) (fun _=>rfl) _).setCell (p:=⟨w,1,none⟩) (fun _=>rfl) _;have D:=Zy i;have C:Zz (Kp (MO l k) w ((d.drew.setCell w b).setCell (w,1) e)/\∃m,jm ((d.drew.setCell w b).setCell (w,1) e) l p k z y lk (g.kH r c st m)):=Zy (by
  refine⟨aa.own i (fun G f=>Zm),m,o.o.keep i (nA.refl _ _) (o.o.zO i.size) (o.o.kr.kp i (fun G L f=>Zm)) (fun G L f=>by subst f;exact P (.inr L)) (fun G L f=>SX o.kr.ord)⟩)
 clear t Q a R x E u i;by_cases s:b=2
 . subst s;go_wp2_with fail;rw[<-F.o];refine jW h 13 [([0,1,2,3,4,5,6,7,8,9,10,11],12)] [] ?_ ?_
   . exact jg
   refine lJ ?_;intro j a;go_wp2_with fail;refine kk h a D ?_;clear a j;refine ku ?_;go_wp2_with fail;refine Cv (iY Ai rfl w rfl [.int .i64 2,e] (hH.l7 ((A.ext jg).set2 _ _)) rfl) rfl ?_;exact⟨rfl,C⟩
 by_cases I:b=3
 . subst I;clear s;go_wp2_with fail;rw[<-F.o];refine jW h 13 [([0,1,2,3,4,5,6,7,8,9,10,11],12)] [] ?_ ?_
   . exact jg
   refine lJ ?_;intro j a;go_wp2_with fail;refine kk h a D ?_;clear a j;refine ku ?_;go_wp2_with fail;refine Cv (iY Ai rfl w rfl [.int .i64 3,e] (hH.l7 ((A.ext jg).set2 _ _)) rfl) rfl ?_;exact⟨rfl,C⟩
 . have aj:=SF.2 s;have ak:=SF.2 I;have Y:Zz (decide (b=2\/b=3)=false):=Zy (SL Zm);clear s I;go_wp2_with fail;rw[<-F.o];refine jW h 13 [([0,1,2,3,4,5,6,7,8,9,10,11],12)] [] ?_ ?_
   . exact jg
   refine lJ ?_;intro j a;go_wp2_with fail;refine kk h a D ?_;clear a j;refine ku ?_;go_wp2_with fail;refine Cv (iY Ai rfl w rfl [b,e] (hH.l7 ((A.ext jg).set2 _ _)) rfl) rfl ?_;exact⟨by rw[Y.o];rfl,C⟩
theorem Gh.split{g:Gh}{r:List Fr}{f:Fr}(a:g.st.frames=r++[f]):∃d c,g.cs=d++[c]/\c.f=f:=by
 rcases TN g.cs with b|⟨d,c,b⟩
 . unfold Gh.st at a;rw[b]at a;simp at a
 . rw[TM]at b;refine⟨d,c,b,?_⟩;unfold Gh.st at a;rw[b]at a;simp only[TB,UU,VR]at a;have:=List.append_inj_right' a rfl;simpa using this
theorem LC.mo{c:Own}(b:LC l p w W):Kp (MO l c) w W:=b.kp.weak fun d _ a=>.inl a
theorem M9{U:Own}{I H:Nat}{g:Gh}(B:jm w l p U I H lk g)(r:List GC)(c:GC)(O:g.cs=r++[c])(Q:g.status=1)(i:Ins)(P:oP (M.method p c.f.of) i=true)(n:i.op=12):Calls prog 123 #[some H,.agg #[i.op,i.a,i.name,i.member]] w (jZ w l p U I H lk (.int .i64 (jH p lk i g.st).1) (jH p lk i g.st).2):=by
 have HI:=Zy (qJ P);obtain⟨w0,S,C,z⟩:=nu w #[i.op,i.a,i.name,i.member] 140;have⟨aa,q,J,Y,K,j⟩:=nE (B.fresh (T9 _)) (B.ext C) C z S O;have aj:=z.lt;clear B C z S O P;rcases TN c.f.stack with b|⟨t,h,b⟩
 . have a:Zz (jH p lk i g.st=(10,g.st)):=Zy (by unfold jH;rw[n];simp only[Gh.zV j.o b];rfl);have x:=Zy b;clear b n;go_enter func123,ntmps123;go_wp2_with fail;rw[<-K.o];refine(uX q r c j x).mono ?_;rintro A W ⟨rfl,D⟩;have⟨X,Z⟩:=jf (q.ext D) (J.trans D);clear D;go_wp2;go_ret;rw[a.o];exact jZ.mk' (Z.alloc _).any (nA.refl _ _) (X.ext kx) rfl
 . rw[TM]at b;have R:=(jD.1 (q.Du j)).2.2.2.2.2.2 h (by rw[b];simp);have ah:Zz (jS h g.os.length=true):=Zy (by simpa [Gh.st]using R);have a:Zz (∀e,jH p lk i g.st=if h.kind=2\/h.kind=3 then(if h.kind=3 then jump p i.a (g.kH r c t e).st else next p (g.kH r c t e).st)else(10,(g.kH r c t e).st)):=Zy (fun e=>by unfold jH;rw[n];simp only[Gh.pop j.o b e];rfl);have⟨x,ae⟩:=jf b n;clear b n R;obtain⟨o,V⟩:=h;simp only at a;go_enter func123,ntmps123;go_wp2_with fail;rw[<-K.o];refine(yn q r c j t ⟨o,V⟩ x).mono ?_;rintro A W ⟨rfl,F,e,G⟩;replace a:=Zy (a e);obtain⟨w3,T,E,L⟩:=nu W #[o,V] 37;have⟨v,u⟩:=jf (G.ext E) ((J.any.trans F).trans E.any);have N:=Y.kp F aa;obtain⟨yz,-,y1,y2,-⟩:=N.ca;have⟨y,af,ag⟩:=jB T L (G.fresh (T9 _));clear E L F G N T;by_cases d:o=2\/o=3
   . have f:=Tz d;simp only[f];replace a:=Zy (a.trans (Tv d));by_cases s:o=3
     . subst s;replace a:=Zy (a.trans (Tv rfl));clear d f;go_wp2_with fail;rw[<-y.o];refine(BC v r _ rfl Q i.a (HI.2.2.1 (.inr (.inl ae))).1).mono ?_;rintro A w4 m;have k:=Zy (jZ.after u (nA.refl _ _) m);obtain⟨rfl,-⟩:=m;rw[<-a.o]at k |-;go_wp2;go_ret;exact k
     . have ai:=SF.2 s;replace a:=Zy (a.trans (Tt s));clear s d f;go_wp2_with fail;rw[<-y.o];refine(uy v r rfl Q).mono ?_;rintro A w4 m;have k:=Zy (jZ.after u (nA.refl _ _) m);obtain⟨rfl,-⟩:=m;rw[<-a.o]at k |-;go_wp2;go_ret;exact k
   . have f:=SL d;simp only[f];replace a:=Zy (a.trans (Tt d));clear d f;go_wp2;go_ret;rw[a.o,<-y.o];exact jZ.mk' u (nA.refl _ _) v rfl
theorem Pe{aJ:Own}{ah mb:Nat}{g:Gh}(U:jm w l p aJ ah mb lk g)(r:List GC)(c:GC)(aB:g.cs=r++[c])(aD:g.status=1)(i:Ins)(hi:oP (M.method p c.f.of) i=true)(B:i.op=15):Calls prog 126 #[some mb,.agg #[i.op,i.a,i.name,i.member]] w (jZ w l p aJ ah mb lk (.int .i64 (jH p lk i g.st).1) (jH p lk i g.st).2):=by
 have HI:=Zy (qJ hi);obtain⟨w0,aG,V,T⟩:=nu w #[i.op,i.a,i.name,i.member] 140;have⟨aS,D,ai,aM,ak,x⟩:=nE (U.fresh (T9 _)) (U.ext V) V T aG aB;have bE:=T.lt;clear U V T aG aB hi;rcases TN c.f.stack with f|⟨d,j,f⟩
 . have a:Zz (jH p lk i g.st=(10,g.st)):=Zy (by unfold jH;rw[B];simp only[Gh.zV x.o f];rfl);have Q:=Zy f;clear f B;go_enter func126,ntmps126;go_wp2_with fail;rw[<-ak.o];refine(uX D.o r c x.o Q.o).mono ?_;rintro q w2 ⟨rfl,W⟩;have⟨aL,aP⟩:=jf (D.o.ext W) (ai.o.trans W);clear W;go_wp2;go_ret;rw[a.o];exact jZ.mk' (aP.o.alloc _).any (nA.refl _ _) (aL.o.ext kx) rfl
 . rw [TM] at f; have aF := (jD.1 (D.o.Du x.o)).2.2.2.2.2.2 j (by rw [f]; simp); have R : Zz (jS j g.os.length = true) := Zy (by simpa [Gh.st] using aF); have a : Zz (∀ b, jH p lk i g.st = if j.kind = 2 \/ j.kind = 3 then (if j.kind = 3 then push p j (g.kH r c d b).st else if (pY p i.name (g.kH r c d b).st).2 then (if under p (vI (g.kH r c d b).st.heap j.n) (pY p i.name (g.kH r c d b).st).1 then push p j (g.kH r c d b).st else (6, (g.kH r c d b).st)) else (4, (g.kH r c d b).st)) else (10, (g.kH r c d b).st)) := Zy (fun b => by unfold jH; rw [B]; simp only [Gh.pop x.o f b]; rfl); have ⟨Q, bq⟩ := jf f B; clear f B aF; obtain ⟨v, t⟩ := j; simp only at a; go_enter func126, ntmps126; go_wp2_with fail; rw [<- ak.o]; refine (yn D.o r c x.o d ⟨v, t⟩ Q.o).mono ?_; rintro q w2 ⟨rfl, n, b, Y⟩; replace a := Zy (a.o b); obtain ⟨w3, aH, X, b5⟩ := nu w2 #[v, t] 37; have ⟨E, O⟩ := jf (Y.ext X) ((ai.o.any.trans n).trans X.any); have ax := aM.o.kp n aS.o; obtain ⟨yz,-, y1, y2,-⟩ := ax.ca; have ⟨S, aN, aR⟩ := jB aH b5 (Y.fresh (T9 _)); clear X b5 n Y ax aH; by_cases s : v = 2 \/ v = 3
   . have u:=Tz s;simp only[u];replace a:=Zy (a.o.trans (Tv s));by_cases H:v=3
     . subst H;replace a:=Zy (a.o.trans (Tv rfl));clear s u;go_wp2_with fail;rw[<-S.o];refine(rV E.o r _ rfl aD ⟨3,t⟩ R.o).mono ?_;rintro q w4 A;have y:=Zy (jZ.after O.o (nA.refl _ _) A);obtain⟨rfl,-⟩:=A;rw[<-a.o]at y |-;go_wp2;go_ret;exact y.o
     . have bB:=SF.2 H;obtain rfl:v=2:=by omega
       replace a:=Zy (a.o.trans (Tt H));clear H s u;obtain⟨⟨⟨K,L⟩,lb⟩,hF⟩:∃aK,pY p i.name (g.kH r c d b).st=aK:=⟨_,rfl⟩;rw[hF]at a;go_wp2_with fail;rw[<-S.o];have ae:=D6 E.o r _ rfl i.name;rw[hF]at ae;refine ae.mono ?_;rintro q w4 ⟨rfl,z⟩;clear ae hF y1 y2 yz;simp only;have Z:=E.o.oQ z.kp z.at_;have ay:=aN.o.kp z.kp (fun q=>aR.o (.inl q));have⟨bn,aQ,N⟩:=jB Z (O.o.trans z.mo) ay;obtain⟨w5,aI,G,b7⟩:=nu w4 #[K,L] 60;have⟨aO,k,P,au,aj⟩:=ni b7 (Z.ext G) (aQ.o.trans G.any) aI G;clear z Z ay aI G b7;cases lb
       . replace a:Zz (jH p lk i g.st=(4,(g.kH r c d b).st)):=Zy (a.o.trans rfl);go_wp2;go_ret;rw[a.o,<-au.o];exact jZ.mk' P.o (nA.refl _ _) k.o rfl
       . replace a:Zz (jH p lk i g.st=if under p (vI (g.kH r c d b).st.heap t) ⟨K,L⟩then push p ⟨2,t⟩ (g.kH r c d b).st else(6,(g.kH r c d b).st)):=Zy (a.o.trans rfl);obtain⟨aT,af⟩:=sJ R.o rfl;simp only at aT af;obtain⟨h,rfl⟩:∃h:Nat,t=h:=⟨t.toNat,by omega⟩;obtain⟨C,ho⟩:∃C,g.os[h]?=some C:=⟨g.os[h]'Zm,Ou _⟩;have aC:vI (g.kH r c d b).st.heap h=C.o.of:=AQ (by simp[Gh.st,Gh.kH,ho]);rw[aC]at a;obtain⟨ha,aA,ag⟩:=k.o.heap.form;have I:=k.o.heap.row;rw[ag]at I;obtain⟨av,bz,eb,-⟩:=jT I (by show 0<g.os.length;omega);cases eb;have aa:=lT (enc:=qd) (k:=3) (fun _=>rfl) I (l:=g.os) ho;obtain⟨bu,bA,bD,m⟩:=ll w5;have bf:=fun e=>(k.o.ext (m.jv e)).blk.c 0 (some l.L) rfl;have bg:=fun e=>(k.o.ext (m.jv e)).blk.c 4 (av,g.os.length,aA) (by rw[show(Value.slice (some ⟨av,0,none⟩) g.os.length aA)=g.vh from ag.symm];rfl);have aV:=fun e=>((N.o.ext aj.o).ext (m.jv e)).c 1 h rfl;obtain⟨-,aW,aX,-⟩:=hZ.lC fun e=>(aO.o.ext (m.jv e));have aY:=fun e=>(hH.ext aa (m.jv e)).three.1;have aZ:=fun e=>(hH.ext aa (m.jv e)).three.2.1;have q0:=N.o.c 0 (.int .i64 2) rfl;have F:=Zy m;have bC:(h:Int)<g.os.length:=af;clear m ag I aa ho aC af;go_wp2_with fail;rw[<-au.o];refine jW F 16 [([0,1,2,3,4,5,6,7,8,9,10,11,12,13],14)] [15] ?_ ?_
         . exact jg
         refine lJ ?_;intro K2 n;go_wp2_with fail;refine(uW (k.o.kr.ext jg) C.o.of ⟨K,L⟩).mono ?_;rintro q w6 ⟨rfl,az⟩;have o:=Zy (((Kp.refl _ w5).drew:Ext w5 _).trans az);clear az;obtain⟨-,aU,bF,-⟩:=((N.o.ext aj.o).ext o.o).ca;have bG:=jc aU;cases J:under p C.o.of ⟨K,L⟩
         . rw[J]at a;replace a:Zz (jH p lk i g.st=(6,(g.kH r c d b).st)):=Zy (a.o.trans rfl);clear J;go_wp2_with fail;refine kk F n o.o ?_;clear n K2;refine rC ?_;go_wp2;go_ret;rw[a.o];exact jZ.mk' (P.o.trans o.o.any) (nA.refl _ _) (k.o.ext o.o) rfl
         . rw[J]at a;replace a:Zz (jH p lk i g.st=push p ⟨2,h⟩ (g.kH r c d b).st):=Zy (a.o.trans rfl);clear J;go_wp2_with fail;refine kk F n o.o ?_;clear n K2;clear F bf bg aV aW aX aY aZ;refine rC ?_;go_wp2_with fail;refine(rV (k.o.ext o.o) r _ rfl aD ⟨2,h⟩ R.o).mono ?_;rintro q w7 A;have y:=Zy (jZ.after (P.o.trans o.o.any) (nA.refl _ _) A);obtain⟨rfl,-⟩:=A;rw[<-a.o]at y |-;go_wp2;go_ret;exact y.o
   . have u:=SL s;simp only[u];replace a:=Zy (a.o.trans (Tt s));clear s u;go_wp2;go_ret;rw[a.o,<-S.o];exact jZ.mk' O.o (nA.refl _ _) E.o rfl
theorem FN:∀(l:List Val) (q:Nat) (x:Val),((l.flatMap jY).set (q*2) x.kind).set (q*2+1) x.n=(l.set q x).flatMap jY:=by
 intro l;induction l with
 |nil=>intro q x;simp
 | cons c b a =>
  intro q x;cases q with
  |zero=>simp[jY]
  |succ q=>
   rw[show(q+1)*2=q*2+1+1 from by omega];simp only[UA,Tk,jY,TF,TW];rw[a]
theorem jm.yA{j:Own}{s: Nat}{g:Gh}(h:jm w l p j s C lk g){r:List GC}{c:GC}(m:g.cs=r++[c]){a E:Nat}(y:c.vl=.slice (some ⟨a,0,none⟩) c.f.locals.length E)(q:Nat)(x:Val)(D:jS x g.os.length=true):
    Kp (MO l j) w ((w.setCell (a,q*2) x.kind).setCell (a,q*2+1) x.n)/\jm ((w.setCell (a,q*2) x.kind).setCell (a,q*2+1) x.n) l p j s C lk {g with cs:=r++[{c with f:={c.f with locals:=c.f.locals.set q x}}]}:=by
 have b:=h.at_ m;have n:Kp (·=a) w ((w.setCell (a,q*2) x.kind).setCell (a,q*2+1) x.n):=
  ((Kp.refl (·=a) w).setCell (p:=⟨a,q*2,none⟩) (fun _=>rfl) _).setCell (p:=⟨a,q*2+1,none⟩) (fun _=>rfl) _
 have u:=b.loc.role a (by rw[y];rfl);have o:Kp (PO j (·=(5,r.length))) w ((w.setCell (a,q*2) x.kind).setCell (a,q*2+1) x.n):=n.weak fun i _ d=>⟨_,by rw[d];exact u,rfl⟩;have A:=nA.refl w j;have B:=b.loc.row;rw[y]at B;have z:=(B.stored (q*2) x.kind).1.stored (q*2+1) x.n;have t:=FN c.f.locals q x;rw[t]at z;have e:=jD.1 (h.Du m);refine⟨o.weak fun i _ d=>d.mo,h.G5 m rfl (o.weak fun i _ ⟨q,e1,t⟩=>⟨q,e1,.inr (.inl t)⟩) A (h.zO n.size) ⟨b.blk.kp n (fun d=>?_),b.role,b.low,jM.kp jd.stays o (fun i k=>h.yg i k) b.ml,⟨?_,b.loc.role⟩,b.kH.xL o A Zl⟩ ?_ n (fun i G k d=>by rw[d,u]at k;cases k) fun _ _ x=>x⟩
 . have:=b.role;rw[d,u]at this;cases this
 . show World.ownsRow _ s _ 2 c.vl (c.f.locals.set q x).length _
   rw[Ux,y];exact z.1
 . rw[show({g with cs:=r++[{c with f:={c.f with locals:=c.f.locals.set q x}}]}:Gh).st={g.st with frames:=r.map GC.f++[{c.f with locals:=c.f.locals.set q x}]}from by simp[Gh.st]];refine h.good.turn (Gh.fr m) (jD.2 ⟨e.1,e.2.1,e.2.2.1,by simp;exact e.2.2.2.1,e.2.2.2.2.1,?_,e.2.2.2.2.2.2⟩);intro F v;rcases UG v with v|rfl
   . exact e.2.2.2.2.2.1 F v
   . simpa [Gh.st]using D
theorem QT{n:Own}{E: Nat}{g:Gh}(t:jm w l p n E C lk g)(r:List GC)(c:GC)(y:g.cs=r++[c])(ak:g.status=1)(i:Ins)(hi:oP (M.method p c.f.of) i=true)(P:i.op=6):Calls prog 117 #[some C,.agg #[i.op,i.a,i.name,i.member]] w (jZ w l p n E C lk (.int .i64 (jH p lk i g.st).1) (jH p lk i g.st).2):=by
 obtain⟨D,z⟩:=SS (w.alloc (.cells #[i.op,i.a,i.name,i.member] 140));have u:Ext w D:=by rw[z];exact kx
 have⟨F,X,aa,W,ax⟩:=ni (t.ext u) u z y t;obtain⟨⟨⟨b,d⟩,B⟩,hF⟩:∃S,pY p i.name g.st=S:=⟨_,rfl⟩;have a:Zz (jH p lk i g.st=if B=true then(if 12<=g.st.heap.length then(8,g.st)else push p (create p ⟨b,d⟩ g.st).1 (create p ⟨b,d⟩ g.st).2)else(4,g.st)):=Zy (by unfold jH;rw[P];simp only[hF];rfl);have V:Zz (B=true->ko p ⟨b,d⟩=true):=Zy (fun k=>by
  subst k;unfold pY at hF;simp only[Wp,Ty]at hF;rw[<-hF.1];exact hF.2.2)
 have x:=D6 F r c y i.name;rw[hF]at x;have G:=Zy x;clear t u z y hi P hF x;go_enter func117,ntmps117;go_wp2_with fail;rw[<-aa.o];refine G.mono ?_;rintro k R ⟨rfl,m⟩;have f:=F.oQ m.kp m.at_;obtain⟨o,A⟩:=SS (R.alloc (.cells #[b,d] 60));have v:Ext R o:=by rw[A];exact kx
 obtain⟨ha,ag,Q⟩:=f.heap.form;have m4:=f.blk.c 4 (.slice ha g.os.length ag) (by rw[<-Q];rfl);have mz:=f.blk.lt;have q:=Zy (f.ext v);have j:Zz (Kp (MO l n) w o):=Zy ((X.any.trans m.mo).trans v.any);have s:=Zy A;clear G m f A v Q;have aj:g.st.heap.length=g.os.length:=by simp[Gh.st]
 cases B
 . replace a:Zz (jH p lk i g.st=(4,g.st)):=Zy a.o;go_wp2;go_ret;rw[a.o,<-s.o];exact jZ.mk' j (nA.refl _ _) q rfl
 . replace a:Zz (jH p lk i g.st=if 12<=g.st.heap.length then(8,g.st)else push p (create p ⟨b,d⟩ g.st).1 (create p ⟨b,d⟩ g.st).2):=Zy a.o;by_cases af:12<=g.os.length
   . replace a:=Zy (a.trans (Tv Zm));have I:decide ((12:Int)<=g.os.length)=true:=Tz Zm;have ay:(12:Int)<=g.os.length:=Zm
     go_wp2;go_ret;rw[a.o,<-s.o];exact jZ.mk' j (nA.refl _ _) q rfl
   . replace a:=Zy (a.trans (Tt Zm));have I:((12:Int)<=g.os.length)=False:=VB Zm;have ai:g.os.length<12:=Zm
     clear af aj;go_wp2_with fail;rw[<-s.o];refine(Cm _ _ _ _ _ _ _ q ⟨b,d⟩ (V Zl) ai).mono ?_;rintro k w3 ⟨rfl,K,av,e,N,L,h⟩;obtain⟨r3,c3,O,-⟩:=Gh.split (g:=e) (r:=r.map GC.f) (f:=c.f) (by rw[h];exact Gh.fr W);have au:e.status=1:=by
      have:e.st.status=g.st.status:=by rw[h];rfl
      exact this.trans ak
     have ah:e.os.length=g.os.length+1:=by
      have:e.st.heap.length=g.st.heap.length+1:=by rw[h];simp[create]
      simpa [Gh.st]using this
     have⟨Z,Y⟩:=jf L (j.mo K (nA.refl _ _));have T:Zz (nA w n av):=Zy (fun ae hb=>N ae (SX j.size));replace a:Zz (jH p lk i g.st=push p ⟨2,g.os.length⟩ e.st):=Zy (by rw[a.o,<-h];simp[create,Gh.st]);have U:=Zy O;clear K N L h O m4 mz I;go_wp2_with fail;refine(rV Z r3 c3 U au ⟨2,g.os.length⟩ (Ba _ Zm (by rw[ah];omega))).mono ?_;rintro k w4 J;have H:=Zy (jZ.after Y T J);obtain⟨rfl,-⟩:=J;rw[<-a.o]at H |-;go_wp2;go_ret;exact H
theorem QW{ak:Own}{R O:Nat}{g:Gh}(F:jm w l p ak R O lk g)(r:List GC)(c:GC)(ae:g.cs=r++[c])(aK:g.status=1)(i:Ins)(hi:oP (M.method p c.f.of) i=true)(t:i.op=3):Calls prog 114 #[some O,.agg #[i.op,i.a,i.name,i.member]] w (jZ w l p ak R O lk (.int .i64 (jH p lk i g.st).1) (jH p lk i g.st).2):=by
 have HI:=Zy (qJ hi);obtain⟨w0,ai,G,E⟩:=nu w #[i.op,i.a,i.name,i.member] 140;have⟨U,n,T,S,W,d⟩:=nE (F.fresh (T9 _)) (F.ext G) G E ai ae;have aW:=E.lt;clear F G E ai ae hi;rcases TN c.f.stack with b|⟨u,B,b⟩
 . have e:Zz (jH p lk i g.st=(10,g.st)):=Zy (by unfold jH;rw[t];simp only[Gh.zV d.o b];rfl);have D:=Zy b;clear b t;go_enter func114,ntmps114;go_wp2_with fail;rw[<-W.o];refine(kX _ _ _ _ _ _ _ _ n r c d).mono ?_;rintro y w1 ⟨rfl,h⟩;have⟨x,o⟩:=jf (n.ext h) (T.trans h);clear h;go_wp2_with fail;refine(ru x r c d D).mono ?_;rintro y w2 ⟨rfl,H⟩;have⟨au,ax⟩:=jf (x.ext H) (o.trans H);clear H;go_wp2;go_ret;rw[e.o];exact jZ.mk' (ax.alloc _).any (nA.refl _ _) (au.ext kx) rfl
 . rw[TM]at b;have ah:=(jD.1 (n.Du d)).2.2.2.2.2.2 B (by rw[b];simp);have aD:Zz (jS B g.os.length=true):=Zy (by simpa [Gh.st]using ah);have e:Zz (∀k,jH p lk i g.st=next p ({(g.kH r c u k)with cs:=r++[{c with f:={c.f with stack:=u,locals:=c.f.locals.set i.a.toNat B},vs:=k}]}:Gh).st):=Zy (fun k=>by unfold jH;rw[t];simp only[Gh.pop d.o b k];rw[pO (s:=(g.kH r c u k).st) (r:=r.map GC.f) (t:={c.f with stack:=u}) (by simp[Gh.kH,Gh.st])];simp[Gh.kH,Gh.st]);have⟨D,aB⟩:=jf b t;clear b t ah;obtain⟨P,Q⟩:=B;simp only at e;go_enter func114,ntmps114;go_wp2_with fail;rw[<-W.o];refine(kX _ _ _ _ _ _ _ _ n r c d).mono ?_;rintro y w1 ⟨rfl,h⟩;have⟨x,o⟩:=jf (n.ext h) h;clear h;go_wp2_with fail;refine(vY x r c d u ⟨P,Q⟩ D).mono ?_;rintro y w2 ⟨rfl,A,k,I⟩;replace e:=Zy (e k);obtain⟨m,aj,z,Y⟩:=nu w2 #[P,Q] 37;have⟨C,az⟩:=jf (I.ext z) (((T.trans o).any.trans A).trans z.any);have Z:=(S.ext o).kp A U;obtain⟨yz,-,y1,-⟩:=Z.ca;have⟨aF,av,aP,aA,ay⟩:=ni aj Y (I.fresh (T9 _)) A z;clear z Y A I Z aj;obtain⟨aS,aT⟩:=HI.2.1 (.inr aB);obtain⟨a,hq⟩:∃a:Nat,i.a=a:=⟨i.a.toNat,Zm⟩;have ag:i.a.toNat=a:=Zm
   have af:=jD.1 (n.Du d);have aJ:a<c.f.locals.length:=SX af.2.2.2.1
   obtain⟨N,lc,j,-⟩:=jT (C.at_ rfl).loc.row (by show 0<c.f.locals.length;omega);replace j:=j;have J:=C.at_ rfl;have L:=J.loc.row;obtain⟨aX,hu⟩:=om c.f.locals a aJ;have K:=lT (enc:=jY) (k:=2) (fun _=>rfl) (l:=c.f.locals) (by rw[<-j];exact L) hu;obtain⟨aR,s⟩:=oF L (g:=N) (by show c.vl.ownBlock=some N;rw[j];rfl);obtain⟨aQ,f,aU,q⟩:=ll m;have rc:=fun v=>(J.blk.ext (q.jv v)).c 12 (N,c.f.locals.length,lc) (by rw[<-j];rfl);obtain⟨-,aM,aN,-⟩:=hZ.lC fun v=>(av.ext (q.jv v));have aL:=fun v=>(((S.ext o).kp aA U).ext (ay.trans (q.jv v))).c 1 a (by rw[<-hq];rfl);have x0:=K.two.1;have x1:=K.two.2;have f0:=s.frozen (a*2);have f1:=s.frozen (a*2+1);have hz:=s.lt;have aV:(a:Int)<c.f.locals.length:=Zm
   have aC:=Zy ((C.ext ((Kp.refl _ m).drew:Ext m m.drew)).yA rfl j a ⟨P,Q⟩ aD);rw[ag]at e;have⟨V,aO⟩:=jf q s;clear q j J L hu K s hq ag y1 yz af;go_wp2_with fail;rw[<-aF.o];refine jW V 7 [] [0,1,2,3,4,5,6] ?_ ?_
   . exact jg
   refine r9 [_,_,_,_,_,_,_] rfl fun aG hK=>?_;(repeat (go_big_quiet_step (fail)));refine qn hK ?_;clear hK aG;clear V rc aM aN aL;go_wp2_with fail;obtain⟨aH,aI⟩:=aC.o;refine(uy aI r rfl aK).mono ?_;rintro y w4 aa;have X:=Zy (jZ.after ((az.trans ((Kp.refl _ m).drew:Ext m m.drew).any).trans aH) (nA.refl _ _) aa);obtain⟨rfl,-⟩:=aa;rw[<-e.o]at X |-;go_wp2;go_ret;exact X
theorem Pg{aj:Own}{Y X:Nat}{g:Gh}(N:jm w l p aj Y X lk g)(r:List GC)(c:GC)(D:g.cs=r++[c])(ah:g.status=1)(i:Ins)(T:oP (M.method p c.f.of) i=true)(U:i.op=2):Calls prog 113 #[some X,.agg #[i.op,i.a,i.name,i.member]] w (jZ w l p aj Y X lk (.int .i64 (jH p lk i g.st).1) (jH p lk i g.st).2):=by
 have HI:=Zy (qJ T);obtain⟨a,ai,P,b3⟩:=nu w #[i.op,i.a,i.name,i.member] 140;have S:=jD.1 (N.Du D);obtain⟨ay,az⟩:=(qJ T).2.1 (.inl U);obtain⟨o,hq⟩:∃o:Nat,i.a=o:=⟨i.a.toNat,Zm⟩;have af:i.a.toNat=o:=Zm
 have aB:o<c.f.locals.length:=SX S.2.2.2.1
 obtain⟨⟨e,h⟩,K⟩:=om c.f.locals o aB;have aa:Zz (jS ⟨e,h⟩ g.os.length=true):=Zy (by simpa [Gh.st]using S.2.2.2.2.2.1 _ (RA K));have b:Zz (jH p lk i g.st=if e=0 then(10,g.st)else push p ⟨e,h⟩ g.st):=Zy (by
  unfold jH;rw[U];simp only[Gh.top D,af,K];rfl)
 have O:=N.ext P;have J:=O.at_ D;obtain⟨lg,lc,W,-⟩:=jT J.loc.row Zm;have ag:=J.loc.row;have R:=lT (enc:=jY) (k:=2) (fun _=>rfl) (l:=c.f.locals) (by rw[<-W];exact ag) K;obtain⟨aD,aG,aH,t⟩:=ll a;have rc:=fun q=>(J.blk.ext (t.jv q)).c 12 (lg,c.f.locals.length,lc) (by rw[<-W];rfl);have ak:=fun q=>(b3.ext (t.jv q)).c 1 o (by rw[<-hq];rfl);have au:=fun q=>(hH.ext R (t.jv q)).two.1;have av:=fun q=>(hH.ext R (t.jv q)).two.2;have aI:(o:Int)<c.f.locals.length:=Zm
 have⟨j,F,Z,ax,G⟩:=ni t O P ai D;clear N P b3 ai D T U O J W ag K R t S hq af ay az;go_enter func113,ntmps113;go_wp2_with fail;rw[<-ax.o];refine qp j 10 (.two [0,5,6] 1 9 (.one [2,3,4,7,8] 9 (.fin [])) (.one [] 1 (.fin [2,3,4,7,8]))) ?_ ?_
 . exact jg
 refine two [_,_,_] rfl rfl rfl fun L C=>?_;(repeat (go_big_quiet_step (fail)));((refine F5 C (fun k d=>?_) fun k d=>?_)<;>clear C L)
 . go_wp2_with fail;refine(kX _ _ _ _ _ _ _ _ (F.ext jg) r c G).mono ?_;rintro H E ⟨rfl,u⟩;have s:=Zy (((Kp.refl _ a).drew:Ext a _).trans u);clear u;go_wp2_with fail;refine kk j d s ?_;clear d k;refine Bi ?_;intro k d;go_wp2_with fail;refine kk j d (s.alloc _) ?_;clear d k;obtain⟨v,n⟩:=SS (E.alloc (.cells #[e,h] 37));have m:Ext a v:=by rw[n];exact s.alloc _
   have⟨y,x,z⟩:=jB (Z.trans m) (F.ext m) n;clear j rc ak au av n m;refine kL ?_;by_cases f:e=0
   . subst f;replace b:=Zy (b.trans (Tv rfl));go_wp2;go_ret;rw[b.o,<-z.o];exact jZ.mk' y.any (nA.refl _ _) (x) rfl
   . have aA:=SF.2 f;replace b:=Zy (b.trans (Tt f));clear f;go_wp2_with fail;rw[<-z.o];refine(rV x r c G ah ⟨e,h⟩ aa).mono ?_;rintro H w4 B;have A:=Zy (jZ.behind y B);obtain⟨rfl,-⟩:=B;rw[<-b.o]at A |-;go_wp2;go_ret;exact A
 . go_wp2_with fail;refine kk j d (((Kp.refl _ a).drew).alloc _) ?_;clear d k;refine jX rfl fun k d=>?_;have b5:hZ (a.drew.alloc (.cells #[Tc,Tc] 37)) a 37 #[Tc,Tc]:=hZ.new _ _ _;have ae:Ext a (a.drew.alloc (.cells #[Tc,Tc] 37)):=((Kp.refl _ a).drew).alloc _;go_wp2_with fail;refine(kX _ _ _ _ _ _ _ _ (F.ext (((Kp.refl _ a).drew).alloc _)) r c G).mono ?_;rintro H E ⟨rfl,u⟩;have s:=Zy (ae.trans u);have I:=b5.ext u;obtain⟨hz,x0,x1,-⟩:=I.ca;obtain⟨f0,f1,-⟩:=I.fz;have V:Kp (·=a) E ((E.setCell a e).setCell (a,1) h):=nH;have Q:=I.set2 e h;obtain⟨v,n⟩:=SS ((E.setCell a e).setCell (a,1) h);rw[<-n]at V Q;have m:=s.own V (fun aF H=>Zm);have⟨y,x,z,aC⟩:=jU (Z.trans m) (F.ext m) n Q;clear u I V Q n m b5 ae;go_wp2_with fail;refine kk j d s ?_;clear d k;clear j;refine EJ [_,_,_,_,_] rfl fun L C=>?_;(repeat (go_big_quiet_step (fail)));refine qn C ?_;clear C L;clear rc ak au av;by_cases f:e=0
   . subst f;replace b:=Zy (b.trans (Tv rfl));go_wp2;go_ret;rw[b.o,<-z.o];exact jZ.mk' y.any (nA.refl _ _) (x) rfl
   . have aA:=SF.2 f;replace b:=Zy (b.trans (Tt f));clear f;go_wp2_with fail;rw[<-z.o];refine(rV x r c G ah ⟨e,h⟩ aa).mono ?_;rintro H w4 B;have A:=Zy (jZ.behind y B);obtain⟨rfl,-⟩:=B;rw[<-b.o]at A |-;go_wp2;go_ret;exact A
theorem QQ{ai:Own}{Q N:Nat}{g:Gh}(W:jm w l p ai Q N lk g)(r:List GC)(c:GC)(ah:g.cs=r++[c])(ay:g.status=1)(i:Ins)(hi:oP (M.method p c.f.of) i=true)(F:i.op=4):Calls prog 115 #[some N,.agg #[i.op,i.a,i.name,i.member]] w (jZ w l p ai Q N lk (.int .i64 (jH p lk i g.st).1) (jH p lk i g.st).2):=by
 obtain⟨O,L⟩:=SS (w.alloc (.cells #[i.op,i.a,i.name,i.member] 140));have I:Ext w O:=by rw[L];exact kx
 have⟨t,R,U,m⟩:=jU (W.ext I) I L ah;clear W I L ah hi;by_cases o:c.f.stack.length<2
 . have a:Zz (jH p lk i g.st=(10,g.st)):=Zy (by unfold jH;rw[F];simp only[Gh.zb m.o o];rfl);clear F;go_enter func115,ntmps115;go_wp2_with fail;rw[<-U.o];refine(kX _ _ _ _ _ _ _ _ t r c m).mono ?_;rintro e w1 ⟨rfl,n⟩;have⟨z,H⟩:=jf (t.ext n) (R.trans n);clear n;go_wp2_with fail;refine(uH z r c m 2 o Zm).mono ?_;rintro e q ⟨rfl,rfl⟩;go_wp2;go_ret;rw[a.o];exact jZ.mk' H.any (nA.refl _ _) z rfl
 . obtain⟨k,f,h,y⟩:∃k f h,c.f.stack=k++[f,h]:=by
    rcases TN c.f.stack with e|⟨s1,h,e⟩
    . rw[e]at o;simp at o
    . rw[TM]at e;rcases TN s1 with D|⟨s2,f,D⟩
      . rw[e,D]at o;simp at o
      . rw[TM]at D;exact⟨s2,f,h,by rw[e,D];simp⟩
   have K:=(jD.1 (t.Du m)).2.2.2.2.2.2;have az:jS f g.os.length=true:=by simpa [Gh.st]using K f (by rw[y];simp)
   have aA:jS h g.os.length=true:=by simpa [Gh.st]using K h (by rw[y];simp)
   have a:Zz (∀j,jH p lk i g.st=if f.kind=1/\h.kind=1 then(if nZ (f.n+h.n)then push p (mM (f.n+h.n)) (g.kH r c k j).st else(9,(g.kH r c k j).st))else(10,(g.kH r c k j).st)):=Zy (fun j=>by unfold jH;rw[F];simp only[Gh.nk m.o (n:=2) y rfl j];rfl);have HS:=Zy y;clear y F K o;obtain⟨s,b⟩:=f;obtain⟨u,d⟩:=h;simp only at a;go_enter func115,ntmps115;go_wp2_with fail;rw[<-U.o];refine(kX _ _ _ _ _ _ _ _ t r c m).mono ?_;rintro e w1 ⟨rfl,n⟩;have⟨z,H⟩:=jf (t.ext n) (R.trans n);clear n;go_wp2_with fail;refine(Cn z r c m k [⟨s,b⟩,⟨u,d⟩] 2 HS rfl Zm).mono ?_;rintro e q ⟨v',rfl,G,aa,j,ae⟩;replace a:=Zy (a j);obtain⟨gt,gc,rfl,-⟩:=jT G Zm;have af:=(lT (enc:=jY) (k:=2) (fun _=>rfl) (l:=[⟨s,b⟩,⟨u,d⟩]) G (i:=0) (x:=⟨s,b⟩) rfl).two;have ag:=(lT (enc:=jY) (k:=2) (fun _=>rfl) (l:=[⟨s,b⟩,⟨u,d⟩]) G (i:=1) (x:=⟨u,d⟩) rfl).two;simp only[Ua,Nat.one_mul,Tm]at af ag;obtain⟨x0,x1⟩:=af;obtain⟨x2,x3⟩:=ag;have⟨B,A⟩:=jf ae (H.any.trans aa);clear G aa ae;by_cases v:s=1/\u=1
   . obtain⟨rfl,rfl⟩:=v;have av:=zk az rfl;have ax:=zk aA rfl;simp only at av ax;replace a:=Zy (a.trans (Tv ⟨rfl,rfl⟩));have aH:IntKind.i64.wrap (b+d)=b+d:=TK _ Zm;obtain⟨aB,aC,aG,C⟩:=ll q;have r1:=fun P=>(C.jv P).je x1;have r3:=fun P=>(C.jv P).je x3;have T:=Zy C;clear C;go_wp2_with fail;refine jW T 9 [] [0,1,2,3,4,5,6,7,8] ?_ ?_
     . exact jg
     refine r9 [_,_,_,_,_,_,_,_,_] rfl fun au Z=>?_;(repeat (go_big_quiet_step (fail)));refine qn Z ?_;clear Z au;clear T r1 r3;go_wp2_with fail;have J:=GU (b+d) q.drew;rw[show(decide (-9999<=b+d)&&decide (b+d<=9999))=nZ (b+d)from rfl]at J;refine J.mono ?_;rintro e w3 ⟨rfl,rfl⟩;clear J;cases x:nZ (b+d)
     . rw[x]at a;replace a:Zz (jH p lk i g.st=(9,(g.kH r c k j).st)):=Zy a.o;clear x;go_wp2;go_ret;rw[a.o];exact jZ.mk' (A.trans ((Kp.refl _ q).drew:Ext q _).any) (nA.refl _ _) (B.ext jg) rfl
     . have aj:=Zy x;rw[x]at a;replace a:Zz (jH p lk i g.st=push p (mM (b+d)) (g.kH r c k j).st):=Zy a.o;clear x;go_wp2_with fail;refine(CY (b+d)).mono ?_;rintro e w3 ⟨rfl,X⟩;have S:=Zy (((Kp.refl _ q).drew:Ext q _).trans X);clear X;go_wp2_with fail;refine(rV (B.ext S) r _ rfl ay (mM (b+d)) (pJ _ aj)).mono ?_;rintro e w4 Y;have V:=Zy (jZ.after (A.trans S.any) (nA.refl _ _) Y);obtain⟨rfl,-⟩:=Y;rw[<-a.o]at V |-;go_wp2;go_ret;exact V
   . replace a:=Zy (a.trans (Tt v));by_cases E:s=1
     . have aF:=TI.2 (fun e=>v ⟨E,e⟩);subst E;clear v;go_wp2;go_ret;rw[a.o];exact jZ.mk' A (nA.refl _ _) B rfl
     . have aD:=TI.2 E;clear v E;go_wp2;go_ret;rw[a.o];exact jZ.mk' A (nA.refl _ _) B rfl
theorem QX {L: Own} {T: Nat} {g: Gh} (Q : jm w l p L T k lk g) (r : List GC) (c : GC) (aN : g.cs = r ++ [c]) (bK : g.status = 1) (i : Ins) (hi : oP (M.method p c.f.of) i = true) (R : i.op = 10) :Calls prog 121 #[some k,.agg #[i.op,i.a,i.name,i.member]] w (jZ w l p L T k lk (.int .i64 (jH p lk i g.st).1) (jH p lk i g.st).2):=by
 have HI:=Zy (qJ hi);obtain⟨w0,aU,au,b3⟩:=nu w #[i.op,i.a,i.name,i.member] 140;have⟨bD,G,aD,bn,aH,v⟩:=nE (Q.fresh (T9 _)) (Q.ext au) au b3 aU aN;have bX:=b3.lt;clear Q au b3 aU aN hi;rcases TN c.f.stack with A|⟨m,N,A⟩
 . have b:Zz (jH p lk i g.st=(10,g.st)):=Zy (by unfold jH;rw[R];simp only[Gh.zV v.o A];rfl);have HS:=Zy A;clear A R;go_enter func121,ntmps121;go_wp2_with fail;rw[<-aH.o];refine(kX _ _ _ _ _ _ _ _ G r c v).mono ?_;rintro a w1 ⟨rfl,E⟩;have⟨U,V⟩:=jf (G.ext E) (aD.trans E);clear E;go_wp2_with fail;refine(ru U r c v HS).mono ?_;rintro a O ⟨rfl,av⟩;have⟨bg,bq⟩:=jf (U.ext av) (V.trans av);clear av;obtain⟨h,K⟩:=SS (O.alloc (.cells #[Tc,Tc] 37));have F:Ext O h:=by rw[K];exact kx
   obtain⟨bG,f,bI,y⟩:=ll h;have⟨o,aj,af⟩:=jB y K F;clear y K F;go_wp2_with fail;rw[<-aj.o];refine jW o 22 [([0,1,2,3,4,5,6,7,9,10,11,12,13,14,15,16,17,18],8),([],19)] [20,21] ?_ ?_
   . exact jg
   refine lJ ?_;intro z d;go_wp2_with fail;refine kk o d ((Kp.refl _ h).drew:Ext h _) ?_;clear d z;refine kN rfl fun z d=>?_;go_wp2_with fail;refine kk o d ((Kp.refl _ h).drew:Ext h _) ?_;clear d z;refine rC ?_;go_wp2;go_ret;rw[b.o];exact jZ.mk' ((bq.trans af).drew).any (nA.refl _ _) (bg.ext (af.drew)) rfl
 . rw [TM] at A; have aT := (jD.1 (G.Du v)).2.2.2.2.2.2 N (by rw [A]; simp); have ai : Zz (jS N g.os.length = true) := Zy (by simpa [Gh.st] using aT); have b : Zz (∀ e, jH p lk i g.st = if hasType p c.f.of.of.keeper g.st.heap N (M.method p c.f.of).ret then (if r.length = 0 then (2, { (g.kH r c m e).st with back := N }) else push p N { g.st with frames := r.map GC.f }) else (10, (g.kH r c m e).st)) := Zy (fun e => by unfold jH; rw [R]; simp only [Gh.pop v.o A e, Gh.top v.o]; simp [Gh.kH, Gh.st]); have ⟨HS, bM⟩ := jf A R; clear A R aT; obtain ⟨s, t⟩ := N; simp only at b; go_enter func121, ntmps121; go_wp2_with fail; rw [<- aH.o]; refine (kX _ _ _ _ _ _ _ _ G r c v).mono ?_; rintro a w1 ⟨rfl, E⟩; have ⟨U, V⟩ := jf (G.ext E) E; clear E; go_wp2_with fail; refine (vY U r c v m ⟨s, t⟩ HS).mono ?_; rintro a O ⟨rfl, d, e, ax⟩; replace b := Zy (b e); obtain ⟨h, K, F, b5⟩ := nu O #[s, t] 37; have ⟨D, ag⟩ := jf (ax.ext F) (((aD.trans V).any.trans d).trans F.any); have aI := (bn.ext V).kp d bD; obtain ⟨yz,-, y1,-⟩ := aI.ca; have ⟨aj, aC, bC, bL, af⟩ := ni K b5 (ax.fresh (T9 _)) d F; clear F b5 d ax aI K y1 yz; obtain ⟨Z, aa, aA⟩ := D.heap.form; have aO := D.Nv; have ay := D.at_ rfl; obtain ⟨bG, f, bI, y⟩ := ll h; have aZ := fun B => (D.ext (y.jv B)).blk.c 0 (some l.L) rfl; have bf := fun B => (D.ext (y.jv B)).blk.c 4 (.slice Z g.os.length aa) (by rw [show (Value.slice Z g.os.length aa) = g.vh from aA.symm]; rfl); obtain ⟨-, aV, aW,-⟩ := hZ.lC fun B => (aC.ext (y.jv B)); obtain ⟨-,-,-,-,-,-, aX, aY,-⟩ := hZ.lC fun B => (ay.blk.ext (y.jv B)); have aQ := fun W (Y : Ext h W) => (ay.blk.ext Y).c 0 c.f.of.of.keeper rfl; have bz := Zy aQ; have aP := fun W (Y : Ext h W) => vG W l p (D.kr.ext Y) c.f.of.of.keeper (.slice Z g.os.length aa) g.st.heap (by
    have:=aO.ext Y;rw[show(Value.slice Z g.os.length aa)=g.vh from aA.symm];exact this) ⟨s,t⟩ (fun a=>by have:=sJ ai a;simpa [Gh.st]using this) (M.method p c.f.of).ret
   have⟨bu,o⟩:=jf aP y;clear y ay aQ aP aO aA;go_wp2_with fail;rw[<-aj.o];refine jW o 22 [([0,1,2,3,4,5,6,7,9,10,11,12,13,14,15,16,17,18],8),([],19)] [20,21] ?_ ?_
   . exact jg
   refine lJ ?_;intro z d;go_wp2_with fail;refine(mZ _ (bz _ jg)).mono ?_;rintro a we ⟨rfl,rfl⟩;go_wp2_with fail;refine kk o d ((Kp.refl _ h).drew:Ext h _) ?_;clear d z;refine kN rfl fun z d=>?_;go_wp2_with fail;refine(bu _ jg).mono ?_;rintro a j ⟨rfl,aK⟩;have C:=Zy (((Kp.refl _ h).drew:Ext h _).trans aK);have H:=D.ext C;have aJ:=aC.ext C;obtain⟨qz,q0,q1,-⟩:=aJ.ca;have bJ:¬k=O:=fun a=>bC.o (.inr (by rw[<-a,D.o.role];simp));have bR:¬O=k:=fun a=>bJ a.symm;have az:=H.calls.row;have aS:(g.kH r c m e).cs.length=r.length+1:=by simp[Gh.kH]
   rw[aS]at az;obtain⟨u,q,aB,-,-,bV⟩:=jT az Zm;have m3:=H.blk.c 3 (u,r.length+1,q) (by rw[<-aB];rfl);obtain⟨mz,-,-,-,-,-,-,m6,m7,-⟩:=H.blk.ca;obtain⟨-,-,-,f3,-,-,f6,f7,-⟩:=H.blk.fz;have⟨x,aG⟩:=jf H aB;have bS:r.length+1<=8:=by have:=G.good.nf;rw[Gh.fr v.o]at this;simpa using this
   clear aK H aJ az aS aB;cases ae:hasType p c.f.of.of.keeper g.st.heap ⟨s,t⟩ (M.method p c.f.of).ret
   . rw[ae]at b;replace b:Zz (jH p lk i g.st=(10,(g.kH r c m e).st)):=Zy b.o;clear ae;go_wp2_with fail;refine kk o d C ?_;clear d z;refine rC ?_;go_wp2;go_ret;rw[b.o];exact jZ.mk' (ag.trans C.any) (nA.refl _ _) x rfl
   . rw [ae] at b; replace b : Zz (jH p lk i g.st = if r.length = 0 then (2, { (g.kH r c m e).st with back := ⟨s, t⟩ }) else push p ⟨s, t⟩ { g.st with frames := r.map GC.f }) := Zy b.o; clear ae; by_cases J : r.length = 0
     . replace b:=Zy (b.trans (Tv J));go_wp2_with fail;refine kk o d C ?_;clear d z;clear o aZ bf aV aW aX aY;refine rC ?_;go_wp2;go_ret;rw[b.o];have hk:Kp (·=k) j ((j.setCell (k,6) s).setCell (k,7) t):=nH;have I:Kp (PO L (·=(0,0))) j ((j.setCell (k,6) s).setCell (k,7) t):=hk.weak fun ak _ a=>⟨_,by rw[a];exact x.role,rfl⟩;have n:=x.good;exact jZ.mk' ((ag.trans C.any).trans (I.weak fun ak _ a=>a.mo)) (nA.refl _ _) (x.GZ {(g.kH r c m e)with back:=⟨s,t⟩} I ((x.blk.jy 6 _).jy 7 _) (.inl ⟨rfl,rfl⟩) ⟨rfl,rfl,rfl,rfl⟩ ⟨n.heap,n.frames,n.nf,n.outs,n.sH,by simpa [Gh.st,Gh.kH]using ai.o⟩) rfl
     . replace b:=Zy (b.trans (Tt J));obtain⟨S,P,aR⟩:∃S P,r=S++[P]:=by
        rcases TN r with a|⟨S,P,a⟩
        . rw[a]at J;exact absurd rfl J
        . exact⟨S,P,by rw[a,TM]⟩
       have bE:=Zy aR;clear aR;have bN:((r.length:Int)+1==1)=false:=SF.2 Zm;have bO:¬r.length=0:=J;have bP:((r.length:Int)==0)=false:=SF.2 Zm;have bW:IntKind.i64.wrap ((r.length:Int)+1 - 1)=r.length:=by rw[TK _ Zm];omega
       have bT:(0:Int)<=r.length:=Zm
       have bU:(r.length:Int)<=q:=Zm
       have hk:Kp (·=k) j.drew (j.drew.setCell (k,3) (u,r.length,q)):=nH;have X:=x.ext ((Kp.refl _ j).drew:Ext j j.drew);have I:Kp (PO L (·=(0,0))) j.drew (j.drew.setCell (k,3) (u,r.length,q)):=hk.weak fun ak _ a=>⟨_,by rw[a];exact x.role,rfl⟩;have n:=x.good;have aM:jm (j.drew.setCell (k,3) (u,r.length,q)) l p L T k lk {(g.kH r c m e)with cs:=r,vc:=(u,r.length,q)}:=by
        refine X.GZ {(g.kH r c m e)with cs:=r,vc:=(u,r.length,q)} I (X.blk.jy 3 _) (.inr ⟨?_,[_],rfl⟩) ⟨rfl,rfl,rfl,rfl⟩ ?_
        . have h1:=X.calls;have h2:l6 j.drew L T (1,0) 171 1 (u,r.length+1,q) (r.length+1) ((r++[{c with f:={c.f with stack:=m},vs:=e}]).flatMap uZ):=by
           have e1:(g.kH r c m e).vc=.slice (some ⟨u,0,none⟩) (r.length+1) q:=aG.o;have e2:(g.kH r c m e).cs.length=r.length+1:=by simp[Gh.kH]
           rw[<-e1,<-e2];exact h1
          have h3:=h2.take (j:=r.length) Zm;rw[Bt (enc:=uZ) (k:=1) (fun _=>rfl)]at h3;exact h3
        . exact⟨n.heap,(fun f hf=>n.frames f (by simp only[Gh.st,Gh.kH,TB,TZ];exact .inl hf)),by simp[Gh.st];omega,n.outs,n.sH,n.back⟩
       have⟨bB,bA⟩:=jf aM (((ag.trans C.any).trans ((Kp.refl _ j).drew:Ext j _).any).trans (I.weak fun ak _ a=>a.mo));obtain⟨T2,f2,bQ,ah⟩:=ll j;have s3:=fun B=>(x.ext (ah.jv B)).blk.c 3 (u,r.length+1,q) (by rw[<-aG.o];rfl);have aF:=Zy ah;clear ah hk I X n aM J m6 m7 f6 f7;go_wp2_with fail;refine kk o d C ?_;clear d z;clear o aZ bf aV aW aX aY;refine rC ?_;go_wp2_with fail;(refine wU f2 12 [] [0,1,2,3,4,5,6,7,8,9,10,11] (aF.o.o _ ?_) Zo Zo (fun _ _ bH _ _ Q=>by cases bH<;>exact Q) ?_)
       . exact jg
       refine r9 [_,_,_,_,_,_,_,_,_,_,_,_] rfl fun bF hK=>?_;(repeat (go_big_quiet_step (fail)));refine qn hK ?_;clear hK bF;clear aF s3;go_wp2_with fail;refine(rV bB S P bE bK ⟨s,t⟩ ai).mono ?_;rintro a w6 aL;have HZ:=Zy (jZ.after bA (nA.refl _ _) aL);obtain⟨rfl,-⟩:=aL;replace b:Zz (jH p lk i g.st=push p ⟨s,t⟩ ({(g.kH r c m e)with cs:=r,vc:=(u,r.length,q)}:Gh).st):=Zy b.o;rw[<-b.o]at HZ |-;go_wp2;go_ret;exact HZ
theorem LC.own{c: World}(d:LC l p w W)(a:Kp (·=b) W c)(h:w<=b)(g:l.L<w):LC l p w c:=
 ⟨d.kp.own a (fun f e=>Zm),d.at_.kp a (fun f a e=>Zm)⟩
theorem QR{z:Own}{aP: Nat}{g:Gh}(U:jm w l p z aP K lk g)(r:List GC)(c:GC)(bB:g.cs=r++[c])(cK:g.status=1)(i:Ins)(hi:oP (M.method p c.f.of) i=true)(aN:i.op=7):Calls prog 118 #[some K,.agg #[i.op,i.a,i.name,i.member]] w (jZ w l p z aP K lk (.int .i64 (jH p lk i g.st).1) (jH p lk i g.st).2):=by
 have HI:=Zy (qJ hi);obtain⟨w0,bH,aH,b3⟩:=nu w #[i.op,i.a,i.name,i.member] 140;have cZ:=Zy (U.fresh (T9 _));have aT:Zz (∀q,w.heap.size<=q->¬MO l z q):=Zy (fun q B=>U.fresh B);have dm:=U.kr.lt;have dh:=U.kr.ord.2.2;have⟨aQ,bQ,bM,bU,G⟩:=ni (U.ext aH) aH b3 bH bB;have dC:=b3.lt;clear U aH b3 bH bB hi;obtain⟨⟨⟨⟨h,j⟩,m,⟨D,E⟩⟩,cd⟩,hF⟩:∃bL,M.get p c.f.of.of.keeper i.name i.member=bL:=⟨_,rfl⟩;have k:Zz (jH p lk i g.st=if cd=1 then(match pop g.st with
     |none=>(10,g.st)
     |some (v,s1)=>if object p v ⟨h,j⟩ s1=1 then push p (((qI s1.heap v.n)[m.toNat]?).getD lX) s1 else(object p v ⟨h,j⟩ s1,s1))else(4,g.st)):=Zy (by
  unfold jH;rw[aN];simp only[Gh.top G.o,hF];rfl)
 have⟨HF,df⟩:=jf hF aN;clear aN;go_enter func118,ntmps118;go_wp2_with fail;rw[<-bU.o];refine(kX _ _ _ _ _ _ _ _ aQ.o r c G.o).mono ?_;rintro u o ⟨rfl,ag⟩;have⟨O,bR,aB⟩:=jB (aQ.o.ext ag) (bQ.o.trans ag) (bM.o.ext ag);have bn:l.L<o.heap.size:=O.o.kr.lt;have di:l.D<o.heap.size:=by omega
 have dD:w.heap.size<o.heap.size:=aB.o.lt;have bD:∀Z,LC l p o Z->Calls prog 100 #[some l.L,c.f.of.of.keeper,i.name,i.member] Z fun u w'=>∃x,u=.returned (.tuple #[.agg #[h,j,m,D,E],x])/\zn x cd/\Kp (·=l.D) Z w'/\LC l p o w':=fun Z hW=>by
  have hl:=vW Z l p hW.at_ c.f.of.of.keeper i.name i.member;rw[HF.o]at hl;refine hl.mono ?_;rintro u w' ⟨⟨x,rfl,y⟩,hL,H⟩;exact⟨x,rfl,y.weak,H,hW.step hL H⟩
 have af:=Zy bD;have a:=Zy (LC.refl O.o.kr).drew;obtain⟨bX,bY,cz,t⟩:=qC.ex (fun W'=>LC l p o W') o (LC.refl O.o.kr);have aA:=fun s=>(O.o.oQ (t.jv s).kp (t.jv s).at_).blk.c 0 (some l.L) rfl;obtain⟨-,-,-,ay,az,-⟩:=hZ.lC fun s=>(aB.o.kp (t.jv s).kp Zm);have f:=Zy t;clear t bD ag;go_wp2_with fail;rename_i aD H
 have bK : ∀ (b6 : Nat) (w7 : World) (x : Value), LC l p o w7 -> hZ w7 b6 211 #[h, j, m, D, E] -> o.heap.size <= b6 -> zn x cd -> aD { tmps := #[.pointer (some ⟨K, 0, none⟩), .agg #[i.op, i.a, i.name, i.member], undef, .pointer (some ⟨w.heap.size, 0, none⟩), .int .i64 0, .pointer (some ⟨c.cb, 0, none⟩), .pointer (some ⟨b6, 0, none⟩), x, undef, undef, undef, .pointer (some ⟨K, 0, none⟩), .pointer (some ⟨c.cb, 0, none⟩), .tuple #[.agg #[h, j, m, D, E], x], .pointer (some ⟨K, 0, none⟩), .pointer (some ⟨K, 0, none⟩), .pointer (some ⟨K, 0, none⟩), .pointer (some ⟨l.L, 0, none⟩), .pointer (some ⟨c.cb, 0, none⟩), .int .i64 c.f.of.of.keeper, .pointer (some ⟨w.heap.size, 2, none⟩), .string i.name, .pointer (some ⟨w.heap.size, 3, none⟩), .string i.member, .tuple #[.agg #[h, j, m, D, E], x], .agg #[h, j, m, D, E], x, undef, undef, undef, undef, undef, undef, undef, undef, undef, undef, undef, undef, undef, undef, undef, undef, undef, undef, undef, undef, undef, undef, undef, undef, undef, undef, undef, undef, undef, undef, undef, undef, undef, undef], defers := [] } w7 := by
  intro b6 w7 x hC aZ J y;refine H _ _ ?_;clear H f aA ay az a af;have Y:=Zy (O.o.oQ hC.kp hC.at_);have X:Zz (Kp (MO l z) w w7):=Zy (bR.o.any.trans hC.mo);have⟨e,cO,aW⟩:=jB aZ (aB.o.kp hC.kp Zm) (aT.o b6 Zm);clear hC aZ;rcases y with⟨rfl,rfl⟩|⟨C,eb,rfl⟩;rotate_left
  . replace k:Zz (jH p lk i g.st=(4,g.st)):=Zy (by rw[k.o,Tt C]);clear C;go_wp2;go_ret;rw[k.o];exact jZ.mk' X.o (nA.refl _ _) Y.o rfl
  replace k:Zz (jH p lk i g.st=(match pop g.st with
   |none=>(10,g.st)
   |some (v,s1)=>if object p v ⟨h,j⟩ s1=1 then push p (((qI s1.heap v.n)[m.toNat]?).getD lX) s1 else(object p v ⟨h,j⟩ s1,s1))):=Zy k.o
  obtain⟨xz,x0,x1,-⟩:=e.o.ca;rcases TN c.f.stack with I|⟨L,v,I⟩
  . replace k:Zz (jH p lk i g.st=(10,g.st)):=Zy (by rw[k.o,Gh.zV G.o I]);have HS:=Zy I;clear I;go_wp2_with fail;refine(ru Y.o r c G.o HS.o).mono ?_;rintro u w8 ⟨rfl,bf⟩;have aS:=Zy bf;clear bf;go_wp2;go_ret;rw[k.o];exact jZ.mk' (X.o.trans (aS.o.alloc _).any) (nA.refl _ _) (Y.o.ext (aS.o.alloc _)) rfl
  . rw [TM] at I; have bG := (jD.1 (Y.o.Du G.o)).2.2.2.2.2.2 v (by rw [I]; simp); have aY : Zz (jS v g.os.length = true) := Zy (by simpa [Gh.st] using bG); have aX : Zz (∀ F, jH p lk i g.st = if object p v ⟨h, j⟩ (g.kH r c L F).st = 1 then push p (((qI g.st.heap v.n)[m.toNat]?).getD lX) (g.kH r c L F).st else (object p v ⟨h, j⟩ (g.kH r c L F).st, (g.kH r c L F).st)) := Zy (fun F => by rw [k.o, Gh.pop G.o I F]; rfl); have HS := Zy I; clear I bG k; obtain ⟨vk, N⟩ := v; go_wp2_with fail; refine (vY Y.o r c G.o L ⟨vk, N⟩ HS.o).mono ?_; rintro u w8 ⟨rfl, ai, F, bq⟩; have k := Zy (aX.o F); have aG := e.o.kp ai aW.o; obtain ⟨zz, z0, z1,-⟩ := aG.ca; obtain ⟨w9, bI, ah, b8⟩ := nu w8 #[vk, N] 37; have ⟨aC, aV, bO, aR, bV⟩ := ni (bq.ext ah) ((X.o.trans ai).trans ah.any) (aG.ext ah) b8 bI; have bW : Zz (w.heap.size <= w8.heap.size) := Zy (by have := ai.size; have := X.o.size; omega); clear ai bq aG ah b8 bI aX x0 x1 xz; go_wp2_with fail; rw [<- bV.o]; refine (ym aC.o ⟨vk, N⟩ aY.o ⟨h, j⟩).mono ?_; rintro u ae ⟨rfl, aa⟩; have ⟨A, aU, bN, bP⟩ := jU (aC.o.ext aa) (aV.o.trans aa.any) (bO.o.ext aa) (aR.o.ext aa); clear aa z0 z1 zz; obtain ⟨ob, S⟩ : ∃ ob, object p ⟨vk, N⟩ ⟨h, j⟩ (g.kH r c L F).st = ob := ⟨_, rfl⟩; by_cases ak : ob = 1
    . subst ak;replace k:Zz (jH p lk i g.st=push p (((qI g.st.heap N)[m.toNat]?).getD lX) (g.kH r c L F).st):=Zy (by rw[k.o,Tv S]);have aL:=xS (p:=p) A.o.good (k:=c.f.of.of.keeper) (n:=i.name) (m:=i.member) (by rw[HF.o]) (v:=⟨vk,N⟩) (by simpa [Gh.st,Gh.kH]using aY.o) (by rw[HF.o];exact S);rw[HF.o]at aL;simp only at aL;obtain⟨dx,dz,bZ,dE,ho,-,bC,aI⟩:=aL;obtain⟨n,rfl⟩:∃n:Nat,N=n:=⟨N.toNat,by omega⟩;obtain⟨T,rfl⟩:∃T:Nat,m=T:=⟨m.toNat,by omega⟩;simp only[Vi]at ho aI;simp only[Gh.st,Gh.kH,V4,Uk]at ho;obtain⟨P,V,rfl⟩:=ho;obtain⟨aO,hu⟩:=om P.o.fields T aI;have bF:(((qI g.st.heap n)[(T:Int).toNat]?).getD lX)=aO:=by
       have:qI g.st.heap n=P.o.fields:=bC;rw[this,Vi,hu];rfl
      rw[bF]at k;have bT:=Zy (by
       have Q:=((nD.1 A.o.good.heap).2 P.o (by simp only[Gh.st,Gh.kH,Vw];exact⟨P,RA V,rfl⟩)).2.2 aO (RA hu);simpa [Gh.st,Gh.kH]using Q)
      obtain⟨ha,bz,av⟩:=A.o.heap.form;have au:=A.o.heap.row;rw[av]at au;have cB:=(Tw.1 V).1;obtain⟨B,dw,eb,-⟩:=jT au (by show 0<g.os.length;omega);cases eb;have bA:=lT (enc:=qd) (k:=3) (fun _=>rfl) au (l:=g.os) V;have aj:=(A.o.obj n P V).row;obtain⟨fb,fc,aM,-⟩:=jT aj Zm;rw[aM]at aj;have aK:=lT (enc:=jY) (k:=2) (fun _=>rfl) aj hu;obtain⟨bX,bY,cz,t⟩:=qC.ex (fun W'=>Kp (PO z (Hg r.length)) ae W') _ Kp.rr;obtain⟨uk,un⟩:=aO;have e1:=bA.three.2.2;rw[aM]at e1;have no:∀q ax,z q=some ax->¬Hg r.length ax->¬PO z (Hg r.length) q:=fun q ax B hq ⟨q',Q,h2⟩=>by rw[B]at Q;cases Q;exact hq h2
      have bJ:∀q,z q=none->¬PO z (Hg r.length) q:=fun q B ⟨q',Q,_⟩=>by rw[B]at Q;cases Q
      have ro:∀q,¬MO l z q->z q=none:=fun q B=>by
       cases u:z q with
       |none=>rfl
       |some ax=>exact absurd (.inr (by rw[u];simp)) B
      have cu:=ro _ (aT.o _ (by have:=aV.o.size;have:=X.o.size;have:=aC.o.blk.lt;have:=aR.o.lt;have:=bW.o;omega));have bE:=A.o.heap.role B (by rw[av];rfl);have aJ:=(A.o.obj n P V).role fb (by rw[aM];rfl);have dK:=fun s=>(A.o.blk.kp (t.jv s) (no _ _ A.o.role (by simp[Hg]))).c 4 (B,g.os.length,bz) (by rw[show(Value.slice (some ⟨B,0,none⟩) g.os.length bz)=g.vh from av.symm];rfl);have dG:=fun s=>(bP.o.kp (t.jv s) (bJ _ cu)).c 1 n rfl;have dJ:=fun s=>(t.jv s).lL e1 (no _ _ bE (by simp[Hg]));have dF:=fun s=>(bN.o.kp (t.jv s) (bJ _ (ro _ aW.o))).c 2 T rfl;have dH:=fun s=>(t.jv s).lL aK.two.1 (no _ _ aJ (by simp[Hg]));have dI:=fun s=>(t.jv s).lL aK.two.2 (no _ _ aJ (by simp[Hg]));have f:=Zy t;have dA:(n:Int)<g.os.length:=by omega
      have dn:(T:Int)<P.o.fields.length:=by omega
      clear t au bA aj aK e1 av V hu bF bC bE aJ cB aI bZ;rw[S];clear S;go_wp2_with fail;refine jW f 15 [([0,1,2,3,4,5,6,7,8,9,10,11,12,13],14)] [] ?_ ?_
      . exact jg
      refine lJ ?_;intro d b;go_wp2_with fail;refine(FW _ _ _ _ _ _ _ _ (A.o.ext jg) r _ rfl cK ⟨uk,un⟩ bT.o).mono ?_;rintro u dL ⟨bg,bu⟩;have⟨bS,HZ⟩:=jf ((((Kp.refl _ ae).drew:Ext ae _).any).trans bu) (jZ.after (aU.o.trans ((Kp.refl _ ae).drew:Ext ae _).any) (nA.refl _ _) bg);obtain⟨rfl,-⟩:=bg;rw[<-k.o]at HZ |-;clear bu;go_wp2_with fail;refine kk f b bS.o ?_;clear b d;refine ku ?_;go_wp2;go_ret;exact HZ.o
    . replace k:Zz (jH p lk i g.st=(ob,(g.kH r c L F).st)):=Zy (by rw[k.o,S,Tt ak]);have dB:=TI.2 ak;rw[S];clear S ak;go_wp2;go_ret;rw[k.o];exact jZ.mk' aU.o (nA.refl _ _) A.o rfl
 have aF:=Zy bK;clear bK H;refine qp f 16 (.two [0,1,2,3,4,6,7,8,9] 5 14 (.two [] 10 14 (.one [11,12,13] 14 (.one [] 15 (.fin []))) (.one [] 10 (.one [11,12,13] 15 (.fin [])))) (.one [] 5 (.one [] 10 (.one [11,12,13] 15 (.fin []))))) ?_ ?_
 . exact a.o
 refine two [_,_,_,_,_,_,_,_,_] rfl rfl rfl fun aD H=>?_;(repeat (go_big_quiet_step (fail)));((refine F5 H (fun d b=>?_) fun d b=>?_)<;>clear H aD)
 . go_wp2_with fail;refine(mZ c.f.of.of.keeper (((O.o.oQ a.o.kp a.o.at_).at_ G.o).blk.c 0 _ rfl)).mono ?_;rintro u we ⟨rfl,rfl⟩;go_wp2_with fail;refine kk f b a.o ?_;clear b d;refine Fw rfl rfl (fun d b=>?_) fun d b=>?_
   . go_wp2_with fail;refine(af.o _ a.o).mono ?_;rintro u wc ⟨x,rfl,y,R,C⟩;replace a:=Zy C;have W:=Zy y;clear R C y;go_wp2_with fail;refine kk f b a.o ?_;clear b d;refine Bi ?_;intro d b;go_wp2_with fail;refine kk f b (a.o.ext (jw _)) ?_;clear b d;refine jX rfl fun d b=>?_;go_wp2_with fail;refine kk f b (a.o.ext (jw _)) ?_;clear b d;have J:=a.o.kp.size;have e:=Zy (hZ.new (wc) 211 #[h,j,m,D,E]);replace a:=Zy (a.o.ext (jw (.cells #[h,j,m,D,E] 211)));clear f aA ay az;refine kL ?_;go_wp2_with fail;exact aF.o _ _ _ a.o e.o J W.o
   . go_wp2_with fail;refine kk f b (a.o.ext (jw _)) ?_;clear b d;have J:o.heap.size<=o.heap.size:=a.o.kp.size;have e:Zz (hZ (o.drew.alloc (.cells #[Tc, "",Tc,Tc, ""] 211)) o.heap.size 211 #[Tc, "",Tc,Tc, ""]):=Zy (hZ.new _ _ _);replace a:=Zy (a.o.ext (jw (.cells #[Tc, "",Tc,Tc, ""] 211)));refine jX rfl fun d b=>?_;go_wp2_with fail;refine(af.o _ a.o).mono ?_;rintro u wc ⟨x,rfl,y,R,C⟩;replace e:=Zy (e.o.kp R Zm);replace a:=Zy C;have W:=Zy y;clear R C y;go_wp2_with fail;refine kk f b a.o ?_;clear b d;refine Bi ?_;intro d b;obtain⟨z6,y0,y1,y2,y3,y4,-⟩:=e.o.ca;obtain⟨g0,g1,g2,g3,g4,-⟩:=e.o.fz;go_wp2_with fail;replace a:=Zy (LC.own a.o (Kp.wu (D:=(·=_)) rfl h j m D E) J bn);replace e:=Zy (e.o.wu h j m D E);refine kk f b a.o ?_;clear b d;clear y0 g0 y1 g1 y2 g2 y3 g3 y4 g4 z6;clear f aA ay az;refine kL ?_;go_wp2_with fail;exact aF.o _ _ _ a.o e.o J W.o
 . go_wp2_with fail;refine kk f b (a.o.ext (jw _)) ?_;clear b d;have J:o.heap.size<=o.heap.size:=a.o.kp.size;have e:Zz (hZ (o.drew.alloc (.cells #[Tc, "",Tc,Tc, ""] 211)) o.heap.size 211 #[Tc, "",Tc,Tc, ""]):=Zy (hZ.new _ _ _);replace a:=Zy (a.o.ext (jw (.cells #[Tc, "",Tc,Tc, ""] 211)));refine jX rfl fun d b=>?_;go_wp2_with fail;refine(mZ c.f.of.of.keeper (((O.o.oQ a.o.kp a.o.at_).at_ G.o).blk.c 0 _ rfl)).mono ?_;rintro u we ⟨rfl,rfl⟩;go_wp2_with fail;refine kk f b a.o ?_;clear b d;refine jX rfl fun d b=>?_;go_wp2_with fail;refine(af.o _ a.o).mono ?_;rintro u wc ⟨x,rfl,y,R,C⟩;replace e:=Zy (e.o.kp R Zm);replace a:=Zy C;have W:=Zy y;clear R C y;go_wp2_with fail;refine kk f b a.o ?_;clear b d;refine Bi ?_;intro d b;obtain⟨z6,y0,y1,y2,y3,y4,-⟩:=e.o.ca;obtain⟨g0,g1,g2,g3,g4,-⟩:=e.o.fz;go_wp2_with fail;replace a:=Zy (LC.own a.o (Kp.wu (D:=(·=_)) rfl h j m D E) J bn);replace e:=Zy (e.o.wu h j m D E);refine kk f b a.o ?_;clear b d;clear y0 g0 y1 g1 y2 g2 y3 g3 y4 g4 z6;clear f aA ay az;refine kL ?_;go_wp2_with fail;exact aF.o _ _ _ a.o e.o J W.o
@[go_sem] theorem run_store_func {P:Program} {w:World} {a:Addr} {m:Mode} (f:Fn) (x y:Array Value):(store a (.func f x y) m).run P w=stored P w a (.func f x y) m:=run_store P w a _ m rfl
@[go_sem] theorem run_store_nilFunc {P:Program} {w:World} {a:Addr} {m:Mode}:(store a .nilFunc m).run P w=stored P w a .nilFunc m:=run_store P w a _ m rfl
def Pz(n:Nat):Nat:=
 if n=1 then 213 else if n=2 then 214 else if n=3 then 215 else if n=4 then 216 else if n=5 then 217 else if n=6 then 218 else
 if n=7 then 219 else if n=8 then 220 else if n=9 then 221 else if n=10 then 222 else if n=11 then 223 else if n=12 then 224 else
 if n=13 then 225 else if n=14 then 226 else 227
def DR:Array Value:=#[.nilFunc,.func (.func 213) #[] #[],.func (.func 214) #[] #[],.func (.func 215) #[] #[],.func (.func 216) #[] #[],.func (.func 217) #[] #[],.func (.func 218) #[] #[],
 .func (.func 219) #[] #[],.func (.func 220) #[] #[],.func (.func 221) #[] #[],.func (.func 222) #[] #[],.func (.func 223) #[] #[],.func (.func 224) #[] #[],.func (.func 225) #[] #[],
 .func (.func 226) #[] #[],.func (.func 227) #[] #[]]
theorem LA(a:1<=n)(b:n<=15):DR[n]?=some (.func (.func (Pz n)) #[] #[]):=by
 have:n=1\/n=2\/n=3\/n=4\/n=5\/n=6\/n=7\/n=8\/n=9\/n=10\/n=11\/n=12\/n=13\/n=14\/n=15:=Zm
 rcases this with rfl|rfl|rfl|rfl|rfl|rfl|rfl|rfl|rfl|rfl|rfl|rfl|rfl|rfl|rfl<;>rfl
theorem jG{fn:Func}{c:Code}(b:prog.funcs[f]?=some fn)(a:fn.body=some c)(d:(fn.name== "runtime.NumGoroutine")=false)(args:Array Value)(w:World):(callFunc f args).run prog w=.ok (.enter f args) w:=by
 have e:¬fn.name= "runtime.NumGoroutine" :=by simpa using d
 simp[callFunc,go_sem,b,a,e]
theorem NJ(a:1<=n)(b:n<=15)(args:Array Value)(w:World):(callFunc (Pz n) args).run prog w=.ok (.enter (Pz n) args) w:=by
 have:n=1\/n=2\/n=3\/n=4\/n=5\/n=6\/n=7\/n=8\/n=9\/n=10\/n=11\/n=12\/n=13\/n=14\/n=15:=Zm
 rcases this with rfl|rfl|rfl|rfl|rfl|rfl|rfl|rfl|rfl|rfl|rfl|rfl|rfl|rfl|rfl
 . exact jG func213 rfl Zo args w
 . exact jG func214 rfl Zo args w
 . exact jG func215 rfl Zo args w
 . exact jG func216 rfl Zo args w
 . exact jG func217 rfl Zo args w
 . exact jG func218 rfl Zo args w
 . exact jG func219 rfl Zo args w
 . exact jG func220 rfl Zo args w
 . exact jG func221 rfl Zo args w
 . exact jG func222 rfl Zo args w
 . exact jG func223 rfl Zo args w
 . exact jG func224 rfl Zo args w
 . exact jG func225 rfl Zo args w
 . exact jG func226 rfl Zo args w
 . exact jG func227 rfl Zo args w
theorem NP{k:Int}{e:Int}{g: Value}(b:jF w l p d c k m t e s g vs)(i:Ins)(n:Nat)(a:i.op=n)(h:oP m i=true):Calls prog (Pz n) #[some c,.agg #[i.op,i.a,i.name,i.member]] w (jL w l p d c k m t e g vs (jN p k m i s)):=by
 obtain⟨_,f,_,_,j,_⟩:=qJ h;have:n=1\/n=2\/n=3\/n=4\/n=5\/n=6\/n=7\/n=8\/n=9\/n=10\/n=11\/n=12\/n=13\/n=14\/n=15:=Zm
 rcases this with rfl|rfl|rfl|rfl|rfl|rfl|rfl|rfl|rfl|rfl|rfl|rfl|rfl|rfl|rfl
 . exact NR b i a
 . exact NW b i a (f (.inl a))
 . exact PH b i a (f (.inr a))
 . exact NL b i a
 . exact LJ b i a
 . exact NQ b i a
 . exact NM b i a
 . exact NV b i a
 . exact LD b i a
 . exact NU b i a
 . exact LK b i a
 . exact JP b i a
 . exact PG b i a
 . exact NS b i a
 . exact LF b i a
theorem jF.setAt{k:Int}{i:Int}{f: Value}(a:jF w l p g c k m t i s f vs)(n:Int)(q:0<=n/\n<=100):jF (w.setCell (c,10) n) l p g c k m t n s f vs/\Kp (qo l c f vs) w (w.setCell (c,10) n):=by
 have d:Kp (·=c) w (w.setCell (c,10) n):=nH;have r:=a.hB;have u:=a.hk;have v:=a.kr.ord;exact⟨⟨a.kr.kp d (fun h o b=>Zm),a.hB,a.hk,jM.kp jd.stays d (fun h o b=>Zm) a.ml,a.mi,a.blk.jy 10 _,
  jb a.loc d (fun j e _ b=>by subst b;exact a.Qq.1 e),jb a.kH d (fun j e _ b=>by subst b;exact a.Qq.2 e),a.ne,q,a.Qs,a.NY⟩,d.weak fun h _ b=>.inr (.inl b)⟩
theorem qo.sub{g h vs': Value}(d:¬qo l f g vs b)(e:jV n g vs h vs')(i:b<n):¬qo l f h vs' b:=by
 rintro(c|c|c|c)
 . exact d (.inl c)
 . exact d (.inr (.inl c))
 . rcases e b (.inl c)with a|a|a
   . exact d (.inr (.inr (.inl a)))
   . exact d (.inr (.inr (.inr a)))
   . omega
 . rcases e b (.inr c)with a|a|a
   . exact d (.inr (.inr (.inl a)))
   . exact d (.inr (.inr (.inr a)))
   . omega
theorem jd.code(b:jd w I m (mF m t)):SliceOf 4 uN w I (.slice t.a2 m.code.length t.c2) m.code:=by
 obtain⟨d,e,f,a,-,c,-⟩:=b;simp only[mF,TH,UF,V8]at a;obtain⟨-,rfl,-⟩:=a;exact c
def RI(w:World)(l:jk)(p:iZ)(kb:Nat)(vl vs:Value)(o:Sum Int (List oV))(e:Ending)(w':World):Prop:=
 Kp (qo l kb vl vs) w w'/\ji w' l p/\((∃n,o=.inl n/\e=.panicked (Ac n))\/∃fs v vl' vs',o=.inr fs/\e=.returned v/\Kn w' w.heap.size v vl' vs' fs)
theorem Im {U: Nat} {k: Int} {bu: Int} {y: Value} (j : jF w l p U g k m t bu s y vs) :Calls prog 206 #[some g] w (RI w l p g y vs (nR p k m m.code 0 true s [])):=by
 obtain⟨a1,c1,a2,c2,a3,c3⟩:=t;have aO:=j.blk.lt;have aV:=Zy j;obtain⟨w0,R⟩:=SS (w.alloc (.cells DR 346));have b3:hZ w0 w 346 DR:=by rw[R];exact hZ.new _ _ _
 have aH:Ext w w0:=by rw[R];exact kx
 have h:=j.ext aH;have c8:=j.blk.c 8 (.slice a2 m.code.length c2) rfl;have eu:=j.mi.code;have⟨HA,cu,bZ,dR⟩:=jU h aH b3 R;unfold DR at R;have HX:=Zy R;clear j h aH b3 R;go_enter func206,ntmps206;go_wp2_with fail;rw[<-HX.o];clear c8;go_loopw [4,5,15] (fun v dG aS wr=>∃(b:Nat) (I:Bool) (L:oV) (Y:Int) (D E:Value) (f:List oV),b<=m.code.length/\dG=.bool I/\aS=.int .i64 b/\jF wr l p U g k m ⟨a1,c1,a2,c2,a3,c3⟩ Y L D E/\jV (w+1) y vs D E/\
     Kp (qo l g y vs) w wr/\Kn wr w v D E f/\f.length=b/\hZ wr w 346 DR/\Zz (nR p k m m.code 0 true s []=nR p k m (m.code.drop b) b I L f)) (fun _ _ aS _=>m.code.length - (intOf aS).toNat)
 case atStart=>exact⟨0,true,s,bu,y,vs,[],SV _,rfl,rfl,HA,jV.refl _ _ _,cu.any,Kn.nil _ _ _ _,rfl,bZ,Zy rfl⟩
 case round =>
  obtain⟨b,I,L,Y,D,E,f,hq,rfl,rfl,h,hO,hK,aj,bR,hB,af⟩:=hrel;have⟨bF,bg⟩:=jf h bR;clear bR;have eX:(w:Nat)<wr:=hB.lt;have dZ:=h.blk.lt;have aa:(w:Nat)<w+1:=Vd _;by_cases dK:b<m.code.length
  . obtain⟨⟨op,ia,nm,ae⟩,hi⟩:=om m.code b dK;have ak:=h.mi.ins _ (RA hi);obtain⟨c,rfl⟩:∃c:Nat,op=c:=⟨op.toNat,by have:=(qJ ak).2.2.2.2.1;simp only at this;omega⟩;have au:1<=c/\c<=15:=by have:=(qJ ak).2.2.2.2.1;simp only at this;omega
    obtain⟨Z,aU,cs,ea,dW,rfl,-,bP⟩:=(jd.code h.ml).get hi;cases ea;obtain⟨g0,g1,g2,g3⟩:=bP.four;have gz:=jc g0;have X:Zz (nR p k m m.code 0 true s []=match sD p k m I b L with
     |none=>.inl ((b:Int)+1)
     |some e=>match jN p k m ⟨c,ia,nm,ae⟩ e with
      |none=>.inl ((b:Int)+1)
      |some N=>nR p k m (m.code.drop (b+1)) (b+1) (decide ((c:Int)≠10)&&decide ((c:Int)≠13)) N (f++[e])):=Zy (by rw[af.o,oM hi];rfl)
    have eO:(b:Int)<m.code.length:=Zm
    obtain⟨bC,bK⟩:=h.setAt b Zm;have dD:=h.blk.c 10 Y rfl;have dF:=h.blk.frozen 10;have eF:¬wr=g:=Zm
    have eG:¬g=wr:=Zm
    obtain⟨w5,av⟩:=SS ((wr.setCell (g,10) b).alloc (.cells #[c,ia,nm,ae] 140));have aI:Ext (wr.setCell (g,10) b) w5:=by rw[av];exact kx
    have b7:hZ w5 wr 140 #[c,ia,nm,ae]:=by rw[av];exact hZ.newAt _ _ Zl
    have bU:¬qo l g D E wr.heap.size:=h.pG;have bW:¬qo l g y vs w.heap.size:=aV.pG;have⟨dx,B7,z,V,cZ,cK,HB,HK,A⟩:=sV av b7 (bK.trans aI.any) (bC.ext aI) aj ak hB hK hO;have⟨aA,W⟩:=jf bU bW;clear h hi ak bP av aI b7 bC bK aj hB hK hO af bU bW;go_wp2_with fail;rw[<-dx.o];refine(LH V I).mono ?_;rintro a w6 ⟨K,dI,⟨C,rfl⟩|⟨e,C,rfl,eY,eZ,n,aN⟩⟩
    . refine⟨rfl,(HK.look z (A.le (UC _))).look K (A.le (UC _)),dI,.inl ⟨_,?_,rfl⟩⟩;rw[X.o,C]
    have df:=(Kn.kp (Kn.kp cZ bF z (jV.refl _ _ _) aO) V K aN aO);obtain⟨cs,Q⟩:=df;obtain⟨la,lc,rfl⟩:=jA n.loc;obtain⟨sa,sc,rfl⟩:=jA n.kH;obtain⟨S,T,rfl⟩:=jA Q.2.1;replace X:Zz (nR p k m m.code 0 true s []=match jN p k m ⟨c,ia,nm,ae⟩ e with
        |none=>.inl ((b:Int)+1)
        |some N=>nR p k m (m.code.drop (b+1)) (b+1) (decide ((c:Int)≠10)&&decide ((c:Int)≠13)) N (f++[e])):=Zy (by rw[X.o,C])
    have aR:¬(Value.slice S f.length T).ownBlock=some g:=fun a=>by
     obtain⟨ai,hb⟩:=oF Q.2.1 a;exact absurd (hZ.inj hb n.blk) Zn
    have dN:¬(Value.slice S f.length T).ownBlock=some wr.heap.size:=fun a=>by
     obtain⟨ai,hb⟩:=oF Q.2.1 a;exact absurd (hZ.inj hb (B7.o.kp K aA.o)) Zn
    have dO:¬(Value.slice S f.length T).ownBlock=some w.heap.size:=fun a=>by
     obtain⟨ai,hb⟩:=oF Q.2.1 a;exact absurd (hZ.inj hb ((HB.o.kp z.o (qo.sub W.o A.o aa)).kp K (qo.sub W.o A.o aa))) Zn
    obtain⟨dz,dE,dL,B⟩:=qC.ex (fun W'=>Kp (fun Z=>(Value.slice S f.length T).ownBlock=some Z) w6 W') _ Kp.rr;have dP:=fun O=>(n.blk.kp (B.jv O) aR).c 11 (.slice la e.locals.length lc) rfl;have dQ:=fun O=>(n.blk.kp (B.jv O) aR).c 12 (.slice sa e.stack.length sc) rfl;have ed:=n.blk.lt;have⟨u,r,H,az,bq⟩:=ni B n Q K aN;have ek:e.locals.length<=6:=SY n.NY n.mi.locals
    have eP:e.stack.length<=5:=SY n.Qs n.mi.stack
    have dY:(w:Nat)+1<=(w6:Nat):=SY K.size z.size
    clear n Q K aN B C;go_wp2_with fail;refine jW u 14 [([0,1,2,3,4,6,7,8,9],5),([],10),([11],12),([],13)] [] ?_ ?_
    . exact jg
    refine lJ ?_;intro x i;go_wp2_with fail;refine(qX (qi (r.ext jg).loc (oN tX _)) Zm).mono ?_;rintro a w7 ⟨⟨c1,rfl,aP⟩,bJ⟩;obtain⟨aB,aC,rfl⟩:=jA aP;have bI:=((Kp.refl _ w6).drew:Ext w6 _).trans bJ;have⟨ag,dm⟩:=jf bI aP;clear aP bJ bI;go_wp2_with fail;refine kk u i ag.any ?_;clear i x;refine kN rfl fun x i=>?_;go_wp2_with fail;refine(qX (qi (r.ext ag).kH (oN tX _)) Zm).mono ?_;rintro a w8 ⟨⟨dS,rfl,aQ⟩,aJ⟩;obtain⟨aD,aF,rfl⟩:=jA aQ;have⟨P,cz,dn⟩:=jB (ag.trans aJ) aJ aQ;clear aQ aJ;go_wp2_with fail;refine kk u i P.any ?_;clear i x;refine lJ ?_;intro x i;go_wp2_with fail;refine kk u i (P.alloc _).any ?_;clear i x;refine kN rfl fun x i=>?_;refine jo Nc rfl (.tmp 27) (.tmp 39) rfl w (.slice S f.length T) f.length _ rfl (jb (D:=fun _=>False) H.2.1 (P.alloc _) fun _ _ _ d=>d) w8 1 [.slice aB e.locals.length aC,.slice aD e.stack.length aF] rfl rfl (hH.Fh _ _ rfl) Zt (SX bg.o) (by simp;have:=P.size;omega) ?_;intro g9 c9 w9 bN aL bQ;change x _ _;have F:=(P.alloc _).any.trans aL;refine kk u i F ?_;clear i x;have bE:jF w9 l p U g k m ⟨a1,c1,some ⟨Z,aU,none⟩,c2,a3,c3⟩ b e (.slice la e.locals.length lc) (.slice sa e.stack.length sc):=by
     have eH:=r.kr.ord;have dV:=r.hB;have bT:=fun d a=>(H.2.1.lt d a).1;have dX:=aV.kr.lt;refine r.kp' F (r.kr.kp F (fun d hx a=>SX (bT d a))) aR (fun d hx a=>?_) (fun d hx a=>?_) (fun d hx a=>SX (bT d a))
     . obtain⟨ai,o⟩:=oF H.2.1 a;obtain⟨dA,q⟩:=oF r.loc hx;exact absurd (hZ.inj o q) Zn
     . obtain⟨ai,o⟩:=oF H.2.1 a;obtain⟨dA,q⟩:=oF r.kH hx;exact absurd (hZ.inj o q) Zn
    have bG:=(B7.kp az aA).kp F dN;have bH:=((HB.kp z (qo.sub W A aa)).kp az (qo.sub W A aa)).kp F dO
    have bS : Kn w9 w (g9, f.length + 1, c9) (.slice la e.locals.length lc) (.slice sa e.stack.length sc) (f ++ [e]) := by
     have hI:∀d,w6.heap.size<=d->d<(w8.alloc (.cells #[.slice aB e.locals.length aC,.slice aD e.stack.length aF] 349)).heap.size→
         Jq (w8.alloc (.cells #[.slice aB e.locals.length aC,.slice aD e.stack.length aF] 349)) w (.slice S f.length T) (.slice la e.locals.length lc) (.slice sa e.stack.length sc) d:=fun d o q=>
      ⟨Zm,q,fun a=>SX ((H.o.2.1.lt d a).2),fun a=>SX ((r.o.loc.lt d a).2),fun a=>SX ((r.o.kH.lt d a).2)⟩
     have eT:=ag.size;refine(MQ.ext H (P.alloc _)).snoc ?_ ?_ bN aL (fun d a=>?_)
     . exact SliceOf.lS (R:=kF) mg (jb (D:=fun _=>False) dm (cz.alloc _) fun _ _ _ d=>d) rfl rfl (fun _ _=>rfl) (fun _ _=>rfl) (fun d o q=>hI d (by simpa using o) q) Zm
     . exact SliceOf.lS (R:=kF) mg (jb (D:=fun _=>False) dn (kx:Ext w8 _) fun _ _ _ d=>d) rfl rfl (fun _ _=>rfl) (fun _ _=>rfl) (fun d o q=>hI d Zm q) Zm
     . have e':g9=d:=by simpa [Value.ownBlock]using a
       subst e';rcases bQ with j|j
       . exact .inl j
       . right;omega
    have⟨aW,aX,aY,dh⟩:=jU bE bG bH bS;have bf:=Zy (by
     have o:=(HK.look z (A.le (UC _))).look az (A.le (UC _));exact o.own F (fun d a=>(H.2.1.lt d a).1))
    have ah:=Zy (A.trans bq (SX z.size));have eU:=F.size;have bV:=qo.sub aA bq (by have:=B7.lt;exact this);have bX:=qo.sub W ah aa;clear bE bG bH bS bN aL bQ F u dP dQ;refine ku ?_;go_wp2_with fail;obtain⟨dz,dE,dL,B⟩:=qC.ex (fun W'=>Kp (qo l g (.slice la e.locals.length lc) (.slice sa e.stack.length sc)) w9 W') _ Kp.rr;obtain⟨-,r0,r1,r2,r3,-⟩:=hZ.lC fun O=>(aX.kp (B.jv O) bV);have rf:=fun O=>(aY.kp (B.jv O) bX).c c _ (LA au.1 au.2);have eD:(c:Int)<16:=Zm
    have eB:(0:Int)<=c:=Zm
    have u:=Zy B;have dJ:=NJ au.1 au.2;clear B;refine jW u 7 [([0,1,2,3,4,5],6)] [] ?_ ?_
    . exact jg
    refine lJ ?_;intro x i;go_wp2_with fail;refine(NP (aW.ext jg) ⟨c,ia,nm,ae⟩ c rfl cK).mono ?_;rintro a G aK;replace aK:=jL.behind ((Kp.refl _ w9).drew) aK;rcases aK with⟨J,bM,⟨C,rfl⟩|⟨N,C,rfl,ax,ay,bB,aM⟩⟩
    . refine⟨rfl,bf.look J (ah.le (UC _)),bM,.inl ⟨_,?_,rfl⟩⟩;rw[X.o,C]
    have bO:=aX.kp J bV;have y0:=bO.c 0 c rfl;have cB:Zz (jF G l p U g k m ⟨a1,c1,some ⟨Z,aU,none⟩,c2,a3,c3⟩ b N ax ay/\jV (w+1) y vs ax ay/\Kp (qo l g y vs) w G/\
        Kn G w (g9,f.length+1,c9) ax ay (f++[e])/\hZ G w 346 DR/\
        nR p k m m.code 0 true s []=nR p k m (m.code.drop (b+1)) (b+1) (decide ((c:Int)≠10)&&decide ((c:Int)≠13)) N (f++[e])):=
     Zy ⟨bB,ah.trans aM Zm,bf.look J (ah.le (UC _)),Kn.kp dh aW J aM aO,aY.kp J bX,by rw[X.o,C]⟩
    have cO:=Zy J;clear bO J bM bB aM C r0 r1 r2 r3 rf dJ;go_wp2_with fail;refine kk u i cO ?_;clear i x;clear u;refine tH rfl ?_;have bz:∀aG:Bool,aG=(decide ((c:Int)≠10)&&decide ((c:Int)≠13))->∃(q':Nat) (bA:Bool) (L:oV) (Y:Int) (D E:Value) (aT:List oV),q'<=m.code.length/\Value.bool aG=.bool bA/\Value.int .i64 ((b:Int)+1)=.int .i64 q'/\
        jF G l p U g k m ⟨a1,c1,some ⟨Z,aU,none⟩,c2,a3,c3⟩ Y L D E/\jV (w+1) y vs D E/\
        Kp (qo l g y vs) w G/\Kn G w (g9,f.length+1,c9) D E aT/\aT.length=q'/\hZ G w 346 DR/\Zz (nR p k m m.code 0 true s []=nR p k m (m.code.drop q') q' bA L aT):=by
     rintro aG rfl;obtain⟨o,q,h3,h4,h5,h6⟩:=cB.o;exact⟨b+1,_,N,b,ax,ay,f++[e],Zm,rfl,by simp,o,q,h3,h4,by have:=bg.o;simp[this],h5,Zy h6⟩
    have aZ:=Zy bz;have eQ:IntKind.i64.wrap ((b:Int)+1)=b+1:=TK _ Zm;clear bz;by_cases bY:c=10
    . subst bY;go_wp2_with fail;exact⟨aZ _ rfl,by simp[intOf];omega⟩
    . have dU:((c:Int) !=10)=true:=TI.2 Zm;obtain⟨dC,dH⟩:∃dB,((c:Int) !=13)=dB:=⟨_,rfl⟩;have hd:Zz (dC=(decide ((c:Int)≠10)&&decide ((c:Int)≠13))):=Zy (by
       rw[<-dH,Tz (by omega:(c:Int)≠10),WX];by_cases j:(c:Int)=13
       . rw[j];rfl
       . rw[TI.2 j,Tz j])
      clear bY;go_wp2_with fail;exact⟨aZ _ hd,by simp[intOf];omega⟩
  . have dM:b=m.code.length:=Zm
    have HQ:Zz (nR p k m m.code 0 true s []=if I then .inl ((m.code.length:Int)+1)else .inr f):=Zy (by rw[af.o,U4 Zm,dM];rfl);have⟨di,bn⟩:=jf aj hK;obtain⟨-,-,-,-,-,-,-,-,-,e8,-,dD,-⟩:=h.blk.ca;have dF:=h.blk.frozen 10;obtain⟨bD,bL⟩:=h.setAt m.code.length Zm;have⟨V,z,dw⟩:=jB bD bL hO;clear h hB hK aj hO bD bL af;cases I
    . go_wp2_with fail;refine Cv (v:=u4) (by simp[results,results206,go_sem]) rfl ?_;exact⟨bn,bF.kr,.inr ⟨_,_,_,_,HQ,rfl,di⟩⟩
    . go_wp2_with fail;refine(mK g m.code.length (V.blk.c 10 _ rfl) Zm Zm).mono ?_;rintro a w3 ⟨rfl,rfl⟩;exact⟨rfl,bn.look z (dw.le (UC _)),V.kr,.inl ⟨_,HQ,rfl⟩⟩
theorem OM(x:Value)(w:World):(Instr.typeAssert (.iface 334 x) 20 334 true).run prog w=.ok (.tuple #[x,.bool true]) w:=by kernel_rfl
theorem Il(w:World){a b:Nat}{l m:Value}(d:hZ w a 303 #[l])(e:hZ w b 3 #[m])(n:Int)(k:List PanicEntry):
    CallsD prog 205 #[some a,some b] (.panicking ({v:=.iface 334 (.agg #[n]),recovered:=false}::k)) w fun f u h=>
     f=.returned (.tuple #[])/\u=.panicking ({v:=.iface 334 (.agg #[n]),recovered:=true}::k)/\Kp (fun c=>c=a\/c=b) w h/\hZ h a 303 #[()]/\hZ h b 3 #[n]:=by
 have i:a≠b:=fun f=>by subst f;exact absurd (hZ.inj d e) Zn
 have⟨o,p⟩:=jf d e;refine callsD_of_wpS func205 rfl fun y x s=>?_;apply wpS_seq;apply wpS_region;simp[wpOpsS,go_sem,recoverD,s,ntmps205,Exit.thenS];refine wpS_of_wp ?_;simp only[Um,Ul,UX,Ug,TW,TF,Tu,Tk,Ti];have B:=d.c 0 l rfl;have C:=e.c 0 m rfl;have E:=d.lt;have F:=e.lt;have z:=d.frozen 0;have A:=e.frozen 0;have D:=OM;clear d e;go_wp2_with fail;go_region_with (fail)
 all_goals
  have t:Kp (fun c=>c=a\/c=b) w (w.setCell a ()):=(Kp.refl _ w).setCell (p:=⟨a,0,none⟩) (fun _=>.inl rfl) _;have j:Kp (·=b) (w.setCell a ()) ((w.setCell a ()).setCell b n):=nH;have g:Ext ((w.setCell a ()).setCell b n) ((((w.setCell a ()).setCell b n).alloc (.cells #[n] 334)).drew):=(jw _).drew;have q:hZ (w.setCell a ()) a 303 #[()]:=o.jy 0 _;have r:hZ ((w.setCell a ()).setCell b n) b 3 #[n]:=
   (p.kp ((Kp.refl (·=a) w).setCell (p:=⟨a,0,none⟩) (fun _=>rfl) ()) (Ne.symm i)).jy 0 _
  exact⟨rfl,_,rfl,.tuple #[],by simp[results,results205,go_sem],rfl,rfl,(t.trans (j.weak fun c _ f=>.inr f)).trans g.any,(q.kp j i).ext g,r.ext g⟩
theorem LG:CallsD prog 205 #[some a,some b] .returning w fun d f g=>d=.returned (.tuple #[])/\f=.returning/\g=w:=by
 refine callsD_of_wpS func205 rfl fun c h e=>?_;apply wpS_seq;apply wpS_region;simp[wpOpsS,go_sem,recoverD,e,ntmps205,Exit.thenS];refine wpS_of_wp ?_;simp only[Um,Ul,UX,Ug,TW,TF,Tu,Tk,Ti];go_wp2_with fail;exact⟨rfl,_,by cases c;simp_all,.tuple #[],by simp[results,results205,go_sem],rfl,rfl,rfl⟩
def Rz(Q:Exit->Act->World->Prop):Exit->Act->World->Prop
 | .panic _,_,_=>False
 |e,a,w=>Q e a w
theorem yx{id:Nat}{Q:Exit->Act->World->Prop}{a:Act}{l:List Oper}{g:Type}(f:g->World)(n:Nat)(d:List (List Nat×Nat))(q:List Nat)(h0:∃c,w.drew=f c)(k:P.follows .mixedOrders=true)(j:Dv l.toArray n d q=true)(b:tq P l (fun e=>∃c,e=f c) (Rz Q) (fun h e=>wpList P l.toArray (Rz Q) (l.drop n) h e) d q a w.drew):(Code.region id l.toArray true).wp P Q a w:=
 Code.wp_mono (Q:=Rz Q) (fun i _ _ b=>by cases i<;>first|exact b|exact b.elim) (wU f n d q h0 k j (fun _ _ _ _ _ b=>b) b)
theorem LP(a:n<=6):(madeCells (Value.agg #[Tc, ""]).cells (n*2)).toList=(List.replicate n EO).flatMap mg:=by
 have:n=0\/n=1\/n=2\/n=3\/n=4\/n=5\/n=6:=Zm
 rcases this with rfl|rfl|rfl|rfl|rfl|rfl|rfl<;>(show _=_;kernel_rfl)
theorem Jl{t: Nat}(o:Elem t e k){z:Value}(d:(prog.info? e).map (·.zero)=some (some z))(w:World){m:Array Oper}{rest:List Oper}{f:Oper}{a:Act}{Q:Exit->Act->World->Prop}(r:f.guard=none)(x y:Operand)(u:f.op=Op.makeSlice t x y)(base n:Nat) (B:a.eval x=.int .i64 n) (C:a.eval y=.int .i64 n) (s:n<=1000) (q:base<=w)(p:∀b,b.ownsRow base e k (w,n,n) n (madeCells z.cells (n*k)).toList->Ext w b->w.heap.size<b->wpList prog m Q rest (a.put f.dst (w,n,n)) b):wpList prog m Q (f::rest) a w:=by
 obtain⟨l,H,bytes,A,h,j,v,E,G,i,D⟩:=o;rw[h]at d;simp only[WZ,TT]at d;rw[d]at j;cases j;refine wpList_make_full w r x y t u base e l z k A h d v .i64 .i64 n n n B C rfl rfl ?_ (by unfold maxLen;omega) q ?_
 . have:l.bytes*n<=4096*1000:=UL Zm s;omega
 . intro b g c;refine p b g ⟨c.os,c.tape,c.output,c.size,fun k i F=>c.block k i Zl⟩ (g.lt w rfl).2
theorem MQ.low{d: World}{c: Value}{i:List oV}(t:MQ W b v c vs i cs)(f:Kp D W d)(g:∀a,b<=a->¬D a)(h:e<=b):MQ d e v c vs i cs:=by
 obtain⟨o,p,q⟩:=t;have k:∀a,Jq W b v c vs a->Jq d e v c vs a:=fun a ⟨q1,q2,q3⟩=>⟨TL h q1,Tx q2 f.size,q3⟩;have j:Same (Jq W b v c vs) W d:=Kp.same f fun a u=>g a u.1;refine⟨o,lV (jb p f (fun s _ y=>g s y)) h,fun z n r w x=>?_⟩;obtain⟨l,m⟩:=q z n r w x;exact⟨l.keep kF.stays j k,m.keep kF.stays j k⟩
def rO(n:ByteArray)(m:M.Method)(q r:Nat):List Tag:=(lN n::(m.args.take q).map mr)++List.replicate r EO
theorem JD{n:ByteArray}{r: Nat}(a:q<=m.args.length):(rO n m q r).length=q+1+r:=by simp[rO];omega
theorem JE{n:ByteArray}{r: Nat}{k:Kind}(a:m.args[q]?=some k):(rO n m q (r+1)).set (q+1) (mr k)=rO n m (q+1) r:=by
 have d:=(Tw.1 a).1;have b:(lN n::(m.args.take q).map mr).length=q+1:=by simp;omega
 have c:m.args.take (q+1)=m.args.take q++[k]:=by rw[TQ,a];rfl
 unfold rO;rw[List.set_append_right _ _ Zm,b,Wi,c,List.replicate_succ];simp
theorem JC{n:ByteArray}{r: Nat}(b:q<=m.args.length):(rO n m q (r+1))[q+1]?=some EO:=by
 have a:(lN n::(m.args.take q).map mr).length=q+1:=by simp;omega
 unfold rO;rw[TS Zm,a,Wi];rfl
theorem JO(az:ji w l p)(x:rH)(hx:kC p x=true):Calls prog 188 #[.pointer (some ⟨l.L,0,none⟩),.agg #[.int .i64 x.of.keeper,.string x.of.name,.int .i64 x.at_]] w fun b w'=>Kp (·=l.D) w w'/\ji w' l p/\∃K vl vs,b=.returned (.tuple #[K,.int .i64 (M.look p x).2])/\Kn w' w.heap.size K vl vs (M.look p x).1:=by
 obtain⟨⟨j,h⟩,y⟩:=x;have au:=tJ (nQ az.ok hx).1;obtain⟨a,hm⟩:∃a,M.method p ⟨⟨j,h⟩,y⟩=a:=⟨_,rfl⟩;have bL:∀(fn:Fn) (first bA:Array Value) (w:World),(Instr.makeFunc fn first bA).run prog w=.ok (.func fn first bA) w:=fun _ _ _ _=>rfl;obtain⟨w0,Z⟩:∃w0,w0=((w.alloc (.cells #[.int .i64 j,.string h,.int .i64 y] 78)).alloc (.cells #[.slice none 0 0] 303)).alloc (.cells #[.int .i64 0] 3):=⟨_,rfl⟩;have bE:Ext w w0:=by rw[Z];exact kx
 have b3:hZ w0 w.heap.size 78 #[.int .i64 j,.string h,.int .i64 y]:=by rw[Z];exact(hZ.new _ _ _).ext kx
 have b4:hZ w0 (w.heap.size+1) 303 #[.slice none 0 0]:=by rw[Z];exact(hZ.newAt (W:=w.alloc (.cells #[.int .i64 j,.string h,.int .i64 y] 78)) (g:=w.heap.size+1) _ _ Zl).ext kx
 have b5:hZ w0 (w.heap.size+2) 3 #[.int .i64 0]:=by rw[Z];exact hZ.newAt _ _ Zl
 have⟨cK,bg,aK,bT,aZ,aI,HX,HM,dQ⟩:=sV Z bE b3 b4 b5 az hx hm bL;have di:=az.lt;clear Z bE b3 b4 b5 az hx hm bL;go_enter_defers func188,ntmps188;go_wp2_with fail;rw[<-cK.o];refine(lH _ _ _ (aI.o.ext bg.o) ⟨⟨j,h⟩,y⟩ HX.o).mono ?_;rintro b w1 ⟨⟨cs,aF,rfl⟩,bF⟩;rw[HM.o]at aF au;obtain⟨dM,rfl⟩:=nU aF;obtain⟨E,B,F,H,G,I⟩:=dM;obtain⟨n,hn⟩:∃n:Nat,a.locals=n:=⟨a.locals.toNat,by have:=au.args;omega⟩;obtain⟨d,aa⟩:∃d,d=w1.alloc (.cells (mF a ⟨E,B,F,H,G,I⟩).toArray 132):=⟨_,rfl⟩;have aN:Ext w1 d:=by rw[aa];exact kx
 have b6:hZ d w1.heap.size 132 (mF a ⟨E,B,F,H,G,I⟩).toArray:=by rw[aa];exact hZ.new _ _ _
 have ai:=bF.trans aN;obtain⟨bz,f,bN,m⟩:=ll d;have dA:=fun z=>((aK.o.ext ai).ext (m.jv z)).c 0 (.int .i64 j) rfl;obtain⟨-,dC,dD,dE,dF,-⟩:=hZ.lC fun z=>(b6.ext (m.jv z));have dG:=fun z=>(b6.ext (m.jv z)).c 4 (.int .i64 n) (by rw[<-hn];rfl);obtain⟨-,-,-,-,-,-,dH,dI,dJ,-⟩:=hZ.lC fun z=>(b6.ext (m.jv z));have⟨v,dR,bn,aM,cu,bf,af,X⟩:=wL m aa (bg.o.trans ai) ai (jM.ext jd.stays aN aF) b6 au hn;have dw:n<=6:=by have:=au.locals;omega
 have ek:w.heap.size+3<=d.heap.size:=by have:=ai.size;have:=aZ.o.lt;omega
 clear bF aN b6 ai m aF au;simp only[mF,hn]at aa;have cO:=Zy aa;clear aa hn;simp only[mF,X.o];go_wp2_with fail;rw[<-cO.o];refine yx f 10 [([0,1,2,3,4,5,6],7),([8],9)] [] (v.o.o _ ?_) Zo Zo ?_
 . exact jg
 refine lJ ?_;intro L A;refine Jl vT (z:=.agg #[.int .i64 0,.string ⟨#[]⟩]) Zo _ rfl (.tmp 19) (.tmp 19) rfl w.heap.size n rfl rfl Zm Zr ?_;intro C aU bG eF;change L _ _;simp only[Act.put,Tu,Tk,Ti];rw[LP dw]at aU;have aO:=((Kp.refl _ d).drew:Ext d _).trans bG;refine kk v A aO ?_;clear A L;have⟨ax,cz⟩:=jf aO aU;clear bG aO aU;refine lJ ?_;intro L A;go_wp2_with fail;obtain⟨D,av⟩:∃D,D=C.alloc (.cells #[.pointer (some ⟨l.L,0,none⟩),.int .i64 j,.string a.name,.slice E a.args.length B,.int .i64 a.ret.kind,.string a.ret.name,.int .i64 n,.int .i64 a.stack,.slice F a.code.length H,.slice G a.maps.length I,.int .i64 0,.slice (some ⟨d.heap.size,0,none⟩) n n,.slice none 0 0] 330):=⟨_,rfl⟩;have T:Ext C D:=by rw[av];exact kx
 have bI:hZ D C.heap.size 330 (JN l.L j a ⟨E,B,F,H,G,I⟩ 0 (.slice (some ⟨d.heap.size,0,none⟩) n n) (.slice none 0 0)):=by
  unfold JN;rw[av,X.o];exact hZ.new _ _ _
 refine kk v A (ax.o.alloc _) ?_;clear A L;rw[<-av];have aA:=ax.o.trans T;have bB:jF D l p w.heap.size C.heap.size j a ⟨E,B,F,H,G,I⟩ 0 ⟨List.replicate n EO,[]⟩ (.slice (some ⟨d.heap.size,0,none⟩) n n) (.slice none 0 0):=
  ⟨aI.o.ext (bn.o.trans aA),di,(by have:=ax.o.size;omega),jM.ext jd.stays aA cu.o,af.o,bI,
   (by rw[Vz];exact jb cz.o T (fun _ _ _ x=>x)),Tf _ _ _ _,(fun g _ b=>by cases b),Zm,(by have:=af.o.OL;simp;omega),(by rw[Vz];exact X.o.symm)⟩
 have⟨aX,ae,dS⟩:=jB bB aA av;clear av T bI aA bB v dA dC dD dE dF dG dH dI dJ;refine ku ?_;go_wp2_with fail;simp only[Rz];go_wp2_with fail;obtain⟨c,rfl⟩:∃c,n=c+1:=⟨n - 1,by have:=af.o.args;have:=X.o;omega⟩;obtain⟨bz,f,bN,m⟩:=ll D;have aW:=fun z=>(aX.o.ext (m.jv z)).blk.c 11 (.slice (some ⟨d.heap.size,0,none⟩) (c+1) (c+1)) rfl;have dB:=fun z=>(((aK.o.ext aM.o).ext ae.o).ext (m.jv z)).c 1 (.string h) rfl;have v:=Zy m;clear m;refine yx f 8 [([0,1,2,3,4,5,6],7)] [] (v.o.o _ ?_) Zo Zo ?_
 . exact jg
 refine lJ ?_;intro L A;go_wp2_with fail;refine(yN _ h).mono ?_;rintro b w5 ⟨rfl,aj⟩;have Q:=Zy (((Kp.refl _ D).drew:Ext D _).trans aj);clear aj;go_wp2_with fail;refine kk v A Q.o ?_;clear A L;have R:=aX.o.ext Q.o;have U:=R.loc;obtain⟨dh,J⟩:=oF U rfl;obtain⟨x0,x1⟩:=(lT (enc:=mg) (k:=2) (fun _=>rfl) (l:=List.replicate (c+1) EO) (by simpa using U) (i:=0) (x:=EO) Zl).two;rw[Ua]at x0 x1;have f0:=J.frozen 0;have f1:=J.frozen 1;have bQ:=J.lt;have bR:=Zy R;clear R U J v aW dB;refine ku ?_;go_wp2_with fail;simp only[Rz];have ag:jF w5 l p w.heap.size C.heap.size j a ⟨E,B,F,H,G,I⟩ 0 ⟨List.replicate (c+1) EO,[]⟩ (.slice (some ⟨d.heap.size,0,none⟩) (List.replicate (c+1) EO).length (c+1)) (.slice none 0 0):=by
  rw[Vz];exact bR.o
 obtain⟨ah,-⟩:=ag.yA 0 (lN h);obtain⟨w6,aG⟩:∃w6,w6=(w5.setCell ⟨d.heap.size,0,none⟩ (.int .i64 (lN h).kind)).setCell ⟨d.heap.size,1,none⟩ (.string (lN h).name):=⟨_,rfl⟩;have aP:Kp (·=d.heap.size) D w6:=by
  rw[aG];exact(Q.o.any).trans (((Kp.refl (·=d.heap.size) w5).setCell (p:=⟨d.heap.size,0,none⟩) (fun _=>rfl) _).setCell (p:=⟨d.heap.size,1,none⟩) (fun _=>rfl) _)
 rw[<-aG];replace ah:jF w6 l p w.heap.size C.heap.size j a ⟨E,B,F,H,G,I⟩ 0 ⟨rO h a 0 c,[]⟩ (.slice (some ⟨d.heap.size,0,none⟩) (c+1) (c+1)) (.slice none 0 0):=by
  rw[Vz]at ah;rw[aG];exact ah
 have dV:a.args.length<=c:=by have:=af.o.args;have:=X.o;omega
 have dW:=af.o.Hr;have y1:=((bf.o.ext ae.o).kp aP (by have:=bf.o.lt;omega)).c 1 (.slice E a.args.length B) rfl;have⟨bS,bX⟩:=jf ah aP;clear ag ah aP aG x0 x1 f0 f1 bQ;go_wp2;go_loopw [35] (fun i wr=>∃e:Nat,e<=a.args.length/\i=.int .i64 e/\jF wr l p w.heap.size C.heap.size j a ⟨E,B,F,H,G,I⟩ 0 ⟨rO h a e (c - e),[]⟩ (.slice (some ⟨d.heap.size,0,none⟩) (c+1) (c+1)) (.slice none 0 0)/\Kp (·=d.heap.size) D wr) (fun i _=>a.args.length - (intOf i).toNat)
 case atStart=>exact⟨0,SV _,rfl,bS.o,bX.o⟩
 case round =>
  obtain⟨e,hq,rfl,N,Y⟩:=hrel;by_cases dn:e<a.args.length
  . obtain⟨⟨kq,kn⟩,hy⟩:=om a.args e dn;obtain⟨o,dz,cs,rfl,dU,rfl,-,bJ⟩:=(jd.args N.ml).get hy;obtain⟨g0,g1⟩:=bJ.two;have gz:=jc g0;obtain⟨r,hr⟩:∃r,c - e=r+1:=⟨c - e - 1,by omega⟩;rw[hr]at N;have dx:c - (e+1)=r:=by omega
    obtain⟨W4,bH,T,b9⟩:=nu wr #[.int .i64 kq,.string kn] 128;obtain⟨bz,f,bN,m⟩:=ll W4;have aW:=fun z=>((N.ext T).ext (m.jv z)).blk.c 11 (.slice (some ⟨d.heap.size,0,none⟩) (c+1) (c+1)) rfl;obtain⟨-,dK,dL,-⟩:=hZ.lC fun z=>(b9.ext (m.jv z));have⟨v,aJ,bZ,bq,df⟩:=ni m N Y T bH;have ed:(e:Int)<a.args.length:=by omega
    have eB:IntKind.i64.wrap ((e:Int)+1)=e+1:=TK _ Zm;clear m N Y T bH b9 bJ;go_wp2_with fail;rw[<-df.o];refine yx f 8 [([0,1,2,3,4,5,6],7)] [] (v.o.o _ ?_) Zo Zo ?_
    . exact jg
    refine lJ ?_;intro L A;go_wp2_with fail;refine(BP _ ⟨kq,kn⟩).mono ?_;rintro b w5 ⟨rfl,aj⟩;have Q:=Zy (((Kp.refl _ W4).drew:Ext W4 _).trans aj);clear aj;go_wp2_with fail;refine kk v A Q.o ?_;clear A L;have R:=aJ.o.ext (bq.o.trans Q.o);have U:=R.loc;have aC:=JD (n:=h) (r:=r+1) hq;have aB:e+1+(r+1)=c+1:=by omega
    obtain⟨dh,J⟩:=oF U rfl;obtain⟨x0,x1⟩:=(lT (enc:=mg) (k:=2) (fun _=>rfl) (l:=rO h a e (r+1)) (by simpa [aC,aB]using U) (JC hq)).two;have f0:=J.frozen ((e+1)*2);have f1:=J.frozen ((e+1)*2+1);have bQ:=J.lt;have dX:(e:Int)+1<c+1:=by omega
    have ag:jF w5 l p w.heap.size C.heap.size j a ⟨some ⟨o,dz,none⟩,B,F,H,G,I⟩ 0 ⟨rO h a e (r+1),[]⟩ (.slice (some ⟨d.heap.size,0,none⟩) (rO h a e (r+1)).length (c+1)) (.slice none 0 0):=by
     rw[aC,aB];exact R
    have cB:=Zy (ag.yA (e+1) (mr ⟨kq,kn⟩)).1;have⟨HL,HY⟩:=jf (aC.trans aB) hy;clear R ag U J v aW dK dL aC aB hy;refine ku ?_;go_wp2_with fail;simp only[Rz];go_wp2_with fail;refine⟨⟨e+1,by omega,by simp,?_,?_⟩,by simp[intOf];omega⟩
    . rw[dx];have:=cB.o;rw[HL.o]at this;rw[<-JE HY.o];exact this
    . refine bZ.o.trans ((bq.o.trans Q.o).any.trans ?_);exact nH
  . have bO:e=a.args.length:=by omega
    have bP:(⟨rO h a e (c - e),[]⟩:oV)=CX ⟨⟨j,h⟩,y⟩ a:=by
     unfold rO CX;rw[bO,TC,X.o];congr 3;simp
    rw[bP]at N;have aD:Zz (M.look p ⟨⟨j,h⟩,y⟩=match nR p j a a.code 0 true (CX ⟨⟨j,h⟩,y⟩ a) []with
     | .inl n=>([],n)
     | .inr l=>(l,0)):=Zy (by unfold M.look;rw[HM.o];rfl)
    have aR:=(bn.o.trans ae.o).own Y (fun o b=>by omega);have bC:=((bT.o.ext aM.o).ext ae.o).kp Y Zm;have bD:=((aZ.o.ext aM.o).ext ae.o).kp Y Zm;have⟨aJ,dP,aY,aL⟩:=jU N aR bC bD;have dY:=aK.o.lt;have eu:=ax.o.size;have dZ:=aI.o.ord;have bK:∀o,w.heap.size<=o->o<w.heap.size+3->¬qo l C.heap.size (.slice (some ⟨d.heap.size,0,none⟩) (c+1) (c+1)) (.slice none 0 0) o:=fun o h1 h2=>by
     rintro(b|b|b|b)
     . omega
     . omega
     . have:d.heap.size=o:=by simpa [Value.ownBlock]using b
       omega
     . cases b
    have ay:=Zy bK;have bM:∀W,Kp (qo l C.heap.size (.slice (some ⟨d.heap.size,0,none⟩) (c+1) (c+1)) (.slice none 0 0)) wr W->Kp (·=l.D) w W:=fun W hW=>aR.any.mix hW (fun k hk b=>by
     rcases b with b|b|b|b
     . exact b
     . omega
     . have:d.heap.size=k:=by simpa [Value.ownBlock]using b
       omega
     . cases b)
    have bu:=Zy bM;clear bM;clear N Y aR bC bD bO bP bK;go_wp2_with fail;refine(Im aJ.o).mono ?_;rintro b u ⟨P,aS,⟨n',ho,rfl⟩|⟨q,K,dN,dO,ho,rfl,dm⟩⟩
    . have S:=aY.o.kp P (ay.o _ Zm Zm);have O:=aL.o.kp P (ay.o _ Zm Zm);have ak:=bu.o _ P;refine leaves_cons (f:=205) (args:=#[.pointer (some ⟨w.heap.size+1,0,none⟩),.pointer (some ⟨w.heap.size+2,0,none⟩)]) Zl (by simp[go_sem]) ?_;refine(Il u S O n' []).mono ?_;rintro b u' V ⟨rfl,rfl,aQ,h4,h5⟩;have c4:=h4.c 0 (.slice none 0 0) rfl;have c5:=h5.c 0 (.int .i64 n') rfl;have hF:Kp (·=l.D) w V/\ji V l p/\∃K vl vs,Ending.returned (.tuple #[.slice none 0 0,.int .i64 n'])=.returned (.tuple #[K,.int .i64 (M.look p ⟨⟨j,h⟩,y⟩).2])/\Kn V w.heap.size K vl vs (M.look p ⟨⟨j,h⟩,y⟩).1:=by
       refine⟨ak.own aQ (fun k b=>by omega),aS.kp aQ (fun o hb b=>by omega),.slice none 0 0,.slice none 0 0,.slice none 0 0,?_,?_⟩
       . rw[aD.o,ho]
       . rw[aD.o,ho];exact Kn.nil _ _ _ _
      have HF:=Zy hF;clear S O ak aQ h4 h5 hF P aS;have hF:=HF.o;simpa [Leaves,settle,results,results188,go_sem,c4,c5]using hF
    . obtain⟨ks,aT⟩:=dm;obtain⟨s,t,rfl⟩:=jA aT.2.1;have S:=aY.o.kp P (ay.o _ Zm Zm);have O:=aL.o.kp P (ay.o _ Zm Zm);have ak:=bu.o _ P;have c4:=S.c 0 (.slice none 0 0) rfl;have c5:=O.c 0 (.int .i64 0) rfl;have f4:=S.frozen 0;have f5:=O.frozen 0;have eG:=O.lt;have⟨bU,bV,bW,bY⟩:=jU S O ak aT;clear S O ak aT P;go_wp2_with fail;refine leaves_cons (f:=205) (args:=#[.pointer (some ⟨w.heap.size+1,0,none⟩),.pointer (some ⟨w.heap.size+2,0,none⟩)]) Zl (by simp[go_sem]) ?_;refine(LG).mono ?_;rintro b u' V ⟨rfl,rfl,rfl⟩;have k1:Kp (·=w.heap.size+1) u (u.setCell ⟨w.heap.size+1,0,none⟩ (.slice s q.length t)):=nH;have k2:Kp (·=w.heap.size+2) (u.setCell ⟨w.heap.size+1,0,none⟩ (.slice s q.length t)) ((u.setCell ⟨w.heap.size+1,0,none⟩ (.slice s q.length t)).setCell ⟨w.heap.size+2,0,none⟩ (.int .i64 0)):=nH;have aH:Kp (fun o=>o=w.heap.size+1\/o=w.heap.size+2) u ((u.setCell ⟨w.heap.size+1,0,none⟩ (.slice s q.length t)).setCell ⟨w.heap.size+2,0,none⟩ (.int .i64 0)):=(k1.weak fun o _ b=>.inl b).trans (k2.weak fun o _ b=>.inr b);have h4:hZ ((u.setCell ⟨w.heap.size+1,0,none⟩ (.slice s q.length t)).setCell ⟨w.heap.size+2,0,none⟩ (.int .i64 0)) (w.heap.size+1) 303 #[.slice s q.length t]:=hZ.kp (bU.o.jy 0 _) k2 Zm;have h5:hZ ((u.setCell ⟨w.heap.size+1,0,none⟩ (.slice s q.length t)).setCell ⟨w.heap.size+2,0,none⟩ (.int .i64 0)) (w.heap.size+2) 3 #[.int .i64 0]:=(bV.o.kp k1 Zm).jy 0 _;have eD:w.heap.size+3<=wr.heap.size:=by have:=aL.o.lt;omega
      have hF:Kp (·=l.D) w ((u.setCell ⟨w.heap.size+1,0,none⟩ (.slice s q.length t)).setCell ⟨w.heap.size+2,0,none⟩ (.int .i64 0))/\ji ((u.setCell ⟨w.heap.size+1,0,none⟩ (.slice s q.length t)).setCell ⟨w.heap.size+2,0,none⟩ (.int .i64 0)) l p/\
          ∃K vl vs,Ending.returned (.tuple #[.slice s q.length t,.int .i64 0])=.returned (.tuple #[K,.int .i64 (M.look p ⟨⟨j,h⟩,y⟩).2])/\Kn ((u.setCell ⟨w.heap.size+1,0,none⟩ (.slice s q.length t)).setCell ⟨w.heap.size+2,0,none⟩ (.int .i64 0)) w.heap.size K vl vs (M.look p ⟨⟨j,h⟩,y⟩).1:=by
       refine⟨bW.o.own aH (fun k b=>by omega),aS.kp aH (fun o hb b=>by omega),.slice s q.length t,dN,dO,?_,ks,?_⟩
       . rw[aD.o,ho]
       . rw[aD.o,ho];exact MQ.low bY.o aH (fun o hb b=>by omega) Zm
      have d4:=h4.c 0 (.slice s q.length t) rfl;have d5:=h5.c 0 (.int .i64 0) rfl;obtain⟨V,aV⟩:∃V,V=(u.setCell ⟨w.heap.size+1,0,none⟩ (.slice s q.length t)).setCell ⟨w.heap.size+2,0,none⟩ (.int .i64 0):=⟨_,rfl⟩;rw[<-aV]at hF d4 d5;have⟨HF,cZ⟩:=jf hF aV;clear hF k1 k2 aH h4 h5 c4 c5 f4 f5 aV;show Leaves _ _ _ _ _ _ _
      rw[show w.heap.size+1+1=w.heap.size+2 from rfl,<-cZ.o];have hF:=HF.o;simpa [Leaves,settle,results,results188,go_sem,d4,d5]using hF
theorem Mo(w:World)(i A ty e:TypeId)(g d n:Nat)(a:Addr)(h z k:Nat)(b:Array Value)(t:TypeId)(cs:List Value)(x:P.underlying i=some (.slice e)) (j:(P.info? e).map (·.size)=some k) (q:w.heap[g]?=some (.cells b t (0,0))) (u:cs.length=Nat.min h d*k)(v:∀m c,cs[m]?=some c->w.cell? (a.add m)=some c) (p:cs.length<=b.size) (o:∀c∈cs,c.oneCell'=true):(Builtin.copy_ #[i,A] ty #[(g,d,n),.slice (some a) h z]).run P w=.ok (goInt (Nat.min h d)) (w.setRow g (cs++b.toList.drop cs.length).toArray):=by
 have s:=run_loadCells_list (P:=P) w a cs v;have l:=run_storeCells_at P g 0 t cs 0 b w q (by simpa using p) o;simp only[Tm,UJ,TW]at l;cases f:P.info? e with
 |none=>simp[f]at j
 |some y=>
  have r:y.size=k:=by simpa [f]using j
  simp[Builtin.copy_,Uf x,Builtin.lenOf,Builtin.firstCells,sizeOf,typeInfo,f,r,<-u,s,l]
theorem Mq(w:World)(g:Nat){cs:Array Value}(b:D g):Kp D w (w.setRow g cs):=
 ⟨rfl,rfl,rfl,by simp[World.setRow],fun d e c=>setRow_other w g d cs (fun a=>c (by subst a;exact b))⟩
theorem Hf{t: Nat}(A:Elem t e k)(w:World){z:Array Oper}{rest:List Oper}{i:Oper}{a:Act}{Q:Exit->Act->World->Prop}(J:i.guard=none)(d s:Operand)
    (O:i.op=.call {callee:=.builtin .copy,args:=#[d,s],argTypes:=#[t,t]}) (base g n c m o:Nat) (xs h:List Value) (G:a.eval d=.slice (some ⟨g,0,none⟩) n c) (P:w.ownsRow base e k (.slice (some ⟨g,0,none⟩) n c) n xs)
    (j:Addr) (R:a.eval s=.slice (some j) m o) (H:Flat w k (.slice (some j) m o) m h) (x:m<=n)
    (E:∀p,p.ownsRow base e k (.slice (some ⟨g,0,none⟩) n c) n (h++xs.drop (m*k))->Kp (·=g) w p->wpList prog z Q rest (a.put i.dst (goInt m)) p):
    wpList prog z Q (i::rest) a w:=by
 obtain⟨ah,ai,bytes,T,K,hz,S,aa,ag,hk,hb⟩:=A;obtain⟨f,⟨X,Y,B,_,C⟩,D⟩:=H;cases B;obtain⟨L,V⟩:=P;rcases V with⟨l,_⟩|⟨g',Z,b,l,I,r,u,M,af,U⟩
 . cases l
 . cases l;have v:Nat.min m n=m:=U5 x;have N:m*k<=n*k:=VC _ x;have ae:n*k<=c*k:=VC _ u;have y:=Mo (P:=prog) w t t i.type e g n c j m o k b e h T (by rw[K];simp[S]) r (by rw[v,f]) (C j rfl) (by rw[f];omega) D;rw[v]at y;refine VS J fun W F=>?_;unfold Oper.wp;simp[execOp,O,resolve,invoke,builtin,G,R,y,Result.andThen];refine F _ _ (E _ ⟨?_,.inr ⟨g,c,(h++b.toList.drop h.length).toArray,rfl,I,setRow_heap w g b _ e _ r,u,M,?_,?_⟩⟩ (Mq w g rfl))
   . rw[TP,Ui,f,L];omega
   . have q:b.toList.length=b.size:=Array.length_toList;simp only[UY,TP,Ui,f,q];omega
   . have q:b.toList.length=b.size:=Array.length_toList;simp only;rw[<-U,List.take_append,f,TV (by rw[f];exact N),List.drop_take]
theorem Ii(w:World)(l:jk)(p:iZ)(f:ji w l p)(x:rH)(o:kC p x=true):Calls prog 146 #[some l.L,.agg #[x.of.keeper,x.of.name,x.at_]] w fun e j=>e=.returned (.bool (right p x))/\Kp (·=l.D) w j/\ji j l p:=by
 have c:Ext w (w.alloc (.cells #[x.of.keeper,x.of.name,x.at_] 78)):=kx;have⟨m,k⟩:=jf (f.ext c) c;clear f c;go_enter func146,ntmps146;go_wp2_with fail;refine(JO m x o).mono ?_;rintro e z ⟨g,h,s,v,y,rfl,n⟩;obtain⟨r,i⟩:=n;obtain⟨t,u,rfl⟩:=jA i.2.1;have d:=Zy (Tn (k.any.trans g) h);clear g h i;by_cases a:(M.look p x).2=0
 . have b:Zz (right p x=true):=Zy (by unfold right;rw[a];rfl);rw[a];clear a;go_wp2;go_ret;exact⟨hQ b.symm,d⟩
 . have b:Zz (right p x=false):=Zy (by unfold right;exact SL a);have q:=SF.2 a;clear a;go_wp2;go_ret;exact⟨hQ b.symm,d⟩
theorem yw(r:Rc)(s:Rs){w:World}(o:kK r s w)(b c:Int)(k:Kind)(v:qE r.p b c k):Calls prog 99 #[some r.R,b,c,.agg #[k.kind,k.name]] w fun a F=>a=.returned (.tuple #[])/\kK r s F:=by
 obtain⟨H,x,q,d⟩:=nu w #[k.kind,k.name] 128;obtain⟨i,rfl,u,p,y,-⟩:=o.qB q;obtain⟨-,e,f,-⟩:=d.ca;have⟨D,l,j,m,n,z⟩:=nE x u p d y v;clear o y x q v u p d;go_enter func99,ntmps99;go_upto_region 1 with(fail);rw[<-D.o];cases G:(k.kind==1);rotate_left
 . go_wp2_with fail;refine Ta ?_;exact⟨rfl,n _ j⟩
 go_wp2_with fail;refine(rA r i _ j b k.name).mono ?_;rintro a I ⟨rfl,g⟩;have A:=Zy g;obtain⟨-,-,E,-⟩:=(g.blk l m).ca;clear g e f;go_wp2_with fail;refine(rA r i _ A c k.name).mono ?_;rintro a J ⟨rfl,h⟩;have B:=Zy h;obtain⟨-,e,f,-⟩:=(h.blk l m).ca;clear h E;go_wp2_with fail;refine(yu r i B b c k z).mono ?_;rintro a K ⟨rfl,t⟩;have C:=Zy t;clear t e f;go_wp2_with fail;refine Ta ?_;exact⟨rfl,n _ C⟩
theorem AU(r:Rc)(s:Rs){w:World}(b:kK r s w)(e f:Int)(m:M.Method){cs:List Value}(k:jd w (· <r.l.O) m cs)(C:sK r.p e f m):Calls prog 56 #[some r.R,e,f,.agg cs.toArray] w fun a w'=>a=.returned (.tuple #[])/\kK r s w':=by
 obtain⟨S,V,T,W,U,X,rfl⟩:=k.form;obtain⟨w0,D,i,h⟩:=nu w #[m.name,.slice S m.args.length V,m.ret.kind,m.ret.name,m.locals,m.stack,.slice T m.code.length W,.slice U m.maps.length X] 132;obtain⟨o,rfl,A,x,G,-⟩:=b.qB i;obtain⟨-,-,-,e2,e3,-⟩:=h.ca;have q:=Zy (by
  obtain⟨va,vc,vm,a,hs,-,-⟩:=k;simp only[TH,UF,V8]at a;obtain⟨rfl,-,-⟩:=a;exact hs.ext nC.stays i)
 have⟨P,p,H,I,R,t⟩:=nE D A x h G C;have af:m.args.length<=4294967296:=by obtain⟨_,_,_,_,b⟩:=q.form;exact b
 clear b G D i C A x h k;go_enter func56,ntmps56;go_upto_region 1 with(fail);rw[<-P.o];go_wp2_with fail;refine(yw r o H e f m.ret t.1).mono ?_;rintro a w2 ⟨rfl,j⟩;have L:=Zy j;obtain⟨-,-,v,-⟩:=(j.blk p I).ca;clear j e2 e3;go_wp2;go_loopw [19] (fun n wr=>∃c:Nat,c<=m.args.length/\n=.int .i64 c/\kK r o wr) (fun n _=>m.args.length - (intOf n).toNat)
 case atStart=>exact⟨0,SV _,rfl,L⟩
 case round=>
  obtain⟨c,hq,rfl,d⟩:=hrel;have K:=Zy d;by_cases aa:c<m.args.length
  . obtain⟨g,l⟩:=get_some aa;obtain⟨ae,ah,cs,rfl,hI,rfl,-,B⟩:=(q.keep nC.stays (d.same p) fun _ b=>b).get l;obtain⟨F,j1⟩:=B.two;have jz:=jc F;obtain⟨w5,E,y,u⟩:=nu wr #[g.kind,g.name] 128;have⟨Q,N,J⟩:=jB E (d.ext y) (t.2 g (RA l));obtain⟨-,Y,Z,-⟩:=u.ca;clear d B hI l E y u v;go_upto_region 5 with(fail);rw[<-Q.o];clear F j1 jz;go_wp2_with fail;refine(yw r o N e f g J).mono ?_;rintro a w6 ⟨rfl,z⟩;have O:=Zy z;clear z Y Z;go_wp2_with fail;exact⟨⟨c+1,Zm,by go_num,O.o⟩,by simp[intOf];omega⟩
  . have ag:c=m.args.length:=Zm
    clear d v;go_wp2_with fail;refine Ta ?_;exact⟨rfl,R _ K⟩
theorem Cx(r:Rc)(s:Rs){w:World}(d:kK r s w)(k:Int){v:Value}{c:List Tag}(f:SliceOf 2 kF w (· <r.l.O) v c):Calls prog 57 #[some r.R,k,v] w fun j N=>j=.returned (.tuple #[])/\kK r s N:=by
 obtain⟨O,Q,rfl,T,S⟩:=f.form;obtain⟨x,rfl,o,l,y,-⟩:=d.qB Kp.rr;have⟨A,z,F,D⟩:=jU o l y f;clear d y o l f;go_enter func57,ntmps57;go_wp2;go_loopw [10] (fun g wr=>∃a:Nat,a<=c.length/\g=.int .i64 a/\kK r x wr) (fun g _=>c.length - (intOf g).toNat)
 case atStart=>exact⟨0,SV _,rfl,z⟩
 case round=>
  obtain⟨a,U,rfl,b⟩:=hrel;have B:=Zy b;by_cases J:a<c.length
  . obtain⟨e,t⟩:=get_some J;obtain⟨P,X,R,rfl,I,rfl,-,p⟩:=(D.keep kF.stays (b.same A) fun _ d=>d).get t;obtain⟨u,K⟩:=p.two;have L:=jc u;obtain⟨Y,q,m,i⟩:=nu wr #[e.kind,e.name] 209;have⟨E,h⟩:=jf q (b.ext m);obtain⟨-,G,H,-⟩:=i.ca;clear b p I t q m i;go_upto_region 3 with(fail);rw[<-E.o];clear u K L;cases W:(e.kind==2)
    . go_wp2_with fail;exact⟨⟨a+1,Zm,by go_num,h.o⟩,by simp[intOf];omega⟩
    go_wp2_with fail;refine(rA r x _ h k e.name).mono ?_;rintro j Z ⟨rfl,n⟩;have C:=Zy n;clear n G H;go_wp2_with fail;exact⟨⟨a+1,Zm,by go_num,C.o⟩,by simp[intOf];omega⟩
  . have V:a=c.length:=Zm
    clear b;go_wp2_with fail;refine Ta ?_;exact⟨rfl,F _ B⟩
theorem kK.lc{r:Rc}{s:Rs}(b:kK r s w)(a:LC r.l r.p w W):kK r s W:=b.oQ a.kp a.at_
theorem LC.turn{a: World}(c:LC l p w W)(d:Kp (·=b) W a)(h:w<=b)(g:l.L<w):LC l p w a:=
 ⟨c.kp.own d fun f e=>Zm,c.at_.kp d fun f i e=>Zm⟩
theorem R6(a:D b)(c d e:Value):Kp D w (((w.setCell b c).setCell (b,1) d).setCell (b,2) e):=
 (((Kp.refl D w).setCell (p:=⟨b,0,none⟩) (fun _=>a) c).setCell (p:=⟨b,1,none⟩) (fun _=>a) d).setCell (p:=⟨b,2,none⟩) (fun _=>a) e
theorem R5{t:TypeId}(e:hZ w b t #[u0,u1,u2]){a c d:Value}:hZ (((w.setCell b a).setCell (b,1) c).setCell (b,2) d) b t #[a,c,d]:=by
 have f:hZ (w.setCell b a) b t #[a,u1,u2]:=e.jy 0 a;have g:hZ ((w.setCell b a).setCell (b,1) c) b t #[a,c,u2]:=f.jy 1 c;exact g.jy 2 d
theorem Sc(a:D b)(c d e f g:Value):Kp D w (((((w.setCell b c).setCell (b,1) d).setCell (b,2) e).setCell (b,3) f).setCell (b,4) g):=
 (Oo a c d e f).setCell (p:=⟨b,4,none⟩) (fun _=>a) g
theorem Sb{t:TypeId}(g:hZ w b t #[u0,u1,u2,u3,u4]){a c d e f:Value}:hZ (((((w.setCell b a).setCell (b,1) c).setCell (b,2) d).setCell (b,3) e).setCell (b,4) f) b t #[a,c,d,e,f]:=by
 have h:hZ (w.setCell b a) b t #[a,u1,u2,u3,u4]:=g.jy 0 a;have i:hZ ((w.setCell b a).setCell (b,1) c) b t #[a,c,u2,u3,u4]:=h.jy 1 c;have j:hZ (((w.setCell b a).setCell (b,1) c).setCell (b,2) d) b t #[a,c,d,u3,u4]:=i.jy 2 d;have k:hZ ((((w.setCell b a).setCell (b,1) c).setCell (b,2) d).setCell (b,3) e) b t #[a,c,d,e,u4]:=j.jy 3 e;exact k.jy 4 f
theorem Eo(r:Rc)(s:Rs){w:World}(R:kK r s w)(k:Int)(i:Ins):Calls prog 58 #[some r.R,k,.agg #[i.op,i.a,i.name,i.member]] w fun e w'=>e=.returned (.tuple #[])/\kK r s w':=by
 obtain⟨w0,aB,ak,O⟩:=nu w #[i.op,i.a,i.name,i.member] 140;obtain⟨u,rfl,S,h1,up,-⟩:=R.qB ak;obtain⟨-,P,-,Q,-⟩:=O.ca;have⟨aH,HA,H1,HB,F⟩:=ni aB S h1 O up;have aO:(w:Nat)<u.w:=O.lt;have aM:r.l.D<w/\r.l.D<r.R:=by have:=R.kr.ET;have:=S.hB;have:=S.low.1;have:=R.kr.ord;omega
 clear R up aB ak S h1 O;go_enter func58,ntmps58;go_upto_region 1 with(fail);rw[<-aH.o];cases hn:(i.name.toList==[]);case' false=>
  go_wp2_with fail
  refine(rA r u _ H1 k i.name).mono ?_
  rintro e m ⟨rfl,ax⟩
  have g:=Zy ax
  clear ax
 case' true=>
  obtain⟨m,ah⟩:∃m,m=u.w:=⟨_,rfl⟩
  rw[<-ah]
  have g:Zz (kK r u m):=Zy (by rw[ah];exact H1)
  clear ah
 all_goals
  clear P Q;obtain⟨-,P,-,Q,e3,-⟩:=(g.blk HA HB).ca;have aN:u.w.heap.size<=m:=g.1.size;have av:r.l.L<m:=g.kr.lt;obtain⟨aI,ae,aL,n⟩:=qC.ex (LC r.l r.p m) _ (LC.refl g.kr);obtain⟨-,T,-⟩:=hZ.lC fun z=>g.xQ.kp (n.jv z).kp Zm;obtain⟨-,-,-,g2,g3,-⟩:=hZ.lC fun z=>(g.blk HA HB).kp (n.jv z).kp Zm;have a:=Zy n;clear n;cases h9:(i.op==9);case' true=>
   go_upto_region 5 with(fail)
   obtain⟨G,y⟩:∃G,call r.p k i.name i.member=G:=⟨_,rfl⟩
   have X:=Zy y
   have W:Zz (G.2=1->kC r.p G.1=true/\sK r.p k G.1.of.keeper (M.method r.p G.1)):=Zy (by rw[<-y];exact KY g.kr.ok)
   clear y P Q e3
   refine qp a 15 (.two [0,1,2,3,4,5,6,7,8] 9 13 (.one [10,11,12] 13 (.one [] 14 (.fin []))) (.one [] 9 (.one [10,11,12] 14 (.fin [])))) ?_ ?_
   . exact(LC.refl g.kr).drew
   refine two [_,_,_,_,_,_,_,_,_] rfl rfl rfl fun E l=>?_;(repeat (go_big_quiet_step (fail)))
   refine Sq l (Sm (e:=6) (d:=32) (n:=m.heap.size) (v:=fun d=>.tuple #[.agg #[.int .i64 G.1.of.keeper,.string G.1.of.name,.int .i64 G.1.at_],d]) (V:=fun d=>zn d G.2) (z:=#[Tc, "",Tc]) (t:=78) ⟨rfl,?_,?_,?_⟩ (a.o.o _ (LC.refl g.kr).drew) (T9 _)
    (fun d Z=>((Z.put (some 22) (.tuple #[.agg #[.int .i64 G.1.of.keeper,.string G.1.of.name,.int .i64 G.1.at_],d])).put (some 33) (.agg #[.int .i64 G.1.of.keeper,.string G.1.of.name,.int .i64 G.1.at_])).put (some 34) d) ?_ (fun _ _=>rfl) ?_ rfl rfl)<;>clear l E
   . rintro ai _ ⟨q,rfl⟩ hn h f;simp (decide:=true)only[Act.put,Tu,Tk,Ti]at f |-;go_wp2_with fail;refine(uF _ _ _ (a.jv _).at_ k i.name i.member).mono ?_;rintro e w8 ⟨⟨d,rfl,K⟩,af,H⟩;rw[X.o]at K |-;go_wp2_with fail;exact f d w8 K.weak (a.o.o _ ((a.jv _).step af H)) (Jw.of H fun aK hg e=>Zm)
   . intro a' j h f;go_wp2_with fail;exact f
   . rintro _ ⟨q,rfl⟩;exact a.o.o _ ((a.jv _).ext (jw _))
   . intro ai d E A l;change wpQuiet _ _ _ _ [_,_,_] _;simp (decide:=true)only[Act.put,Tu,Tk,Ti]at l |-;(repeat (go_big_quiet_step (fail)));exact TD l
   . rintro c d _ A ⟨q,rfl⟩ B o;have I:=a.jv q;generalize ae q=w3 at*;obtain⟨f0,f1,f2,-⟩:=o.fz;obtain⟨aa,q0,q1,q2,-⟩:=o.ca;have⟨D,aD⟩:=jf o B;have v:Zz (LC r.l r.p m (((w3.setCell c (.int .i64 G.1.of.keeper)).setCell (c,1) (.string G.1.of.name)).setCell (c,2) (.int .i64 G.1.at_))):=Zy (I.turn (b:=c) (R6 (D:=(·=c)) rfl _ _ _) B av);have Y:=Zy A;clear T g2 g3 I o B A;simp (decide:=true)only[Act.put,Tu,Tk,Ti];refine jX rfl fun h f=>?_;go_wp2_with fail;refine kk a f v ?_;clear f h;clear a;refine kL ?_;obtain⟨j,p⟩:=SS ((((w3.setCell c (.int .i64 G.1.of.keeper)).setCell (c,1) (.string G.1.of.name)).setCell (c,2) (.int .i64 G.1.at_)));have t:kK r u j:=g.lc (by rw[p];exact v);have x:hZ j c 78 #[.int .i64 G.1.of.keeper,.string G.1.of.name,.int .i64 G.1.at_]:=by rw[p];exact R5 D
     rw[<-p];clear p f0 f1 f2 aa q0 q1 q2 D v;have L:=Zy t;rcases Y.o with⟨C,rfl⟩|⟨C,b,rfl⟩;rotate_left
     . clear t x;go_wp2_with fail;refine Ta ?_;exact⟨rfl,F _ L⟩
     obtain⟨aA,az⟩:=W.o C;obtain⟨s2,rfl,ay,h2,aC,-⟩:=t.qB Kp.rr;obtain⟨aI,ae,aL,n⟩:=qC.ex (fun W'=>kK r s2 W') _ h2;obtain⟨-,T,-⟩:=hZ.lC fun z=>(n.jv z).xQ;obtain⟨-,q0,q1,q2,-⟩:=hZ.lC fun z=>(n.jv z).blk ay x;have⟨a,U,aJ,aF,V⟩:=ni n h2 aC aA az;clear n t x ay h2 aC aA az C;go_wp2_with fail;refine jW a 12 [([0,1,2,3,4,5,6,7,8,9],10),([],11)] [] ?_ ?_
     . exact U.ext jg
     refine lJ ?_;intro h f;go_wp2_with fail;refine(lH _ _ _ (U.ext jg).kr G.1 aF).mono ?_;rintro e w5 ⟨⟨cs,ag,rfl⟩,au⟩;obtain⟨t2,rfl⟩:=nU ag;have⟨aj,aG⟩:=jf ((U.ext jg).ext au) ag;clear ag au;simp only[mF];go_wp2_with fail;refine kk a f aj ?_;clear f h;refine kN rfl fun h f=>?_;go_wp2_with fail;refine(AU r s2 aj k G.1.of.keeper _ aG V).mono ?_;rintro e w6 ⟨rfl,J⟩;have N:=Zy J;clear J;go_wp2_with fail;refine kk a f N ?_;clear f h;clear a T q0 q1 q2;refine tH rfl ?_;go_wp2_with fail;refine Ta ?_;exact⟨rfl,F _ (aJ _ N)⟩
  case' false=>
   cases h7:(i.op==7)
   case' false=>
    cases h8:(i.op==8)
    case' false=>
     go_wp2_with fail
     refine Ta ?_
     exact⟨rfl,F _ g⟩
  all_goals
   go_upto_region 10 with(fail);obtain⟨G,y⟩:∃G,M.get r.p k i.name i.member=G:=⟨_,rfl⟩;have X:=Zy y;have W:Zz (G.2=1->qE r.p k G.1.of.keeper G.1.kind):=Zy (by rw[<-y];exact Ns g.kr.ok);clear y P Q e3;refine qp a 15 (.two [0,1,2,3,4,5,6,7,8] 9 13 (.one [10,11,12] 13 (.one [] 14 (.fin []))) (.one [] 9 (.one [10,11,12] 14 (.fin [])))) ?_ ?_
   . exact(LC.refl g.kr).drew
   refine two [_,_,_,_,_,_,_,_,_] rfl rfl rfl fun E l=>?_;(repeat (go_big_quiet_step (fail)));refine Sq l (Sm (e:=8) (d:=62) (n:=m.heap.size) (v:=fun d=>.tuple #[.agg #[.int .i64 G.1.of.keeper,.string G.1.of.name,.int .i64 G.1.at_,.int .i64 G.1.kind.kind,.string G.1.kind.name],d]) (V:=fun d=>zn d G.2) (z:=#[Tc, "",Tc,Tc, ""]) (t:=211) ⟨rfl,?_,?_,?_⟩ (a.o.o _ (LC.refl g.kr).drew) (T9 _)
    (fun d Z=>((Z.put (some 52) (.tuple #[.agg #[.int .i64 G.1.of.keeper,.string G.1.of.name,.int .i64 G.1.at_,.int .i64 G.1.kind.kind,.string G.1.kind.name],d])).put (some 63) (.agg #[.int .i64 G.1.of.keeper,.string G.1.of.name,.int .i64 G.1.at_,.int .i64 G.1.kind.kind,.string G.1.kind.name])).put (some 64) d) ?_ (fun _ _=>rfl) ?_ rfl rfl)<;>clear l E
   . rintro ai _ ⟨q,rfl⟩ hn h f;simp (decide:=true)only[Act.put,Tu,Tk,Ti]at f |-;go_wp2_with fail;refine(vW _ _ _ (a.jv _).at_ k i.name i.member).mono ?_;rintro e w8 ⟨⟨d,rfl,K⟩,af,H⟩;rw[X.o]at K |-;go_wp2_with fail;exact f d w8 K.weak (a.o.o _ ((a.jv _).step af H)) (Jw.of H fun aK hg e=>Zm)
   . intro a' j h f;go_wp2_with fail;exact f
   . rintro _ ⟨q,rfl⟩;exact a.o.o _ ((a.jv _).ext (jw _))
   . intro ai d E A l;change wpQuiet _ _ _ _ [_,_,_] _;simp (decide:=true)only[Act.put,Tu,Tk,Ti]at l |-;(repeat (go_big_quiet_step (fail)));exact TD l
   . rintro c d _ A ⟨q,rfl⟩ B o;have I:=a.jv q;generalize ae q=w3 at*;obtain⟨f0,f1,f2,f3,f4,-⟩:=o.fz;obtain⟨aa,q0,q1,q2,q3,q4,-⟩:=o.ca;have⟨D,aD⟩:=jf o B;have v:Zz (LC r.l r.p m (((((w3.setCell c (.int .i64 G.1.of.keeper)).setCell (c,1) (.string G.1.of.name)).setCell (c,2) (.int .i64 G.1.at_)).setCell (c,3) (.int .i64 G.1.kind.kind)).setCell (c,4) (.string G.1.kind.name))):=Zy (I.turn (b:=c) (Sc (D:=(·=c)) rfl _ _ _ _ _) B av);have Y:=Zy A;clear T g2 g3 I o B A;simp (decide:=true)only[Act.put,Tu,Tk,Ti];refine jX rfl fun h f=>?_;go_wp2_with fail;refine kk a f v ?_;clear f h;clear a;refine kL ?_;obtain⟨j,p⟩:=SS ((((((w3.setCell c (.int .i64 G.1.of.keeper)).setCell (c,1) (.string G.1.of.name)).setCell (c,2) (.int .i64 G.1.at_)).setCell (c,3) (.int .i64 G.1.kind.kind)).setCell (c,4) (.string G.1.kind.name)));have t:kK r u j:=g.lc (by rw[p];exact v);have x:hZ j c 211 #[.int .i64 G.1.of.keeper,.string G.1.of.name,.int .i64 G.1.at_,.int .i64 G.1.kind.kind,.string G.1.kind.name]:=by rw[p];exact Sb D
     rw[<-p];clear p f0 f1 f2 f3 f4 aa q0 q1 q2 q3 q4 D v;have L:=Zy t;rcases Y.o with⟨C,rfl⟩|⟨C,b,rfl⟩;rotate_left
     . clear t x;go_wp2_with fail;refine Ta ?_;exact⟨rfl,F _ L⟩
     obtain⟨-,q0,-,-,q3,q4,-⟩:=x.ca;have V:=Zy (W C);clear t x C;go_wp2_with fail;refine(yw r u L k G.1.of.keeper G.1.kind V).mono ?_;rintro e w6 ⟨rfl,J⟩;have N:=Zy J;clear J q0 q3 q4;go_wp2_with fail;refine Ta ?_;exact⟨rfl,F _ N⟩
theorem Kp.back{b: World}(c:Ext w b)(hI:∀a,I a->a<w.heap.size):Same I b w:=fun a g h d e=>by
 rw[<-c.cell (hI a d) (fun f=>f)];exact e
theorem Sd{t:TypeId}{u5 u6 u7: Value}(j:hZ w b t #[u0,u1,u2,u3,u4,u5,u6,u7]){a c d e f g h i:Value}:hZ ((((((((w.setCell b a).setCell (b,1) c).setCell (b,2) d).setCell (b,3) e).setCell (b,4) f).setCell (b,5) g).setCell (b,6) h).setCell (b,7) i) b t #[a,c,d,e,f,g,h,i]:=by
 have k:hZ (w.setCell b a) b t #[a,u1,u2,u3,u4,u5,u6,u7]:=j.jy 0 a;have l:hZ ((w.setCell b a).setCell (b,1) c) b t #[a,c,u2,u3,u4,u5,u6,u7]:=k.jy 1 c;have m:hZ (((w.setCell b a).setCell (b,1) c).setCell (b,2) d) b t #[a,c,d,u3,u4,u5,u6,u7]:=l.jy 2 d;have n:hZ ((((w.setCell b a).setCell (b,1) c).setCell (b,2) d).setCell (b,3) e) b t #[a,c,d,e,u4,u5,u6,u7]:=m.jy 3 e;have o:hZ (((((w.setCell b a).setCell (b,1) c).setCell (b,2) d).setCell (b,3) e).setCell (b,4) f) b t #[a,c,d,e,f,u5,u6,u7]:=n.jy 4 f;have p:hZ ((((((w.setCell b a).setCell (b,1) c).setCell (b,2) d).setCell (b,3) e).setCell (b,4) f).setCell (b,5) g) b t #[a,c,d,e,f,g,u6,u7]:=o.jy 5 g;have q:hZ (((((((w.setCell b a).setCell (b,1) c).setCell (b,2) d).setCell (b,3) e).setCell (b,4) f).setCell (b,5) g).setCell (b,6) h) b t #[a,c,d,e,f,g,h,u7]:=p.jy 6 h;exact q.jy 7 i
theorem Sg(a:D b)(c d e f g h i j:Value):Kp D w ((((((((w.setCell b c).setCell (b,1) d).setCell (b,2) e).setCell (b,3) f).setCell (b,4) g).setCell (b,5) h).setCell (b,6) i).setCell (b,7) j):=
 ((((Oo a c d e f).setCell (p:=⟨b,4,none⟩) (fun _=>a) g).setCell (p:=⟨b,5,none⟩) (fun _=>a) h).setCell (p:=⟨b,6,none⟩) (fun _=>a) i).setCell (p:=⟨b,7,none⟩) (fun _=>a) j
theorem zG(r:Rc)(s:Rs)(w:World)(b:kK r s w)(x:rH)(hx:kC r.p x=true):Calls prog 21 #[some r.R,.agg #[x.of.keeper,x.of.name,x.at_]] w fun e w'=>e=.returned (.tuple #[])/\kK r s w':=by
 obtain⟨C,ay,S,G⟩:=nu w #[x.of.keeper,x.of.name,x.at_] 78;have t:=b.ext S;obtain⟨-,Q,-⟩:=G.ca;obtain⟨aZ,aV,bz,F⟩:=ll C;obtain⟨-,r0,-⟩:=hZ.lC fun z=>t.xQ.ext (F.jv z);obtain⟨-,g0,g1,g2,-⟩:=hZ.lC fun z=>G.ext (F.jv z);obtain⟨a,hm⟩:∃a,M.method r.p x=a:=⟨_,rfl⟩;have bn:r.l.O<C:=SY t.kr.ord t.kr.lt
 have⟨g,aR,aH,aA,H0,HM,HX,aB⟩:=wL F ay S b t hm hx G;clear F ay S b t hm hx G;go_enter func21,ntmps21;go_upto_region 1 with(fail);rw[<-aR.o];go_upto_region 2 with(fail);clear Q;refine qp g 7 (.two [0,1,2,3,4] 5 6 (.one [] 6 (.fin [])) (.one [] 5 (.fin []))) ?_ ?_
 . exact jg
 refine two [_,_,_,_,_] rfl rfl rfl fun aS hK=>?_;(repeat (go_big_quiet_step (fail)));refine Sq hK (Sl (e:=5) (d:=18) (n:=C.heap.size) (v:=fun l=>.agg (mF a l).toArray) (V:=fun l=>jd C (· <r.l.O) a (mF a l)) (z:=#["",(),Tc, "",Tc,Tc,(),()]) (t:=132) ⟨rfl,?_,?_,?_⟩ Zn (g.o.o _ jg) (T9 _) ?_ rfl rfl)<;>clear hK aS
 . rintro bB _ ⟨D,rfl⟩ hn K2 I;simp (decide:=true)only[Act.put,Tu,Tk,Ti]at I |-;go_wp2_with fail;refine(lH _ _ _ (H0.kr.ext (g.jv _)) x HX).mono ?_;rintro e w8 ⟨⟨cs,j,rfl⟩,aj⟩;rw[HM.o]at j;obtain⟨l,rfl⟩:=nU j;have hE:=(g.jv D).trans aj;go_wp2_with fail;exact I l w8 (jd.stays _ _ _ _ _ _ (hE.back fun ag hb=>Zm) (fun _ b=>b) j) (g.o.o _ hE) (Jw.of aj fun _ _ e=>e)
 . intro a' bf K2 I;go_wp2_with fail;exact I
 . rintro _ ⟨D,rfl⟩;exact g.o.o _ ((g.jv _).alloc _)
 . rintro f l _ j ⟨D,rfl⟩ ax H;have ai:=g.jv D;generalize aV D=w1 at*;obtain⟨a1,c1,a2,c2,a3,c3⟩:=l;simp only[mF]at j |-;obtain⟨f0,f1,f2,f3,f4,f5,f6,f7,-⟩:=H.fz;obtain⟨aU,q0,q1,q2,q3,q4,q5,q6,q7,-⟩:=H.ca;have⟨aI,aC,aF,ae⟩:=jU ai H ax j;clear g r0 g0 g1 g2 ai H ax j;go_simp;go_upto_region 3 with(fail);obtain⟨L,K⟩:=SS (((((((((w1.setCell f (.string a.name)).setCell (f,1) (.slice a1 a.args.length c1)).setCell (f,2) (.int .i64 a.ret.kind)).setCell (f,3) (.string a.ret.name)).setCell (f,4) (.int .i64 a.locals)).setCell (f,5) (.int .i64 a.stack)).setCell (f,6) (.slice a2 a.code.length c2)).setCell (f,7) (.slice a3 a.maps.length c3)));have ah:hZ L f 132 #[.string a.name,.slice a1 a.args.length c1,.int .i64 a.ret.kind,.string a.ret.name,.int .i64 a.locals,.int .i64 a.stack,.slice a2 a.code.length c2,.slice a3 a.maps.length c3]:=by rw[K];exact Sd aC
   have o:Ext C L:=aI.own (D':=(·=f)) (by rw[K];exact Sg (D:=(·=f)) rfl _ _ _ _ _ _ _ _) fun bg e=>SX aF.o
   rw[<-K];obtain⟨B,rfl,ha,h1,up,-⟩:=aA.qB (aH.trans o);have U:=aB.ext o;obtain⟨-,-,q,-⟩:=U.ca;have aY:=Zy U;have N:=Zy ah;have⟨m,H1,UP⟩:=jB ha h1 up;obtain⟨va,vc,vm,e,aW,W,Y⟩:=ae.o;simp only[TH,UF,V8]at e;obtain⟨rfl,rfl,rfl⟩:=e;have⟨aL,aG,aJ⟩:=jB (jM.ext jd.stays o ae) (W.ext uN.stays o) (Y.ext kM.stays o);have bq:a.code.length<=4294967296:=by obtain⟨_,_,_,_,b⟩:=W.form;exact b
   have bu:a.maps.length<=4294967296:=by obtain⟨_,_,_,_,b⟩:=Y.form;exact b
   clear f0 f1 f2 f3 f4 f5 f6 f7 aU q0 q1 q2 q3 q4 q5 q6 q7 K ah o ha h1 up U aW W Y;go_wp2_with fail;refine(rA r B _ H1 x.of.keeper x.of.name).mono ?_;rintro e w3 ⟨rfl,J⟩;have aM:=Zy J;obtain⟨-,q0,q1,q2,q3,q4,q5,q6,q7,-⟩:=(J.blk m N).ca;have aK:=Zy (jd.stays _ _ _ _ _ _ (J.same m) (fun _ b=>b) aL);clear J q;go_wp2_with fail;refine(AU r B aM x.of.keeper x.of.keeper a aK .self).mono ?_;rintro e w4 ⟨rfl,ak⟩;have af:=Zy ak;clear ak q0 q1 q2 q3 q4 q5 q6 q7;obtain⟨-,-,-,-,-,-,-,-,q7,-⟩:=(af.blk m N).ca;go_wp2_with fail;clear q7;go_loopw [33] (fun k wr=>∃c:Nat,c<=a.maps.length/\k=.int .i64 c/\kK r B wr) (fun k _=>a.maps.length - (intOf k).toNat)
   case atStart=>exact⟨0,SV _,rfl,af⟩
   case round=>
    obtain⟨c,hq,rfl,d⟩:=hrel;have O:=Zy d;by_cases V:c<a.maps.length
    . obtain⟨h,y⟩:=get_some V;obtain⟨ag,aX,cs,rfl,T,⟨vl,vs,rfl,X,Z⟩,-,u⟩:=(aJ.keep kM.stays (d.same m) fun _ b=>b).get y;obtain⟨A,j1,j2⟩:=u.three;have jz:=jc A;obtain⟨p1,p2,rfl,-,-⟩:=X.form;obtain⟨p3,p4,rfl,-,-⟩:=Z.form;obtain⟨w5,v,i,n⟩:=nu wr #[h.at_,.slice p1 h.locals.length p2,.slice p3 h.stack.length p4] 137;obtain⟨s2,rfl,av,h2,az,-⟩:=d.qB i;obtain⟨-,-,q,-⟩:=n.ca;have⟨P,aD,aa,H2,aT,aP,aQ⟩:=qA v n av h2 az (X.ext kF.stays i) (Z.ext kF.stays i);clear d u T y v i n av h2 az X Z;go_upto_region 8 with(fail);rw[<-P.o];clear A j1 j2 jz;go_wp2_with fail;refine(Cx r s2 H2 x.of.keeper aP).mono ?_;rintro e w6 ⟨rfl,p⟩;have E:=Zy p;obtain⟨-,-,-,R,-⟩:=(p.blk aa aD).ca;clear p q;go_wp2_with fail;refine(Cx r s2 E x.of.keeper (aQ.keep kF.stays (E.same aa) fun _ b=>b)).mono ?_;rintro e w7 ⟨rfl,au⟩;have aO:=Zy au;clear au R;go_wp2_with fail;exact⟨⟨c+1,Zm,by go_num,aT.o _ aO.o⟩,by simp[intOf];omega⟩
    . obtain rfl:c=a.maps.length:=Zm
      obtain⟨-,-,-,-,-,-,-,q6,-⟩:=(d.blk m N).ca;clear d;go_wp2_with fail;clear q6;go_loopw [51] (fun k wr=>∃c:Nat,c<=a.code.length/\k=.int .i64 c/\kK r B wr) (fun k _=>a.code.length - (intOf k).toNat)
      case atStart=>exact⟨0,SV _,rfl,O⟩
      case round=>
       obtain⟨c,hq,rfl,d⟩:=hrel;have O:=Zy d;by_cases V:c<a.code.length
       . obtain⟨h,y⟩:=get_some V;obtain⟨ag,aX,cs,rfl,T,rfl,-,u⟩:=(aG.keep uN.stays (d.same m) fun _ b=>b).get y;obtain⟨A,j1,j2,j3⟩:=u.four;have jz:=jc A;obtain⟨w5,v,i,n⟩:=nu wr #[h.op,h.a,h.name,h.member] 140;have⟨P,aN⟩:=jf v (d.ext i);obtain⟨-,Q,q,R,e3,-⟩:=n.ca;clear d u T y v i n;go_upto_region 14 with(fail);rw[<-P.o];clear A j1 j2 j3 jz;go_wp2_with fail;refine(Eo r B aN x.of.keeper h).mono ?_;rintro e w6 ⟨rfl,p⟩;have E:=Zy p;clear p Q q R e3;go_wp2_with fail;exact⟨⟨c+1,Zm,by go_num,E.o⟩,by simp[intOf];omega⟩
       . have bA:c=a.code.length:=Zm
         clear d;go_wp2_with fail;refine Ta ?_;exact⟨rfl,UP _ O⟩
end Go.Proofs.YtlhgbjbkjalfjaaGreat
