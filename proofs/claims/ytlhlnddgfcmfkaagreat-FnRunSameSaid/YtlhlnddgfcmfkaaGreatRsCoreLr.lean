/- Walks. -/
import Derived.Test.YtlhlnddgfcmfkaaGreatRsCoreH
import Derived.Test.YtlhlnddgfcmfkaaGreatRsCoreLq
set_option maxRecDepth 100000
set_option maxHeartbeats 4000000
set_option linter.all false
namespace Go.Proofs.YtlhlnddgfcmfkaaGreat
open Go Go.RowKit Tryz M
attribute [local go_sem] Oper.semAt_some
theorem nI{w:World}{I:Nat->Prop}{m:M.Method}{cs:List Value}(h:jd w I m cs):∃i:tX,cs=mg m i:=by
 obtain⟨a,d,b,e,c,f,g⟩:=h.form;exact⟨⟨a,d,b,e,c,f⟩,g⟩
theorem jD.old{w:World}{l:jh}{p:hZ}{e c:Nat}{k:Int}{m:M.Method}{t:tX}{f:Int}{s:oM}{d vs:Value}(b:jD w l p e c k m t f s d vs){q:Nat}(g:qj l c d vs q):q<w:=by
 have h:=b.blk.lt;have i:=b.ku.Ev;rcases g with a|a|a|a
 . omega
 . omega
 . exact(b.loc.lt q a).2
 . exact(b.kI.lt q a).2
theorem jD.low{w:World}{l:jh}{p:hZ}{e c:Nat}{k:Int}{m:M.Method}{t:tX}{f:Int}{s:oM}{d vs:Value}(b:jD w l p e c k m t f s d vs){q:Nat}(j:q<l.O):¬qj l c d vs q:=by
 have g:=b.hB;have h:=b.ku.ord;have i:=b.hk;rintro(a|a|a|a)
 . omega
 . omega
 . have:=(b.loc.lt q a).1;omega
 . have:=(b.kI.lt q a).1;omega
theorem FW{p:hZ}{k:Int}{x:Kind}:∀(a:List Kind) (s:oM),oW p k (a++[x]) s=(oW p k a s).bind (oN p k (l8 x)):=by
 intro a;induction a with
 |nil=>intro s;simp[oW]
 |cons d e b=>
  intro s;simp only[Sm,oW];cases oN p k (l8 d) s with
  |none=>rfl
  |some c=>exact b c
theorem FV{p:hZ}{k:Int}{r:List Kind}:∀{b:List Kind} {s:oM},oW p k b s=none->oW p k (b++r) s=none:=by
 intro b;induction b with
 |nil=>intro s a;simp[oW]at a
 |cons e g d=>
  intro s a;simp only[Sm,oW]at a |-;cases c:oN p k (l8 e) s with
  |none=>rfl
  |some f=>rw[c]at a;exact d a
def LD(l:jh)(p:hZ)(B kb:Nat)(k:Int)(m:M.Method)(t:tX)(at_:Int)(s:oM)(vl vs:Value)(w8:World)(pre:List (Int×Kind))(W:World):Prop:=
 ∃s' vl' vs',oW p k (pre.map Prod.snd) s=some s'/\jD W l p B kb k m t at_ s' vl' vs'/\jU (w8.heap.size+3) vl vs vl' vs'/\Kp (qj l kb vl vs) w8 W
def QF(l:jh)(p:hZ)(kb:Nat)(k:Int)(at_:Int)(s:oM)(vl vs:Value)(w8:World)(ch:List PanicEntry)(pre:List (Int×Kind))(W:World):Prop:=
 ch=zH (at_+1)/\oW p k (pre.map Prod.snd) s=none/\jg W l p/\Kp (qj l kb vl vs) w8 W
def yS(ev:Value)(c:Int):Prop:=(c=1/\ev=Value.nilIface)\/(c≠1/\∃b,ev=.iface 254 (.pointer (some ⟨b,0,none⟩)))
theorem CK.weak{w:World}{a:Value}{c:Int}(d:CK w a c):yS a c:=d.imp id fun⟨e,b,h2,_⟩=>⟨e,b,h2⟩
theorem KC{w:World}{l:jh}{p:hZ}{aa b:Nat}{k:Int}{m:M.Method}{t:tX}{U:Int}{s:oM}{x vs:Value}(c:jD w l p aa b k m t U s x vs)(i:Ins)(dw:i.op=9):Calls prog 206 #[some b,.agg #[i.op,i.a,i.name,i.member]] w (jK w l p aa b k m t U x vs (jM p k m i s)):=by
 obtain⟨G,hG⟩:∃G,call p k i.name i.member=G:=⟨_,rfl⟩;have P:Zz (jM p k m i s=if G.2=1 then(oW p k (M.method p G.1).args.reverse s).bind fun s1=>(oN p k (lH i.name) s1).bind (nP m (l8 (M.method p G.1).ret))else none):=Zy (by unfold jM;rw[dw,hG];rfl);obtain⟨y,aP⟩:=Ry ((w.alloc (.cells #[some b] 303)).alloc (.cells #[i.op,i.a,i.name,i.member] 149));have bG:Ext w y:=by rw[aP];exact kx
 have b2:hV y w 303 #[some b]:=by rw[aP];exact(hV.new _ _ _).ext kx
 have b3:hV y (w+1) 149 #[i.op,i.a,i.name,i.member]:=by rw[aP];exact hV.newAt _ _ Zl
 have hA:=c.ext bG;have hD:=c.ku.Ev;have fB:=c.ku.ord;have hB:=c.hB;have N:=c.hk;have hz:=c.blk.lt;have eB:=c.I6;have aZ:¬b=l.D:=Zm
 have aN:¬w=l.D:=Zm
 have df:¬w+1=l.D:=Zm
 obtain⟨aS,aT,bf,q⟩:=rA.ex (fun B=>Kp (·=l.D) y B) _ Kp.rr;obtain⟨-,r0,r1,-⟩:=hV.lL fun r=>(hA.blk.kp (q.jm r) aZ);obtain⟨-,-,-,r2,r3,-⟩:=hV.lL fun r=>(b3.kp (q.jm r) df);have r4:=fun r=>(b2.kp (q.jm r) aN).c 0 (some b) rfl;have⟨h,dW,aF,HA,aQ,bz,HG⟩:=qh q aP bG hA b2 b3 hG;have hv:(zt G.1).toArray=#[.int .i64 G.1.of.keeper,.string G.1.of.name,.int .i64 G.1.at_]:=rfl;have⟨HV,ai⟩:=je hv c;have dU:=Zy c.oZ;clear c dw aP bG b2 b3 hA q hG hv;refine(callsIn_wide (n:=10)).1 ?_;refine xw func206 rfl ?_;simp only[ntmps206,Tk,List.length_cons,Ti,Nat.reduceAdd,Nat.reduceSub,SN,SL,SA,SH,RF,Sm];refine wS fun K o=>?_;go_wp2_with fail;rw[<-dW.o];refine wS fun K o=>?_
 have dB : ∀ (b7 : Nat) (n : World) (ev : Value), Kp (· = l.D) y n -> jg n l p -> hV n b7 65 #[.int .i64 G.1.of.keeper, .string G.1.of.name, .int .i64 G.1.at_] -> y.heap.size <= b7 -> yS ev G.2 →
     K {tmps:=#[.pointer (some ⟨b,0,none⟩),.agg #[i.op,i.a,i.name,i.member],.pointer (some ⟨w,0,none⟩),.pointer (some ⟨w+1,0,none⟩),
      .pointer (some ⟨b7,0,none⟩),ev,undef,undef,undef,.tuple #[.agg #[.int .i64 G.1.of.keeper,.string G.1.of.name,.int .i64 G.1.at_],ev],.pointer (some ⟨b,0,none⟩),.pointer (some ⟨b,0,none⟩),.pointer (some ⟨b,0,none⟩),.pointer (some ⟨l.L,0,none⟩),
      .pointer (some ⟨b,0,none⟩),.pointer (some ⟨b,0,none⟩),.pointer (some ⟨b,1,none⟩),.int .i64 k,.pointer (some ⟨w+1,2,none⟩),.string i.name,.pointer (some ⟨w+1,3,none⟩),.string i.member,
      .tuple #[.agg #[.int .i64 G.1.of.keeper,.string G.1.of.name,.int .i64 G.1.at_],ev],.agg #[.int .i64 G.1.of.keeper,.string G.1.of.name,.int .i64 G.1.at_],ev,undef,undef,undef,undef,undef,undef,undef,undef,undef,undef,undef,undef,undef,undef,undef,undef,undef,undef,undef,undef,undef,undef,undef,undef,undef,undef,undef,undef,undef],defers:=[]} n:=by
  clear h r0 r1 r2 r3 r4;intro b7 n ev au bZ bV fe av;have⟨A,af,dK⟩:=jy au bZ bV;have s2:=(aQ.kp au aN).c 0 (some b) rfl;clear au bZ bV;refine o _ _ ?_;clear o K;refine wS fun K o=>?_;rcases av with⟨hc,rfl⟩|⟨hc,u,rfl⟩;rotate_left
  . replace P:Zz (jM p k m i s=none):=Zy (by rw[P.o,RX hc]);go_wp2_with fail;refine(mD b U ((HA.blk.kp A aZ).c 10 _ rfl) eB.1 Zm).mono ?_;rintro a w9 ⟨rfl,rfl⟩;exact⟨rfl,jK.behind aF ⟨A.weak (fun u _ a=>.inl a),af,.inl ⟨P,rfl⟩⟩⟩
  replace P:Zz (jM p k m i s=(oW p k (M.method p G.1).args.reverse s).bind fun s1=>(oN p k (lH i.name) s1).bind (nP m (l8 (M.method p G.1).ret))):=Zy (by rw[P.o,RV hc]);have cO:Zz (ky p G.1=true):=Zy (by
   have:=HG.o;rw[<-this]at hc |-;obtain⟨fI,hr⟩:=qM hc;exact qy hr)
  go_wp2_with fail;clear s2;obtain⟨aS,aT,bf,q⟩:=kY n;have cK:=HA.blk.kp A aZ;have cB:=aQ.kp A aN;have r0:=fun r=>(cK.ext (q.jm r)).c 0 (some l.L) rfl;have r4:=fun r=>(cB.ext (q.jm r)).c 0 (some b) rfl;obtain⟨-,r5,r6,r7,-⟩:=hV.lL fun r=>(dK.ext (q.jm r));have h:=Zy q;clear q cK cB;refine wS fun K o=>?_;have dC:∀(b8:Nat) (d:World) (j:tX),Ext n d->hV d b8 141 (mg (M.method p G.1) j).toArray->n.heap.size<=b8->jd d (· <l.O) (M.method p G.1) (mg (M.method p G.1) j)→
   K {tmps:=#[.pointer (some ⟨b,0,none⟩),.agg #[i.op,i.a,i.name,i.member],.pointer (some ⟨w,0,none⟩),.pointer (some ⟨w+1,0,none⟩),
    .pointer (some ⟨b7,0,none⟩),.nilIface,.pointer (some ⟨b8,0,none⟩),undef,undef,.tuple #[.agg #[.int .i64 G.1.of.keeper,.string G.1.of.name,.int .i64 G.1.at_],.nilIface],.pointer (some ⟨b,0,none⟩),.pointer (some ⟨b,0,none⟩),.pointer (some ⟨b,0,none⟩),.pointer (some ⟨l.L,0,none⟩),
    .pointer (some ⟨b,0,none⟩),.pointer (some ⟨b,0,none⟩),.pointer (some ⟨b,1,none⟩),.int .i64 k,.pointer (some ⟨w+1,2,none⟩),.string i.name,.pointer (some ⟨w+1,3,none⟩),.string i.member,
    .tuple #[.agg #[.int .i64 G.1.of.keeper,.string G.1.of.name,.int .i64 G.1.at_],.nilIface],.agg #[.int .i64 G.1.of.keeper,.string G.1.of.name,.int .i64 G.1.at_],.nilIface,.nilIface,.bool false,undef,undef,.pointer (some ⟨b,0,none⟩),.pointer (some ⟨b,0,none⟩),.pointer (some ⟨b,0,none⟩),.pointer (some ⟨l.L,0,none⟩),.agg #[.int .i64 G.1.of.keeper,.string G.1.of.name,.int .i64 G.1.at_],.agg (mg (M.method p G.1) j).toArray,undef,undef,undef,undef,undef,undef,undef,undef,undef,undef,undef,undef,undef,undef,undef,undef,undef,undef,undef],defers:=[]} d:=by
   clear h r0 r4 r5 r6 r7;intro b8 d j W bW fo Q;have⟨z,bA,aG⟩:=jy W bW Q;clear W bW Q;refine o _ _ ?_;clear o K;have fq:=bA.c 1 (.slice j.a1 (M.method p G.1).args.length j.c1) rfl;refine Iq ?_;refine EI (n:=10) fun K o=>wpIn_wide.2 ?_;go_wp2_with fail;refine(FC).mono ?_;rintro a w9 ⟨rfl,rfl⟩;go_wp2_with fail;refine JB ?_;have fw:=(HA.blk.kp A aZ |>.ext z).lt;have bT:=(HA.oJ A af).ext z;have I:=Zy bT;have dz:=jd.args aG;have dV:=Zy dz;clear bT dz;have HN:=Zy dU.o;refine K8 (gf:=233) (lb:=#[some d]) (α:=Int×Kind) rfl (enters_of func233 Zo rfl) (encs:=JM) (fun D=>rfl)
    (Bb:=fun k=>qj l b x vs k\/d+3<=k)
    (CU (M.method p G.1).args d (.slice j.a1 (M.method p G.1).args.length j.c1) (· <l.O) _ ?hBd) ?hIt ?hD1 ?hD2 ?hB1 ?hB2
    (LD l p aa b k m t U s x vs d) (fun _ _ _=>False) (QF l p b k U s x vs d) ⟨_,func206⟩ ?hIp ?hI ?hIx ?h0 ?hIB
    (fun ah D v a₁ W₁=>LD l p aa b k m t U s x vs d ah v/\(d:Nat)+2<(v:Nat)/\W₁=v.alloc (.cells #[D.2.kind,D.2.name] 137)/\
     a₁={tmps:=#[.pointer (some ⟨b,0,none⟩),.agg #[i.op,i.a,i.name,i.member],.pointer (some ⟨w,0,none⟩),.pointer (some ⟨w+1,0,none⟩),
    .pointer (some ⟨b7,0,none⟩),.nilIface,.pointer (some ⟨b8,0,none⟩),undef,.pointer (some ⟨v,0,none⟩),.tuple #[.agg #[.int .i64 G.1.of.keeper,.string G.1.of.name,.int .i64 G.1.at_],.nilIface],.pointer (some ⟨b,0,none⟩),.pointer (some ⟨b,0,none⟩),.pointer (some ⟨b,0,none⟩),.pointer (some ⟨l.L,0,none⟩),
    .pointer (some ⟨b,0,none⟩),.pointer (some ⟨b,0,none⟩),.pointer (some ⟨b,1,none⟩),.int .i64 k,.pointer (some ⟨w+1,2,none⟩),.string i.name,.pointer (some ⟨w+1,3,none⟩),.string i.member,
    .tuple #[.agg #[.int .i64 G.1.of.keeper,.string G.1.of.name,.int .i64 G.1.at_],.nilIface],.agg #[.int .i64 G.1.of.keeper,.string G.1.of.name,.int .i64 G.1.at_],.nilIface,.nilIface,.bool false,undef,undef,.pointer (some ⟨b,0,none⟩),.pointer (some ⟨b,0,none⟩),.pointer (some ⟨b,0,none⟩),.pointer (some ⟨l.L,0,none⟩),.agg #[.int .i64 G.1.of.keeper,.string G.1.of.name,.int .i64 G.1.at_],.agg (mg (M.method p G.1) j).toArray,
    .pointer (some ⟨b8,1,none⟩),.slice j.a1 (M.method p G.1).args.length j.c1,.func (.func 233) #[] #[some d],.int .i64 D.1,.agg #[D.2.kind,D.2.name],undef,undef,undef,undef,undef,undef,undef,undef,undef,undef,undef,undef,undef,undef],defers:=[]}) ?hassign ?hAx ?hbody ?hdone ?hstop ?hpanic
   case hBd=>
    intro C hq;have dx:(qj l b x vs C\/d.heap.size+3<=C)\/C=(d.alloc (.cells #[.slice j.a1 (M.method p G.1).args.length j.c1] 135)).heap.size+1:=hq;simp only[Sy]at dx;have J:=I.oZ;rcases dx with(c|c)|c
    . exact⟨fun a=>J (a▸c),fun a=>jD.low I a c⟩
    . omega
    . omega
   case hIt=>
    intro v hW;exact⟨(hV.new _ _ _).ext hW,(dV.ext l7.stays ((Kp.refl _ d).alloc _)).ext l7.stays hW⟩
   case hD1=>exact fun c=>c
   case hD2=>exact fun c=>c
   case hB1=>
    simp only[Sy];rintro(c|c)
    . have:=jD.old I c;omega
    . omega
   case hB2=>
    simp only[Sy];rintro(c|c)
    . have:=jD.old I c;omega
    . omega
   case hIp=>
    rintro bQ s1 dD B' ⟨J,E,O,L⟩ N;simp only[Sy]at N;have bU:=I.ku.lt;exact⟨J,E,O.kp N (fun u Y a=>by rcases a with a|a;exact a;omega),L.own N (fun u a=>by rcases a with a|a;exact a.elim;omega)⟩
   case hI=>
    rintro s1 dD B' ⟨s',R,S,J,E,O,L⟩ N;simp only[Sy]at N;have bU:=I.ku.lt;have dZ:=I.ku.ord;have no:∀f,(R.ownBlock=some f\/S.ownBlock=some f)->¬(False\/f=d.heap.size+1+1):=fun f F a=>by
     rcases a with a|a
     . exact a
     . rcases O f F with c|c|c
       . have:=(I.loc.lt f c).2;omega
       . have:=(I.kI.lt f c).2;omega
       . omega
    exact⟨s',R,S,J,E.kp' N (E.ku.kp N (fun u Y a=>by rcases a with a|a;exact a;omega)) (fun a=>by rcases a with a|a;exact a;omega) (fun f F=>no f (.inl F)) (fun f F=>no f (.inr F)) (fun u Y a=>by rcases a with a|a;exact a;omega),O,L.own N (fun u a=>by rcases a with a|a;exact a.elim;omega)⟩
   case hIx=>exact fun _ _ _ _ c=>c.elim
   case h0=>exact⟨s,x,vs,rfl,I.ext kx,jU.refl _ _ _,(kx:Ext d _).any⟩
   case hIB=>exact fun _ _ _=>trivial
   case hassign=>
    intro ah D v K fA hi cZ o;simp only[JM];simp only[Sy]at cZ;gi_wp2_with fail
   case hAx=>
    rintro ah D v a₁ W₁ ⟨_,_,rfl,_⟩;exact((Kp.refl _ v).alloc _)
   case hbody=>
    rintro ah D v a₁ W₁ W₂ ⟨⟨s',R,S,J,E,O,L⟩,cZ,rfl,rfl⟩ ay aO;simp only[Sy]at ay aO;have bU:=I.ku.lt;have dZ:=I.ku.ord;have eT:(w:Nat)+1<(d:Nat):=by
     have:=bz.lt;have:=A.size;have:=z.size;omega
    have no:∀f,(R.ownBlock=some f\/S.ownBlock=some f)->f≠d.heap.size+1+1/\(f<w.heap.size\/d.heap.size+3<=f)/\(qj l b x vs f\/d.heap.size+3<=f):=fun f F=>by
     rcases O f F with c|c|c
     . have:=(ai.loc.lt f c).2;exact⟨Zm,.inl this,.inl (.inr (.inr (.inl c)))⟩
     . have:=(ai.kI.lt f c).2;exact⟨Zm,.inl this,.inl (.inr (.inr (.inr c)))⟩
     . exact⟨Zm,.inr c,.inr c⟩
    have aW:Ext v (v.alloc (.cells #[D.2.kind,D.2.name] 137)):=kx;have bF:=E.ext aW;have bS:=bF.kp' ay (bF.ku.kp ay (fun u Y a=>Zm)) Zm (fun f F=>(no f (.inl F)).1) (fun f F=>(no f (.inr F)).1) (fun u Y a=>Zm);have cb:=(hV.new v 137 #[D.2.kind,D.2.name]).kp ay Zm;have dh:¬qj l b R S v.heap.size:=E.oZ;have dm:¬qj l b R S w.heap.size:=by
     rintro(a|a|a|a)
     . omega
     . omega
     . have:=(no _ (.inl a)).2.1;omega
     . have:=(no _ (.inr a)).2.1;omega
    have cz:=((((aQ.kp A aN).ext z).kp L HN).ext aW).kp ay Zm;have bY:=(L.trans aW.any).own ay (fun k a=>Zm);obtain⟨aS,aT,bf,q⟩:=rA.ex (fun B=>Kp (qj l b R S) W₂ B) _ Kp.rr;have r2:=fun r=>(cz.kp (q.jm r) dm).c 0 (some b) rfl;obtain⟨-,r7,r8,-⟩:=hV.lL fun r=>(cb.kp (q.jm r) dh);have⟨h,dG,dQ,bM,H3⟩:=mr q bS bY no O;have HS:Zz (oW p k ((ah++[D]).map Prod.snd) s=oN p k (l8 D.2) s'):=Zy (by rw[RI,List.map_cons,List.map_nil,FW,J];rfl);have eU:(d:Nat)+3<=(W₂:Nat):=Zm
    clear J E O L ay aO bF bS cb cz bY q aW no dh dm;gi_wp2_with fail;refine Ny h 4 [([0,1],2),([],3)] [] ?_ (fun _=>trivial) ?_
    . exact jf
    refine MF [_,_] rfl rfl fun K o=>?_;(repeat (go_big_quiet_step (fail)));refine qn o fun g e=>?_;clear o K;gi_wp2_with fail;refine⟨trivial,?_⟩;refine(CallsIn.inRound _ (callsIn_wide.2 (Bq W₂.drew D.2))).mono ?_;rintro a w4 ⟨rfl,aJ⟩;have aj:=Zy (((Kp.refl _ W₂).drew).trans aJ);clear aJ;gi_wp2_with fail;refine kk h e aj.any ?_;clear e g;refine QT rfl fun g e=>?_;gi_wp2_with fail;refine⟨trivial,?_⟩;refine(CallsIn.inRound _ (callsIn_wide.2 (nA w4 (dG.ext aj) (l8 D.2)))).mono ?_;rintro a T ag;have aK:=jK.behind aj ag;have aV:Kp (fun k=>qj l b x vs k\/d+3<=k) W₂ T:=aK.1.weak (fun u _ a=>by
     rcases a with a|a|a|a
     . exact .inl (.inl a)
     . exact .inl (.inr (.inl a))
     . exact(bM u (.inl a)).2.2
     . exact(bM u (.inr a)).2.2)
    have bH:Kp (qj l b x vs) d T:=dQ.mix aV (fun k N a=>by rcases a with a|a;exact a;omega);rcases aK with⟨X,aY,⟨H,rfl⟩|⟨s2,H,rfl,bq,bu,aI,aM⟩⟩
    . exact⟨rfl,aV,rfl,by rw[HS.o,H],aY,bH⟩
    . have HF:Zz (Kp (fun k=>qj l b x vs k\/d+3<=k) W₂ T/\LD l p aa b k m t U s x vs d (ah++[D]) T):=Zy ⟨aV,s2,bq,bu,by rw[HS.o,H],aI,H3.trans aM eU,bH⟩;have bD:=Zy X;clear aV bH X aY aI aM H ag;gi_wp2_with fail;refine kk h e bD ?_;clear e g;refine MG ?_;gi_wp2_with fail;exact HF
   case hdone =>
    rintro xs v rfl ⟨s',R,S,J,E,O,L⟩ o;have dA:(backTo (M.method p G.1).args (M.method p G.1).args.length).map Prod.snd=(M.method p G.1).args.reverse:=by rw[pJ _ _ (R5 _),RH]
    rw[dA]at J;have eP:=I.ku.ord;have eH:=I.ku.lt;have eT:(w:Nat)+1<(d:Nat):=by
     have:=bz.lt;have:=A.size;have:=z.size;omega
    have aO:(d.alloc (.cells #[.slice j.a1 (M.method p G.1).args.length j.c1] 135)).heap.size=d+1:=by simp
    rw[aO]at o |-;replace P:Zz (jM p k m i s=(oN p k (lH i.name) s').bind (nP m (l8 (M.method p G.1).ret))):=Zy (by rw[P.o,J];rfl);have bL:=Zy (aF.any.trans (((A.weak (fun u _ a=>.inl a)).trans z.any).trans L));refine⟨by simp,by simp,?_⟩;show Code.yl _ _ _ _ _ _
    refine NS (ds:=[{target:=.collected (d+1),args:=#[]}]) (R:=fun a B=>B.heap[d.heap.size+1]?=some (.deferred (some []))/\jK w l p aa b k m t U x vs (jM p k m i s) a (B.putObj (d+1) (.deferred none))) ?_ ?_ ?_;rotate_left
    . rintro ak B hd ⟨N,hR⟩;show LeavesInM _ _ _ _ _ _ ak.defers _ _
      rw[hd];refine⟨by simp,.inl ⟨_,_,rfl,run_takeDeferred N,?_⟩⟩;exact⟨.tuple #[],by simp[results,Tryz.f206,go_sem],hR⟩
    . rintro bQ ak B hd ⟨N,hR⟩;show LeavesInM _ _ _ _ _ _ ak.defers _ _
      rw[hd];exact⟨by simp,.inl ⟨_,_,rfl,run_takeDeferred N,hR⟩⟩
    have cu:(d:Nat)+2<=(v:Nat):=Z0 ((Array.getElem?_eq_some_iff.1 o).1)
    have aD:∀(v1 v2:Value),jU (d+2) x vs v1 v2->∀C,w.heap.size<=C->C<d.heap.size+2->¬qj l b v1 v2 C:=fun v1 v2 H C fD fE=>by
     rintro(a|a|a|a)
     . omega
     . omega
     . rcases H C (.inl a)with c|c|c
       . have:=(ai.loc.lt C c).2;omega
       . have:=(ai.kI.lt C c).2;omega
       . omega
     . rcases H C (.inr a)with c|c|c
       . have:=(ai.loc.lt C c).2;omega
       . have:=(ai.kI.lt C c).2;omega
       . omega
    have bR:∀(v1 v2:Value) (bI:Option oM) (a:Ending) (B aA:World),jU (d+2) x vs v1 v2->Kp (qj l b x vs) w B->B.heap[d.heap.size+1]?=some (.deferred (some []))->jK B l p aa b k m t U v1 v2 bI a aA->(d:Nat)+2<=(B:Nat)→
        aA.heap[d.heap.size+1]?=some (.deferred (some []))/\jK w l p aa b k m t U x vs bI a (aA.putObj (d+1) (.deferred none)):=fun v1 v2 bI a B aA H eF hd hE fF=>by
     have az:=Kp.putObj aA (d+1) (.deferred none);have eG:Kp (qj l b x vs) w aA:=eF.look hE.1 (H.le Zm);refine⟨(hE.1.block _ Zm (aD v1 v2 H _ Zm Zm)).trans hd,eG.own az (fun k a=>Zm),hE.2.1.kp az (fun u Y a=>Zm),?_⟩;rcases hE.2.2 with⟨J,E⟩|⟨s2,J,E,ak,u,h5,h6⟩
     . exact .inl ⟨J,E⟩
     . have dn:=H.trans h6 Zm;have di:∀f,(ak.ownBlock=some f\/u.ownBlock=some f)->¬f=d.heap.size+1:=fun f F a=>aD ak u dn f Zm Zm (by
        rcases F with c|c
        . exact .inr (.inr (.inl c))
        . exact .inr (.inr (.inr c)))
       exact .inr ⟨s2,J,E,ak,u,h5.kp' az (h5.ku.kp az (fun u Y a=>Zm)) Zm (fun f F=>di f (.inl F)) (fun f F=>di f (.inr F)) (fun u Y a=>Zm),dn.le Zm⟩
    have aU:jU (d+2) x vs R S:=O.le Zm;have fu:w<=b8/\b8<d:=by
     have:=bA.lt;have:=A.size;have:=aF.size;omega
    have n0:∀C,w.heap.size<=C->¬qj l b x vs C:=fun C hq c=>Z0 (jD.old ai c)
    have⟨B2,B3,B8⟩:=jy (((aQ.kp A aN).ext z).kp L (n0 _ Zm)) (((bz.kp A df).ext z).kp L (n0 _ Zm)) (bA.kp L (n0 _ Zm));obtain⟨aS,aT,bf,q⟩:=rA.ex (fun B=>Kp (qj l b R S) v B) _ Kp.rr;have r2:=fun r=>(B2.kp (q.jm r) (aD _ _ aU _ Zm Zm)).c 0 (some b) rfl;have r3:=fun r=>(B3.kp (q.jm r) (aD _ _ aU _ Zm Zm)).c 2 i.name rfl;have⟨h,bK,aR,dI⟩:=jV q bR aD E;have aH:=Zy aU;have dO:=Zy o;clear J E O L o bR aD aU n0 q dA;go_wp2_with fail;refine kD h 5 [([0,1,2],3),([],4)] [] ?_ ?_
    . exact jf
    refine lS ?_;intro g e;go_wp2_with fail;refine(yx v.drew i.name).mono ?_;rintro a w4 ⟨rfl,aJ⟩;have aj:=Zy (((Kp.refl _ v).drew).trans aJ);clear aJ;go_wp2_with fail;refine kk h e aj.any ?_;clear e g;refine lF rfl fun g e=>?_;go_wp2_with fail;refine(nA w4 (dI.ext aj) (lH i.name)).mono ?_;rintro a T ag;have aK:=jK.behind aj ag;have Z:=bK.o R S _ a v T aH bL dO aK cu;rcases aK with⟨X,aY,⟨H,rfl⟩|⟨s2,H,rfl,bq,bu,aI,aM⟩⟩
    . rw[H]at Z;exact⟨rfl,Z.1,by rw[P.o,H];exact Z.2⟩
    replace P:Zz (jM p k m i s=nP m (l8 (M.method p G.1).ret) s2):=Zy (by rw[P.o,H];rfl);have dP:=Zy Z.1;have⟨bE,bD,dH,dR⟩:=jV (aH.trans aM cu) X aI (bL.look X (aH.le Zm));have ek:(d:Nat)+2<=(T:Nat):=Z0 X.size
    have⟨dE,dF⟩:=je (B2.kp X (aR _ _ aH _ Zm Zm)) (B8.kp X (aR _ _ aH _ Zm Zm));clear ag Z X aY H aI aM r3;go_wp2_with fail;refine kk h e bD ?_;clear e g;clear r2;refine wG rfl ?_;clear h;obtain⟨aS,aT,bf,q⟩:=rA.ex (fun B=>Kp (qj l b bq bu) T B) _ Kp.rr;have r2:=fun r=>(dE.kp (q.jm r) (aR _ _ bE _ Zm Zm)).c 0 (some b) rfl;obtain⟨-,-,-,r4,r5,-⟩:=hV.lL fun r=>(dF.kp (q.jm r) (aR _ _ bE _ Zm Zm));have h:=Zy q;clear q;go_wp2_with fail;refine kD h 5 [([0,1,2],3),([],4)] [] ?_ ?_
    . exact jf
    refine lS ?_;intro g e;go_wp2_with fail;refine(Bq T.drew (M.method p G.1).ret).mono ?_;rintro a w6 ⟨rfl,bX⟩;have bB:=Zy (((Kp.refl _ T).drew).trans bX);clear bX;go_wp2_with fail;refine kk h e bB.any ?_;clear e g;refine lF rfl fun g e=>?_;go_wp2_with fail;refine(qW w6 (dH.ext bB) (l8 (M.method p G.1).ret)).mono ?_;rintro a w9 ag;have aX:=jK.behind bB ag;have aC:=aX.1;have Z:=bK.o bq bu _ a T w9 bE dR dP aX ek;rw[<-P.o]at Z;have⟨bJ,dN⟩:=je Z aC;have eD:=aX.2.2;clear Z aX aC ag;rcases eD with⟨-,rfl⟩|⟨s9,-,rfl,-⟩
    . exact⟨rfl,bJ⟩
    go_wp2_with fail;refine kk h e dN ?_;clear e g;clear r2 r4 r5;refine wG rfl ?_;go_wp2_with fail;exact⟨rfl,bJ⟩
   case hstop=>exact fun _ _ _ _ c=>c.elim
   case hpanic=>
    rintro bQ ah v ⟨eY,eQ⟩ ⟨rfl,E,O,L⟩ o;refine⟨by simp,by simp,?_⟩;have eP:=I.ku.ord;have eH:=I.ku.lt;have az:=Kp.putObj v (d.alloc (.cells #[.slice j.a1 (M.method p G.1).args.length j.c1] 135)).heap.size (.deferred none);have aO:(d.alloc (.cells #[.slice j.a1 (M.method p G.1).args.length j.c1] 135)).heap.size=d+1:=by simp
    have eu:jM p k m i s=none:=by
     rw[P.o];have e1:(M.method p G.1).args.reverse=ah.map Prod.snd++eY.map Prod.snd:=by
      have:=congrArg (List.map Prod.snd) eQ;rw[pJ _ _ (R5 _),RH,RI]at this;exact this
     rw[e1,FV E];rfl
    have ed:=((A.weak (fun u _ a=>.inl a)).trans z.any).trans L;refine⟨by simp,.inl ⟨_,_,rfl,run_takeDeferred o,?_⟩⟩;exact jK.behind aF ⟨ed.own az (fun k a=>Z4 A.size z.size),O.kp az (fun k N a=>Zm),.inl ⟨eu,rfl⟩⟩
  refine qA h 7 (.two [0,1,2,3,4] 5 6 (.one [] 6 (.fin [])) (.one [] 5 (.fin []))) ?_ ?_
  . exact jf
  clear o;have bO:=Zy dC;clear dC;refine two [_,_,_,_,_] rfl rfl rfl fun K o=>?_;(repeat (go_big_quiet_step (fail)));((refine Gf o (fun g e=>?_) fun g e=>?_)<;>clear o K)
  . go_wp2_with fail;refine(lq n.drew l p (af.ext jf) G.1 cO).mono ?_;rintro a d ⟨⟨cs,Q,rfl⟩,W⟩;obtain⟨j,rfl⟩:=nI Q;have⟨z,aG⟩:=je ((jf).trans W) Q;clear Q W;simp only[mg];go_wp2_with fail;refine kk h e z ?_;clear e g;refine jZ rfl fun g e=>?_;go_wp2_with fail;refine kk h e (z.alloc _) ?_;clear e g;refine kM ?_;go_wp2_with fail;exact bO _ _ j (z.alloc _) (hV.new _ _ _) z.size (jL.ext jd.stays (kx:Ext d _) aG)
  . go_wp2_with fail;refine kk h e ((jf).alloc _) ?_;clear e g;refine jZ rfl fun g e=>?_;go_wp2_with fail;have b5:hV (n.alloc (.cells #["",(),.int .i64 0, "",.int .i64 0,.int .i64 0,(),()] 141)).drew n 141 #["",(),.int .i64 0, "",.int .i64 0,.int .i64 0,(),()]:=(hV.new _ _ _).ext jf;refine(lq ((n.alloc (.cells #["",(),.int .i64 0, "",.int .i64 0,.int .i64 0,(),()] 141)).drew) l p (af.ext (jr _).drew) G.1 cO).mono ?_;rintro a d ⟨⟨cs,Q,rfl⟩,W⟩;obtain⟨j,rfl⟩:=nI Q;have z:=Zy ((((Kp.refl _ n).alloc _).drew).trans W);have V:=b5.ext W;obtain⟨z5,y0,y1,y2,y3,y4,y5,y6,y7,-⟩:=V.ca;obtain⟨g0,g1,g2,g3,g4,g5,g6,g7,-⟩:=V.fz;have eO:=Q;obtain⟨w9,bn⟩:=Ry (((((((((d.setCell ⟨n,0,none⟩ (.string (M.method p G.1).name)).setCell ⟨n,1,none⟩ (.slice j.a1 (M.method p G.1).args.length j.c1)).setCell ⟨n,2,none⟩ (.int .i64 (M.method p G.1).ret.kind)).setCell ⟨n,3,none⟩ (.string (M.method p G.1).ret.name)).setCell ⟨n,4,none⟩ (.int .i64 (M.method p G.1).locals)).setCell ⟨n,5,none⟩ (.int .i64 (M.method p G.1).stack)).setCell ⟨n,6,none⟩ (.slice j.a2 (M.method p G.1).code.length j.c2)).setCell ⟨n,7,none⟩ (.slice j.a3 (M.method p G.1).maps.length j.c3)));have aC:Kp (·=n) d w9:=by rw[bn];exact Kp.yQ (D:=(·=n)) rfl _ _ _ _ _ _ _ _
    have b9:hV w9 n 141 (mg (M.method p G.1) j).toArray:=by rw[bn];exact V.yQ _ _ _ _ _ _ _ _
    have fG:=af.lt;have fC:=af.ord;have⟨dM,aG,dL,dY⟩:=jV (z.own aC (fun k a=>Zm)) (jL.kp jd.stays aC (fun u Y a=>Zm) Q) b9 bn;clear b5 V Q eO W bn aC b9;simp only[mg];go_wp2_with fail;refine kk h e z ?_;clear e g;clear h r0 r4 r5 r6 r7;refine kM ?_;go_wp2_with fail;rw[<-dY.o];exact bO _ _ j dM dL (R5 _) aG
 refine qA h 18 (.two [0,1,2,3,4,5,6,7,8,9,10,11] 12 16 (.one [13,14,15] 16 (.one [] 17 (.fin []))) (.one [] 12 (.one [13,14,15] 17 (.fin [])))) ?_ ?_
 . exact jf
 clear o;have bN:=Zy dB;clear dB;refine two [_,_,_,_,_,_,_,_,_,_,_,_] rfl rfl rfl fun K o=>?_;(repeat (go_big_quiet_step (fail)));((refine Gf o (fun g e=>?_) fun g e=>?_)<;>clear o K)
 . go_wp2_with fail;have ax:=uw _ _ _ (HA.ku.ext jf) k i.name i.member;rw[HG.o]at ax;refine ax.mono ?_;rintro a w3 ⟨⟨ev,he,av⟩,aL,aB⟩;rw[HV.o]at he;subst he;have⟨ae,dS,bC⟩:=jy ((jf).trans aB) aL (CK.weak av);clear aL aB ax av;go_wp2_with fail;refine kk h e ae ?_;clear e g;refine Cf ?_;intro g e;go_wp2_with fail;refine kk h e (ae.alloc _) ?_;clear e g;refine jZ rfl fun g e=>?_;go_wp2_with fail;refine kk h e (ae.alloc _) ?_;clear e g;refine kM ?_;go_wp2_with fail;exact bN _ _ _ (ae.alloc _) (dS.ext kx) (hV.new _ _ _) ae.size bC
 . go_wp2_with fail;refine kk h e ((jf).alloc _) ?_;clear e g;refine jZ rfl fun g e=>?_;go_wp2_with fail;have b5:hV (y.alloc (.cells #[.int .i64 0, "",.int .i64 0] 65)).drew y 65 #[.int .i64 0, "",.int .i64 0]:=(hV.new _ _ _).ext jf;have eZ:=HA.ku.Ev;have eX:¬y.heap.size=l.D:=Zm
   have fH:=aF.size;have ax:=uw ((y.alloc (.cells #[.int .i64 0, "",.int .i64 0] 65)).drew) _ _ (HA.ku.ext (jr _).drew) k i.name i.member;rw[HG.o]at ax;refine ax.mono ?_;rintro a w3 ⟨⟨ev,he,av⟩,aL,aB⟩;rw[HV.o]at he;subst he;have ae:=Zy ((((Kp.refl _ y).alloc _).drew).trans aB);have V:=b5.kp aB eX;obtain⟨z5,y0,y1,y2,-⟩:=V.ca;obtain⟨g0,g1,g2,-⟩:=V.fz;obtain⟨n,bg⟩:=Ry (((w3.setCell ⟨y,0,none⟩ (.int .i64 G.1.of.keeper)).setCell ⟨y,1,none⟩ (.string G.1.of.name)).setCell ⟨y,2,none⟩ (.int .i64 G.1.at_));have au:Kp (·=y) w3 n:=by rw[bg];exact Kp.uG (D:=(·=y)) rfl _ _ _
   have bP:hV n y 65 #[.int .i64 G.1.of.keeper,.string G.1.of.name,.int .i64 G.1.at_]:=by rw[bg];exact V.uG _ _ _
   have⟨A,af,dJ,dX,bC⟩:=mr (ae.own au (fun k a=>Zm)) (aL.kp au (fun u Y a=>Zm)) bP bg (CK.weak av);clear b5 V aL aB au bP bg ax av;go_wp2_with fail;refine kk h e ae ?_;clear e g;refine Cf ?_;intro g e;go_wp2_with fail;rw[<-dX.o];refine kk h e A ?_;clear e g;clear h r0 r1 r2 r3 r4 y0 y1 y2 g0 g1 g2;refine kM ?_;go_wp2_with fail;exact bN _ _ _ A af dJ (R5 _) bC
end Go.Proofs.YtlhlnddgfcmfkaaGreat
namespace Go.Proofs.YtlhlnddgfcmfkaaGreat
open Go Go.RowKit Tryz M
theorem Md:Elem 288 324 2:=kN (z:=.agg #[(),()]) (bytes:=48) underlying288 Zo rfl Zn Zn
def Qm(x:Value×Value):List Value:=[x.1,x.2]
def Iz(W:World)(S:Nat)(v vl vs:Value)(b:Nat):Prop:=S<=b/\b<W.heap.size/\v.ownBlock≠some b/\vl.ownBlock≠some b/\vs.ownBlock≠some b
def LK(W:World)(S:Nat)(v vl vs:Value)(known:List oM)(cs:List (Value×Value)):Prop:=
 cs.length=known.length/\W.ownsRow S 324 2 v known.length (cs.flatMap Qm)/\
  ∀(j:Nat) (c:Value×Value) (f:oM),cs[j]?=some c->known[j]?=some f->SliceOf 2 kE W (Iz W S v vl vs) c.1 f.locals/\SliceOf 2 kE W (Iz W S v vl vs) c.2 f.stack
def Kn(W:World)(S:Nat)(v vl vs:Value)(known:List oM):Prop:=∃cs:List (Value×Value),LK W S v vl vs known cs
theorem Kn.nil(W:World)(a:Nat)(c vs:Value):Kn W a () c vs []:=
 ⟨[],rfl,Rt _ _ _ _,fun f d e b=>by simp at b⟩
theorem oh{w:World}{base e k n:Nat}{v:Value}{xs:List Value}(d:w.ownsRow base e k v n xs){g:Nat}(a:v.ownBlock=some g):∃b,hV w g e b:=by
 rcases d.2 with⟨c,_⟩|⟨i,h,b,c,_,f,_⟩
 . rw[c]at a;cases a
 . rw[c]at a;cases a;exact⟨b,f⟩
theorem Kn.kp{W g:World}{c:Nat}{l:jh}{p:hZ}{y n:Nat}{k:Int}{m:M.Method}{t:tX}{B:Int}{s:oM}{v e vs o vs':Value}{u:List oM}(G:Kn W c v e vs u)(f:jD W l p y n k m t B s e vs) (j:Kp (qj l n e vs) W g) (r:jU W e vs o vs') (T:n<c):Kn g c v o vs' u:=by
 obtain⟨D,H,q,I⟩:=G;have Q:=f.hB;have R:=f.hk;have U:=f.ku.ord;refine⟨D,H,iZ q j fun P L S a=>?_,fun N C F J K=>?_⟩
 . obtain⟨O,h⟩:=oh q L;rcases a with a|a|a|a
   . omega
   . omega
   . obtain⟨E,i⟩:=oh f.loc a;exact absurd (hV.inj h i) Zn
   . obtain⟨E,i⟩:=oh f.kI a;exact absurd (hV.inj h i) Zn
 . have w:Same (Iz W c v e vs) W g:=Kp.same j fun d h a=>by
    obtain⟨q1,q2,q3,q4,q5⟩:=h;rcases a with a|a|a|a
    . omega
    . omega
    . exact q4 a
    . exact q5 a
   have x:∀d,Iz W c v e vs d->Iz g c v o vs' d:=fun d ⟨q1,q2,q3,q4,q5⟩=>⟨q1,Nv q2 j.size,q3,fun a=>by
    rcases r d (.inl a)with b|b|b
    . exact q4 b
    . exact q5 b
    . omega,fun a=>by
    rcases r d (.inr a)with b|b|b
    . exact q4 b
    . exact q5 b
    . omega⟩
   obtain⟨z,A⟩:=I N C F J K;exact⟨z.keep kE.stays w x,A.keep kE.stays w x⟩
theorem LK.snoc{W e:World}{a:Nat}{v k d vs c1 c2:Value}{n:List oM}{f:oM}{cs:List (Value×Value)}(y:LK W a v d vs n cs)(z:SliceOf 2 kE W (Iz W a v d vs) c1 f.locals) (A:SliceOf 2 kE W (Iz W a v d vs) c2 f.stack)(C:e.ownsRow a 324 2 k (n.length+1) (cs.flatMap Qm++[c1,c2])) (p:Kp (fun b=>v.ownBlock=some b) W e) (D:∀m,k.ownBlock=some m->v.ownBlock=some m\/W.heap.size<=m):Kn e a k d vs (n++[f]):=by
 obtain⟨o,E,w⟩:=y;have i:Same (Iz W a v d vs) W e:=Kp.same p fun b B l=>B.2.2.1 l;have j:∀b,Iz W a v d vs b->Iz e a k d vs b:=fun b ⟨q1,q2,q3,q4,q5⟩=>⟨q1,Nv q2 p.size,fun l=>by
  rcases D b l with r|r
  . exact q3 r
  . omega,q4,q5⟩
 refine⟨cs++[(c1,c2)],by simp[o],?_,fun q u x c g=>?_⟩
 . rw[Sl,S9];simpa [Qm]using C
 . rcases Si q cs.length with h|h|h
   . rw[RY h]at c;rw[RY Zm]at g;obtain⟨s,t⟩:=w q u x c g;exact⟨s.keep kE.stays i j,t.keep kE.stays i j⟩
   . subst h;rw[Sv (R5 _)]at c;rw[o,Sv (R5 _)]at g;simp at c g;subst c g;exact⟨z.keep kE.stays i j,A.keep kE.stays i j⟩
   . rw[Sz Zr]at c;cases c
theorem LK.ext{W d:World}{a:Nat}{v c vs:Value}{f:List oM}{cs:List (Value×Value)}(o:LK W a v c vs f cs)(b:Ext W d):LK d a v c vs f cs:=by
 obtain⟨k,l,m⟩:=o;have g:∀e,Iz W a v c vs e->Iz d a v c vs e:=fun e ⟨q1,q2,q3⟩=>⟨q1,Nv q2 b.size,q3⟩;refine⟨k,iZ l b (fun _ _ _ s=>s),fun r j n p q=>?_⟩;obtain⟨h,i⟩:=m r j n p q;exact⟨h.keep kE.stays (Ext.same b) g,i.keep kE.stays (Ext.same b) g⟩
abbrev Own:=Nat->Option (Nat×Nat)
def mV(n:Nat)(own own':Own):Prop:=∀b,b<n->own' b=own b
theorem mV.refl(n:Nat)(a:Own):mV n a a:=fun _ _=>rfl
theorem mV.trans{n e:Nat}{a b c:Own}(f:mV n a b)(g:mV e b c)(i:n<=e):mV n a c:=fun d h=>(g d Zm).trans (f d h)
def Own.add(own:Own)(g:Nat)(r:Nat×Nat):Own:=fun b=>if b=g then some r else own b
theorem Own.add_eq(a:Own)(g:Nat)(r:Nat×Nat):a.add g r g=some r:=by simp[Own.add]
theorem Own.lT{a:Own}{g b:Nat}(r:Nat×Nat)(c:b≠g):a.add g r b=a b:=by simp[Own.add,c]
theorem Own.yn{b:Own}{g n:Nat}{r:Nat×Nat}(a:b g=some r\/n<=g):mV n b (b.add g r):=fun d e=>by
 by_cases c:d=g
 . subst c;rcases a with a|a
   . rw[Own.add_eq,a]
   . omega
 . exact Own.lT r c
def MO(l:jh)(own:Own)(b:Nat):Prop:=b=l.D\/own b≠none
def PO(own:Own)(R:Nat×Nat->Prop)(b:Nat):Prop:=∃r,own b=some r/\R r
theorem PO.mo{l:jh}{c:Own}{R:Nat×Nat->Prop}{b:Nat}(a:PO c R b):MO l c b:=by
 obtain⟨d,a,_⟩:=a;exact .inr (by rw[a];simp)
theorem Kp.mo{l:jh}{h j:Own}{w a b:World}(c:Kp (MO l h) w a)(d:Kp (MO l j) a b)(k:mV w h j):Kp (MO l h) w b:=
 ⟨d.os.trans c.os,d.tape.trans c.tape,d.output.trans c.output,RP c.size d.size,
  fun g f i=>(d.block g (Nv f c.size) (fun e=>i (by
   rcases e with e|e
   . exact .inl e
   . exact .inr (by rw[<-k g f];exact e)))).trans (c.block g f i)⟩
structure lU(w:World)(own:Own)(B:Nat)(r:Nat×Nat)(e k:Nat)(v:Value)(n:Nat)(xs:List Value):Prop where
 row:w.ownsRow B e k v n xs
 role:∀g,v.ownBlock=some g->own g=some r
section
variable {w w':World} {own own':Own} {B:Nat} {r:Nat×Nat} {e k:Nat} {v:Value} {n:Nat} {xs:List Value} {R:Nat×Nat->Prop} {D:Nat->Prop}
theorem lU.keep(b:lU w own B r e k v n xs)(i:Kp D w w')(g:mV w own own')(f:∀d,own d=some r->B<=d->¬D d):lU w' own' B r e k v n xs:=
 ⟨iZ b.row i (fun a c h=>f a (b.role a c) h),fun a c=>(g a (b.row.lt a c).2).trans (b.role a c)⟩
theorem lU.nil(w:World)(own:Own)(B:Nat)(r:Nat×Nat)(e k:Nat):lU w own B r e k () 0 []:=
 ⟨Rt _ _ _ _,fun b a=>by cases a⟩
theorem lU.form(c:lU w own B r e k v n xs):∃a b,v=.slice a n b:=jB c.row
theorem lU.take{g c:Nat}(a:lU w own B r e k (g,n,c) n xs){j:Nat}(b:j<=n):lU w own B r e k (g,j,c) j (xs.take (j*k)):=
 ⟨Bf a.row b,fun f d=>a.role f d⟩
theorem lU.ext(a:lU w own B r e k v n xs)(b:Ext w w'):lU w' own B r e k v n xs:=a.keep b (mV.refl _ _) fun _ _ _ c=>c
theorem lU.blk(a:lU w own B r e k v n xs){g:Nat}(b:v.ownBlock=some g):B<=g/\g<w:=a.row.lt g b
theorem lU.xy(a:lU w own B r e k v n xs)(d:Kp (PO own R) w w')(b:mV w own own')(f:¬R r):lU w' own' B r e k v n xs:=
 a.keep d b fun g c _ ⟨h,h1,h2⟩=>by rw[c]at h1;cases h1;exact f h2
end
structure GC where
 f:Fr
 cb:Nat
 t:tX
 vl:Value
 vs:Value
structure GO where
 o:qL
 v:Value
structure Gh where
 status:Int
 cs:List GC
 os:List GO
 outs:List Int
 back:Val
 vc:Value
 vh:Value
 vo:Value
def Gh.st(g:Gh):St:=⟨g.status,g.cs.map GC.f,g.os.map GO.o,g.outs,g.back⟩
def AB(p:hZ)(c:GC):Array Value:=
 #[.int .i64 c.f.of.of.keeper,.string c.f.of.of.name,.int .i64 c.f.of.at_,.string (M.method p c.f.of).name,.slice c.t.a1 (M.method p c.f.of).args.length c.t.c1,.int .i64 (M.method p c.f.of).ret.kind,.string (M.method p c.f.of).ret.name,
  .int .i64 (M.method p c.f.of).locals,.int .i64 (M.method p c.f.of).stack,.slice c.t.a2 (M.method p c.f.of).code.length c.t.c2,.slice c.t.a3 (M.method p c.f.of).maps.length c.t.c3,.int .i64 c.f.pc,c.vl,c.vs,.int .i64 (M.method p c.f.of).stack]
def uR(c:GC):List Value:=[.pointer (some ⟨c.cb,0,none⟩)]
def pR(o:GO):List Value:=[.int .i64 o.o.of.keeper,.string o.o.of.name,o.v]
def xP(l:jh)(lk:Bool)(g:Gh):Array Value:=#[.pointer (some ⟨l.L,0,none⟩),.bool lk,.int .i64 g.status,g.vc,g.vh,g.vo,.int .i64 g.back.kind,.int .i64 g.back.n]
structure qd(w:World)(l:jh)(p:hZ)(own:Own)(B i:Nat)(c:GC):Prop where
 blk:hV w c.cb 171 (AB p c)
 role:own c.cb=some (4,i)
 low:B<=c.cb
 ml:jd w (· <l.O) (M.method p c.f.of) (mg (M.method p c.f.of) c.t)
 loc:lU w own B (5,i) 37 2 c.vl c.f.locals.length (c.f.locals.flatMap jW)
 kI:lU w own B (6,i) 37 2 c.vs c.f.stack.length (c.f.stack.flatMap jW)
def GD(w:World)(own:Own):Prop:=∀b i,own b=some (4,i)->∃k:Int,w.cell? ⟨b,0,none⟩=some (.int .i64 k)
theorem GD.kp{w g:World}{c f:Own}{D:Nat->Prop}(h:GD w c)(k:Kp D w g)(i:∀a b,c a=some (4,b)->¬D a)(e:∀a b,f a=some (4,b)->c a=some (4,b)):GD g f:=fun a b d=>by
 obtain⟨l,j⟩:=h a b (e a b d);exact⟨l,k.lW j (i a b (e a b d))⟩
theorem Own.F9{d:Own}{g b i:Nat}{r:Nat×Nat}(e:r.1≠4)(a:d.add g r b=some (4,i)):d b=some (4,i):=by
 by_cases c:b=g
 . subst c;rw[Own.add_eq]at a;cases a;exact absurd rfl e
 . rwa[Own.lT r c]at a
structure ji(w:World)(l:jh)(p:hZ)(own:Own)(B mb:Nat)(lk:Bool)(g:Gh):Prop where
 ku:jg w l p
 hB:l.L<B
 blk:hV w mb 85 (xP l lk g)
 role:own mb=some (0,0)
 low:B<=mb
 calls:lU w own B (1,0) 166 1 g.vc g.cs.length (g.cs.flatMap uR)
 call:∀i c,g.cs[i]?=some c->qd w l p own B i c
 heap:lU w own B (2,0) 79 3 g.vh g.os.length (g.os.flatMap pR)
 obj:∀j o,g.os[j]?=some o->lU w own B (7,j) 37 2 o.v o.o.fields.length (o.o.fields.flatMap jW)
 outs:lU w own B (3,0) 3 1 g.vo g.outs.length (g.outs.flatMap uJ)
 dom:∀b,own b≠none->B<=b/\b<w.heap.size
 good:M.Good p g.st
 xI:GD w own
section
variable {w w':World} {l:jh} {p:M.hZ} {own own':Own} {B mb:Nat} {lk:Bool} {g:Gh} {D:Nat->Prop} {R:Nat×Nat->Prop}
theorem qd.keep{i:Nat}{c:GC}(b:qd w l p own B i c)(e:Kp D w w')(g:mV w own own')(f:∀a,(own a=some (4,i)\/own a=some (5,i)\/own a=some (6,i))->B<=a->¬D a)(h:∀a,a<l.O->¬D a):qd w' l p own' B i c:=
 ⟨b.blk.kp e (f _ (.inl b.role) b.low),(g _ b.blk.lt).trans b.role,b.low,jL.kp jd.stays e (fun a d=>h a d) b.ml,b.loc.keep e g (fun a d=>f a (.inr (.inl d))),b.kI.keep e g (fun a d=>f a (.inr (.inr d)))⟩
theorem ji.keep(c:ji w l p own B mb lk g)(d:Kp D w w')(f:mV w own own)(q:∀a,own a≠none->B<=a/\a<w'.heap.size)(m:jg w' l p)(k:∀a,own a≠none->¬D a)(n:∀a,a<l.O->¬D a):ji w' l p own B mb lk g:=by
 have e:∀a i,own a=some i->¬D a:=fun a i b=>k a (by rw[b];simp);exact⟨m,c.hB,c.blk.kp d (e _ _ c.role),(f _ c.blk.lt).trans c.role,c.low,c.calls.keep d f fun a b _=>e a _ b,
  fun h j o=>(c.call h j o).keep d f (fun a b _=>by rcases b with b|b|b<;>exact e a _ b) n,
  c.heap.keep d f fun a b _=>e a _ b,fun s t r=>(c.obj s t r).keep d f fun a b _=>e a _ b,c.outs.keep d f fun a b _=>e a _ b,q,c.good,c.xI.kp d (fun a h b=>e a _ b) fun _ _ u=>u⟩
theorem ji.zi(b:ji w l p own B mb lk g)(d:(w:Nat)<=w'):∀a,own a≠none->B<=a/\a<w'.heap.size:=fun a c=>⟨(b.dom a c).1,Nv (b.dom a c).2 d⟩
theorem ji.ext(a:ji w l p own B mb lk g)(b:Ext w w'):ji w' l p own B mb lk g:=
 a.keep b (mV.refl _ _) (a.zi b.size) (a.ku.ext b) (fun _ _ c=>c) (fun _ _ c=>c)
theorem ji.Qi(a:ji w l p own B mb lk g){b:Nat}(d:b<=l.L):own b=none:=by
 cases c:own b with
 |none=>rfl
 |some e=>have:=(a.dom b (by rw[c];simp)).1;have:=a.hB;omega
theorem ji.oJ(a:ji w l p own B mb lk g)(c:Kp (·=l.D) w w')(f:jg w' l p):ji w' l p own B mb lk g:=
 a.keep c (mV.refl _ _) (a.zi c.size) f (fun d b e=>by have:=a.ku.ord;exact b (a.Qi Zm)) (fun d b e=>Z0 a.ku.ord)
theorem ji.E8(a:ji w l p own B mb lk g)(b:Kp (PO own R) w w'):jg w' l p:=
 a.ku.kp b fun d c ⟨f,e,_⟩=>by rw[a.Qi c]at e;cases e
theorem ji.xO(b:ji w l p own B mb lk g):∀a,a<l.O->¬PO own R a:=fun a c ⟨d,e,_⟩=>by
 have:=b.ku.ord;rw[b.Qi Zm]at e;cases e
theorem qd.xy{i:Nat}{c:GC}(d:qd w l p own B i c)(g:Kp (PO own R) w w')(f:mV w own own')(hR:¬R (4,i)/\¬R (5,i)/\¬R (6,i))(e:∀b,b<l.O->¬PO own R b):qd w' l p own' B i c:=
 d.keep g f (fun b a _ ⟨h,h1,h2⟩=>by
  rcases a with a|a|a<;>rw[a]at h1<;>cases h1
  . exact hR.1 h2
  . exact hR.2.1 h2
  . exact hR.2.2 h2) e
theorem ji.at_(a:ji w l p own B mb lk g){r:List GC}{c:GC}(b:g.cs=r++[c]):qd w l p own B r.length c:=a.call _ _ (by rw[b];simp)
theorem ji.Gm(b:ji w l p own B mb lk g){r:List GC}{c j:GC}(t:g.cs=r++[c])(s:j.cb=c.cb)(f:Kp (PO own fun k=>k=(4,r.length)\/k=(5,r.length)\/k=(6,r.length)) w w')(h:mV w own own')(A:∀a,own' a≠none->B<=a/\a<w'.heap.size)
    (q:qd w' l p own' B r.length j) (z:M.Good p {g with cs:=r++[j]}.st) {D':Nat->Prop} (D:Kp D' w w') (y:∀a d,own a=some (4,d)->D' a->a=c.cb) (u:∀a d,own' a=some (4,d)->own a=some (4,d)):ji w' l p own' B mb lk {g with cs:=r++[j]}:=by
 refine⟨b.E8 f,b.hB,b.blk.kp f ?_,(h _ b.blk.lt).trans b.role,b.low,?_,?_,b.heap.xy f h Zl,fun F H E=>(b.obj F H E).xy f h Zl,b.outs.xy f h Zl,A,z,fun a d o=>?_⟩;rotate_right
 . by_cases m:a=c.cb
   . exact⟨_,by rw[m,<-s];exact q.blk.c 0 _ rfl⟩
   . obtain⟨G,C⟩:=b.xI a d (u a d o);exact⟨G,D.lW C fun I=>m (y a d (u a d o) I)⟩
 . rintro⟨k,n,x⟩;rw[b.role]at n;cases n;simp at x
 . have:=b.calls.xy f h Zl;rw[t]at this;simpa [uR,s]using this
 . intro d v e;simp only at e;rcases Si d r.length with i|i|i
   . rw[RY i]at e;refine(b.call d v (by rw[t,RY i];exact e)).xy f h ?_ b.xO;refine⟨?_,?_,?_⟩<;>simp<;>omega
   . subst i;simp at e;subst e;exact q
   . rw[Sz Zr]at e;cases e
theorem ji.Gl(b:ji w l p own B mb lk g)(a:Gh)(c:Kp (PO own (·=(0,0))) w w')(f:hV w' mb 85 (xP l lk a))(k:(a.cs=g.cs/\a.vc=g.vc)\/(lU w own B (1,0) 166 1 a.vc a.cs.length (a.cs.flatMap uR)/\∃n,g.cs=a.cs++n))(v:a.os=g.os/\a.vh=g.vh/\a.outs=g.outs/\a.vo=g.vo) (t:M.Good p a.st):ji w' l p own B mb lk a:=by
 obtain⟨j,q,r,s⟩:=v;have e:=mV.refl w own;refine⟨b.E8 c,b.hB,f,b.role,b.low,?_,?_,?_,?_,?_,b.zi c.size,t,b.xI.kp c (fun i m f ⟨A,h1,h2⟩=>by rw[f]at h1;cases h1;cases h2) fun _ _ z=>z⟩
 . rcases k with⟨d,i⟩|⟨d,_⟩
   . rw[d,i];exact b.calls.xy c e Zl
   . exact d.xy c e Zl
 . intro m o h;refine(b.call m o ?_).xy c e Zl b.xO;rcases k with⟨d,_⟩|⟨_,n,d⟩
   . rw[<-d];exact h
   . rw[d,RY (RZ.1 h).1];exact h
 . rw[j,q];exact b.heap.xy c e Zl
 . rw[j];exact fun x y u=>(b.obj x y u).xy c e Zl
 . rw[r,s];exact b.outs.xy c e Zl
end
def jY(w:World)(l:jh)(p:hZ)(own:Own)(B mb:Nat)(lk:Bool)(v:Value)(s:St)(e:Ending)(w':World):Prop:=
 e=.returned v/\Kp (MO l own) w w'/\∃own' g',mV w.heap.size own own'/\ji w' l p own' B mb lk g'/\g'.st=s
theorem jY.after{w h i:World}{l:jh}{p:hZ}{a g:Own}{b f:Nat}{lk:Bool}{v:Value}{s:St}{e:Ending}(c:Kp (MO l a) w h)(d:mV w a g)(k:jY h l p g b f lk v s e i):jY w l p a b f lk v s e i:=by
 obtain⟨m,n,t,j,o,q,r⟩:=k;exact⟨m,c.mo n d,t,j,d.trans o c.size,q,r⟩
theorem jY.behind{w d f:World}{l:jh}{p:hZ}{c:Own}{a b:Nat}{lk:Bool}{v:Value}{s:St}{e:Ending}(h:Ext w d)(g:jY d l p c a b lk v s e f):jY w l p c a b lk v s e f:=
 g.after h.any (mV.refl _ _)
theorem ji.stop{w e:World}{l:jh}{p:hZ}{a:Own}{b d:Nat}{lk:Bool}{g:Gh}{v:Value}(f:ji w l p a b d lk g)(c:Ext w e):jY w l p a b d lk v g.st (.returned v) e:=
 ⟨rfl,c.any,a,g,mV.refl _ _,f.ext c,rfl⟩
end Go.Proofs.YtlhlnddgfcmfkaaGreat
namespace Go.Proofs.YtlhlnddgfcmfkaaGreat
open Go Go.RowKit Tryz M
section
variable {w w':World} {l:jh} {p:M.hZ} {own:Own} {B mb:Nat} {lk:Bool} {g:Gh} {r:List GC} {c:GC}
theorem Gh.fr(a:g.cs=r++[c]):g.st.frames=r.map GC.f++[c.f]:=by unfold Gh.st;rw[a];simp
theorem Gh.top(a:g.cs=r++[c]):M.top g.st=c.f:=zD (Gh.fr a)
theorem ji.C9(a:ji w l p own B mb lk g)(b:g.cs=r++[c]):kZ p c.f g.st.heap.length=true:=a.good.top (Gh.fr b)
theorem ji.mi(a:ji w l p own B mb lk g)(b:g.cs=r++[c]):JH (M.method p c.f.of):=
 tu (nD a.ku.ok (jA.1 (a.C9 b)).1).1
theorem ji.setStack(k:ji w l p own B mb lk g)(v:g.cs=r++[c])(xs:List Val)(j:Value)(e:hV w' c.cb 171 ((AB p c).setIfInBounds 13 j))(x:w'.ownsRow B 37 2 j xs.length (xs.flatMap jW))
    (D:∀b,j.ownBlock=some b->c.vs.ownBlock=some b\/w.heap.size<=b) (m:Kp (fun a=>a=c.cb\/c.vs.ownBlock=some a) w w') (A:M.Good p {g with cs:=r++[{c with f:={c.f with stack:=xs},vs:=j}]}.st):
    Kp (MO l own) w w'/\∃i,mV w own i/\ji w' l p i B mb lk {g with cs:=r++[{c with f:={c.f with stack:=xs},vs:=j}]}:=by
 have h:=k.at_ v;have y:∀a,(a=c.cb\/c.vs.ownBlock=some a)->PO own (fun b=>b=(4,r.length)\/b=(6,r.length)) a:=fun a e=>by
  rcases e with d|d
  . subst d;exact⟨_,h.role,.inl rfl⟩
  . exact⟨_,h.kI.role a d,.inr rfl⟩
 have s:=m.weak fun a _ d=>y a d;refine⟨m.weak fun a _ d=>(y a d).mo,?_⟩;have⟨i,o,C,F,z⟩:∃i,mV w own i/\(∀a,i a≠none->B<=a/\a<w'.heap.size)/\(∀b,j.ownBlock=some b->i b=some (6,r.length))/\∀a q,i a=some (4,q)->own a=some (4,q):=by
  cases d:j.ownBlock with
  |none=>exact⟨own,mV.refl _ _,k.zi m.size,(fun b t=>by cases t),fun _ _ n=>n⟩
  |some b=>
   refine⟨own.add b (6,r.length),Own.yn ?_,fun a e=>?_,(fun G t=>by cases t;exact Own.add_eq _ _ _),fun a q e=>Own.F9 Zl e⟩
   . rcases D b d with n|n
     . exact .inl (h.kI.role b n)
     . exact .inr n
   . by_cases u:a=b
     . subst u;exact x.lt a d
     . rw[Own.lT _ u]at e;exact k.zi m.size a e
 have E:¬((5,r.length)=((4,r.length):Nat×Nat)\/(5,r.length)=((6,r.length):Nat×Nat)):=by simp
 refine⟨i,o,k.Gm v rfl (s.weak fun a _ ⟨b,e1,e2⟩=>⟨b,e1,e2.elim .inl fun d=>.inr (.inr d)⟩) o C ⟨e,(o _ h.blk.lt).trans h.role,h.low,jL.kp jd.stays s (fun a e=>k.xO a e) h.ml,h.loc.xy s o E,⟨x,F⟩⟩ A m (fun a q e d=>d.elim id fun d=>by rw[h.kI.role a d]at e;cases e) z⟩
theorem ji.Q9(h:ji w l p own B mb lk g)(k:g.cs=r++[c])(n:Int)(m:M.Good p {g with cs:=r++[{c with f:={c.f with pc:=n}}]}.st):
    Kp (MO l own) w (w.setCell (c.cb,11) n)/\ji (w.setCell (c.cb,11) n) l p own B mb lk {g with cs:=r++[{c with f:={c.f with pc:=n}}]}:=by
 have a:=h.at_ k;have j:Kp (·=c.cb) w (w.setCell (c.cb,11) n):=(Kp.refl (·=c.cb) w).setCell (p:=⟨c.cb,11,none⟩) (fun _=>rfl) _;have d:Kp (PO own (·=(4,r.length))) w (w.setCell (c.cb,11) n):=j.weak fun e _ b=>⟨_,by rw[b];exact a.role,rfl⟩;have i:=mV.refl w own;refine⟨d.weak fun e _ b=>b.mo,h.Gm k rfl (d.weak fun e _ ⟨q,e1,e2⟩=>⟨q,e1,.inl e2⟩) i (h.zi j.size) ⟨a.blk.jk 11 _,a.role,a.low,jL.kp jd.stays d (fun e o=>h.xO e o) a.ml,a.loc.xy d i Zl,a.kI.xy d i Zl⟩ m j (fun _ _ _ b=>b) fun _ _ s=>s⟩
end
def Gz(n:Nat)(q:Nat×Nat):Prop:=q=(4,n)\/q=(6,n)
theorem Kp.po{g i:Own}{R:Nat×Nat->Prop}{w a b:World}(c:Kp (PO g R) w a)(d:Kp (PO i R) a b)(j:mV w g i):Kp (PO g R) w b:=
 ⟨d.os.trans c.os,d.tape.trans c.tape,d.output.trans c.output,RP c.size d.size,
  fun f e h=>(d.block f (Nv e c.size) (fun⟨k,e1,e2⟩=>h ⟨k,by rw[<-j f e];exact e1,e2⟩)).trans (c.block f e h)⟩
theorem ji.Gt{w h i:World}{l:jh}{p:hZ}{f:Own}{j m:Nat}{lk:Bool}{g:Gh}{r:List GC}{c:GC}(d:ji w l p f j m lk g)(e:g.cs=r++[c])(k:Kp (fun b=>b=c.cb\/c.vs.ownBlock=some b) h i):Kp (PO f (Gz r.length)) h i:=
 k.weak fun b _ a=>by
  rcases a with a|a
  . subst a;exact⟨_,(d.at_ e).role,.inl rfl⟩
  . exact⟨_,(d.at_ e).kI.role b a,.inr rfl⟩
theorem kV(w:World)(l:jh)(p:hZ)(y:Own)(q n:Nat)(lk:Bool)(g:Gh)(a:ji w l p y q n lk g)(r:List GC)(c:GC)(h:g.cs=r++[c]):Calls prog 66 #[some n] w fun u B=>u=.returned (some c.cb)/\Ext w B:=by
 have m:g.cs.length=r.length+1:=by rw[h];simp
 obtain⟨s,t,d,-,-,E⟩:=jS a.calls.row Zm;have i:=a.calls.row;rw[d,m]at i;have f:=(lK (enc:=uR) (k:=1) (fun _=>rfl) (l:=g.cs) i (i:=r.length) (x:=c) (by rw[h];simp)).one;rw[SC]at f;rw[m]at d;have k:(xP l lk g)[3]?=some (.slice (some ⟨s,0,none⟩) (r.length+1) t):=by rw[<-d];rfl
 have F:r.length+1<=8:=by have:=a.good.nf;rw[Gh.fr h]at this;simpa using this
 have H:IntKind.i64.wrap ((r.length:Int)+1 - 1)=r.length:=by rw[RQ _ Zm];omega
 obtain⟨D,v,G,b⟩:=kY w;have z:=fun j=>(a.blk.ext (b.jm j)).c 3 _ k;have A:=fun j=>(b.jm j).jb f;have⟨e,C⟩:=je b a;clear a b k f i d;go_enter func66,ntmps66;go_wp2_with fail;refine Bl e ?_ ?_;rotate_left;(repeat (go_big_quiet_step ((fail))));refine Sw ?_;(rintro _ ⟨o,rfl⟩);rotate_left
 . exact jf
 have x:=e.jm o;generalize v o=w1 at*;clear e z A;go_wp2_with fail;go_ret;exact⟨rfl,x⟩
theorem jY.mk'{w d:World}{l:jh}{p:hZ}{b c:Own}{e f:Nat}{lk:Bool}{v:Value}{s:St}{a:Gh}(h:Kp (MO l b) w d)(i:mV w b c)(g:ji d l p c e f lk a)(j:a.st=s):jY w l p b e f lk v s (.returned v) d:=
 ⟨rfl,h,c,a,i,g,j⟩
theorem Dw(w:World)(l:jh)(p:hZ)(s:Own)(t q:Nat)(lk:Bool)(g:Gh)(k:ji w l p s t q lk g)(r:List GC)(c:GC)(b:g.cs=r++[c])(F:g.status=1)(a:Int)(h0:0<=a):Calls prog 131 #[some q,a] w fun x A=>jY w l p s t q lk (.int .i64 (jump p a g.st).1) (jump p a g.st).2 x A/\Kp (PO s (Gz r.length)) w A:=by
 have u:=Zy k;have v:Zz (jump p a g.st=if((M.method p c.f.of).code.length:Int)<=a then(10,g.st)else(1,{g.st with frames:=r.map GC.f++[{c.f with pc:=a}]})):=Zy (by
  unfold jump;rw[Gh.top b,qw (Gh.fr b)])
 have B:=Zy (vN k.good (Gh.fr b) F h0).2.2.1;have e:=Zy b;clear k b;go_enter func131,ntmps131;go_wp2_with fail;refine(kV _ _ _ _ _ _ _ _ u r c e).mono ?_;rintro x G ⟨rfl,n⟩;have m:=u.ext n;have o:=m.at_ e;obtain⟨K,-,-,-,-,-,-,-,-,-,I,-,H,-⟩:=o.blk.ca;have J:=o.blk.frozen 11;have⟨j,h⟩:=je m n;clear m o n;by_cases d:((M.method p c.f.of).code.length:Int)<=a
 . have i:Zz (jump p a g.st=(10,g.st)):=Zy (by rw[v.o,RV d]);have E:=R6 d;go_wp2_with fail;go_ret;rw[i.o];exact⟨jY.mk' h.any (mV.refl _ _) j rfl,h.any⟩
 . have i:Zz (jump p a g.st=(1,{g.st with frames:=r.map GC.f++[{c.f with pc:=a}]})):=Zy (by rw[v.o,RX d]);have E:=Tq d;clear d;go_wp2_with fail;go_ret;have y:=B.o;rw[i.o]at y;rw[i.o];have z:(⟨g.status,r++[{c with f:={c.f with pc:=a}}],g.os,g.outs,g.back,g.vc,g.vh,g.vo⟩:Gh).st={g.st with frames:=r.map GC.f++[{c.f with pc:=a}]}:=by simp[Gh.st]
   obtain⟨C,D⟩:=j.Q9 e a (by rw[z];exact y);exact⟨jY.mk' (h.any.trans C) (mV.refl _ _) D z,h.any.trans (j.Gt e ((Kp.refl _ G).setCell (p:=⟨c.cb,11,none⟩) (fun _=>.inl rfl) _))⟩
theorem A8{w:World}{l:jh}{p:hZ}{f:Own}{d b:Nat}{lk:Bool}{g:Gh}(e:ji w l p f d b lk g)(r:List GC)(c:GC)(h:g.cs=r++[c])(i:g.status=1)(a:Int)(h0:0<=a):Calls prog 131 #[some b,a] w (jY w l p f d b lk (.int .i64 (jump p a g.st).1) (jump p a g.st).2):=
 (Dw w l p f d b lk g e r c h i a h0).mono fun _ _ e=>e.1
end Go.Proofs.YtlhlnddgfcmfkaaGreat
namespace Go.Proofs.YtlhlnddgfcmfkaaGreat
open Go Go.RowKit Tryz M
theorem Dx(w:World)(l:jh)(p:hZ)(k:Own)(m j:Nat)(lk:Bool)(g:Gh)(b:ji w l p k m j lk g)(r:List GC)(c:GC)(a:g.cs=r++[c])(A:g.status=1):Calls prog 124 #[some j] w fun e v=>jY w l p k m j lk (.int .i64 (next p g.st).1) (next p g.st).2 e v/\Kp (PO k (Gz r.length)) w v:=by
 have n:=Zy b;have y:Zz (next p g.st=jump p (c.f.pc+1) g.st):=Zy (by unfold next;rw[Gh.top a]);have i:=jA.1 (b.C9 a);have C:=(b.mi a).code;have D:=i.2.1;have E:=i.2.2.1;have F:IntKind.i64.wrap (c.f.pc+1)=c.f.pc+1:=RQ _ Zm;have d:=Zy a;clear b a i;go_enter func124,ntmps124;go_wp2_with fail;refine(kV _ _ _ _ _ _ _ _ n r c d).mono ?_;rintro e G ⟨rfl,h⟩;have f:=n.ext h;have u:=f.at_ d;have B:=u.blk.c 11 c.f.pc rfl;have⟨x,o⟩:=je f h;clear f u h;go_wp2_with fail;refine(Dw _ _ _ _ _ _ _ _ x r c d A (c.f.pc+1) Zm).mono ?_;rintro e H ⟨s,t⟩;have z:=Zy (o.any.trans t);clear t;have q:=Zy (jY.behind o s);obtain⟨rfl,-⟩:=s;rw[<-y.o]at q |-;go_wp2_with fail;go_ret;exact⟨q,z⟩
theorem uh{w:World}{l:jh}{p:hZ}{e:Own}{b a:Nat}{lk:Bool}{g:Gh}(d:ji w l p e b a lk g)(r:List GC){c:GC}(f:g.cs=r++[c])(h:g.status=1):Calls prog 124 #[some a] w (jY w l p e b a lk (.int .i64 (next p g.st).1) (next p g.st).2):=
 (Dx w l p e b a lk g d r c f h).mono fun _ _ d=>d.1
theorem Fa(w:World)(l:jh)(p:hZ)(x:Own)(z J:Nat)(lk:Bool)(g:Gh)(n:ji w l p x z J lk g)(r:List GC)(c:GC)(d:g.cs=r++[c])(az:g.status=1)(v:Val)(hv:ko v g.os.length=true):Calls prog 122 #[some J,.agg #[v.kind,v.n]] w fun a w'=>jY w l p x z J lk (.int .i64 (push p v g.st).1) (push p v g.st).2 a w'/\Kp (PO x (Gz r.length)) w w':=by
 obtain⟨y,ag,F,O⟩:=nu w #[v.kind,v.n] 37;have Q:=n.ext F;have e:=jA.1 (n.C9 d);have aG:=(n.mi d).stack;have aI:=e.2.2.2.2.1;have G:=n.at_ d;have ay:¬(w=c.cb\/c.vs.ownBlock=some w.heap.size):=by
  rintro(a|a)
  . have:=G.blk.lt;omega
  . have:=(G.kI.blk a).2;omega
 have i:Zz (push p v g.st=if(M.method p c.f.of).stack<=(c.f.stack.length:Int)then(10,g.st)else next p {g.st with frames:=r.map GC.f++[{c.f with stack:=c.f.stack++[v]}]}):=Zy (by
  unfold push;rw[Gh.top d,qw (Gh.fr d)])
 have V:(c.f.stack.length:Int)<(M.method p c.f.of).stack->M.Good p {g.st with frames:=r.map GC.f++[{c.f with stack:=c.f.stack++[v]}]}:=fun H=>by
  refine n.good.turn (Gh.fr d) (jA.2 ⟨e.1,e.2.1,e.2.2.1,e.2.2.2.1,by simp;omega,e.2.2.2.2.2.1,?_⟩);intro aC o;rcases SF.1 o with o|o
  . exact e.2.2.2.2.2.2 aC o
  . simp only[List.mem_singleton]at o;subst o;simpa [Gh.st]using hv
 obtain⟨aF,f,aH,C⟩:=rA.ex (fun W'=>Kp (fun j=>j=c.cb\/c.vs.ownBlock=some j) y W') _ Kp.rr;obtain⟨-,r0,r1,-⟩:=hV.lL fun aD=>(O.kp (C.jm aD) ay);have⟨m,A,q,ax⟩:=jV C Q F ag;have ah:=Zy V;have s:=Zy d;clear n Q F ag O C V G d e;go_enter func122,ntmps122;go_wp2_with fail;rw[<-ax.o];refine kD m 7 [([0,4],1),([2,3],5)] [6] ?_ ?_
 . exact jf
 refine lS ?_;intro t k;go_wp2_with fail;refine(kV _ _ _ _ _ _ _ _ (A.ext jf) r c s).mono ?_;rintro a w1 ⟨rfl,S⟩;have h:=Zy (((Kp.refl _ y).drew:Ext y _).trans S);clear S;go_wp2_with fail;refine kk m k h.any ?_;clear k t;refine lS ?_;intro t k;have E:=A.ext h;have ae:=E.at_ s;have⟨K,b⟩:=je E ae;clear E ae;by_cases H:(c.f.stack.length:Int)<(M.method p c.f.of).stack
 . replace i:Zz (push p v g.st=next p {g.st with frames:=r.map GC.f++[{c.f with stack:=c.f.stack++[v]}]}):=Zy (by rw[i.o,RX Zm]);go_wp2_with fail;refine(Ju w1 c.cb 13 z c.f.stack.length (M.method p c.f.of).stack b.blk rfl rfl v.kind v.n b.kI.row Zm H ?_ ?_).mono ?_
   . intro a;have:=b.kI.role _ a;rw[b.o.role]at this;cases this
   . have:=b.low;have:=b.blk.lt;omega
   rintro a w2 ⟨rfl,D,P,Y,af,R,u⟩;have I:(⟨g.status,r++[{c with f:={c.f with stack:=c.f.stack++[v]},vs:=(D,c.f.stack.length+1,P)}],g.os,g.outs,g.back,g.vc,g.vh,g.vo⟩:Gh).st={g.st with frames:=r.map GC.f++[{c.f with stack:=c.f.stack++[v]}]}:=by simp[Gh.st]
   obtain⟨W,aA,aa,X⟩:=K.setStack s (c.f.stack++[v]) (D,c.f.stack.length+1,P) R (by
    rw[Sl,S9];simpa [jW]using Y) (fun aB hq=>by
    have:D=aB:=by simpa [Value.ownBlock]using hq
    subst this;exact af) u (by rw[I];exact ah H)
   have ai:Zz (Kp (fun j=>j=c.cb\/c.vs.ownBlock=some j) y w2):=Zy (h.any.trans u);have⟨au,aj⟩:=je ((q.trans h).any.trans (K.Gt s u)) ((q.trans h).any.trans W);have ak:=Zy X;have L:Zz (mV w x aA):=Zy (fun j hb=>aa j (Z4 q.size h.size));rw[<-I]at i;clear Y af R u W aa X I r0 r1;go_wp2_with fail;refine kk m k ai ?_;clear k t;clear m;refine sK ?_;go_wp2_with fail;refine(Dx _ _ _ _ _ _ _ _ ak r _ rfl az).mono ?_;rintro a w3 ⟨U,Z⟩;have av:=Zy (au.po Z L);clear Z;have N:=Zy (jY.after aj L U);obtain⟨rfl,-⟩:=U;rw[<-i.o]at N |-;go_wp2_with fail;go_ret;exact⟨N,av⟩
 . replace i:Zz (push p v g.st=(10,g.st)):=Zy (by rw[i.o,RV Zm]);go_wp2_with fail;refine(Cn w1 c.cb 13 c.f.stack.length (M.method p c.f.of).stack b.blk rfl rfl b.kI.form v.kind v.n Zm).mono ?_;rintro a w2 ⟨rfl,T⟩;have B:=Zy (h.trans T);clear T r0 r1;go_wp2_with fail;refine kk m k B.any ?_;clear k t;clear m;refine sK ?_;go_wp2_with fail;go_ret;rw[i.o];exact⟨jY.behind q (A.stop B),(q.trans B).any⟩
theorem rQ{w:World}{l:jh}{p:hZ}{e:Own}{b a:Nat}{lk:Bool}{g:Gh}(d:ji w l p e b a lk g)(r:List GC)(c:GC)(f:g.cs=r++[c])(h:g.status=1)(v:Val)(i:ko v g.os.length=true):Calls prog 122 #[some a,.agg #[v.kind,v.n]] w (jY w l p e b a lk (.int .i64 (push p v g.st).1) (push p v g.st).2):=
 (Fa w l p e b a lk g d r c f h v i).mono fun _ _ d=>d.1
end Go.Proofs.YtlhlnddgfcmfkaaGreat
