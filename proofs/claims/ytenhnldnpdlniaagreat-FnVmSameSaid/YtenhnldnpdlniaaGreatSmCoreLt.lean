/- Walks. -/
import Derived.Test.YtenhnldnpdlniaaGreatSmCoreLs
set_option maxRecDepth 100000
set_option maxHeartbeats 4000000
set_option linter.all false
namespace Go.Proofs.YtenhnldnpdlniaaGreat
open Go Go.RowKit Tryz M
variable {lk: Bool}{g: Gh}{c e f: Nat}{D I: Nat->Prop}{i: Own}{s: St}{v: Value}{w: World}{l: jB}{p: jl}
theorem sS.mono{k:Own}{d: Nat}{j:List GO}(a:sS w k c v j)(b:d<=c):sS w k d v j:=
 ⟨fun e f=>⟨TV b (a.dom e f).1,(a.dom e f).2⟩,⟨mP a.row.row b,a.row.role⟩,fun h i g=>⟨mP (a.obj h i g).row b,(a.obj h i g).role⟩,a.JE⟩
theorem sS.kp{i: World}{e:Own}{h:List GO}(c:sS w e f v h)(d:Kp D w i)(g:∀a,e a≠none->¬D a):sS i e f v h:=
 ⟨fun a b=>⟨(c.dom a b).1,Ta (c.dom a b).2 d.size⟩,c.row.keep d (nU.refl _ _) fun a b _=>g a (by rw[b];simp),fun k l j=>(c.obj k l j).keep d (nU.refl _ _) fun a b _=>g a (by rw[b];simp),c.JE⟩
theorem M.Good.part(a:M.Good p s)(n:Nat):M.Good p {s with frames:=s.frames.take n}:=
 ⟨a.heap,fun b c=>a.frames b (Uo c),by have:=a.nf;simp;omega,a.outs,a.uh,a.back⟩
theorem jG.start{f:Own}{g: Nat}{st:Int}{s:List GO}{n:List Int}{t:Val}{C o:Value}(G:jD w l p)(E:l.L<g)(i:sS w f g C s)(J:f e=none)(x:g<=e)(v:jq w e 78 (yQ l lk ⟨st,[],s,n,t,(),C,o⟩))(z:w.ownsRow g 3 1 o n.length (n.flatMap vR))(K:∀a,o.ownBlock=some a->f a=none/\a≠e)(F:M.Good p ⟨st,[],s.map GO.o,n,t⟩):∃O,jG w l p O g e lk ⟨st,[],s,n,t,(),C,o⟩:=by
 have q:∀a h,f a=some h->(f.add e (0,0)) a=some h:=fun a h b=>by
  rw[Own.mR _ (fun c=>by subst c;rw[J]at b;cases b)];exact b
 have H:∀a,f.add e (0,0) a≠none->g<=a/\a<w.heap.size:=fun a b=>by
  by_cases c:a=e
  . subst c;exact⟨x,v.lt⟩
  . rw[Own.mR _ c]at b;exact i.dom a b
 have D:∀a d,¬f a=some (4,d):=fun a d b=>by rcases i.JE _ _ b with c|⟨_,c⟩<;>cases c
 have P:∀d:Nat,∀j:GC,([]:List GC)[d]?=some j->rE w l p f g d j:=fun d j m=>by simp at m
 cases r:o.ownBlock with
 |none=>
  exact⟨f.add e (0,0),G,E,v,Own.add_eq _ _ _,x,mW.nil _ _ _ _ _ _,fun d j m=>by simp at m,i.row.relabel q,fun A B y=>(i.obj A B y).relabel q,⟨z,fun a b=>by rw[r]at b;cases b⟩,H,F,fun a d b=>absurd (Own.Ht Zl b) (D a d)⟩
 | some k =>
  obtain⟨L,N⟩:=K k r;have I:=z.lt k r;have u:∀a h,(f.add e (0,0)) a=some h->((f.add e (0,0)).add k (3,0)) a=some h:=fun a h b=>by
   rw[Own.mR _ (fun c=>by subst c;rw[Own.mR _ N,L]at b;cases b)];exact b
  refine⟨(f.add e (0,0)).add k (3,0),G,E,v,u _ _ (Own.add_eq _ _ _),x,mW.nil _ _ _ _ _ _,fun d j m=>by simp at m,(i.row.relabel q).relabel u,fun A B y=>((i.obj A B y).relabel q).relabel u,⟨z,fun a b=>?_⟩,fun a b=>?_,F,fun a d b=>absurd (Own.Ht Zl (Own.Ht Zl b)) (D a d)⟩
  . rw[r]at b;cases b;exact Own.add_eq _ _ _
  . by_cases c:a=k
    . subst c;exact I
    . rw[Own.mR _ c]at b;exact H a b
theorem Jt(aS:jD w l p)(lk:Bool)(s:St){cs:List Value}(hs:lJ w (· <l.O) s cs)(hv:FI p s=true):Calls prog 25 #[some l.L,.bool lk,.agg cs.toArray] w fun b w'=>(∃mb au g,b=.returned (.pointer (some ⟨mb,0,none⟩))/\jG w' l p au w mb lk g/\g.st=s)/\Ext w w':=by
 obtain⟨a1,c1,a2,c2,a3,c3,rfl,x,h2,h3⟩:=hs.form;have hR:=EU.1 hv;clear hs hv;obtain⟨v,n,P,k,⟨t,u⟩⟩:=s;simp only at x h2 h3 |-;have eO:=x.form;have aJ:=h2.form;have eP:=h3.form;obtain⟨_,_,e1,fV,gp⟩:=eO;cases e1;obtain⟨_,_,e2,fZ,gq⟩:=aJ;cases e2;obtain⟨_,_,e3,gm,eH⟩:=eP;cases e3;have eD:=(lV.1 hR.good.heap).1;obtain⟨U,Q⟩:=S9 ((w.alloc (.cells #[v,.slice a1 n.length c1,.slice a2 P.length c2,.slice a3 k.length c3,t,u] 44)).alloc (.cells #[some l.L,.bool lk,v,(),(),(),t,u] 78));have bR:Ext w U:=by rw[Q];exact kx
 have b5:jq U w 44 #[v,.slice a1 n.length c1,.slice a2 P.length c2,.slice a3 k.length c3,t,u]:=by rw[Q];exact(jq.new _ _ _).ext kx
 have b7:jq U (w+1) 78 #[some l.L,.bool lk,v,(),(),(),t,u]:=by rw[Q];exact jq.newAt _ _ Zl
 have gB:U.heap.size=w+2:=by rw[Q];simp
 have dZ:=aS.lt;have⟨HL,HR,bD,dn,dx,dR,H1,H2,H3⟩:=AV aS hR bR b5 b7 Q x h2 h3;clear aS hR bR b5 b7 Q x h2 h3;go_enter func25,ntmps25;go_wp2_with fail;rw[<-dR.o];refine(BF (· <l.O) P (H2.ext xZ.stays bD) eD).mono ?_;rintro b w2 ⟨⟨vh,aO,I,rfl,cK,hO⟩,aa⟩;obtain⟨Y,Z,rfl⟩:=hO.row.form;have aR:=dn.ext aa;have aD:=dx.ext aa;obtain⟨w3,aM⟩:=S9 (w2.setCell ⟨w+1,4,none⟩ (Value.slice Y I.length Z));have af:Kp (·=w+1) w2 w3:=by rw[aM];exact qM
 have bN:jq w3 (w+1) 78 #[some l.L,.bool lk,v,(),(Value.slice Y I.length Z),(),t,u]:=by rw[aM];exact aD.jR 4 _
 have bL:=aR.kp af Zm;obtain⟨yz,-,-,-,-,y4,-⟩:=aD.ca;have yf:=aD.frozen 4;obtain⟨xz,-,-,-,x3,-⟩:=aR.ca;have⟨bE,aC,bH,dS,dz,dw⟩:=pR ((bD.trans aa).own af (fun a b=>Zm)) (hO.kp af (fun a c b=>Te ((hO.dom a c).1))) cK aM bN bL;have gI:w2.heap.size<=w3:=af.size;have gH:=aa.size;clear cK hO aa aR aD aM af bN bL;go_wp2_with fail;rw[<-dS.o];clear y4 yf yz x3 xz;refine(zn ((H3.ext qx.stays bE).ints) eH).mono ?_;rintro b w4 ⟨⟨vo,rfl,ai⟩,ae⟩;obtain⟨ao,co,rfl⟩:=jS ai;have aF:=dz.ext ae;have bM:=dw.ext ae;obtain⟨J,aN⟩:=S9 (w4.setCell ⟨w+1,5,none⟩ (Value.slice ao k.length co));have aG:Kp (·=w+1) w4 J:=by rw[aN];exact qM
 have bO:jq J (w+1) 78 #[some l.L,.bool lk,v,(),(Value.slice Y I.length Z),(Value.slice ao k.length co),t,u]:=by rw[aN];exact aF.jR 5 _
 have aT:=(bE.trans ae).own aG (fun a b=>Zm);have bY:sS J aO w (Value.slice Y I.length Z) I:=((aC.kp (D:=fun _=>False) ae fun _ _ fO=>fO).kp aG (fun a c b=>Te ((aC.dom a c).1))).mono Zm;have di:J.ownsRow w 3 1 (Value.slice ao k.length co) k.length (k.flatMap vR):=mP (jr ai aG (fun f hq c b=>Te (ai.lt f hq))) Zm;have o:∃av,jG J l p av w (w+1) lk ⟨v,[],I,k,⟨t,u⟩,(),(Value.slice Y I.length Z),(Value.slice ao k.length co)⟩:=by
  refine jG.start (HL.ext aT) dZ bY ?_ Zm bO di (fun a c=>?_) ?_
  . cases b:aO (w+1)with
    |none=>rfl
    |some fe=>have:=(aC.dom _ (by rw[b];simp)).1;omega
  . have x:=(ai.lt a c).1;refine⟨?_,Zm⟩;cases b:aO a with
    |none=>rfl
    |some fe=>have:=(aC.dom _ (by rw[b];simp)).2;omega
  . rw[bH.o];have:=HR.good.part 0;simpa using this
 obtain⟨yz,-,-,-,-,-,y5,-⟩:=aF.ca;have yf:=aF.frozen 5;obtain⟨xz,-,x1,-⟩:=bM.ca;have⟨HM,dD,dU⟩:=jI o aT aN;clear aF bM aN aG bO aT bY di o ai ae;go_wp2_with fail;rw[<-dU.o];clear y5 yf yz x1 xz;go_loopw [34] (fun ak wr=>∃(f:Nat)(au:Own)(g:Gh),f<=n.length/\ak=.int .i64 f/\Ext w wr/\jG wr l p au w (w+1) lk g/\g.st=⟨v,n.take f,P,k,⟨t,u⟩⟩) (fun ak _=>n.length - (intOf ak).toNat)
 case atStart=>
  obtain⟨av,o⟩:=HM.o;exact⟨0,av,_,Tz _,rfl,dD,o,by simp[Gh.st,bH.o]⟩
 case round=>
  obtain⟨f,au,g,hq,rfl,K,o,ag⟩:=hrel;by_cases eG:f<n.length
  . obtain⟨⟨⟨⟨C,D⟩,B⟩,T,j,y⟩,hx⟩:=nV n f eG;have aV:=jK.1 (HR.good.frames _ (Tx hx));have fP:=Zy aV;obtain⟨a,gM,cs,rfl,hI,⟨vl,vs,rfl,aH,aL⟩,-,hc⟩:=(H1.ext LM.stays K).get hx;obtain⟨la,lc,rfl,eF,cB⟩:=aH.form;obtain⟨sa,sc,rfl,eX,dh⟩:=aL.form;simp only at aH aL eF cB eX dh hc;obtain⟨g0,g1,g2,g3,g4,g5⟩:=hc.six;have gz:=jv g0;obtain⟨w9,bC,L,b9⟩:=nu wr #[C,D,B,T,.slice la j.length lc,.slice sa y.length sc] 69;have gK:(w9:Nat)=wr+1:=by rw[bC];simp
    obtain⟨yz,y0,y1,y2,-⟩:=b9.ca;obtain⟨d,hm⟩:∃d,M.method p ⟨⟨C,D⟩,B⟩=d:=⟨_,rfl⟩;have aY:=mY w9 l p (o.lM.ext L) ⟨⟨C,D⟩,B⟩ aV.1;rw[hm]at aY;have cz:g.cs.length=f:=by
     have:=congrArg (fun s=>s.frames.length) ag;simpa [Gh.st,UN hq]using this
    have eB:∀a,g.vc.ownBlock=some a->a<wr.heap.size:=fun a b=>(o.calls.blk b).2;have⟨aB,HM,dI,dE,dA,dV,bG,bI,dO⟩:=AV aY hm (o.ext L) (K.trans L) b9 bC (aH.ext oF.stays L) (aL.ext oF.stays L) ag;have⟨HX,dG⟩:=jw hx cz;have eY:=K.size;clear aV aH aL hc L b9 bC aY hm ag hx cz K o;go_wp2_with fail;rw[<-dV.o];clear g0 g1 g2 g3 g4 g5;refine aB.mono ?_;rintro b w6 ⟨⟨cs,aX,rfl⟩,G⟩;obtain⟨h,rfl⟩:=ql aX;obtain⟨z,aj⟩:=S9 (w6.alloc (.cells (oC d h).toArray 113));have F:Ext w6 z:=by rw[aj];exact kx
    have bK:jq z w6 113 (oC d h).toArray:=by rw[aj];exact jq.new _ _ _
    have gD:z.heap.size=w6+1:=by rw[aj];simp
    have bP:=dA.ext (G.trans F);have O:=dI.ext (G.trans F);have gJ:=G.size;obtain⟨va,vc,bu⟩:=O.calls.form;have bz:¬g.vc.ownBlock=some (w.heap.size+1):=fun b=>by have:=O.calls.role _ b;rw[O.role]at this;cases this
    have bA:∀a,wr.heap.size<=a->¬g.vc.ownBlock=some a:=fun a c b=>Te (eB a b)
    obtain⟨fQ,fT,gu,X⟩:=tN.ex (fun W'=>Kp (fun a=>g.vc.ownBlock=some a) z W') _ Kp.rr;have fK:=fun az=>(O.blk.kp (X.jC az) bz).c 3 (.slice va g.cs.length vc) (by rw[<-bu];rfl);obtain⟨-,fE,fF,fG,fH,fI,fJ,-⟩:=jq.pq fun az=>(bP.kp (X.jC az) (bA _ (Tu _)));have dW:(wr:Nat)<=w6:=Zm
    obtain⟨-,fo,fq,fu,fw,fA,fB,fC,fD,-⟩:=jq.pq fun az=>(bK.kp (X.jC az) (bA _ dW));have⟨E,aQ,dQ,aP,dC,dJ,dH,dN,bJ⟩:=AV X bu bz O (dE.trans (G.trans F)) (kE.ext jy.stays F aX) (bG.ext oF.stays (G.trans F)) (bI.ext oF.stays (G.trans F)) aj;clear X bu bz bA O aX aj bK bP F G aB y0 y1 y2 yz bG bI;simp only[oC];unfold oC at bJ;go_wp2_with fail;rw[<-bJ.o];refine lq E 23 [([0,1,2,3,4,5,6,7,8,9,10,11,13,14,16,17],12),([],15),([18,19],20),([],21),([],22)] [] ?_ ?_
    . exact jA
    refine nE ?_;intro r i;go_wp2_with fail;refine(uU ((dH.ext oF.stays jA).vals) cB).mono ?_;rintro b fM ⟨⟨gN,rfl,aZ⟩,bT⟩;obtain⟨V,W,rfl⟩:=jS aZ;have m:=Zy (((Kp.refl _ z).drew:Ext z _).trans bT);have dL:Zz (fM.ownsRow z 42 2 (Value.slice V j.length W) j.length (j.flatMap kI)):=Zy aZ;clear bT aZ;go_wp2_with fail;refine kk E i m.any ?_;clear i r;refine mF rfl fun r i=>?_;go_wp2_with fail;refine(uU ((dN.ext oF.stays m).vals) dh).mono ?_;rintro b e ⟨⟨gP,rfl,bf⟩,bU⟩;obtain⟨ax,ay,rfl⟩:=jS bf;have⟨q,dM⟩:=jw bU bf;clear bU bf;go_wp2_with fail;refine kk E i (m.trans q).any ?_;clear i r;refine nE ?_;intro r i;go_wp2_with fail;refine kk E i ((m.trans q).alloc _).any ?_;clear i r;refine mF rfl fun r i=>?_;go_wp2_with fail;refine kk E i (((m.trans q).alloc _).alloc _).any ?_;clear i r;refine mF rfl fun r i=>?_;obtain⟨A,R⟩:=S9 ((e.alloc (.cells #[C,D,B,.string d.name,.slice h.a1 d.args.length h.c1,.int .i64 d.ret.kind,.string d.ret.name,.int .i64 d.locals,.int .i64 d.stack,.slice h.a2 d.code.length h.c2,.slice h.a3 d.maps.length h.c3,T,(Value.slice V j.length W),(Value.slice ax y.length ay),.int .i64 d.stack] 129)).alloc (.cells #[some e] 124));rw[<-R];have H:Ext e A:=by rw[R];exact kx
    have bB:jq A e 129 #[C,D,B,.string d.name,.slice h.a1 d.args.length h.c1,.int .i64 d.ret.kind,.string d.ret.name,.int .i64 d.locals,.int .i64 d.stack,.slice h.a2 d.code.length h.c2,.slice h.a3 d.maps.length h.c3,T,(Value.slice V j.length W),(Value.slice ax y.length ay),.int .i64 d.stack]:=by rw[R];exact(jq.newAt (W:=e) (g:=e.heap.size) _ _ rfl).ext kx
    have bS:hQ A (e+1) 0 [some e]:=by rw[R];exact hQ.oI _ _ Zl
    have gL:A.heap.size=e+2:=by rw[R];simp
    have gy:(w:Nat)<=wr:=eY;have gF:=m.size;have gG:=q.size;obtain⟨aO,df,bZ,cO,ed,eQ⟩:=Own.more aP.dom dL m.size Zm (5,g.cs.length);obtain⟨S,bg,aU,cZ,ek,eT⟩:=Own.more bZ dM q.size Zm (6,g.cs.length);have aJ:∀a,e.heap.size<=a->S a=none:=fun a c=>by
     cases b:S a with
     |none=>rfl
     |some f=>have:=(aU a (by rw[b];simp)).2;omega
    have aK:∀a f,S a=some f->(S.add e (4,g.cs.length)) a=some f:=fun a f c=>by
     rw[Own.mR _ (fun b=>by rw[b,aJ _ (Tu _)]at c;cases c)];exact c
    have cu:∀a,S.add e (4,g.cs.length) a≠none->w.heap.size<=a/\a<A.heap.size:=fun a c=>by
     by_cases b:a=e.heap.size
     . subst b;omega
     . rw[Own.mR _ b]at c;have:=aU a c;omega
    have bV:=(aP.ext ((m.trans q).trans H)).relabel (fun a f c=>aK _ _ (bg _ _ (df _ _ c))) cu fun a ak c=>by
     by_cases b:a=e.heap.size
     . rw[b];exact⟨_,bB.c 0 _ rfl⟩
     . rw[Own.mR _ b]at c;rcases eT _ _ c with c|c
       . rcases eQ _ _ c with c|c
         . obtain⟨eZ,hk⟩:=aP.zY a ak c;exact⟨eZ,((m.trans q).trans H).jm hk⟩
         . cases c
       . cases c
    have bQ:rE A l p (S.add e (4,g.cs.length)) w g.cs.length (⟨⟨⟨⟨C,D⟩,B⟩,T,j,y⟩,e.heap.size,h,(Value.slice V j.length W),(Value.slice ax y.length ay)⟩:GC):=by
     refine⟨?_,Own.add_eq _ _ _,by show w.heap.size<=e;omega,?_,((cO.ext (q.o.trans H)).relabel bg).relabel aK,(cZ.ext H).relabel aK⟩
     . unfold BA;simp only[HM.o];exact bB
     . simp only[HM.o];exact kE.ext jy.stays ((m.trans q).trans H) dJ
    have⟨aA,dB,bF⟩:=jI bV bQ ((m.trans q).trans H);have fU:g.cs.length<8:=by have x:n.length<=8:=HR.good.nf;have h2:=dG.o;omega
    clear R bB bV bQ df bZ cO ed bg aU cZ ek aJ aK cu H;refine jF Gj rfl (.tmp 46) (.tmp 63) rfl w (.slice va g.cs.length vc) g.cs.length (g.cs.flatMap vY) rfl (by rw[<-aQ.o];exact aA.calls.row) (e+1) 1 [some e] rfl rfl bS Zt Zm Zm ?_;intro gg c9 dm bX N aW;change r _ _;rw[<-aQ.o]at N aW;refine kk E i (bF.any.trans N) ?_;clear i r;have aI:=aA.blk.kp N dQ;have q3:=aI.c 3 (.slice va g.cs.length vc) (by rw[<-aQ.o];rfl);have f3:=aI.frozen 3;have qz:=aI.lt;have bq:({g with cs:=g.cs++[(⟨⟨⟨⟨C,D⟩,B⟩,T,j,y⟩,e.heap.size,h,(Value.slice V j.length W),(Value.slice ax y.length ay)⟩:GC)],vc:=.slice (some ⟨gg,0,none⟩) (g.cs.length+1) c9}:Gh).st=⟨v,n.take (f+1),P,k,⟨t,u⟩⟩:=by
     have x:=dO.o;simp only[Gh.st,St.mk.injEq]at x |-;obtain⟨e1,e2,e3,e4,e5⟩:=x;refine⟨e1,?_,e3,e4,e5⟩;rw[Ux,e2,Td,HX.o];rfl
    obtain⟨dY,av,eu,bW⟩:=aA.LV (⟨⟨⟨⟨C,D⟩,B⟩,T,j,y⟩,e.heap.size,h,(Value.slice V j.length W),(Value.slice ax y.length ay)⟩:GC) dB gg c9 bX N (by
     rcases aW with b|b
     . exact .inl b
     . right;omega) (by rw[bq];exact HR.good.part (f+1))
    have dX:Ext w (dm.setCell ⟨w+1,3,none⟩ (.slice (some ⟨gg,0,none⟩) (g.cs.length+1) c9)):=
     ((dC.trans bF).own N (fun a b=>(aA.calls.blk b).1)).own ((Kp.refl (·=w+1) dm).setCell (p:=⟨w+1,3,none⟩) (fun _=>rfl) _) (fun a b=>Zm)
    have⟨dF,dK,dP⟩:=jI dX bW bq;clear dY eu bW bq aI bX N aW bS E fK fE fF fG fH fI fJ fo fq fu fw fA fB fC fD;refine lD ?_;go_wp2_with fail;exact⟨⟨f+1,av,_,Zm,Zk,dF.o,dK.o,dP.o⟩,Zj⟩
  . have eU:f=n.length:=Zm
    have HF:Zz (g.st=⟨v,n,P,k,⟨t,u⟩⟩):=Zy (by rw[ag,eU,TA]);have⟨HE,aB⟩:=jw K o;clear K o ag;go_wp2;go_ret;exact⟨⟨_,au,g,rfl,aB,HF⟩,HE⟩
theorem Kv:Elem 39 69 6:=oH (z:=.agg #[Tj,"",Tj,Tj,(),()]) (bytes:=88) underlying39 Zo rfl Zn Zn
structure GF where
 f:Fr
 vl:Value
 vs:Value
def Mv(x:GF):List Value:=[.int .i64 x.f.of.of.keeper,.string x.f.of.of.name,.int .i64 x.f.of.at_,.int .i64 x.f.pc,x.vl,x.vs]
structure wG(w:World)(own:Own)(B:Nat)(v:Value)(fs:List GF):Prop where
 dom:∀b,own b≠none->B<=b/\b<w.heap.size
 row:mW w own B (8,0) 69 6 v fs.length (fs.flatMap Mv)
 loc:∀j x,fs[j]?=some x->mW w own B (9,j) 42 2 x.vl x.f.locals.length (x.f.locals.flatMap kI)
 kY:∀j x,fs[j]?=some x->mW w own B (10,j) 42 2 x.vs x.f.stack.length (x.f.stack.flatMap kI)
theorem wG.nil(w:World)(b:Nat):wG w (fun _=>none) b () []:=
 ⟨fun e a=>absurd rfl a,mW.nil _ _ _ _ _ _,fun c d a=>by simp at a,fun c d a=>by simp at a⟩
theorem wG.slice{F:Own}{l:Nat}{d:List GF}(i:wG w F l v d){I:Nat->Prop}(hI:∀b,l<=b->b<w.heap.size->I b)(hl:d.length<=4294967296)(n:∀a∈d,a.f.locals.length<=4294967296/\a.f.stack.length<=4294967296):SliceOf 6 LM w I v (d.map GF.f):=by
 have y:∀a∈d,SliceOf 2 oF w I a.vl a.f.locals/\SliceOf 2 oF w I a.vs a.f.stack:=fun a c=>by
  obtain⟨k,A,h⟩:=Wy c;have o:d[k]?=some a:=by rw[CU A,h]
  exact⟨SliceOf.mD kI (i.loc k a o).row rfl rfl (fun _ _=>rfl) (fun _ _=>rfl) (fun b e f=>hI b e f) (n a c).1,
   SliceOf.mD kI (i.kY k a o).row rfl rfl (fun _ _=>rfl) (fun _ _=>rfl) (fun b e f=>hI b e f) (n a c).2⟩
 have D:SliceOf 6 (fun w I (a:GF) m=>(SliceOf 2 oF w I a.vl a.f.locals/\SliceOf 2 oF w I a.vs a.f.stack)/\m=Mv a) w I v d:=
  SliceOf.mD Mv i.row.row rfl rfl (fun _ _=>rfl) (fun g C=>⟨y g C,rfl⟩) (fun b e f=>hI b e f) hl
 obtain⟨r,s,h,e,f,u⟩:=D;refine⟨r,s,by rw[h,UJ],by rw[UJ];exact e,by rw[UJ];exact f,fun q a c=>?_⟩;rw[UG]at c;cases j:d[q]? with
 |none=>rw[j]at c;cases c
 |some g=>
  rw[j]at c;cases c;obtain⟨b,E,m,t,x,⟨p,rfl⟩,B,z⟩:=u q g j;exact⟨b,E,_,t,x,⟨g.vl,g.vs,rfl,p.1,p.2⟩,B,z⟩
theorem wG.ext{k: World}{j:Own}{h:List GF}(a:wG w j f v h)(b:Ext w k):wG k j f v h:=
 ⟨fun g i=>⟨(a.dom g i).1,Ta (a.dom g i).2 b.size⟩,a.row.ext b,fun d e c=>(a.loc d e c).ext b,fun d e c=>(a.kY d e c).ext b⟩
theorem wG.kp{l: World}{j:Nat}{k:List GF}(c:wG w i j v k)(d:Kp D w l)(e:∀a,i a≠none->¬D a):wG l i j v k:=
 ⟨fun a b=>⟨(c.dom a b).1,Ta (c.dom a b).2 d.size⟩,c.row.keep d (nU.refl _ _) fun a b _=>e a (by rw[b];simp),
  fun g h f=>(c.loc g h f).keep d (nU.refl _ _) fun a b _=>e a (by rw[b];simp),fun g h f=>(c.kY g h f).keep d (nU.refl _ _) fun a b _=>e a (by rw[b];simp)⟩
structure R4(w:World)(p:jl)(own:Own)(B i:Nat)(c:GC):Prop where
 blk:jq w c.cb 129 (BA p c)
 low:B<=c.cb
 loc:mW w own B (5,i) 42 2 c.vl c.f.locals.length (c.f.locals.flatMap kI)
 kY:mW w own B (6,i) 42 2 c.vs c.f.stack.length (c.f.stack.flatMap kI)
structure zR(w:World)(l:jB)(p:jl)(own:Own)(B mb:Nat)(lk:Bool)(g:Gh):Prop where
 ok:kv p=true
 blk:jq w mb 78 (yQ l lk g)
 low:B<=mb
 calls:mW w own B (1,0) 124 1 g.vc g.cs.length (g.cs.flatMap vY)
 call:∀i c,g.cs[i]?=some c->R4 w p own B i c
 heap:mW w own B (2,0) 72 3 g.vh g.os.length (g.os.flatMap q8)
 obj:∀j o,g.os[j]?=some o->mW w own B (7,j) 42 2 o.v o.o.fields.length (o.o.fields.flatMap kI)
 outs:mW w own B (3,0) 3 1 g.vo g.outs.length (g.outs.flatMap vR)
 good:M.Good p g.st
theorem jG.run{h:Own}(a:jG w l p h e f lk g):zR w l p h e f lk g:=
 ⟨a.lM.ok,a.blk,a.low,a.calls,fun d b c=>⟨(a.call d b c).blk,(a.call d b c).low,(a.call d b c).loc,(a.call d b c).kY⟩,a.heap,a.obj,a.outs,a.good⟩
theorem zR.kp{m: World}{o: Nat}(a:zR w l p i c o lk g)(k:Kp D w m)(j:∀h,c<=h->¬D h):zR m l p i c o lk g:=by
 have b:∀{r:Nat×Nat} {n b q:Nat} {s:Value} {t:List Value},mW w i c r n b s q t->mW m i c r n b s q t:=fun a=>a.keep k (nU.refl _ _) fun h _ u=>j h u;exact⟨a.ok,a.blk.kp k (j _ a.low),a.low,b a.calls,fun f d e=>⟨(a.call f d e).blk.kp k (j _ (a.call f d e).low),(a.call f d e).low,b (a.call f d e).loc,b (a.call f d e).kY⟩,b a.heap,fun x y v=>b (a.obj x y v),b a.outs,a.good⟩
theorem zR.ext{d: World}{c:Own}{a b:Nat}(e:zR w l p c a b lk g)(f:Ext w d):zR d l p c a b lk g:=e.kp f fun _ _ h=>h
theorem zR.things{I:Own}{q G:Nat}(e:zR w l p I q G lk g):SliceOf 3 xZ w (fun _=>True) g.vh g.st.heap:=by
 have k:=lV.1 e.good.heap;have B:∀a∈g.st.heap,a.fields.length<=4294967296:=fun a b=>by
  rw[(k.2 a b).2.1];have d:=qi e.ok (chain p a.of).reverse;have f:=wJ p a.of;unfold layout;rw[Ty (k.2 a b).1];rw[UB]at d;omega
 have x:∀a∈g.os,SliceOf 2 oF w (fun _=>True) a.v a.o.fields:=fun a b=>by
  obtain⟨F,z,j⟩:=Wy b;exact SliceOf.mD kI (e.obj F a (by rw[CU z,j])).row rfl rfl (fun _ _=>rfl) (fun _ _=>rfl) (fun i d f=>trivial) (B a.o (by simp only[Gh.st];exact VN b))
 have A:g.os.length<=4294967296:=by
  have:=k.1;simp only[Gh.st,UJ]at this;omega
 have D:SliceOf 3 (fun w r (h:GO) n=>SliceOf 2 oF w r h.v h.o.fields/\n=q8 h) w (fun _=>True) g.vh g.os:=
  SliceOf.mD q8 e.heap.row rfl rfl (fun _ _=>rfl) (fun a b=>⟨x a b,rfl⟩) (fun i d f=>trivial) A
 obtain⟨s,t,j,d,f,v⟩:=D;refine⟨s,t,by rw[j];simp[Gh.st],by simpa [Gh.st]using d,by simpa [Gh.st]using f,fun o h c=>?_⟩;simp only[Gh.st]at c;rw[UG]at c;cases m:g.os[o]? with
 |none=>rw[m]at c;cases c
 |some a=>
  rw[m]at c;cases c;obtain⟨i,H,n,u,J,⟨E,rfl⟩,C,y⟩:=v o a m;exact⟨i,H,_,u,trivial,⟨a.v,rfl,E⟩,C,y⟩
theorem Jo(w:World)(l:jB)(p:jl)(eH:Own)(dB t:Nat)(lk:Bool)(g:Gh)(N:zR w l p eH dB t lk g):Calls prog 27 #[some t] w fun b w'=>(∃cs,b=.returned (.agg cs.toArray)/\lJ w' (fun a=>w.heap.size<=a) g.st cs)/\Ext w w':=by
 obtain⟨B,bD,aW,b2⟩:=nu w #[Tj,(),(),(),Tj,Tj] 44;have eu:B.heap.size=w.heap.size+1:=by rw[bD];simp
 obtain⟨ca,cc,dn⟩:=N.calls.form;obtain⟨ha,hc,bB⟩:=N.heap.form;obtain⟨oa,oc,o⟩:=N.outs.form;have fu:=N.blk.lt;have ak:=N.ext aW;obtain⟨dS,dU,dZ,y⟩:=lL B;have r2:=fun v=>(ak.blk.ext (y.jC v)).c 2 g.status rfl;have r4:=fun v=>(ak.blk.ext (y.jC v)).c 4 (.slice ha g.os.length hc) (by rw[<-bB];rfl);have r5:=fun v=>(ak.blk.ext (y.jC v)).c 5 (.slice oa g.outs.length oc) (by rw[<-o];rfl);obtain⟨-,-,-,-,-,-,-,r6,r7,-⟩:=jq.pq fun v=>(ak.blk.ext (y.jC v));have⟨i,C,af,dD,dG,bK,bL,aQ,dR⟩:=AV y N ak b2 aW dn bB o bD;clear y N ak b2 aW dn bB o bD;go_enter func27,ntmps27;go_wp2_with fail;rw[<-dR.o];rename_i ag G;have cO:=(lV.1 C.o.good.heap).1;have fw:g.outs.length<=40:=C.o.good.outs;have eZ:g.cs.length<=8:=by have:=C.o.good.nf;simpa [Gh.st]using this
 have eY:∀a,g.vc.ownBlock=some a->a<w.heap.size:=fun a b=>(C.o.calls.blk b).2;have dA:∀(I r m:Nat)(q k:Option Addr)(J:Own)(j:List GO)(x:World),Ext B x->j.map GO.o=g.st.heap->sS x J B.heap.size (.slice q j.length r) j→
     x.ownsRow B.heap.size 3 1 (.slice k g.outs.length m) g.outs.length (g.outs.flatMap vR)->jq x I 44 #[g.status,(),.slice q j.length r,.slice k g.outs.length m,g.back.kind,g.back.n]->B.heap.size<=I->J I=none->(Value.slice k g.outs.length m).ownBlock≠some I→
     ag {tmps:=#[.pointer (some ⟨t,0,none⟩),undef,.pointer (some ⟨w.heap.size,0,none⟩),.pointer (some ⟨I,0,none⟩),undef,undef,.pointer (some ⟨t,0,none⟩),.pointer (some ⟨t,0,none⟩),.pointer (some ⟨t,2,none⟩),.int .i64 g.status,.pointer (some ⟨t,0,none⟩),.pointer (some ⟨t,0,none⟩),.pointer (some ⟨t,4,none⟩),.slice ha g.os.length hc,.slice q j.length r,.pointer (some ⟨t,0,none⟩),.pointer (some ⟨t,0,none⟩),.pointer (some ⟨t,5,none⟩),.slice oa g.outs.length oc,.slice k g.outs.length m,.pointer (some ⟨t,0,none⟩),.pointer (some ⟨t,0,none⟩),.pointer (some ⟨t,6,none⟩),.agg #[g.back.kind,g.back.n],.agg #[g.status,(),.slice q j.length r,.slice k g.outs.length m,g.back.kind,g.back.n],undef,undef,undef,undef,undef,undef,undef,undef,undef,undef,undef,undef,undef,undef,undef,undef,undef,undef,undef,undef,undef,undef,undef,undef,undef,undef,undef,undef,undef,undef,undef,undef,undef,undef,undef,undef],defers:=[]} x:=by
  intro I r m q k J j x aA Y K o aV eU cB cK;refine G _ _ ?_;clear G i r2 r4 r5 r6 r7;have m3:=(af.o.ext aA).blk.c 3 (.slice ca g.cs.length cc) (by rw[<-bK.o];rfl);have mz:=(af.o.ext aA).blk.lt;have⟨bJ,U,E,F,dE,dM,dN⟩:=tq aA Y K o aV cB cK;have fC:=aA.size;have bU:=aV.lt;clear aA Y K o aV cB cK;go_wp2_with fail;clear m3 mz;go_loopw [30] (fun bF wr=>∃(H:Nat)(bH:Own)(f:List GF)(vf:Value),H<=g.cs.length/\bF=.int .i64 H/\Kp (·=I) x wr/\jq wr I 44 #[g.status,vf,.slice q j.length r,.slice k g.outs.length m,g.back.kind,g.back.n]/\wG wr bH x.heap.size vf f/\Zz (f.map GF.f=(g.cs.map GC.f).take H)) (fun bF _=>g.cs.length - (intOf bF).toNat)
  case atStart=>exact⟨0,_,[],(),Tz _,rfl,Kp.rr,dE.o,wG.nil _ _,Zy Zl⟩
  case round=>
   obtain⟨H,bH,f,vf,hq,rfl,W,hB,hF,aF⟩:=hrel;obtain⟨va,vc,rfl⟩:=hF.row.form;have bf:f.length=H:=by
    have:=congrArg List.length aF.o;simpa [UN hq]using this
   have aY:=(dG.o.trans bJ.o).own W (fun a b=>by omega);have eB:=W.size;by_cases dX:H<g.cs.length
   . obtain⟨d,au⟩:=nV g.cs H dX;have hM:=C.o.ext aY;have O:=hM.call H d au;have aK:=hM.calls.row;rw[bK.o]at aK;obtain⟨gb,eT,b,-,fo,-⟩:=ky aK Zm;cases b;have g0:=(l5 (enc:=vY) (k:=1) (fun _=>rfl) aK au).one;rw[Vi]at g0;obtain⟨la,lc,aL⟩:=O.loc.form;obtain⟨sa,sc,bC⟩:=O.kY.form;have eX:=(C.o.call H d au).blk.lt;have dY:x.heap.size<=wr.heap.size:=eB;have ax:∀a,a<x.heap.size->¬(Value.slice va f.length vc).ownBlock=some a:=fun a h b=>by have:=(hF.row.blk b).1;omega
     obtain⟨dS,dU,dZ,y⟩:=tN.ex (fun W'=>Kp (fun a=>(Value.slice va f.length vc).ownBlock=some a) wr W') _ Kp.rr;have eO:=fun v=>(hB.kp (y.jC v) (ax _ bU)).c 1 (.slice va f.length vc) rfl;have aZ:d.cb<x.heap.size:=by omega
     obtain⟨-,k0,k1,k2,-,-,-,-,-,-,-,-,eD,-⟩:=jq.pq fun v=>(O.blk.kp (y.jC v) (ax _ aZ));have eF:=fun v=>(O.blk.kp (y.jC v) (ax _ aZ)).c 12 (.slice la d.f.locals.length lc) (by rw[<-aL];rfl);have eG:=fun v=>(O.blk.kp (y.jC v) (ax _ aZ)).c 13 (.slice sa d.f.stack.length sc) (by rw[<-bC];rfl);have X:=jK.1 (C.o.good.frames d.f (by simp only[Gh.st];exact VN (Tx au)));have av:=qE (lT C.o.ok X.1).1;have fq:d.f.locals.length<=1000:=by have:=av.locals;have:=X.2.2.2.1;omega
     have fB:d.f.stack.length<=1000:=by have:=av.stack;have:=X.2.2.2.2.1;omega
     have eP:Zz (Flat wr 2 (.slice la d.f.locals.length lc) d.f.locals.length (d.f.locals.flatMap kI)):=Zy (by rw[<-aL];exact uj O.loc.row (qR xw _));have dK:Zz (SliceOf 2 oF wr (fun _=>True) (.slice sa d.f.stack.length sc) d.f.stack):=Zy (by rw[<-bC];exact SliceOf.mD kI O.kY.row rfl rfl (fun _ _=>rfl) (fun _ _=>rfl) (fun a h1 h2=>trivial) Zm);have dJ:Zz (SliceOf 2 oF wr (fun _=>True) (.slice la d.f.locals.length lc) d.f.locals):=Zy (by rw[<-aL];exact SliceOf.mD kI O.loc.row rfl rfl (fun _ _=>rfl) (fun _ _=>rfl) (fun a h1 h2=>trivial) Zm);have⟨i,dF,dQ,HB,HF,dL,eQ⟩:=tq y au ax hB hF W bf;have fe:(f.length:Int)=H:=by omega
     clear y au ax hB hF W bf aL bC O hM aY X av aK;go_wp2_with fail;clear g0;refine lq i 24 [([0,1,2,3,4,5,6,7,8,9,10,11,12,13,15,16,17,18,19],14),([],20),([21],22),([],23)] [] ?_ ?_
     . exact jA
     refine nE ?_;intro e c;go_wp2_with fail;refine(uU ((dJ.o.ext oF.stays jA).vals) Zm).mono ?_;rintro b T ⟨⟨v6,rfl,bu⟩,V⟩;obtain⟨x6,y6,rfl⟩:=jS bu;have n:=Zy (((Kp.refl _ wr).drew:Ext wr _).trans V);have dO:Zz (T.ownsRow wr.heap.size 42 2 (.slice x6 d.f.locals.length y6) d.f.locals.length (d.f.locals.flatMap kI)):=Zy bu;clear V bu;go_wp2_with fail;refine kk i c n.o.any ?_;clear c e;refine mF rfl fun e c=>?_;go_wp2_with fail;refine(uU ((dK.o.ext oF.stays n.o).vals) Zm).mono ?_;rintro b w7 ⟨⟨v7,rfl,bz⟩,bO⟩;obtain⟨x7,y7,rfl⟩:=jS bz;have⟨L,dP⟩:=jw bO bz;clear bO bz;go_wp2_with fail;refine kk i c (n.o.trans L.o).any ?_;clear c e;refine nE ?_;intro e c;go_wp2_with fail;refine kk i c ((n.o.trans L.o).alloc _).any ?_;clear c e;refine mF rfl fun e c=>?_;have dz:=n.o.size;have fD:=L.o.size;obtain⟨fE,dm,bV,df,dV,-⟩:=Own.more HF.o.dom dO.o n.o.size dY (9,f.length);obtain⟨bI,bA,bW,dh,dW,-⟩:=Own.more bV dP.o L.o.size Zm (10,f.length);have aH:=HF.o.ext (n.o.trans L.o);have aJ:∀a ay,bH a=some ay->bI a=some ay:=fun a ay N=>bA _ _ (dm _ _ N);have Z:=aH.row.relabel aJ;have aX:Ext w7 (w7.alloc (.cells #[d.f.of.of.keeper,d.f.of.of.name,d.f.of.at_,d.f.pc,.slice x6 d.f.locals.length y6,.slice x7 d.f.stack.length y7] 69)):=kx;refine jF Kv rfl (.tmp 35) (.tmp 56) rfl x.heap.size (.slice va f.length vc) f.length (f.flatMap Mv) rfl ((Z.ext aX).row) w7.heap.size 1 (Mv (⟨d.f,.slice x6 d.f.locals.length y6,.slice x7 d.f.stack.length y7⟩:GF)) rfl rfl (hQ.oI _ _ rfl) (by simp[Mv,Value.oneCell']) Zm Zr ?_;intro g9 c9 w9 bT bR bZ;change e _ _;have Q:=aX.any.trans bR;refine kk i c ((n.o.trans L.o).any.trans Q) ?_;clear c e;obtain⟨di,aC,bX,ek⟩:=mW.app Z bW bT Q (bZ.imp id fun b=>by simp at b;omega);have bq:wG w9 (bI.add g9 (8,0)) x.heap.size (g9,f.length+1,c9) (f++[(⟨d.f,.slice x6 d.f.locals.length y6,.slice x7 d.f.stack.length y7⟩:GF)]):=by
      refine⟨bX,by simpa using di,fun aM bG A=>?_,fun aM bG A=>?_⟩
      all_goals
       rcases V9 aM f.length with hj|hj|hj
      . rw[TY hj]at A;exact Z.beside ((aH.loc aM bG A).relabel aJ) Q aC Zl
      . subst hj;simp at A;subst A;exact Z.beside ((df.ext L.o).relabel bA) Q aC Zl
      . rw[Uz Zr]at A;cases A
      . rw[TY hj]at A;exact Z.beside ((aH.kY aM bG A).relabel aJ) Q aC Zl
      . subst hj;simp at A;subst A;exact Z.beside dh Q aC Zl
      . rw[Uz Zr]at A;cases A
     have bS:=(dL.o.trans (n.o.trans L.o).any).own Q (fun a b=>(Z.blk b).1);have aG:=(HB.o.ext (n.o.trans L.o)).kp Q (dQ.o _ bU);obtain⟨qz,-,q1,-⟩:=aG.ca;have f1:=aG.frozen 1;obtain⟨aa,aj⟩:=S9 (w9.setCell (I,1) (g9,f.length+1,c9));have P:Kp (·=I) w9 aa:=by rw[aj];exact qM
     have az:jq aa I 44 #[g.status,(g9,f.length+1,c9),.slice q j.length r,.slice k g.outs.length m,g.back.kind,g.back.n]:=by rw[aj];exact aG.jR 1 _
     have bQ:=bq.kp P (fun a h b=>by have:=(bq.dom a h).1;omega);have⟨aP,aR⟩:=jw (Tm (bS.trans P) (Tm az bQ)) aj;clear dm bV df dV bA bW dh dW aH aJ Z aX bT bR bZ Q di aC bX ek bq bS aG aj P az bQ i eO k0 k1 k2 eD eF eG;refine lD ?_;go_wp2_with fail;rw[<-aR.o];refine⟨⟨H+1,bI.add g9 (8,0),f++[(⟨d.f,.slice x6 d.f.locals.length y6,.slice x7 d.f.stack.length y7⟩:GF)],(g9,f.length+1,c9),by omega,by go_num,aP.o.1,aP.o.2.1,aP.o.2.2,Zy ?_⟩,by simp[intOf];omega⟩;rw[Ux,aF.o,Td,UG,dF.o];rfl
   . have cZ:H=g.cs.length:=by omega
     have bg:f.map GF.f=g.st.frames:=by
      rw[aF.o,cZ];exact Tq Zl
     obtain⟨yz,y0,y1,y2,y3,y4,y5,-⟩:=hB.ca;have aI:=(dD.o.ext bJ.o).kp W Zm;obtain⟨zz,z0,z1,z2,z3,z4,z5,-⟩:=aI.ca;obtain⟨fF,fG,fH,fI,fJ,fK,-⟩:=aI.fz;obtain⟨aa,aj,az,P⟩:=Io aI g.status (.slice va f.length vc) (.slice q j.length r) (.slice k g.outs.length m) g.back.kind g.back.n;have bN:=aY.own P (fun a b=>by omega);have bn:∀a,B.heap.size<=a->a<aa.heap.size->w.heap.size<=a:=fun a h _=>by omega
     have cz:∀a,x.heap.size<=a->a<aa.heap.size->w.heap.size<=a:=fun a h _=>by omega
     have hS:lJ aa (fun a=>w.heap.size<=a) g.st [g.status,.slice va f.length vc,.slice q j.length r,.slice k g.outs.length m,g.back.kind,g.back.n]:=by
      have bY:=(hF.kp P (fun a h b=>by have:=(hF.dom a h).1;omega)).slice cz Zm (fun u hx=>by
       have bE:u.f∈g.st.frames:=by rw[<-bg];exact VN hx
       have X:=jK.1 (C.o.good.frames u.f bE);have av:=qE (lT C.o.ok X.1).1;have:=av.locals;have:=X.2.2.2.1;have:=av.stack;have:=X.2.2.2.2.1;omega)
      have fA:j.length=g.st.heap.length:=by rw[<-U.o,UJ]
      have cu:=((E.o.kp W (fun a h b=>by subst b;exact h dM.o)).kp P (fun a h b=>by have:=(E.o.dom a h).1;omega)).slice bn Zm (fun u hx=>by
       have bE:u.o∈g.st.heap:=by rw[<-U.o];exact VN hx
       have hh:=(lV.1 C.o.good.heap).2 u.o bE;rw[hh.2.1];have h1:=qi C.o.ok (chain p u.o.of).reverse;have h2:=wJ p u.o.of;unfold layout;rw[Ty hh.1];rw[UB]at h1;omega)
      have ed:=jr (jr F.o W (fun a h _ b=>dN.o (by rw[h,b]))) P (fun a h h1 b=>by omega);rw[bg]at bY;rw[U.o]at cu;exact⟨_,_,_,rfl,bY,cu,SliceOf.mD vR ed rfl rfl (fun _ _=>rfl) (fun _ _=>rfl) bn (by show g.outs.length<=_;omega)⟩
     have⟨HS,dH,dC,aR⟩:=kD hS bN az aj;clear hS bN az aj P aI bn cz hF W hB bg aF cZ bf;go_wp2_with fail;rw[<-aR.o];refine PG (jM mK rfl w.heap.size rfl [g.status,.slice va f.length vc,.slice q j.length r,.slice k g.outs.length m,g.back.kind,g.back.n] (hQ.kX dC.o) rfl) rfl ?_;exact⟨⟨_,rfl,HS.o⟩,dH.o⟩
 have aU:=Zy dA;clear dA G;refine rQ i 20 (.two [0,1,2,3,4,5,6,7,9,10,11,12,14,15,16,17] 8 19 (.two [] 13 19 (.one [18] 19 (.fin [])) (.one [] 13 (.fin [18]))) (.one [] 8 (.one [] 13 (.fin [18])))) ?_ ?_
 . exact jA
 refine two [_,_,_,_,_,_,_,_,_,_,_,_,_,_,_,_] rfl rfl rfl fun ag G=>?_;(repeat (go_big_quiet_step (fail)));((refine EP G (fun e c=>?_) fun e c=>?_)<;>clear G ag)
 . go_wp2_with fail;refine(BF (fun _=>True) g.st.heap (by rw[<-bL.o];exact(af.o.ext jA).things) cO).mono ?_;rintro b w4 ⟨⟨v4,J,j,rfl,Y,K⟩,ai⟩;obtain⟨q,r,rfl⟩:=K.row.form;have⟨s,E,U⟩:=jI (((Kp.refl _ B).drew:Ext B _).trans ai) K Y;have dw:=s.o.size;clear ai K Y;go_wp2_with fail;refine kk i c s.o ?_;clear c e;refine Ck rfl rfl (fun e c=>?_) fun e c=>?_
   . go_wp2_with fail;refine(zn (by rw[<-aQ.o];exact uj (af.o.ext s.o).outs.row (qR Dy _)) Zm).mono ?_;rintro b w5 ⟨⟨v5,rfl,o⟩,z⟩;obtain⟨k,m,rfl⟩:=jS o;have⟨D,F⟩:=jw z o;have dx:=z.size;clear z o;go_wp2_with fail;refine kk i c (s.o.trans D.o) ?_;clear c e;refine Ac ?_;intro e c;go_wp2_with fail;refine kk i c ((s.o.trans D.o).alloc _) ?_;clear c e;clear i r2 r4 r5 r6 r7;refine kQ ?_;go_wp2_with fail;have bP:∀bM,Ext w5 (w5.alloc bM):=fun bM=>jJ _;refine aU.o w5.heap.size r m q k J j _ ((s.o.trans D.o).alloc _) U.o (E.o.kp (D:=fun _=>False) (D.o.trans (bP _)) fun _ _ u=>u) (mP (jr (D:=fun _=>False) F.o (bP _) fun _ _ _ u=>u) dw) (jq.new _ _ _) Zm ?_ ?_
     . cases b:J w5.heap.size with
       |none=>rfl
       |some ay=>have:=(E.o.dom _ (by rw[b];simp)).2;omega
     . intro b;have:=(F.o.lt _ b).2;omega
   . go_wp2_with fail;refine kk i c (s.o.alloc _) ?_;clear c e;obtain⟨T,S,V,b6⟩:=nu w4 #[Tj,(),(),(),Tj,Tj] 44;have⟨n,aN,aS⟩:=jI V b6 S;have dz:T.heap.size=w4.heap.size+1:=by rw[S];simp
     clear V b6 S;refine j3 rfl fun e c=>?_;go_wp2_with fail;rw[<-aS.o];refine(zn (by rw[<-aQ.o];exact uj (af.o.ext (s.o.trans n.o)).outs.row (qR Dy _)) Zm).mono ?_;rintro b w5 ⟨⟨v5,rfl,o⟩,z⟩;obtain⟨k,m,rfl⟩:=jS o;have R:=aN.o.ext z;obtain⟨yz,y0,y1,y2,y3,y4,y5,-⟩:=R.ca;obtain⟨f0,f1,f2,f3,f4,f5,-⟩:=R.fz;obtain⟨w9,aD,b9,aB⟩:=Io R g.status () (.slice q j.length r) (.slice k g.outs.length m) g.back.kind g.back.n;have⟨D,F,ae,aO,aT⟩:=nC z o aB b9 aD;have dx:=z.size;clear z o aB b9 aD R;go_wp2_with fail;refine kk i c ((s.o.trans n.o).trans D.o) ?_;clear c e;clear i r2 r4 r5 r6 r7;refine FH [_] rfl fun ag G=>?_;(repeat (go_big_quiet_step (fail)));refine qn G ?_;clear G ag;go_wp2_with fail;rw[<-aT.o];refine aU.o w4.heap.size r m q k J j _ (((s.o.trans n.o).trans D.o).own ae.o (fun a b=>by omega)) U.o ((E.o.kp (D:=fun _=>False) (n.o.trans D.o) fun _ _ u=>u).kp ae.o (fun a h b=>by have:=(E.o.dom a h).2;omega)) (mP (jr F.o ae.o fun a h h1 b=>by have:=(F.o.lt a h).1;omega) Zm) aO.o Zm ?_ ?_
     . cases b:J w4.heap.size with
       |none=>rfl
       |some ay=>have:=(E.o.dom _ (by rw[b];simp)).2;omega
     . intro b;have:=(F.o.lt _ b).1;omega
 . go_wp2_with fail;refine kk i c (((Kp.refl _ B).drew).alloc _) ?_;clear c e;obtain⟨T,S⟩:=S9 ((B.alloc (.cells #[Tj,(),(),(),Tj,Tj] 44)).drew);have V:Ext B T:=by rw[S];exact kx
   have b6:jq T (w.heap.size+1) 44 #[Tj,(),(),(),Tj,Tj]:=by rw[S];exact(jq.newAt _ _ eu).ext jA
   have⟨n,aN,aS⟩:=jI V b6 S;have dz:T.heap.size=B.heap.size+1:=by rw[S];simp
   clear V b6 S;refine j3 rfl fun e c=>?_;go_wp2_with fail;rw[<-aS.o];refine(BF (fun _=>True) g.st.heap (by rw[<-bL.o];exact(af.o.ext n.o).things) cO).mono ?_;rintro b w4 ⟨⟨v4,J,j,rfl,Y,K⟩,ai⟩;obtain⟨q,r,rfl⟩:=K.row.form;have⟨s,dI,E,U⟩:=kD (n.o.trans ai) ai K Y;have dw:=ai.size;clear ai K Y;go_wp2_with fail;refine kk i c s.o ?_;clear c e
   . refine j3 rfl fun e c=>?_;go_wp2_with fail;refine(zn (by rw[<-aQ.o];exact uj (af.o.ext s.o).outs.row (qR Dy _)) Zm).mono ?_;rintro b w5 ⟨⟨v5,rfl,o⟩,z⟩;obtain⟨k,m,rfl⟩:=jS o;have R:=(aN.o.ext dI.o).ext z;obtain⟨yz,y0,y1,y2,y3,y4,y5,-⟩:=R.ca;obtain⟨f0,f1,f2,f3,f4,f5,-⟩:=R.fz;obtain⟨w9,aD,b9,aB⟩:=Io R g.status () (.slice q j.length r) (.slice k g.outs.length m) g.back.kind g.back.n;have⟨D,F,ae,aO,aT⟩:=nC z o aB b9 aD;have dx:=z.size;clear z o aB b9 aD R;go_wp2_with fail;refine kk i c (s.o.trans D.o) ?_;clear c e;clear i r2 r4 r5 r6 r7;refine FH [_] rfl fun ag G=>?_;(repeat (go_big_quiet_step (fail)));refine qn G ?_;clear G ag;go_wp2_with fail;rw[<-aT.o];refine aU.o (w.heap.size+1) r m q k J j _ ((s.o.trans D.o).own ae.o (fun a b=>by omega)) U.o (((E.o.kp (D:=fun _=>False) D.o fun _ _ u=>u).kp ae.o (fun a h b=>by have:=(E.o.dom a h).1;omega)).mono Zm) (mP (jr F.o ae.o fun a h h1 b=>by have:=(F.o.lt a h).1;omega) Zm) aO.o Zm ?_ ?_
     . cases b:J (w.heap.size+1)with
       |none=>rfl
       |some ay=>have:=(E.o.dom _ (by rw[b];simp)).1;omega
     . intro b;have:=(F.o.lt _ b).1;omega
theorem EC(w:World)(l:jB)(p:jl)(d:Own)(b a:Nat)(lk:Bool)(g:Gh)(i:jG w l p d b a lk g):Calls prog 27 #[some a] w fun h e=>(∃c,h=.returned (.agg c.toArray)/\lJ e (fun f=>w<=f) g.st c)/\Ext w e:=Jo w l p d b a lk g i.run
theorem Kp.own'{D': Nat->Prop}{a b: World}(d:Kp D w a)(e:Kp D' a b)(h:∀c,D' c->D c\/w.heap.size<=c):Kp D w b:=
 ⟨e.os.trans d.os,e.tape.trans d.tape,e.output.trans d.output,TV d.size e.size,
  fun c f g=>(e.block c (Ta f d.size) (fun i=>(h c i).elim g fun j=>absurd j (Nat.not_le.2 f))).trans (d.block c f g)⟩
theorem zy:lJ w I nY [.int .i64 4,(),(),(),Tj,Tj]:=
 ⟨_,_,_,rfl,SliceOf.nil _ _ _ _,SliceOf.nil _ _ _ _,SliceOf.nil _ _ _ _⟩
theorem M.Good.empty:M.Good p ⟨1,[],[],[],l9⟩:=⟨by simp[pX],Zl,Zl,Zl,Zl,by simp[jV,l9]⟩
theorem Ji(x:jD w l p)(lk:Bool)(dW:Zz (lk=true->yg))(k:Int)(n m:ByteArray)(args:List Int)(va:Option Addr)(ac:Nat)(aJ:SliceOf 1 qx w (· <l.O) (.slice va args.length ac) args)(di:args.all oD=true):Calls prog 21 #[some l.L,.bool lk,k,n,m,.slice va args.length ac] w fun b w'=>(∃F,b=.returned (.agg F.toArray)/\lJ w' (fun a=>w.heap.size<=a) (M.start p lk k n m args) F)/\Kp (·=l.D) w w':=by
 obtain⟨w1,aU,aB,bJ⟩:=nu w #[Tj,(),(),(),Tj,Tj] 44;have fI:(w1:Nat)=w+1:=by rw[aU];simp
 have fu:=x.FR;have fw:=x.lt;have fF:=x.ord;obtain⟨ak,hF⟩:∃ak,find p k n=ak:=⟨_,rfl⟩;obtain⟨⟨q,r⟩,cd⟩:=ak;have aN:=qj w1 l p (x.ext aB) k n;rw[hF]at aN;have f:Zz (M.start p lk k n m args=if cd=1/\jW p ⟨q,r⟩=true then
     (if(call p k n m).2=1/\p8 (M.method p (call p k n m).1) args=true then
      end_ (enter p lk (call p k n m).1 (⟨2,0⟩::args.map mh) ⟨1,[],[fresh p ⟨q,r⟩],[],l9⟩).1 (enter p lk (call p k n m).1 (⟨2,0⟩::args.map mh) ⟨1,[],[fresh p ⟨q,r⟩],[],l9⟩).2
     else nY)else nY):=Zy (by unfold M.start;rw[hF])
 have cO:args.length<=4294967296:=by obtain⟨_,_,b,_,h4⟩:=aJ.form;exact h4
 have⟨bA,bF,dD,dZ,bg,dS⟩:=pR ((LC.refl x).ext aB) aN bJ aU aJ di;clear x aB bJ aU hF aN aJ di;go_enter func21,ntmps21;go_wp2_with fail;rw[<-dZ.o];refine bF.mono ?_;rintro b w2 ⟨rfl,Q⟩;have fO:=Q.size;obtain⟨w3,aV,aD,O⟩:=nu w2 #[q,r] 64;have fP:(w3:Nat)=w2+1:=by rw[aV];simp
 have c:=dD.ext Q;have⟨K,ay,bB,bn,bq,eu⟩:=pR c (bA.kp.trans Q.any) (bA.ext (Q.trans aD)) (c.ext aD) O aV;clear Q aD O aV bF;by_cases ah:cd=1;rotate_left
 . have fD:=TE.2 ah;replace f:Zz (M.start p lk k n m args=nY):=Zy (by rw[f.o,T9 (fun b=>ah b.1)]);clear ah;obtain⟨yz,y0,y1,y2,y3,y4,y5,-⟩:=c.ca;obtain⟨f0,f1,f2,f3,f4,f5,-⟩:=c.fz;clear c;go_wp2_with fail;obtain⟨u,o,z,A⟩:=Io K (.int .i64 4) () () () Tj Tj;rw[<-o];refine PG (jM mK rfl w rfl [.int .i64 4,(),(),(),Tj,Tj] (hQ.kX (z.ext (jJ _))) rfl) rfl ?_;rw[f.o];exact⟨⟨_,rfl,zy⟩,(ay.own A (fun a b=>Zm)).alloc _⟩
 subst ah;clear c;replace f:=Zy f.o;go_wp2_with fail;rw[<-eu.o];refine(nM bB.at_ ⟨q,r⟩).mono ?_;rintro b w4 ⟨rfl,bR,T⟩;have⟨X,V,bu⟩:=jI (bB.step bR T) (bn.kp T Zm) (bq.kp T Zm);have fQ:=T.size;clear bR T bq bn;cases U:jW p ⟨q,r⟩
 . replace f:Zz (M.start p lk k n m args=nY):=Zy (by rw[f.o,T9 (fun b=>by rw[U]at b;cases b.2)]);clear U;have c:=V.o;obtain⟨yz,y0,y1,y2,y3,y4,y5,-⟩:=c.ca;obtain⟨f0,f1,f2,f3,f4,f5,-⟩:=c.fz;clear c;go_wp2_with fail;obtain⟨u,o,z,A⟩:=Io V (.int .i64 4) () () () Tj Tj;rw[<-o];refine PG (jM mK rfl w rfl [.int .i64 4,(),(),(),Tj,Tj] (hQ.kX z) rfl) rfl ?_;rw[f.o];exact⟨⟨_,rfl,zy⟩,X.kp.own A (fun a b=>Zm)⟩
 have dG:=Zy U;obtain⟨G,R⟩:∃G,call p k n m=G:=⟨_,rfl⟩;obtain⟨⟨⟨C,D⟩,E⟩,c2⟩:=G;have ag:=xm w4 l p X.at_ k n m;rw[R]at ag;simp only[Ai]at ag;have cK:c2=1->kg p ⟨⟨C,D⟩,E⟩=true:=fun h1=>by
  have h1:(call p k n m).2=1:=by rw[R];exact h1
  obtain⟨rr,dw⟩:=su h1;rw[R]at dw;exact qB dw
 have⟨bG,bC⟩:=jw cK ag;replace f:=Zy (f.trans (Ty (by simp[U])));rw[R]at f;clear U R ag cK;go_wp2_with fail;refine bC.mono ?_;rintro b w5 ⟨⟨ev,rfl,aM⟩,bS,H⟩;obtain⟨w6,aW,ae,P⟩:=nu w5 #[C,D,E] 66;have fU:(w6:Nat)=w5+1:=by rw[aW];simp
 have fT:=H.size;have c:=V.kp H Zm;have⟨K,ay,L,au,bz,W,eB⟩:=tq c (X.kp.trans H) ((X.step bS H).ext ae) (c.ext ae) ((bu.kp H Zm).ext ae) P aW;clear bS H ae P aW bC V bu;rcases aM.weak with⟨rfl,rfl⟩|⟨I,eb,rfl⟩;rotate_left
 . replace f:Zz (M.start p lk k n m args=nY):=Zy (by rw[f.o,T9 (fun b=>I b.1)]);clear I aM;obtain⟨yz,y0,y1,y2,y3,y4,y5,-⟩:=c.ca;obtain⟨f0,f1,f2,f3,f4,f5,-⟩:=c.fz;clear c;go_wp2_with fail;obtain⟨u,o,z,A⟩:=Io K (.int .i64 4) () () () Tj Tj;rw[<-o];refine PG (jM mK rfl w rfl [.int .i64 4,(),(),(),Tj,Tj] (hQ.kX (z.ext (jJ _))) rfl) rfl ?_;rw[f.o];exact⟨⟨_,rfl,zy⟩,(ay.own A (fun a b=>Zm)).alloc _⟩
 clear aM c;have s:=bG.o rfl;obtain⟨mt,e⟩:∃mt,M.method p ⟨⟨C,D⟩,E⟩=mt:=⟨_,rfl⟩;have aP:LP mt:=by rw[<-e];exact qE (lT L.at_.ok s).1
 have aR:=mY w6 l p L.at_ ⟨⟨C,D⟩,E⟩ s;rw[e]at aR;have fB:=aP.IK;have⟨fe,dR,HM,HX⟩:=kD aP aR e s;clear e aR s bG aP;go_wp2_with fail;rw[<-eB.o];refine dR.mono ?_;rintro b w7 ⟨⟨F,aQ,rfl⟩,bN⟩;have dx:=Fg w7 (· <l.O) F mt aQ args va ac cO;obtain⟨t2,rfl⟩:=ql aQ;have⟨N,bE⟩:=jw dx bN;clear dx bN aQ;simp only[oC]at N |-;go_wp2_with fail;refine N.mono ?_;rintro b g ⟨rfl,bO⟩;have v:=Zy (bE.trans bO);have fV:=v.size;clear bO N bE;cases B:p8 mt args
 . replace f:Zz (M.start p lk k n m args=nY):=Zy (by
    rw[f.o,T9];rintro⟨_,b⟩;simp only[HM.o,B]at b;cases b)
   clear B;have c:=au.ext v;obtain⟨yz,y0,y1,y2,y3,y4,y5,-⟩:=c.ca;obtain⟨f0,f1,f2,f3,f4,f5,-⟩:=c.fz;have K:=Zy c;clear c;go_wp2_with fail;obtain⟨u,o,z,A⟩:=Io K (.int .i64 4) () () () Tj Tj;rw[<-o];refine PG (jM mK rfl w rfl [.int .i64 4,(),(),(),Tj,Tj] (hQ.kX z) rfl) rfl ?_;rw[f.o];exact⟨⟨_,rfl,zy⟩,(L.ext v).kp.own A (fun a b=>Zm)⟩
 replace f:=Zy (f.trans (Ty (by simp[HM.o,B])));have cZ:mt.args.length=args.length:=by
  unfold p8 at B;simp only[RV,Tv]at B;exact B.1
 have dQ:=Zy cZ;have fA:args.length<=3:=Zm
 clear B cZ cO;have O:=bz.ext v;obtain⟨rz,r0,r1,-⟩:=O.ca;obtain⟨u,o,aF,bK⟩:=nu g #[some l.L,.bool lk,.int .i64 1,(),(),(),Tj,Tj] 78;have fZ:(u:Nat)=g+1:=by rw[o];simp
 obtain⟨aY,af⟩:∃eU,jG u l p eU g g lk ⟨1,[],[],[],l9,(),(),()⟩:=
  jG.start (L.at_.ext (v.trans aF)) Zm (sS.nil _ _) rfl (Tu _) bK (Uw _ _ _ _) (fun a d=>by cases d) M.Good.empty
 have bY:Calls prog 47 #[some g,.agg #[q,r]] u (kJ u l p aY g g lk (.agg #[.int .i64 2,Tj]) ⟨1,[],[fresh p ⟨q,r⟩],[],l9⟩):=
  CK u l p aY g g lk af ⟨q,r⟩ dG Zl
 have dh:∀a,a<g.heap.size->a≠l.D->¬MO l aY a:=fun a d hd e=>by
  rcases e with e|e
  . exact hd e
  . have:=(af.dom a e).1;omega
 have⟨az,dI,dH,av,eD⟩:=nC dh (fun a d=>(af.dom a d).1) bY aF o;clear O aF bK o af bY dh;go_wp2_with fail;rw[<-eD.o];refine dH.mono ?_;rintro b i ⟨rfl,S,dA,aA,eG,bT,bZ⟩;clear r0 r1 rz;have fJ:=S.size;have bH:=Zy (((L.ext v).kp.trans av.any).own' S (fun a d=>by
  rcases d with d|d
  . exact .inl d
  . right;have:=dI.o a d;omega))
 have dC:Zz (SliceOf 1 qx i (· <l.O) (.slice va args.length ac) args):=Zy (bg.keep qx.stays (bH.same fun a d b=>Zm) fun _ x=>x);have dE:Zz (jq i w 44 #[Tj,(),(),(),Tj,Tj]):=Zy ((au.ext (v.trans av)).kp S (az _ Zm Zm));have dF:Zz (jq i w5 66 #[C,D,E]):=Zy ((W.ext (v.trans av)).kp S (az _ Zm Zm));have⟨Z,ax⟩:=jw bT bZ;obtain⟨aj,ai⟩:=S9 (i.alloc (.cells #[.int .i64 2,Tj] 42));have bM:Ext i aj:=by rw[ai];exact kx
 have t:aj.ownsRow i 42 2 (.slice (some ⟨i,0,none⟩) 1 1) 1 (kI ⟨2,0⟩):=by
  rw[ai];exact VV (size:=2) i #[.int .i64 2,Tj] 1 (Tu _) (by unfold maxLen;omega) rfl
 have⟨dJ,dV,ed⟩:=jI bM t ai;clear S eG bT bZ bM t ai az bg au W bz;go_wp2_with fail;rw[<-ed.o];go_loopw [66,18] (fun aX vv wr=>∃j:Nat,j<=args.length/\aX=.int .i64 j/\Ext i wr/\wr.ownsRow i 42 2 vv (j+1) ((Val.mk 2 0::(args.take j).map mh).flatMap kI)) (fun aX _ _=>args.length - (intOf aX).toNat)
 case atStart=>exact⟨0,Tz _,rfl,dJ,by simpa using dV.o⟩
 case round=>
  obtain⟨j,hq,rfl,y,t⟩:=hrel;obtain⟨vb,vc,rfl,eQ,fH,fG⟩:=ky t Zm;have gm:=y.size;by_cases eO:j<args.length
  . obtain⟨J,s⟩:=nV args j eO;obtain⟨a,gp,F,rfl,hI,rfl,-,I⟩:=(dC.ext qx.stays y).get s;rw[Vi]at I;have g0:=I.one;have gz:=jv g0;have⟨HX,Y,dX⟩:=jI s y t;clear s I y t;go_wp2_with fail;refine(Dx J).mono ?_;rintro b aZ ⟨rfl,aC⟩;have bD:=Zy aC;have eT:=aC.size;clear aC;go_wp2_with (at_builtin;refine tJ vD _ rfl _ _ rfl i _ (j+1) _ rfl (jr (D:=fun _=>False) dX (bD.alloc _) fun _ _ _ J=>J) aZ 1 (kI (mh J)) rfl rfl ?c1 ?c2 ?c3 ?c4 ?_)
    case c1=>exact hQ.oI _ _ rfl
    case c2=>exact xw _
    case c3=>omega
    case c4=>simp;omega
    intro v' w' dm hK g1 fq eP aO fE;subst eP;have dU:=Zy dm;have dO:=Zy hK;clear dm hK;go_wp2_with fail;refine⟨⟨j+1,Zm,Zk,(Y.o.trans (bD.o.alloc _)).own dO.o (fun a b=>by cases b;exact eQ),?_⟩,Zj⟩;have:=dU.o;rw[Td,HX.o];simpa using this
  . have aS:j=args.length:=Zm
    have hM:=Z.ext y;have aO:aA.os.length=1:=by
     have:=congrArg (fun eZ=>eZ.heap.length) ax;simpa [Gh.st]using this
    have cB:aA.status=1:=by have:=congrArg St.status ax;exact this
    have aT:(Val.mk 2 0::args.map mh).length=j+1:=by simp;omega
    have dn:wr.ownsRow i 42 2 (vb,j+1,vc) (Val.mk 2 0::args.map mh).length ((Val.mk 2 0::args.map mh).flatMap kI):=by
     rw[aT];rw[aS,TA]at t;rw[aS];exact t
    have aL:=Ah wr l p dA g g lk dW aA hM cB ⟨⟨C,D⟩,E⟩ HX i _ (Val.mk 2 0::args.map mh) dn (fun a d e=>by
        have fC:a=vb:=by cases d;rfl
        rcases e with e|e
        . omega
        . have:=(Z.dom _ e).2;omega) (fun gq hv=>by
        rw[aO];rcases Ui.1 hv with rfl|hv
        . exact ze _ Zm Zm
        . obtain⟨J,s,rfl⟩:=V5.1 hv;exact pJ _ (Tc.1 dS J s)) (by rw[aT,HM.o,dQ.o];omega)
    rw[ax.o]at aL;have P:=dF.ext y;obtain⟨rz,r0,r1,r2,-⟩:=P.ca;have⟨dL,Y,fo⟩:=jI aL y hM;clear aL y hM t dn P aT aO cB aS;go_wp2_with fail;refine dL.mono ?_;rintro b aZ ⟨rfl,aG,eX,eF,bX,bU,cu⟩;have aK:=Jn aZ l p eX g g lk eF bU (enter p lk ⟨⟨C,D⟩,E⟩ (Val.mk 2 0::args.map mh) ⟨1,[],[fresh p ⟨q,r⟩],[],l9⟩).1;rw[cu]at aK;have⟨dK,dN,dB⟩:=jI aK aG bX;have eT:=aG.size;clear aK aG bX bU cu r0 r1 r2 rz;go_wp2_with fail;refine dK.mono ?_;rintro b bf ⟨rfl,aH,eY,h,eH,bV,cz⟩;have N:=Zy (EC bf l p eY g g lk h bV);have fK:=aH.size;have bQ:=dN.mo aH dB;have⟨bI,dM⟩:=jw bQ cz;clear aH eH bV cz bQ;go_wp2_with fail;refine N.mono ?_;rintro b gu ⟨⟨F,rfl,hS⟩,aa⟩;have HS:=Zy hS;obtain⟨a1,c1,a2,c2,a3,c3,rfl,-,-,-⟩:=hS.form;have df:∀a,a<g.heap.size->a≠l.D->¬MO l dA a:=fun a d hd e=>by
     rcases e with e|e
     . exact hd e
     . have:=(Z.dom a e).1;omega
    have c:=((dE.ext Y).kp bI (df _ Zm Zm)).ext aa;have fM:=aa.size;obtain⟨gy,dz,bL,aI⟩:=Io c h.st.status (.slice a1 h.st.frames.length c1) (.slice a2 h.st.heap.length c2) (.slice a3 h.st.outs.length c3) h.st.back.kind h.st.back.n;have bP:=((bH.trans Y.any).own' (bI.trans aa.any) (fun a d=>by
     rcases d with d|d
     . exact .inl d
     . right;have:=(Z.dom a d).1;omega)).own aI (fun a b=>Zm)
    have bW:=lJ.stays _ _ _ (fun a=>w.heap.size<=a) _ _ (aI.same fun a (d:bf.heap.size<=a) b=>Zm) (fun a (d:bf.heap.size<=a)=>Zm) HS.o;obtain⟨yz,y0,y1,y2,y3,y4,y5,-⟩:=c.ca;obtain⟨f0,f1,f2,f3,f4,f5,-⟩:=c.fz;have⟨dP,dY,W,ek⟩:=kD bP bW bL dz;clear c dz aI bL bP bW hS aa df;go_wp2_with fail;rw[<-ek.o];refine PG (jM mK rfl w rfl [h.st.status,.slice a1 h.st.frames.length c1,.slice a2 h.st.heap.length c2,.slice a3 h.st.outs.length c3,h.st.back.kind,h.st.back.n] (hQ.kX W) rfl) rfl ?_;rw[f.o];have hs:=dY.o;rw[dM.o]at hs |-;exact⟨⟨_,rfl,hs⟩,dP⟩
theorem xN:lJ w I GV [Tj,(),(),(),Tj,Tj]:=
 ⟨_,_,_,rfl,SliceOf.nil _ _ _ _,SliceOf.nil _ _ _ _,SliceOf.nil _ _ _ _⟩
theorem QN(w:World)(I:Nat->Prop)(v:Value)(p:jl)(hp:SliceOf 2 jo w I v p)(hI:∀c,I c->c<w.heap.size)(lk:Bool)(aF:Zz (lk=true->yg))(k:Int)(n m:ByteArray)(args:List Int)(V:Option Addr)(Q:Nat)(aa:SliceOf 1 qx w I (.slice V args.length Q) args):Calls prog 8 #[.agg #[v],.bool lk,k,n,m,.slice V args.length Q] w fun d w'=>(∃R,d=.returned (.agg R.toArray)/\lJ w' (fun c=>w.heap.size<=c) (nK p lk k n m args) R)/\Ext w w':=by
 obtain⟨ah,aj,rfl,hn,aO⟩:=hp.form;obtain⟨r,E⟩:=S9 ((w.alloc (.cells #[.slice ah p.length aj] 25)).alloc (.cells #[Tj,(),(),(),Tj,Tj] 44));have X:Ext w r:=by rw[E];exact kx
 have ai:jq r (w+1) 44 #[Tj,(),(),(),Tj,Tj]:=by rw[E];exact jq.newAt _ _ Zl
 have aS:r.heap.size=w+2:=by rw[E];simp
 have ax:=BV r I (.slice ah p.length aj) p (hp.ext jo.stays X) (fun c C=>Te (hI c C));have aQ:args.length<=4294967296:=by obtain⟨_,_,d,_,h4⟩:=aa.form;exact h4
 have a:Zz (nK p lk k n m args=if kv p&&has p k&&jL n&&jL m&&args.all oD then M.start p lk k n m args else GV):=Zy rfl;have⟨ag,aC,aB,aJ,az,HI⟩:=pR ax X ai E aa hI;clear X ai E ax hp aa hI;go_enter func8,ntmps8;go_wp2_with fail;rw[<-aJ.o];refine ag.mono ?_;rintro d w3 ⟨S,aK⟩;have b:=aB.ext S;have⟨j,l⟩:=jw b (aC.trans S);have aT:=S.size;clear S ag;rcases aK with⟨D,rfl⟩|⟨D,aM,rfl,Z,aP⟩
 . replace a:Zz (nK p lk k n m args=GV):=Zy (by rw[a.o,D];rfl);clear D;obtain⟨O,G,H,J,K,L,N,-⟩:=b.ca;obtain⟨t,u,x,y,z,A,-⟩:=b.fz;clear b;go_wp2_with fail;obtain⟨W,i,g,h⟩:=Io j Tj () () () Tj Tj;rw[<-i];refine PG (jM mK rfl (w+1) rfl [Tj,(),(),(),Tj,Tj] (hQ.kX g) rfl) rfl ?_;rw[a.o];exact⟨⟨_,rfl,xN⟩,l.own h (fun c d=>Zm)⟩
 have aR:=Z.ord;have HL:=Zy Z;replace a:Zz (nK p lk k n m args=if has p k&&jL n&&jL m&&args.all oD then M.start p lk k n m args else GV):=Zy (by rw[a.o,D];rfl);clear Z D;go_wp2_with fail;refine(tY HL k).mono ?_;rintro d w1 ⟨rfl,rfl⟩;cases e:has p k
 . replace a:Zz (nK p lk k n m args=GV):=Zy (by rw[a.o,e];rfl);clear e;obtain⟨O,G,H,J,K,L,N,-⟩:=b.ca;obtain⟨t,u,x,y,z,A,-⟩:=b.fz;clear b;go_wp2_with fail;obtain⟨W,i,g,h⟩:=Io j Tj () () () Tj Tj;rw[<-i];refine PG (jM mK rfl (w+1) rfl [Tj,(),(),(),Tj,Tj] (hQ.kX g) rfl) rfl ?_;rw[a.o];exact⟨⟨_,rfl,xN⟩,l.own h (fun c d=>Zm)⟩
 replace a:Zz (nK p lk k n m args=if jL n&&jL m&&args.all oD then M.start p lk k n m args else GV):=Zy (by rw[a.o,e];rfl);clear e;go_wp2_with fail;refine(og n _).mono ?_;rintro d w1 ⟨rfl,rfl⟩;cases e:jL n
 . replace a:Zz (nK p lk k n m args=GV):=Zy (by rw[a.o,e];rfl);clear e;obtain⟨O,G,H,J,K,L,N,-⟩:=b.ca;obtain⟨t,u,x,y,z,A,-⟩:=b.fz;clear b;go_wp2_with fail;obtain⟨W,i,g,h⟩:=Io j Tj () () () Tj Tj;rw[<-i];refine PG (jM mK rfl (w+1) rfl [Tj,(),(),(),Tj,Tj] (hQ.kX g) rfl) rfl ?_;rw[a.o];exact⟨⟨_,rfl,xN⟩,l.own h (fun c d=>Zm)⟩
 replace a:Zz (nK p lk k n m args=if jL m&&args.all oD then M.start p lk k n m args else GV):=Zy (by rw[a.o,e];rfl);clear e;go_wp2_with fail;refine(og m _).mono ?_;rintro d w1 ⟨rfl,rfl⟩;cases e:jL m
 . replace a:Zz (nK p lk k n m args=GV):=Zy (by rw[a.o,e];rfl);clear e;obtain⟨O,G,H,J,K,L,N,-⟩:=b.ca;obtain⟨t,u,x,y,z,A,-⟩:=b.fz;clear b;go_wp2_with fail;obtain⟨W,i,g,h⟩:=Io j Tj () () () Tj Tj;rw[<-i];refine PG (jM mK rfl (w+1) rfl [Tj,(),(),(),Tj,Tj] (hQ.kX g) rfl) rfl ?_;rw[a.o];exact⟨⟨_,rfl,xN⟩,l.own h (fun c d=>Zm)⟩
 replace a:Zz (nK p lk k n m args=if args.all oD then M.start p lk k n m args else GV):=Zy (by rw[a.o,e];rfl);clear e b;have af:Zz (SliceOf 1 qx w3 (· <aM.O) (.slice V args.length Q) args):=Zy (az.keep qx.stays (Ext.same l) fun c C=>Te (HI.o c C));go_wp2;go_loopw [39] (fun ae wr=>∃o:Nat,o<=args.length/\ae=.int .i64 o/\Ext w3 wr/\Zz ((args.take o).all oD=true)) (fun ae _=>args.length - (intOf ae).toNat)
 case atStart=>exact⟨0,Tz _,rfl,Kp.rr,Zy Zl⟩
 case round=>
  obtain⟨o,hq,rfl,q,HQ⟩:=hrel;have s:=Zy q;have aV:=q.size;have b:=j.ext q;replace j:=Zy b;by_cases aL:o<args.length
  . obtain⟨F,hx⟩:=nV args o aL;obtain⟨c,aW,R,rfl,hI,rfl,-,hc⟩:=(af.ext qx.stays q).get hx;rw[Vi]at hc;have g0:=hc.one;have gz:=jv g0;have HX:=Zy hx;clear hx hc q;go_wp2_with fail;refine(Hv F _).mono ?_;rintro d w4 ⟨rfl,rfl⟩;cases U:(decide (-9999<=F)&&decide (F<=9999))
    . replace a:Zz (nK p lk k n m args=GV):=Zy (by rw[a.o,sj HX.o (show oD F=false from U)];rfl);clear U g0;obtain⟨O,G,H,J,K,L,N,-⟩:=b.ca;obtain⟨t,u,x,y,z,A,-⟩:=b.fz;clear b;go_wp2_with fail;obtain⟨W,i,g,h⟩:=Io j Tj () () () Tj Tj;rw[<-i];refine PG (jM mK rfl (w+1) rfl [Tj,(),(),(),Tj,Tj] (hQ.kX g) rfl) rfl ?_;rw[a.o];exact⟨⟨_,rfl,xN⟩,(l.trans s).own h (fun c d=>Zm)⟩
    . have P:Zz (oD F=true):=Zy U;clear U b;go_wp2_with fail;exact⟨⟨o+1,Zm,Zk,s.o,Zy (all_succ HQ.o HX.o P.o)⟩,Zj⟩
  . have P:=Zy (qG HQ Zm);replace a:Zz (nK p lk k n m args=M.start p lk k n m args):=Zy (by rw[a.o,P.o];rfl);clear q b;go_wp2_with fail;refine(Ji (HL.ext s) lk aF k n m args V Q (af.ext qx.stays s) P).mono ?_;rintro d w4 ⟨⟨R,rfl,B⟩,T⟩;rw[<-a.o]at B;obtain⟨f,hs⟩:∃f,nK p lk k n m args=f:=⟨_,rfl⟩;rw[hs]at B;have⟨aH,HS⟩:=jw hs B;obtain⟨a1,c1,a2,c2,a3,c3,rfl,-,-,-⟩:=B.form;have b:=j.kp T Zm;have aU:=T.size;obtain⟨aN,ay,ak,Y⟩:=Io b (.int .i64 f.status) (.slice a1 f.frames.length c1) (.slice a2 f.heap.length c2) (.slice a3 f.outs.length c3) (.int .i64 f.back.kind) (.int .i64 f.back.n);have au:Ext w aN:=((l.trans s).own T (fun c d=>Zm)).own Y (fun c d=>Zm);have av:=lJ.stays _ _ _ (fun c=>w.heap.size<=c) _ _ (Y.same fun c (C:wr.heap.size<=c) d=>Zm) (fun c (C:wr.heap.size<=c)=>Zm) HS.o;obtain⟨O,G,H,J,K,L,N,-⟩:=b.ca;obtain⟨t,u,x,y,z,A,-⟩:=b.fz;have⟨aD,aG,aA,aI⟩:=kD au av ak ay;clear b ay Y ak au av B T hs;go_wp2_with fail;rw[<-aI.o];refine PG (jM mK rfl (w+1) rfl [.int .i64 f.status,.slice a1 f.frames.length c1,.slice a2 f.heap.length c2,.slice a3 f.outs.length c3,.int .i64 f.back.kind,.int .i64 f.back.n] (hQ.kX aA) rfl) rfl ?_;rw[aH.o];exact⟨⟨_,rfl,aG⟩,aD⟩
theorem M.NM(a:s.status≠1)(f:Nat):steps p lk f s=s:=by
 cases f with
 |zero=>rfl
 |succ f=>unfold steps;rw[T9 a]
theorem QO(w:World)(I:Nat->Prop)(v:Value)(p:jl)(hp:SliceOf 2 jo w I v p)(hI:∀a,I a->a<w.heap.size)(lk:Bool)(bG:Zz (lk=true->yg))(s:St)(cs:List Value)(hs:lJ w I s cs)(c:Int):Calls prog 10 #[.agg #[v],.bool lk,.agg cs.toArray,c] w fun d w'=>(∃aP,d=.returned (.agg aP.toArray)/\lJ w' (fun a=>w.heap.size<=a) (rT p lk s c) aP)/\Ext w w':=by
 obtain⟨ae,ah,rfl,hn,cB⟩:=hp.form;obtain⟨N,Q,O,R,P,S,rfl,-,-,-⟩:=hs.form;obtain⟨t,y⟩:=S9 (((w.alloc (.cells #[.slice ae p.length ah] 25)).alloc (.cells #[s.status,.slice N s.frames.length Q,.slice O s.heap.length R,.slice P s.outs.length S,s.back.kind,s.back.n] 44)).alloc (.cells #[Tj,(),(),(),Tj,Tj] 44));have ak:Ext w t:=by rw[y];exact kx
 have b8:jq t (w+2) 44 #[Tj,(),(),(),Tj,Tj]:=by rw[y];exact jq.newAt _ _ Zl
 have b6:jq t (w+1) 44 #[s.status,.slice N s.frames.length Q,.slice O s.heap.length R,.slice P s.outs.length S,s.back.kind,s.back.n]:=by rw[y];exact jq.ext (w:=(w.alloc (.cells #[.slice ae p.length ah] 25)).alloc (.cells #[s.status,.slice N s.frames.length Q,.slice O s.heap.length R,.slice P s.outs.length S,s.back.kind,s.back.n] 44)) (jq.newAt _ _ Zl) (jJ _)
 have cZ:t.heap.size=w+3:=by rw[y];simp
 have aY:=BV t I (.slice ae p.length ah) p (hp.ext jo.stays ak) (fun a g=>Te (hI a g));have f:Zz (rT p lk s c=if decide (c<=400)&&kv p&&FI p s then steps p lk c.toNat s else GV):=Zy rfl;have⟨aF,bB,bA,bu,bP,HS,HI⟩:=tq aY ak b8 b6 y hs hI;clear ak b8 b6 y aY hp hs hI;go_enter func10,ntmps10;go_wp2_with fail;rw[<-bP.o];refine aF.mono ?_;rintro d w3 ⟨E,J⟩;have b:=bA.ext E;have⟨j,bC,B⟩:=jI b E (bB.trans E);have df:=E.size;clear E aF;by_cases x:400<c
 . replace f:Zz (rT p lk s c=GV):=Zy (by rw[f.o,SS Zm];rfl);have bW:=Tw x;clear x;rcases J with⟨l,rfl⟩|⟨l,m,rfl,G,bX⟩
   . clear l;obtain⟨yz,y0,y1,y2,y3,y4,y5,-⟩:=b.ca;obtain⟨T,U,V,W,X,Y,-⟩:=b.fz;clear b;go_wp2_with fail;obtain⟨w9,r,n,o⟩:=Io j Tj () () () Tj Tj;rw[<-r];refine PG (jM mK rfl (w+2) rfl [Tj,(),(),(),Tj,Tj] (hQ.kX n) rfl) rfl ?_;rw[f.o];exact⟨⟨_,rfl,xN⟩,B.own o (fun a d=>Zm)⟩
   . clear l G;obtain⟨yz,y0,y1,y2,y3,y4,y5,-⟩:=b.ca;obtain⟨T,U,V,W,X,Y,-⟩:=b.fz;clear b;go_wp2_with fail;obtain⟨w9,r,n,o⟩:=Io j Tj () () () Tj Tj;rw[<-r];refine PG (jM mK rfl (w+2) rfl [Tj,(),(),(),Tj,Tj] (hQ.kX n) rfl) rfl ?_;rw[f.o];exact⟨⟨_,rfl,xN⟩,B.own o (fun a d=>Zm)⟩
 have bW:=SS x;rcases J with⟨l,rfl⟩|⟨l,m,rfl,G,bX⟩
 . replace f:Zz (rT p lk s c=GV):=Zy (by rw[f.o,l,Vt];rfl);clear l x;obtain⟨yz,y0,y1,y2,y3,y4,y5,-⟩:=b.ca;obtain⟨T,U,V,W,X,Y,-⟩:=b.fz;clear b;go_wp2_with fail;obtain⟨w9,r,n,o⟩:=Io j Tj () () () Tj Tj;rw[<-r];refine PG (jM mK rfl (w+2) rfl [Tj,(),(),(),Tj,Tj] (hQ.kX n) rfl) rfl ?_;rw[f.o];exact⟨⟨_,rfl,xN⟩,B.own o (fun a d=>Zm)⟩
 have cK:=G.ord;have HL:=Zy G;replace f:Zz (rT p lk s c=if FI p s then steps p lk c.toNat s else GV):=Zy (by rw[f.o,Tw Zm,l];rfl);have af:=bu.ext bC;have aG:Zz (lJ w3 (· <m.O) s [s.status,.slice N s.frames.length Q,.slice O s.heap.length R,.slice P s.outs.length S,s.back.kind,s.back.n]):=Zy (lJ.stays _ _ _ _ _ _ (Ext.same B) (fun a g=>Te (HI.o a g)) HS.o);have⟨bz,HF⟩:=jw af x;obtain⟨xz,x0,x1,x2,x3,x4,x5,-⟩:=af.ca;clear G l af x b;go_wp2_with fail;refine(KJ HL s aG).mono ?_;rintro d z ⟨rfl,aj⟩;have A:=Zy aj;have dh:=aj.kp.size;clear aj x0 x1 x2 x3 x4 x5 xz;have b:=j.kp A.kp Zm;replace j:=Zy b;have aB:Zz (Ext w z):=Zy (B.own A.kp (fun a d=>Zm));cases K:FI p s
 . replace f:Zz (rT p lk s c=GV):=Zy (by rw[f.o,K];rfl);clear K;obtain⟨yz,y0,y1,y2,y3,y4,y5,-⟩:=b.ca;obtain⟨T,U,V,W,X,Y,-⟩:=b.fz;clear b;go_wp2_with fail;obtain⟨w9,r,n,o⟩:=Io j Tj () () () Tj Tj;rw[<-r];refine PG (jM mK rfl (w+2) rfl [Tj,(),(),(),Tj,Tj] (hQ.kX n) rfl) rfl ?_;rw[f.o];exact⟨⟨_,rfl,xN⟩,aB.own o (fun a d=>Zm)⟩
 replace f:Zz (rT p lk s c=steps p lk c.toNat s):=Zy (by rw[f.o,K];rfl);have aL:=bz.kp A.kp Zm;obtain⟨xz,x0,x1,x2,x3,x4,x5,-⟩:=aL.ca;have aH:=Zy K;clear K aL b;go_wp2_with fail;refine(Jt A.at_ lk s (lJ.stays _ _ _ _ _ _ (A.same Zm) (fun _ ai=>ai) aG) aH).mono ?_;rintro d w5 ⟨⟨mb,bY,bQ,rfl,k,hg⟩,au⟩;have⟨HM,HG,aC⟩:=jI k hg au;have di:=au.size;clear k hg au x0 x1 x2 x3 x4 x5 xz;go_wp2;go_loopw [11] (fun az wr=>∃(i:Nat)(L:Own)(e:Gh),az=.int .i64 i/\Ext w wr/\Kp (fun a=>z.heap.size<=a\/a=m.D) w5 wr/\jG wr m p L z mb lk e/\yh p e.st/\steps p lk c.toNat s=steps p lk (c.toNat - i) e.st) (fun az _=>c.toNat - (intOf az).toNat)
 case atStart=>exact⟨0,bY,bQ,rfl,aB.trans aC,Kp.rr,HM,by rw[HG.o];exact EU.1 aH,by rw[HG.o];rfl⟩
 case round=>
  obtain⟨i,L,e,rfl,hE,F,k,hR,aa⟩:=hrel;have⟨HE,bF,aD,HR,bK⟩:=nC hE F k hR aa;obtain⟨ez,-,-,e2,-⟩:=k.blk.ca;have dn:=F.size;by_cases ax:(i:Int)<c/\e.status=1
  . obtain⟨hq,q⟩:=ax;have aZ:=Tw hq;have e3:=Ue.2 q;obtain⟨aA,ag,J⟩:∃aA ag,e.cs=aA++[ag]:=by
     have aX:e.cs≠[]:=fun d=>by
      have:=hR.goes.1 q;simp[Gh.st,d]at this
     exact⟨e.cs.dropLast,e.cs.getLast aX,(UK aX).symm⟩
    have bf:=M4 wr m p L z mb lk bG e k aA ag J q;have⟨bL,HQ,bH⟩:=jI bf hq q;have cO:IntKind.i64.wrap ((i:Int)+1)=i+1:=TM _ (Te HF.o);clear hE F k hR aa J bf q;go_wp2_with fail;refine bL.mono ?_;rintro d w6 ⟨rfl,aR,bZ,g6,bR,aT,aW⟩;have C:=Zy (Tm aR (Tm aT aW));have hd:∀a,MO m L a->z.heap.size<=a\/a=m.D:=fun a g=>by
     rcases g with g|g
     . exact .inr g
     . exact .inl (aD.dom a g).1
    have HD:=Zy hd;clear aR bR aT aW hd e2 ez;go_wp2_with fail;refine⟨⟨i+1,bZ,g6,Zk,HE.own C.1 (fun a g=>by rcases HD.o a g with ai|ai<;>omega),bF.o.trans (C.o.1.weak fun a _ g=>HD.o a g),C.o.2.1,?_,?_⟩,Zj⟩
    . rw[C.o.2.2];exact Ch aD.lM.ok HR lk
    . rw[C.o.2.2,bK.o];have e1:c.toNat - i=(c.toNat - (i+1))+1:=Zm
      rw[e1];show(if e.st.status=1 then _ else _)=_
      rw[Ty (show e.st.status=1 from bH.o)]
  . have aV:steps p lk c.toNat s=e.st:=by
     rw[aa];by_cases q:e.status=1
     . have:c.toNat - i=0:=Zm
       rw[this];rfl
     . exact NM q _
    have bD:=Zy aV;have bg:=EC wr m p L z mb lk e k;have bM:=Zy bg;have b:=(j.ext aC).kp F (fun d=>Zm);replace j:=Zy b;have aZ:∃u,decide ((i:Int)<c)=u:=⟨_,rfl⟩;obtain⟨u,bT⟩:=aZ;have e3:∃D,((e.status:Int)==1)=D:=⟨_,rfl⟩;obtain⟨D,bU⟩:=e3;have bS:(u&&D)=false:=by
     rw[<-bT,<-bU];cases hx:decide ((i:Int)<c)
     . rfl
     . have h1:=U0 hx;have h2:¬e.status=1:=fun d=>ax ⟨h1,d⟩;simp[h2]
    have cz:=j;clear ax hE F k hR aa aV bg b;have dw:True:=trivial;have bV:(u=false)\/(u=true/\D=false):=by cases u<;>cases D<;>simp_all
    clear bS;rcases bV with rfl|⟨rfl,rfl⟩
    all_goals
     go_wp2_with fail;refine bM.mono ?_;rintro d w6 ⟨⟨cs,rfl,H⟩,Z⟩;rw[<-bD.o,<-f.o]at H;obtain⟨h,ay⟩:∃h,rT p lk s c=h:=⟨_,rfl⟩;rw[ay]at H;have⟨bI,bN⟩:=jw ay H;obtain⟨aI,aM,aJ,aN,aK,aO,rfl,-,-,-⟩:=H.form;have b:=j.ext Z;have dm:=Z.size;obtain⟨cu,bn,aQ,av⟩:=Io b (.int .i64 h.status) (.slice aI h.frames.length aM) (.slice aJ h.heap.length aN) (.slice aK h.outs.length aO) (.int .i64 h.back.kind) (.int .i64 h.back.n);have aS:Ext w cu:=(HE.trans Z).own av (fun a d=>Zm);have aU:=lJ.stays _ _ _ (fun a=>w.heap.size<=a) _ _ (av.same fun a (g:wr.heap.size<=a) d=>Zm) (fun a (g:wr.heap.size<=a)=>Zm) bN.o;obtain⟨yz,y0,y1,y2,y3,y4,y5,-⟩:=b.ca;obtain⟨T,U,V,W,X,Y,-⟩:=b.fz;have⟨bE,bJ,bq,bO⟩:=kD aS aU aQ bn;clear b bn av aQ aS aU H Z ay;go_wp2_with fail;rw[<-bO.o];refine PG (jM mK rfl (w+2) rfl [.int .i64 h.status,.slice aI h.frames.length aM,.slice aJ h.heap.length aN,.slice aK h.outs.length aO,.int .i64 h.back.kind,.int .i64 h.back.n] (hQ.kX bq) rfl) rfl ?_;rw[bI.o];exact⟨⟨_,rfl,bJ⟩,bE⟩
theorem lJ.inside{cs:List Value}(a:lJ w I s cs):lJ w (fun b=>b<w.heap.size) s cs:=by
 obtain⟨g,q,t,c,m,n,o⟩:=a;have p:∀b,I b/\b<w.heap.size->b<w.heap.size:=fun b a=>a.2;have f:∀{l:Type} {i:Nat} {d:om l} (h:kE d) {j:Value} {k:List l},SliceOf i d w (fun b=>I b/\b<w.heap.size) j k->SliceOf i d w (fun b=>b<w.heap.size) j k:=fun h _ _ a=>a.keep h (fun _ _ _ _ a=>a) p;refine⟨g,q,t,c,f LM.stays (m.inside (fun w I v cs a=>?_) Zm),f xZ.stays (n.inside (fun w I v cs a=>?_) Zm),f qx.stays (o.inside (fun _ _ _ _ a=>a) Zm)⟩
 . obtain⟨r,u,c,e,b⟩:=a;exact⟨r,u,c,e.inside (fun _ _ _ _ a=>a) Zm,b.inside (fun _ _ _ _ a=>a) Zm⟩
 . obtain⟨g,c,e⟩:=a;exact⟨g,c,e.inside (fun _ _ _ _ a=>a) Zm⟩
theorem Q6:Calls prog 7 #[] w fun b d=>b=.returned (.bool true)/\d=w:=by
 have c:jL ⟨#[97]⟩=true:=by decide+kernel
 have a:=Zy (og ⟨#[97]⟩ w);rw[c]at a;go_enter func7,ntmps7;go_wp2_with fail;refine a.mono ?_;rintro b e ⟨rfl,rfl⟩;go_wp2;go_ret;exact⟨rfl,rfl⟩
theorem Hk(w:World){I J:Nat->Prop}{u v:Value}(l:List Val)(f:SliceOf 2 oF w I u l)(g:SliceOf 2 oF w J v l):Calls prog 23 #[u,v] w fun F K=>F=.returned (.bool true)/\Ext w K:=by
 obtain⟨O,Q,rfl,-,X⟩:=f.form;obtain⟨P,R,rfl,-,-⟩:=g.form;have⟨y,z⟩:=jw f g;clear f g;go_enter func23,ntmps23;go_wp2;go_loopw [5] (fun k wr=>∃t:Nat,t<=l.length/\k=.int .i64 t/\Ext w wr) (fun k _=>l.length - (intOf k).toNat)
 case atStart=>exact⟨0,Tz _,rfl,Kp.rr⟩
 case round=>
  obtain⟨a,W,rfl,b⟩:=hrel;have m:=Zy b;by_cases q:a<l.length
  . have E:(a:Int)<l.length:=Zm
    have U:(0:Int)<=a:=Zm
    obtain⟨⟨e,x⟩,j⟩:∃L,l[a]?=some L:=⟨l[a]'q,CU q⟩;obtain⟨C,G,S,rfl,-,rfl,-,h⟩:=y.get j;obtain⟨D,H,T,rfl,-,rfl,-,i⟩:=z.get j;have n:w.cell? (C,G+a*2)=some (.int .i64 e):=by simpa using h 0 e rfl
    have o:=h 1 x rfl;have r:w.cell? (D,H+a*2)=some (.int .i64 e):=by simpa using i 0 e rfl
    have s:=i 1 x rfl;obtain⟨N,V,Y,d⟩:=lL wr;have Z:=fun c=>(b.trans (d.jC c)).jm n;have x1:=fun c=>(b.trans (d.jC c)).jm o;have y0:=fun c=>(b.trans (d.jC c)).jm r;have y1:=fun c=>(b.trans (d.jC c)).jm s;have A:=Zy d;clear d h i j n o r s b;go_upto_region 6 with(fail);refine lq A 9 [] [0,1,2,3,4,5,6,7,8] ?_ ?_
    . exact jA
    refine EG [_,_,_,_,_,_,_,_,_] rfl rfl fun B p=>?_;(repeat (go_big_quiet_step (fail)));refine qn p ?_;clear p B;go_wp2;go_round
    case rel=>exact⟨a+1,Zm,Zk,m.o.trans jA⟩
    case measure=>exact Zj
  . have E:¬(a:Int)<l.length:=Zm
    clear b;go_wp2;go_ret;exact⟨rfl,m⟩
namespace M
end M
theorem Qw(w:World){I J:Nat->Prop}{x y:Value}(a b:List Int)(u:SliceOf 1 qx w I x a)(v:SliceOf 1 qx w J y b):Calls prog 22 #[x,y] w fun f C=>f=.returned (.bool (decide (a=b)))/\Ext w C:=by
 obtain⟨F,L,rfl,-,T⟩:=u.form;obtain⟨G,M,rfl,-,U⟩:=v.form;by_cases g:a.length=b.length;rotate_left
 . have z:((a.length:Int) !=b.length)=true:=TE.2 Zm;have e:Zz (decide (a=b)=false):=Zy (SS fun f=>g (by rw[f]));clear g;go_enter func22,ntmps22;go_wp2;go_ret;exact⟨hV e.symm,kx⟩
 have z:((a.length:Int) !=b.length)=false:=by simp[g]
 have q:=Zy g;clear g;go_enter func22,ntmps22;go_wp2;go_loopw [5] (fun p wr=>∃c:Nat,c<=a.length/\p=.int .i64 c/\Ext w wr/\Zz (a.take c=b.take c)) (fun p _=>a.length - (intOf p).toNat)
 case atStart=>exact⟨0,Tz _,rfl,Kp.rr,Zy Zl⟩
 case round=>
  obtain⟨c,V,rfl,d,r⟩:=hrel;by_cases A:c<a.length
  . have B:c<b.length:=Te q.o
    obtain⟨D,n⟩:=nV a c A;obtain⟨E,o⟩:=nV b c B;obtain⟨H,Y,N,rfl,-,rfl,-,l⟩:=(u.ext qx.stays d).get n;obtain⟨K,Z,O,rfl,-,rfl,-,m⟩:=(v.ext qx.stays d).get o;rw[Vi]at l m;have Q:=fun k=>((Kp.refl _ wr).drewN k:Ext wr _).jm l.one;have R:=fun k=>((Kp.refl _ wr).drewN k:Ext wr _).jm m.one;have⟨s,t,h⟩:=jI n o d;have W:(c:Int)<a.length:=Zm
    have X:(c:Int)<b.length:=Zm
    clear n o l m d;by_cases j:D=E
    . subst j;go_wp2_with fail;go_quiet (fail);go_wp2_with fail;refine⟨⟨c+1,Zm,Zk,h.o.trans kx,Zy ?_⟩,Zj⟩;rw[Td,Td,r.o,s.o,t.o]
    . have P:=TE.2 j;have e:Zz (decide (a=b)=false):=Zy (SS fun f=>j (by
       have i:=s.o;rw[f,t.o]at i;cases i;rfl))
      clear j;go_wp2_with fail;go_quiet (fail);go_wp2;go_ret;exact⟨hV e.symm,h.trans kx⟩
  . have e:Zz (decide (a=b)=true):=Zy (Tw (by
     have i:=r.o;have S:=q.o;rwa[Tq Zm,Tq Zm]at i))
    have h:=Zy d;clear d;go_wp2;go_ret;exact⟨hV e.symm,h⟩
theorem O3(w:World){I J:Nat->Prop}(s:St){ca cb:List Value}(ha:lJ w I s ca)(hb:lJ w J s cb):Calls prog 9 #[.agg ca.toArray,.agg cb.toArray] w fun C w'=>C=.returned (.bool true)/\Ext w w':=by
 obtain⟨a1,c1,a2,c2,a3,c3,rfl,ah,ai,aB⟩:=ha.form;obtain⟨b1,d1,b2,d2,b3,d3,rfl,aC,aD,aF⟩:=hb.form;obtain⟨_,_,-,-,bu⟩:=ah.form;obtain⟨_,_,-,-,bz⟩:=ai.form;obtain⟨i,F⟩:=S9 ((w.alloc (.cells #[s.status,.slice a1 s.frames.length c1,.slice a2 s.heap.length c2,.slice a3 s.outs.length c3,s.back.kind,s.back.n] 44)).alloc (.cells #[s.status,.slice b1 s.frames.length d1,.slice b2 s.heap.length d2,.slice b3 s.outs.length d3,s.back.kind,s.back.n] 44));have k:Ext w i:=by rw[F];exact Zx
 have e2:jq i w 44 #[s.status,.slice a1 s.frames.length c1,.slice a2 s.heap.length c2,.slice a3 s.outs.length c3,s.back.kind,s.back.n]:=by rw[F];exact(jq.new _ _ _).ext (jJ _)
 have e3:jq i (w+1) 44 #[s.status,.slice b1 s.frames.length d1,.slice b2 s.heap.length d2,.slice b3 s.outs.length d3,s.back.kind,s.back.n]:=by rw[F];exact jq.newAt _ _ Zl
 have⟨aI,aJ,aK,aL⟩:=kD (ah.ext LM.stays k) (ai.ext xZ.stays k) (aC.ext LM.stays k) (aD.ext xZ.stays k);have aS:=Zy fun B l=>by
  have:=Qw B s.outs s.outs ((aB.ext qx.stays k).ext qx.stays l) ((aF.ext qx.stays k).ext qx.stays l);rwa[Tw rfl]at this
 have⟨aM,u,af,aV⟩:=kD k e2 e3 F;obtain⟨j,p0,t,S,p3,p4,p5,-⟩:=(e2).ca;obtain⟨T,q0,q1,q2,q3,q4,q5,-⟩:=(e3).ca;clear ha hb ah ai aB aC aD aF k e2 e3 F;go_enter func9,ntmps9;go_upto_region 1 with(fail);rw[<-aV.o];go_wp2_with fail;refine(aS i Kp.rr).mono ?_;rintro C w1 ⟨rfl,aa⟩;have aN:=Zy aa;clear p0 q0 t q1 S q2 p3 q3 p4 q4 p5 q5 j T;obtain⟨j,p0,t,S,p3,p4,p5,-⟩:=(u.ext aa).ca;obtain⟨T,q0,q1,q2,q3,q4,q5,-⟩:=(af.ext aa).ca;clear aa;go_wp2;go_loopw [5] (fun p wr=>∃b:Nat,b<=s.frames.length/\p=.int .i64 b/\Ext i wr) (fun p _=>s.frames.length - (intOf p).toNat)
 case atStart=>exact⟨0,Tz _,rfl,aN⟩
 case round=>
  obtain⟨b,hk,rfl,c⟩:=hrel;have av:=Zy c;clear p0 q0 t q1 S q2 p3 q3 p4 q4 p5 q5 j T;by_cases E:b<s.frames.length
  . have Y:(b:Int)<s.frames.length:=Zm
    have bg:(0:Int)<=b:=Zm
    obtain⟨a,m⟩:∃a,s.frames[b]?=some a:=⟨s.frames[b]'E,CU E⟩;obtain⟨W,Z,aY,rfl,-,⟨v1,v2,rfl,n,aj⟩,-,e⟩:=aI.get m;obtain⟨U,V,rfl,-,-⟩:=n.form;obtain⟨y1,y2,rfl,-,-⟩:=aj.form;obtain⟨X,fb,aZ,rfl,-,⟨v3,v4,rfl,o,ak⟩,-,f⟩:=aK.get m;obtain⟨u1,u2,rfl,-,-⟩:=o.form;obtain⟨z1,z2,rfl,-,-⟩:=ak.form;obtain⟨j,-,t,-⟩:=(u.ext c).ca;obtain⟨T,-,q1,-⟩:=(af.ext c).ca;have q:wr.cell? (W,Z+b*6)=some (.int .i64 a.of.of.keeper):=c.jm (by simpa using e 0 (.int .i64 a.of.of.keeper) rfl);have r:wr.cell? (X,fb+b*6)=some (.int .i64 a.of.of.keeper):=c.jm (by simpa using f 0 (.int .i64 a.of.of.keeper) rfl);have v:=c.jm (e 1 (.string a.of.of.name) rfl);have x:=c.jm (e 2 (.int .i64 a.of.at_) rfl);have H:=c.jm (e 3 (.int .i64 a.pc) rfl);have K:=c.jm (e 4 (.slice U a.locals.length V) rfl);have L:=c.jm (e 5 (.slice y1 a.stack.length y2) rfl);have y:=c.jm (f 1 (.string a.of.of.name) rfl);have z:=c.jm (f 2 (.int .i64 a.of.at_) rfl);have O:=c.jm (f 3 (.int .i64 a.pc) rfl);have P:=c.jm (f 4 (.slice u1 a.locals.length u2) rfl);have Q:=c.jm (f 5 (.slice z1 a.stack.length z2) rfl);have N:=jv q;have R:=jv r;obtain⟨A,G⟩:=S9 ((wr.alloc (.cells #[.int .i64 a.of.of.keeper,.string a.of.of.name,.int .i64 a.of.at_,.int .i64 a.pc,.slice U a.locals.length V,.slice y1 a.stack.length y2] 69)).alloc (.cells #[.int .i64 a.of.of.keeper,.string a.of.of.name,.int .i64 a.of.at_,.int .i64 a.pc,.slice u1 a.locals.length u2,.slice z1 a.stack.length z2] 69));have ag:Ext wr A:=by rw[G];exact Zx
    have k4:jq A wr 69 #[.int .i64 a.of.of.keeper,.string a.of.of.name,.int .i64 a.of.at_,.int .i64 a.pc,.slice U a.locals.length V,.slice y1 a.stack.length y2]:=by rw[G];exact(jq.new _ _ _).ext (jJ _)
    have k5:jq A (wr+1) 69 #[.int .i64 a.of.of.keeper,.string a.of.of.name,.int .i64 a.of.at_,.int .i64 a.pc,.slice u1 a.locals.length u2,.slice z1 a.stack.length z2]:=by rw[G];exact jq.newAt _ _ Zl
    have D:=c.trans ag;have aQ:=Zy fun B l=>Hk B a.locals ((n.ext oF.stays D).ext oF.stays l) ((o.ext oF.stays D).ext oF.stays l);have aR:=Zy fun B l=>Hk B a.stack ((aj.ext oF.stays D).ext oF.stays l) ((ak.ext oF.stays D).ext oF.stays l);have⟨aO,aW,K4,K5⟩:=kD ag G k4 k5;clear ag D G k4 k5 n aj o ak e f m c;go_upto_region 8 with(fail);rw[<-aW.o];clear q r v y x z H O K P L Q N R t q1 j T;obtain⟨N,q,v,x,H,K,L,-⟩:=(K4).ca;obtain⟨R,r,y,z,O,P,Q,-⟩:=(K5).ca;go_wp2_with fail;refine(aQ A Kp.rr).mono ?_;rintro C w5 ⟨rfl,ae⟩;have au:=Zy ae;clear q r v y x z H O K P L Q N R;obtain⟨N,q,v,x,H,K,L,-⟩:=(K4.ext ae).ca;obtain⟨R,r,y,z,O,P,Q,-⟩:=(K5.ext ae).ca;clear ae;go_wp2_with fail;refine(aR w5 au).mono ?_;rintro C w6 ⟨rfl,az⟩;have aP:=Zy (av.trans ((aO.trans au).trans az));clear q r v y x z H O K P L Q N R az;go_wp2;go_round
    case rel=>exact⟨b+1,Zm,Zk,aP.o⟩
    case measure=>exact Zj
  . have Y:¬(b:Int)<s.frames.length:=Zm
    obtain⟨j,-,t,-⟩:=(u.ext c).ca;clear c;go_wp2_with fail;obtain⟨wo,rfl⟩:∃wo:World,wo=wr:=⟨_,rfl⟩;obtain⟨k8,rfl⟩:∃k8:Nat,k8=b:=⟨_,rfl⟩;go_loopw [8] (fun p wr=>∃b:Nat,b<=s.heap.length/\p=.int .i64 b/\Ext i wr) (fun p _=>s.heap.length - (intOf p).toNat)
    case atStart=>exact⟨0,Tz _,rfl,av⟩
    case round=>
     obtain⟨b,hk,rfl,c⟩:=hrel;have g:=Zy c;clear t j Y;by_cases E:b<s.heap.length
     . have Y:(b:Int)<s.heap.length:=Zm
       have bg:(0:Int)<=b:=Zm
       obtain⟨a,m⟩:∃a,s.heap[b]?=some a:=⟨s.heap[b]'E,CU E⟩;obtain⟨W,Z,aY,rfl,-,⟨v1,rfl,n⟩,-,e⟩:=aJ.get m;obtain⟨U,V,rfl,-,-⟩:=n.form;obtain⟨X,fb,aZ,rfl,-,⟨v3,rfl,o⟩,-,f⟩:=aL.get m;obtain⟨u1,u2,rfl,-,-⟩:=o.form;obtain⟨j,-,-,S,-⟩:=(u.ext c).ca;have aG:i.cell? (W,Z+b*3)=some (.int .i64 a.of.keeper):=by simpa using e 0 (.int .i64 a.of.keeper) rfl
       have aH:i.cell? (X,fb+b*3)=some (.int .i64 a.of.keeper):=by simpa using f 0 (.int .i64 a.of.keeper) rfl
       obtain⟨bn,bq,bA,h⟩:=lL wr;have P2:=fun d=>(u.ext (g.trans (h.jC d))).c 2 (.slice (some ⟨W,Z,none⟩) s.heap.length c2) rfl;have Q2:=fun d=>(af.ext (g.trans (h.jC d))).c 2 (.slice (some ⟨X,fb,none⟩) s.heap.length d2) rfl;have q:=fun d=>(g.trans (h.jC d)).jm aG;have r:=fun d=>(g.trans (h.jC d)).jm aH;have v:=fun d=>(g.trans (h.jC d)).jm (e 1 (.string a.of.name) rfl);have y:=fun d=>(g.trans (h.jC d)).jm (f 1 (.string a.of.name) rfl);have x:=fun d=>(g.trans (h.jC d)).jm (e 2 (.slice U a.fields.length V) rfl);have z:=fun d=>(g.trans (h.jC d)).jm (f 2 (.slice u1 a.fields.length u2) rfl);have⟨aT,aU,ax⟩:=jI n o h;clear h e f n o m c aG aH;go_upto_region 13 with(fail);refine lq ax 29 [([0,1,2,3,4,5,6,7,8,9,10,11,12,13,14,15,16,17,18,19,20,21,22,23,24,25],26)] [27,28] ?_ ?_
       . exact jA
       refine vM [_,_,_,_,_,_,_,_,_,_,_,_,_,_,_,_,_,_,_,_,_,_,_,_,_,_] rfl rfl fun aX hK=>?_;(repeat (go_big_quiet_step (fail)));refine qn hK fun K2 aA=>?_;clear hK aX;go_wp2_with fail;have ay:=g.trans jA;refine(Hk wr.drew a.fields (aT.ext oF.stays ay) (aU.ext oF.stays ay)).mono ?_;rintro C w7 ⟨rfl,bf⟩;have e7:=(jA:Ext wr wr.drew).trans bf;go_wp2_with fail;refine kk ax aA e7 ?_;clear aA K2;refine uC ?_;go_wp2;go_round
       case rel=>exact⟨b+1,Zm,Zk,g.o.trans e7⟩
       case measure=>exact Zj
     . have Y:¬(b:Int)<s.heap.length:=Zm
       obtain⟨j,-,-,S,-⟩:=(u.ext c).ca;clear c;go_wp2;go_ret;exact⟨rfl,aM.trans g⟩
theorem Md:yg:=fun e c d a f b=>CJ e c d a f b
theorem RP(w:World)(I:Nat->Prop)(v:Value)(p:jl)(h:SliceOf 2 jo w I v p)(hI:∀a,I a->a<w.heap.size)(lk:Bool)(k:Int)(n m:ByteArray)(args:List Int)(c:Option Addr)(b:Nat)(g:SliceOf 1 qx w I (.slice c args.length b) args):Calls prog 8 #[.agg #[v],.bool lk,k,n,m,.slice c args.length b] w fun f e=>(∃d,f=.returned (.agg d.toArray)/\lJ e (fun a=>w.heap.size<=a) (nK p lk k n m args) d)/\Ext w e:=QN w I v p h hI lk (Zy fun _=>Md) k n m args c b g
theorem P7(w:World)(I:Nat->Prop){v:Value}{p:jl}(f:SliceOf 2 jo w I v p)(hI:∀a,I a->a<w.heap.size)(lk:Bool)(s:St){cs:List Value}(g:lJ w I s cs)(b:Int):Calls prog 10 #[.agg #[v],.bool lk,.agg cs.toArray,b] w fun e d=>(∃c,e=.returned (.agg c.toArray)/\lJ d (fun a=>w.heap.size<=a) (rT p lk s b) c)/\Ext w d:=QO w I v p f hI lk (Zy fun _=>Md) s cs g b
end Go.Proofs.YtenhnldnpdlniaaGreat
