/- Walks. -/
import Derived.Test.YtlhlnddgfcmfkaaGreatRsCoreH
import Derived.Test.YtlhlnddgfcmfkaaGreatRsCoreLx
set_option maxRecDepth 100000
set_option maxHeartbeats 4000000
set_option linter.all false
namespace Go.Proofs.YtlhlnddgfcmfkaaGreat
open Go Go.RowKit Tryz M
theorem rD.mono{w:World}{k:Own}{c d:Nat}{v:Value}{j:List GO}(a:rD w k c v j)(b:d<=c):rD w k d v j:=
 ⟨fun e f=>⟨RP b (a.dom e f).1,(a.dom e f).2⟩,⟨lM a.row.row b,a.row.role⟩,fun h i g=>⟨lM (a.obj h i g).row b,(a.obj h i g).role⟩,a.H9⟩
theorem rD.kp{D:Nat->Prop}{w i:World}{e:Own}{f:Nat}{v:Value}{h:List GO}(c:rD w e f v h)(d:Kp D w i)(g:∀a,e a≠none->¬D a):rD i e f v h:=
 ⟨fun a b=>⟨(c.dom a b).1,Nv (c.dom a b).2 d.size⟩,c.row.keep d (mV.refl _ _) fun a b _=>g a (by rw[b];simp),fun k l j=>(c.obj k l j).keep d (mV.refl _ _) fun a b _=>g a (by rw[b];simp),c.H9⟩
theorem M.Good.part{p:hZ}{s:St}(a:M.Good p s)(n:Nat):M.Good p {s with frames:=s.frames.take n}:=
 ⟨a.heap,fun b c=>a.frames b (List.mem_of_mem_take c),by have:=a.nf;simp;omega,a.outs,a.sw,a.back⟩
theorem ji.start{w:World}{l:jh}{p:hZ}{f:Own}{g e:Nat}{lk:Bool}{st:Int}{s:List GO}{n:List Int}{t:Val}{C o:Value}(G:jg w l p)(E:l.L<g)(i:rD w f g C s)(J:f e=none)(x:g<=e) (v:hV w e 85 (xP l lk ⟨st,[],s,n,t,(),C,o⟩)) (z:w.ownsRow g 3 1 o n.length (n.flatMap uJ)) (K:∀a,o.ownBlock=some a->f a=none/\a≠e)(F:M.Good p ⟨st,[],s.map GO.o,n,t⟩):∃O,ji w l p O g e lk ⟨st,[],s,n,t,(),C,o⟩:=by
 have q:∀a h,f a=some h->(f.add e (0,0)) a=some h:=fun a h b=>by
  rw[Own.lT _ (fun c=>by subst c;rw[J]at b;cases b)];exact b
 have H:∀a,f.add e (0,0) a≠none->g<=a/\a<w.heap.size:=fun a b=>by
  by_cases c:a=e
  . subst c;exact⟨x,v.lt⟩
  . rw[Own.lT _ c]at b;exact i.dom a b
 have D:∀a d,¬f a=some (4,d):=fun a d b=>by rcases i.H9 _ _ b with c|⟨_,c⟩<;>cases c
 have P:∀d:Nat,∀j:GC,([]:List GC)[d]?=some j->qd w l p f g d j:=fun d j m=>by simp at m
 cases r:o.ownBlock with
 |none=>
  exact⟨f.add e (0,0),G,E,v,Own.add_eq _ _ _,x,lU.nil _ _ _ _ _ _,fun d j m=>by simp at m,i.row.relabel q,fun A B y=>(i.obj A B y).relabel q,⟨z,fun a b=>by rw[r]at b;cases b⟩,H,F,fun a d b=>absurd (Own.F9 Zl b) (D a d)⟩
 | some k =>
  obtain⟨L,N⟩:=K k r;have I:=z.lt k r;have u:∀a h,(f.add e (0,0)) a=some h->((f.add e (0,0)).add k (3,0)) a=some h:=fun a h b=>by
   rw[Own.lT _ (fun c=>by subst c;rw[Own.lT _ N,L]at b;cases b)];exact b
  refine⟨(f.add e (0,0)).add k (3,0),G,E,v,u _ _ (Own.add_eq _ _ _),x,lU.nil _ _ _ _ _ _,fun d j m=>by simp at m,(i.row.relabel q).relabel u,fun A B y=>((i.obj A B y).relabel q).relabel u,⟨z,fun a b=>?_⟩,fun a b=>?_,F,fun a d b=>absurd (Own.F9 Zl (Own.F9 Zl b)) (D a d)⟩
  . rw[r]at b;cases b;exact Own.add_eq _ _ _
  . by_cases c:a=k
    . subst c;exact I
    . rw[Own.lT _ c]at b;exact H a b
theorem BU(w:World)(l:jh)(p:hZ)(aS:jg w l p)(lk:Bool)(s:St){cs:List Value}(hs:jQ w (· <l.O) s cs)(hv:Cq p s=true):Calls prog 30 #[some l.L,.bool lk,.agg cs.toArray] w fun b w'=>(∃mb au g,b=.returned (.pointer (some ⟨mb,0,none⟩))/\ji w' l p au w mb lk g/\g.st=s)/\Ext w w':=by
 obtain⟨a1,c1,a2,c2,a3,c3,rfl,x,h2,h3⟩:=hs.form;have hR:=vT.1 hv;clear hs hv;obtain⟨v,n,P,k,⟨t,u⟩⟩:=s;simp only at x h2 h3 |-;have eO:=x.form;have aJ:=h2.form;have eP:=h3.form;obtain⟨_,_,e1,fV,gp⟩:=eO;cases e1;obtain⟨_,_,e2,fZ,gq⟩:=aJ;cases e2;obtain⟨_,_,e3,gm,eH⟩:=eP;cases e3;have eD:=(mZ.1 hR.good.heap).1;obtain⟨U,Q⟩:=Ry ((w.alloc (.cells #[v,.slice a1 n.length c1,.slice a2 P.length c2,.slice a3 k.length c3,t,u] 39)).alloc (.cells #[some l.L,.bool lk,v,(),(),(),t,u] 85));have bR:Ext w U:=by rw[Q];exact kx
 have b5:hV U w 39 #[v,.slice a1 n.length c1,.slice a2 P.length c2,.slice a3 k.length c3,t,u]:=by rw[Q];exact(hV.new _ _ _).ext kx
 have b7:hV U (w+1) 85 #[some l.L,.bool lk,v,(),(),(),t,u]:=by rw[Q];exact hV.newAt _ _ Zl
 have gB:U.heap.size=w+2:=by rw[Q];simp
 have dZ:=aS.lt;have⟨HL,HR,bD,dn,dx,dR,H1,H2,H3⟩:=vL aS hR bR b5 b7 Q x h2 h3;clear aS hR bR b5 b7 Q x h2 h3;go_enter func30,ntmps30;go_wp2_with fail;rw[<-dR.o];refine(yA (· <l.O) P (H2.ext xh.stays bD) eD).mono ?_;rintro b w2 ⟨⟨vh,aO,I,rfl,cK,hO⟩,aa⟩;obtain⟨Y,Z,rfl⟩:=hO.row.form;have aR:=dn.ext aa;have aD:=dx.ext aa;obtain⟨w3,aM⟩:=Ry (w2.setCell ⟨w+1,4,none⟩ (Value.slice Y I.length Z));have af:Kp (·=w+1) w2 w3:=by rw[aM];exact(Kp.refl (·=w+1) w2).setCell (p:=⟨w+1,4,none⟩) (fun _=>rfl) _
 have bN:hV w3 (w+1) 85 #[some l.L,.bool lk,v,(),(Value.slice Y I.length Z),(),t,u]:=by rw[aM];exact aD.jk 4 _
 have bL:=aR.kp af Zm;obtain⟨yz,-,-,-,-,y4,-⟩:=aD.ca;have yf:=aD.frozen 4;obtain⟨xz,-,-,-,x3,-⟩:=aR.ca;have⟨bE,aC,bH,dS,dz,dw⟩:=nZ ((bD.trans aa).own af (fun a b=>Zm)) (hO.kp af (fun a c b=>Z0 ((hO.dom a c).1))) cK aM bN bL;have gI:w2.heap.size<=w3:=af.size;have gH:=aa.size;clear cK hO aa aR aD aM af bN bL;go_wp2_with fail;rw[<-dS.o];clear y4 yf yz x3 xz;refine(yw ((H3.ext oQ.stays bE).ints) eH).mono ?_;rintro b w4 ⟨⟨vo,rfl,ai⟩,ae⟩;obtain⟨ao,co,rfl⟩:=jB ai;have aF:=dz.ext ae;have bM:=dw.ext ae;obtain⟨J,aN⟩:=Ry (w4.setCell ⟨w+1,5,none⟩ (Value.slice ao k.length co));have aG:Kp (·=w+1) w4 J:=by rw[aN];exact(Kp.refl (·=w+1) w4).setCell (p:=⟨w+1,5,none⟩) (fun _=>rfl) _
 have bO:hV J (w+1) 85 #[some l.L,.bool lk,v,(),(Value.slice Y I.length Z),(Value.slice ao k.length co),t,u]:=by rw[aN];exact aF.jk 5 _
 have aT:=(bE.trans ae).own aG (fun a b=>Zm);have bY:rD J aO w (Value.slice Y I.length Z) I:=((aC.kp (D:=fun _=>False) ae fun _ _ fO=>fO).kp aG (fun a c b=>Z0 ((aC.dom a c).1))).mono Zm;have di:J.ownsRow w 3 1 (Value.slice ao k.length co) k.length (k.flatMap uJ):=lM (iZ ai aG (fun f hq c b=>Z0 (ai.lt f hq))) Zm;have o:∃av,ji J l p av w (w+1) lk ⟨v,[],I,k,⟨t,u⟩,(),(Value.slice Y I.length Z),(Value.slice ao k.length co)⟩:=by
  refine ji.start (HL.ext aT) dZ bY ?_ Zm bO di (fun a c=>?_) ?_
  . cases b:aO (w+1)with
    |none=>rfl
    |some fe=>have:=(aC.dom _ (by rw[b];simp)).1;omega
  . have x:=(ai.lt a c).1;refine⟨?_,Zm⟩;cases b:aO a with
    |none=>rfl
    |some fe=>have:=(aC.dom _ (by rw[b];simp)).2;omega
  . rw[bH.o];have:=HR.good.part 0;simpa using this
 obtain⟨yz,-,-,-,-,-,y5,-⟩:=aF.ca;have yf:=aF.frozen 5;obtain⟨xz,-,x1,-⟩:=bM.ca;have⟨HM,dD,dU⟩:=jy o aT aN;clear aF bM aN aG bO aT bY di o ai ae;go_wp2_with fail;rw[<-dU.o];clear y5 yf yz x1 xz;go_loopw [34] (fun ak wr=>∃(f:Nat) (au:Own) (g:Gh),f<=n.length/\ak=.int .i64 f/\Ext w wr/\ji wr l p au w (w+1) lk g/\g.st=⟨v,n.take f,P,k,⟨t,u⟩⟩) (fun ak _=>n.length - (intOf ak).toNat)
 case atStart=>
  obtain⟨av,o⟩:=HM.o;exact⟨0,av,_,R4 _,rfl,dD,o,by simp[Gh.st,bH.o]⟩
 case round=>
  obtain⟨f,au,g,hq,rfl,K,o,ag⟩:=hrel;by_cases eG:f<n.length
  . obtain⟨⟨⟨⟨C,D⟩,B⟩,T,j,y⟩,hx⟩:=nW n f eG;have aV:=jA.1 (HR.good.frames _ (R3 hx));have fP:=Zy aV;obtain⟨a,gM,cs,rfl,hI,⟨vl,vs,rfl,aH,aL⟩,-,hc⟩:=(H1.ext Ci.stays K).get hx;obtain⟨la,lc,rfl,eF,cB⟩:=aH.form;obtain⟨sa,sc,rfl,eX,dh⟩:=aL.form;simp only at aH aL eF cB eX dh hc;obtain⟨g0,g1,g2,g3,g4,g5⟩:=hc.six;have gz:=iY g0;obtain⟨w9,bC,L,b9⟩:=nu wr #[C,D,B,T,.slice la j.length lc,.slice sa y.length sc] 68;have gK:(w9:Nat)=wr+1:=by rw[bC];simp
    obtain⟨yz,y0,y1,y2,-⟩:=b9.ca;obtain⟨d,hm⟩:∃d,M.method p ⟨⟨C,D⟩,B⟩=d:=⟨_,rfl⟩;have aY:=lq w9 l p (o.ku.ext L) ⟨⟨C,D⟩,B⟩ aV.1;rw[hm]at aY;have cz:g.cs.length=f:=by
     have:=congrArg (fun s=>s.frames.length) ag;simpa [Gh.st,SX hq]using this
    have eB:∀a,g.vc.ownBlock=some a->a<wr.heap.size:=fun a b=>(o.calls.blk b).2;have⟨aB,HM,dI,dE,dA,dV,bG,bI,dO⟩:=vL aY hm (o.ext L) (K.trans L) b9 bC (aH.ext mP.stays L) (aL.ext mP.stays L) ag;have⟨HX,dG⟩:=je hx cz;have eY:=K.size;clear aV aH aL hc L b9 bC aY hm ag hx cz K o;go_wp2_with fail;rw[<-dV.o];clear g0 g1 g2 g3 g4 g5;refine aB.mono ?_;rintro b w6 ⟨⟨cs,aX,rfl⟩,G⟩;obtain⟨h,rfl⟩:=nI aX;obtain⟨z,aj⟩:=Ry (w6.alloc (.cells (mg d h).toArray 141));have F:Ext w6 z:=by rw[aj];exact kx
    have bK:hV z w6 141 (mg d h).toArray:=by rw[aj];exact hV.new _ _ _
    have gD:z.heap.size=w6+1:=by rw[aj];simp
    have bP:=dA.ext (G.trans F);have O:=dI.ext (G.trans F);have gJ:=G.size;obtain⟨va,vc,bu⟩:=O.calls.form;have bz:¬g.vc.ownBlock=some (w.heap.size+1):=fun b=>by have:=O.calls.role _ b;rw[O.role]at this;cases this
    have bA:∀a,wr.heap.size<=a->¬g.vc.ownBlock=some a:=fun a c b=>Z0 (eB a b)
    obtain⟨fQ,fT,gu,X⟩:=rA.ex (fun W'=>Kp (fun a=>g.vc.ownBlock=some a) z W') _ Kp.rr;have fK:=fun az=>(O.blk.kp (X.jm az) bz).c 3 (.slice va g.cs.length vc) (by rw[<-bu];rfl);obtain⟨-,fE,fF,fG,fH,fI,fJ,-⟩:=hV.lL fun az=>(bP.kp (X.jm az) (bA _ (R5 _)));have dW:(wr:Nat)<=w6:=Zm
    obtain⟨-,fo,fq,fu,fw,fA,fB,fC,fD,-⟩:=hV.lL fun az=>(bK.kp (X.jm az) (bA _ dW));have⟨E,aQ,dQ,aP,dC,dJ,dH,dN,bJ⟩:=vL X bu bz O (dE.trans (G.trans F)) (jL.ext jd.stays F aX) (bG.ext mP.stays (G.trans F)) (bI.ext mP.stays (G.trans F)) aj;clear X bu bz bA O aX aj bK bP F G aB y0 y1 y2 yz bG bI;simp only[mg];unfold mg at bJ;go_wp2_with fail;rw[<-bJ.o];refine kD E 23 [([0,1,2,3,4,5,6,7,8,9,10,11,13,14,16,17],12),([],15),([18,19],20),([],21),([],22)] [] ?_ ?_
    . exact jf
    refine lS ?_;intro r i;go_wp2_with fail;refine(tZ ((dH.ext mP.stays jf).vals) cB).mono ?_;rintro b fM ⟨⟨gN,rfl,aZ⟩,bT⟩;obtain⟨V,W,rfl⟩:=jB aZ;have m:=Zy (((Kp.refl _ z).drew:Ext z _).trans bT);have dL:Zz (fM.ownsRow z 37 2 (Value.slice V j.length W) j.length (j.flatMap jW)):=Zy aZ;clear bT aZ;go_wp2_with fail;refine kk E i m.any ?_;clear i r;refine lF rfl fun r i=>?_;go_wp2_with fail;refine(tZ ((dN.ext mP.stays m).vals) dh).mono ?_;rintro b e ⟨⟨gP,rfl,bf⟩,bU⟩;obtain⟨ax,ay,rfl⟩:=jB bf;have⟨q,dM⟩:=je bU bf;clear bU bf;go_wp2_with fail;refine kk E i (m.trans q).any ?_;clear i r;refine lS ?_;intro r i;go_wp2_with fail;refine kk E i ((m.trans q).alloc _).any ?_;clear i r;refine lF rfl fun r i=>?_;go_wp2_with fail;refine kk E i (((m.trans q).alloc _).alloc _).any ?_;clear i r;refine lF rfl fun r i=>?_;obtain⟨A,R⟩:=Ry ((e.alloc (.cells #[C,D,B,.string d.name,.slice h.a1 d.args.length h.c1,.int .i64 d.ret.kind,.string d.ret.name,.int .i64 d.locals,.int .i64 d.stack,.slice h.a2 d.code.length h.c2,.slice h.a3 d.maps.length h.c3,T,(Value.slice V j.length W),(Value.slice ax y.length ay),.int .i64 d.stack] 171)).alloc (.cells #[some e] 166));rw[<-R];have H:Ext e A:=by rw[R];exact kx
    have bB:hV A e 171 #[C,D,B,.string d.name,.slice h.a1 d.args.length h.c1,.int .i64 d.ret.kind,.string d.ret.name,.int .i64 d.locals,.int .i64 d.stack,.slice h.a2 d.code.length h.c2,.slice h.a3 d.maps.length h.c3,T,(Value.slice V j.length W),(Value.slice ax y.length ay),.int .i64 d.stack]:=by rw[R];exact(hV.newAt (W:=e) (g:=e.heap.size) _ _ rfl).ext kx
    have bS:hH A (e+1) 0 [some e]:=by rw[R];exact hH.ny _ _ Zl
    have gL:A.heap.size=e+2:=by rw[R];simp
    have gy:(w:Nat)<=wr:=eY;have gF:=m.size;have gG:=q.size;obtain⟨aO,df,bZ,cO,ed,eQ⟩:=Own.more aP.dom dL m.size Zm (5,g.cs.length);obtain⟨S,bg,aU,cZ,ek,eT⟩:=Own.more bZ dM q.size Zm (6,g.cs.length);have aJ:∀a,e.heap.size<=a->S a=none:=fun a c=>by
     cases b:S a with
     |none=>rfl
     |some f=>have:=(aU a (by rw[b];simp)).2;omega
    have aK:∀a f,S a=some f->(S.add e (4,g.cs.length)) a=some f:=fun a f c=>by
     rw[Own.lT _ (fun b=>by rw[b,aJ _ (R5 _)]at c;cases c)];exact c
    have cu:∀a,S.add e (4,g.cs.length) a≠none->w.heap.size<=a/\a<A.heap.size:=fun a c=>by
     by_cases b:a=e.heap.size
     . subst b;omega
     . rw[Own.lT _ b]at c;have:=aU a c;omega
    have bV := (aP.ext ((m.trans q).trans H)).relabel (fun a f c => aK _ _ (bg _ _ (df _ _ c))) cu fun a ak c => by
     by_cases b:a=e.heap.size
     . rw[b];exact⟨_,bB.c 0 _ rfl⟩
     . rw[Own.lT _ b]at c;rcases eT _ _ c with c|c
       . rcases eQ _ _ c with c|c
         . obtain⟨eZ,hk⟩:=aP.xI a ak c;exact⟨eZ,((m.trans q).trans H).jb hk⟩
         . cases c
       . cases c
    have bQ:qd A l p (S.add e (4,g.cs.length)) w g.cs.length (⟨⟨⟨⟨C,D⟩,B⟩,T,j,y⟩,e.heap.size,h,(Value.slice V j.length W),(Value.slice ax y.length ay)⟩:GC):=by
     refine⟨?_,Own.add_eq _ _ _,by show w.heap.size<=e;omega,?_,((cO.ext (q.o.trans H)).relabel bg).relabel aK,(cZ.ext H).relabel aK⟩
     . unfold AB;simp only[HM.o];exact bB
     . simp only[HM.o];exact jL.ext jd.stays ((m.trans q).trans H) dJ
    have⟨aA,dB,bF⟩:=jy bV bQ ((m.trans q).trans H);have fU:g.cs.length<8:=by have x:n.length<=8:=HR.good.nf;have h2:=dG.o;omega
    clear R bB bV bQ df bZ cO ed bg aU cZ ek aJ aK cu H;refine jo EP rfl (.tmp 46) (.tmp 63) rfl w (.slice va g.cs.length vc) g.cs.length (g.cs.flatMap uR) rfl (by rw[<-aQ.o];exact aA.calls.row) (e+1) 1 [some e] rfl rfl bS Zt Zm Zm ?_;intro gg c9 dm bX N aW;change r _ _;rw[<-aQ.o]at N aW;refine kk E i (bF.any.trans N) ?_;clear i r;have aI:=aA.blk.kp N dQ;have q3:=aI.c 3 (.slice va g.cs.length vc) (by rw[<-aQ.o];rfl);have f3:=aI.frozen 3;have qz:=aI.lt;have bq:({g with cs:=g.cs++[(⟨⟨⟨⟨C,D⟩,B⟩,T,j,y⟩,e.heap.size,h,(Value.slice V j.length W),(Value.slice ax y.length ay)⟩:GC)],vc:=.slice (some ⟨gg,0,none⟩) (g.cs.length+1) c9}:Gh).st=⟨v,n.take (f+1),P,k,⟨t,u⟩⟩:=by
     have x:=dO.o;simp only[Gh.st,St.mk.injEq]at x |-;obtain⟨e1,e2,e3,e4,e5⟩:=x;refine⟨e1,?_,e3,e4,e5⟩;rw[RI,e2,RL,HX.o];rfl
    obtain⟨dY,av,eu,bW⟩:=aA.JK (⟨⟨⟨⟨C,D⟩,B⟩,T,j,y⟩,e.heap.size,h,(Value.slice V j.length W),(Value.slice ax y.length ay)⟩:GC) dB gg c9 bX N (by
     rcases aW with b|b
     . exact .inl b
     . right;omega) (by rw[bq];exact HR.good.part (f+1))
    have dX:Ext w (dm.setCell ⟨w+1,3,none⟩ (.slice (some ⟨gg,0,none⟩) (g.cs.length+1) c9)):=
     ((dC.trans bF).own N (fun a b=>(aA.calls.blk b).1)).own ((Kp.refl (·=w+1) dm).setCell (p:=⟨w+1,3,none⟩) (fun _=>rfl) _) (fun a b=>Zm)
    have⟨dF,dK,dP⟩:=jy dX bW bq;clear dY eu bW bq aI bX N aW bS E fK fE fF fG fH fI fJ fo fq fu fw fA fB fC fD;refine kC ?_;go_wp2_with fail;exact⟨⟨f+1,av,_,Zm,by go_num,dF.o,dK.o,dP.o⟩,by simp[intOf];omega⟩
  . have eU:f=n.length:=Zm
    have HF:Zz (g.st=⟨v,n,P,k,⟨t,u⟩⟩):=Zy (by rw[ag,eU,RH]);have⟨HE,aB⟩:=je K o;clear K o ag;go_wp2_with fail;go_ret;exact⟨⟨_,au,g,rfl,aB,HF⟩,HE⟩
theorem CX:Elem 34 68 6:=kN (z:=.agg #[.int .i64 0, "",.int .i64 0,.int .i64 0,(),()]) (bytes:=88) underlying34 Zo rfl Zn Zn
structure GF where
 f:Fr
 vl:Value
 vs:Value
def Ki(x:GF):List Value:=[.int .i64 x.f.of.of.keeper,.string x.f.of.of.name,.int .i64 x.f.of.at_,.int .i64 x.f.pc,x.vl,x.vs]
structure vF(w:World)(own:Own)(B:Nat)(v:Value)(fs:List GF):Prop where
 dom:∀b,own b≠none->B<=b/\b<w.heap.size
 row:lU w own B (8,0) 68 6 v fs.length (fs.flatMap Ki)
 loc:∀j x,fs[j]?=some x->lU w own B (9,j) 37 2 x.vl x.f.locals.length (x.f.locals.flatMap jW)
 kI:∀j x,fs[j]?=some x->lU w own B (10,j) 37 2 x.vs x.f.stack.length (x.f.stack.flatMap jW)
theorem vF.nil(w:World)(b:Nat):vF w (fun _=>none) b () []:=
 ⟨fun e a=>absurd rfl a,lU.nil _ _ _ _ _ _,fun c d a=>by simp at a,fun c d a=>by simp at a⟩
theorem vF.slice{w:World}{F:Own}{l:Nat}{v:Value}{d:List GF}(i:vF w F l v d){I:Nat->Prop}(hI:∀b,l<=b->b<w.heap.size->I b)(hl:d.length<=4294967296)(n:∀a∈d,a.f.locals.length<=4294967296/\a.f.stack.length<=4294967296):SliceOf 6 Ci w I v (d.map GF.f):=by
 have y:∀a∈d,SliceOf 2 mP w I a.vl a.f.locals/\SliceOf 2 mP w I a.vs a.f.stack:=fun a c=>by
  obtain⟨k,A,h⟩:=Tt c;have o:d[k]?=some a:=by rw[Rz A,h]
  exact⟨SliceOf.lJ jW (i.loc k a o).row rfl rfl (fun _ _=>rfl) (fun _ _=>rfl) (fun b e f=>hI b e f) (n a c).1,
   SliceOf.lJ jW (i.kI k a o).row rfl rfl (fun _ _=>rfl) (fun _ _=>rfl) (fun b e f=>hI b e f) (n a c).2⟩
 have D:SliceOf 6 (fun w I (a:GF) m=>(SliceOf 2 mP w I a.vl a.f.locals/\SliceOf 2 mP w I a.vs a.f.stack)/\m=Ki a) w I v d:=
  SliceOf.lJ Ki i.row.row rfl rfl (fun _ _=>rfl) (fun g C=>⟨y g C,rfl⟩) (fun b e f=>hI b e f) hl
 obtain⟨r,s,h,e,f,u⟩:=D;refine⟨r,s,by rw[h,Sn],by rw[Sn];exact e,by rw[Sn];exact f,fun q a c=>?_⟩;rw[Sr]at c;cases j:d[q]? with
 |none=>rw[j]at c;cases c
 |some g=>
  rw[j]at c;cases c;obtain⟨b,E,m,t,x,⟨p,rfl⟩,B,z⟩:=u q g j;exact⟨b,E,_,t,x,⟨g.vl,g.vs,rfl,p.1,p.2⟩,B,z⟩
theorem vF.ext{w k:World}{j:Own}{f:Nat}{v:Value}{h:List GF}(a:vF w j f v h)(b:Ext w k):vF k j f v h:=
 ⟨fun g i=>⟨(a.dom g i).1,Nv (a.dom g i).2 b.size⟩,a.row.ext b,fun d e c=>(a.loc d e c).ext b,fun d e c=>(a.kI d e c).ext b⟩
theorem vF.kp{D:Nat->Prop}{w l:World}{i:Own}{j:Nat}{v:Value}{k:List GF}(c:vF w i j v k)(d:Kp D w l)(e:∀a,i a≠none->¬D a):vF l i j v k:=
 ⟨fun a b=>⟨(c.dom a b).1,Nv (c.dom a b).2 d.size⟩,c.row.keep d (mV.refl _ _) fun a b _=>e a (by rw[b];simp),
  fun g h f=>(c.loc g h f).keep d (mV.refl _ _) fun a b _=>e a (by rw[b];simp),fun g h f=>(c.kI g h f).keep d (mV.refl _ _) fun a b _=>e a (by rw[b];simp)⟩
structure QG(w:World)(p:hZ)(own:Own)(B i:Nat)(c:GC):Prop where
 blk:hV w c.cb 171 (AB p c)
 low:B<=c.cb
 loc:lU w own B (5,i) 37 2 c.vl c.f.locals.length (c.f.locals.flatMap jW)
 kI:lU w own B (6,i) 37 2 c.vs c.f.stack.length (c.f.stack.flatMap jW)
structure yT(w:World)(l:jh)(p:hZ)(own:Own)(B mb:Nat)(lk:Bool)(g:Gh):Prop where
 ok:kU p=true
 blk:hV w mb 85 (xP l lk g)
 low:B<=mb
 calls:lU w own B (1,0) 166 1 g.vc g.cs.length (g.cs.flatMap uR)
 call:∀i c,g.cs[i]?=some c->QG w p own B i c
 heap:lU w own B (2,0) 79 3 g.vh g.os.length (g.os.flatMap pR)
 obj:∀j o,g.os[j]?=some o->lU w own B (7,j) 37 2 o.v o.o.fields.length (o.o.fields.flatMap jW)
 outs:lU w own B (3,0) 3 1 g.vo g.outs.length (g.outs.flatMap uJ)
 good:M.Good p g.st
theorem ji.run{w:World}{l:jh}{p:hZ}{h:Own}{e f:Nat}{lk:Bool}{g:Gh}(a:ji w l p h e f lk g):yT w l p h e f lk g:=
 ⟨a.ku.ok,a.blk,a.low,a.calls,fun d b c=>⟨(a.call d b c).blk,(a.call d b c).low,(a.call d b c).loc,(a.call d b c).kI⟩,a.heap,a.obj,a.outs,a.good⟩
theorem yT.kp{D:Nat->Prop}{w m:World}{l:jh}{p:hZ}{i:Own}{c o:Nat}{lk:Bool}{g:Gh}(a:yT w l p i c o lk g)(k:Kp D w m)(j:∀h,c<=h->¬D h):yT m l p i c o lk g:=by
 have b:∀{r:Nat×Nat} {n b q:Nat} {s:Value} {t:List Value},lU w i c r n b s q t->lU m i c r n b s q t:=fun a=>a.keep k (mV.refl _ _) fun h _ u=>j h u;exact⟨a.ok,a.blk.kp k (j _ a.low),a.low,b a.calls,fun f d e=>⟨(a.call f d e).blk.kp k (j _ (a.call f d e).low),(a.call f d e).low,b (a.call f d e).loc,b (a.call f d e).kI⟩,b a.heap,fun x y v=>b (a.obj x y v),b a.outs,a.good⟩
theorem yT.ext{w d:World}{l:jh}{p:hZ}{c:Own}{a b:Nat}{lk:Bool}{g:Gh}(e:yT w l p c a b lk g)(f:Ext w d):yT d l p c a b lk g:=e.kp f fun _ _ h=>h
theorem yT.things{w:World}{l:jh}{p:hZ}{I:Own}{q G:Nat}{lk:Bool}{g:Gh}(e:yT w l p I q G lk g):SliceOf 3 xh w (fun _=>True) g.vh g.st.heap:=by
 have k:=mZ.1 e.good.heap;have B:∀a∈g.st.heap,a.fields.length<=4294967296:=fun a b=>by
  rw[(k.2 a b).2.1];have d:=rP e.ok (chain p a.of).reverse;have f:=vI p a.of;unfold layout;rw[RV (k.2 a b).1];rw[Tu]at d;omega
 have x:∀a∈g.os,SliceOf 2 mP w (fun _=>True) a.v a.o.fields:=fun a b=>by
  obtain⟨F,z,j⟩:=Tt b;exact SliceOf.lJ jW (e.obj F a (by rw[Rz z,j])).row rfl rfl (fun _ _=>rfl) (fun _ _=>rfl) (fun i d f=>trivial) (B a.o (by simp only[Gh.st];exact Sd b))
 have A:g.os.length<=4294967296:=by
  have:=k.1;simp only[Gh.st,Sn]at this;omega
 have D:SliceOf 3 (fun w r (h:GO) n=>SliceOf 2 mP w r h.v h.o.fields/\n=pR h) w (fun _=>True) g.vh g.os:=
  SliceOf.lJ pR e.heap.row rfl rfl (fun _ _=>rfl) (fun a b=>⟨x a b,rfl⟩) (fun i d f=>trivial) A
 obtain⟨s,t,j,d,f,v⟩:=D;refine⟨s,t,by rw[j];simp[Gh.st],by simpa [Gh.st]using d,by simpa [Gh.st]using f,fun o h c=>?_⟩;simp only[Gh.st]at c;rw[Sr]at c;cases m:g.os[o]? with
 |none=>rw[m]at c;cases c
 |some a=>
  rw[m]at c;cases c;obtain⟨i,H,n,u,J,⟨E,rfl⟩,C,y⟩:=v o a m;exact⟨i,H,_,u,trivial,⟨a.v,rfl,E⟩,C,y⟩
theorem Kp.oL{D:Nat->Prop}{w:World}{b:Nat}(a:D b)(c d e f g h:Value):Kp D w ((((((w.setCell b c).setCell (b,1) d).setCell (b,2) e).setCell (b,3) f).setCell (b,4) g).setCell (b,5) h):=
 (Kp.uG a c d e).trans ((((Kp.refl D _).setCell (p:=⟨b,3,none⟩) (fun _=>a) f).setCell (p:=⟨b,4,none⟩) (fun _=>a) g).setCell (p:=⟨b,5,none⟩) (fun _=>a) h)
theorem hV.oL{w:World}{b:Nat}{t:TypeId}{u0 u1 u2 u3 u4 u5:Value}(h:hV w b t #[u0,u1,u2,u3,u4,u5])(a c d e f g:Value):hV ((((((w.setCell b a).setCell (b,1) c).setCell (b,2) d).setCell (b,3) e).setCell (b,4) f).setCell (b,5) g) b t #[a,c,d,e,f,g]:=
 (((((h.jk 0 a).jk 1 c).jk 2 d).jk 3 e).jk 4 f).jk 5 g
theorem BN(w:World)(l:jh)(p:hZ)(eQ:Own)(dE t:Nat)(lk:Bool)(g:Gh)(R:yT w l p eQ dE t lk g):Calls prog 32 #[some t] w fun b w'=>(∃cs,b=.returned (.agg cs.toArray)/\jQ w' (fun a=>w.heap.size<=a) g.st cs)/\Ext w w':=by
 obtain⟨E,bG,aZ,b2⟩:=nu w #[.int .i64 0,(),(),(),.int .i64 0,.int .i64 0] 39;have eF:E.heap.size=w.heap.size+1:=by rw[bG];simp
 obtain⟨ca,cc,dz⟩:=R.calls.form;obtain⟨ha,hc,bE⟩:=R.heap.form;obtain⟨oa,oc,r⟩:=R.outs.form;have fB:=R.blk.lt;have ay:=R.ext aZ;obtain⟨dW,dX,eu,A⟩:=kY E;have r2:=fun v=>(ay.blk.ext (A.jm v)).c 2 g.status rfl;have r4:=fun v=>(ay.blk.ext (A.jm v)).c 4 (.slice ha g.os.length hc) (by rw[<-bE];rfl);have r5:=fun v=>(ay.blk.ext (A.jm v)).c 5 (.slice oa g.outs.length oc) (by rw[<-r];rfl);obtain⟨-,-,-,-,-,-,-,r6,r7,-⟩:=hV.lL fun v=>(ay.blk.ext (A.jm v));have⟨m,F,au,dG,dJ,bN,bO,aT,dV⟩:=vL A R ay b2 aZ dz bE r bG;clear A R ay b2 aZ dz bE r bG;go_enter func32,ntmps32;go_wp2_with fail;rw[<-dV.o];rename_i av J;have dh:=(mZ.1 F.o.good.heap).1;have fC:g.outs.length<=40:=F.o.good.outs;have fq:g.cs.length<=8:=by have:=F.o.good.nf;simpa [Gh.st]using this
 have fo : ∀ a, g.vc.ownBlock = some a -> a < w.heap.size := fun a b => (F.o.calls.blk b).2; have dD : ∀ (B o j : Nat) (n i : Option Addr) (N : Own) (h : List GO) (x : World), Ext E x -> h.map GO.o = g.st.heap -> rD x N E.heap.size (.slice n h.length o) h →
     x.ownsRow E.heap.size 3 1 (.slice i g.outs.length j) g.outs.length (g.outs.flatMap uJ)->hV x B 39 #[g.status,(),.slice n h.length o,.slice i g.outs.length j,g.back.kind,g.back.n]->E.heap.size<=B->N B=none->(Value.slice i g.outs.length j).ownBlock≠some B→
     av {tmps:=#[.pointer (some ⟨t,0,none⟩),undef,.pointer (some ⟨w.heap.size,0,none⟩),.pointer (some ⟨B,0,none⟩),undef,undef,.pointer (some ⟨t,0,none⟩),.pointer (some ⟨t,0,none⟩),.pointer (some ⟨t,2,none⟩),.int .i64 g.status,.pointer (some ⟨t,0,none⟩),.pointer (some ⟨t,0,none⟩),.pointer (some ⟨t,4,none⟩),.slice ha g.os.length hc,.slice n h.length o,.pointer (some ⟨t,0,none⟩),.pointer (some ⟨t,0,none⟩),.pointer (some ⟨t,5,none⟩),.slice oa g.outs.length oc,.slice i g.outs.length j,.pointer (some ⟨t,0,none⟩),.pointer (some ⟨t,0,none⟩),.pointer (some ⟨t,6,none⟩),.agg #[g.back.kind,g.back.n],.agg #[g.status,(),.slice n h.length o,.slice i g.outs.length j,g.back.kind,g.back.n],undef,undef,undef,undef,undef,undef,undef,undef,undef,undef,undef,undef,undef,undef,undef,undef,undef,undef,undef,undef,undef,undef,undef,undef,undef,undef,undef,undef,undef,undef,undef,undef,undef,undef,undef,undef],defers:=[]} x:=by
  intro B o j n i N h x aF ai O r aY eZ cZ df;refine J _ _ ?_;clear J m r2 r4 r5 r6 r7;have m3:=(au.o.ext aF).blk.c 3 (.slice ca g.cs.length cc) (by rw[<-bN.o];rfl);have mz:=(au.o.ext aF).blk.lt;have⟨bM,aa,H,I,dH,dP,dQ⟩:=qh aF ai O r aY cZ df;have fF:=aF.size;have bX:=aY.lt;clear aF ai O r aY cZ df;go_wp2_with fail;clear m3 mz;go_loopw [30] (fun bI wr=>∃(K:Nat) (bK:Own) (e:List GF) (vf:Value),K<=g.cs.length/\bI=.int .i64 K/\Kp (·=B) x wr/\hV wr B 39 #[g.status,vf,.slice n h.length o,.slice i g.outs.length j,g.back.kind,g.back.n]/\vF wr bK x.heap.size vf e/\Zz (e.map GF.f=(g.cs.map GC.f).take K)) (fun bI _=>g.cs.length - (intOf bI).toNat)
  case atStart=>exact⟨0,_,[],(),R4 _,rfl,Kp.rr,dH.o,vF.nil _ _,Zy Zl⟩
  case round =>
   obtain⟨K,bK,e,vf,hq,rfl,af,hB,hF,aI⟩:=hrel;obtain⟨va,vc,rfl⟩:=hF.row.form;have bq:e.length=K:=by
    have:=congrArg List.length aI.o;simpa [SX hq]using this
   have bg:=(dJ.o.trans bM.o).own af (fun a b=>by omega);have eG:=af.size;by_cases ed:K<g.cs.length
   . obtain⟨d,az⟩:=nW g.cs K ed;have hM:=F.o.ext bg;have S:=hM.call K d az;have aN:=hM.calls.row;rw[bN.o]at aN;obtain⟨gb,eY,b,-,fw,-⟩:=jS aN Zm;cases b;have g0:=(lK (enc:=uR) (k:=1) (fun _=>rfl) aN az).one;rw[SC]at g0;obtain⟨la,lc,aO⟩:=S.loc.form;obtain⟨sa,sc,bF⟩:=S.kI.form;have fe:=(F.o.call K d az).blk.lt;have ek:x.heap.size<=wr.heap.size:=eG;have aB:∀a,a<x.heap.size->¬(Value.slice va e.length vc).ownBlock=some a:=fun a k b=>by have:=(hF.row.blk b).1;omega
     obtain⟨dW,dX,eu,A⟩:=rA.ex (fun W'=>Kp (fun a=>(Value.slice va e.length vc).ownBlock=some a) wr W') _ Kp.rr;have eT:=fun v=>(hB.kp (A.jm v) (aB _ bX)).c 1 (.slice va e.length vc) rfl;have bn:d.cb<x.heap.size:=by omega
     obtain⟨-,k0,k1,k2,-,-,-,-,-,-,-,-,eH,-⟩:=hV.lL fun v=>(S.blk.kp (A.jm v) (aB _ bn));have eO:=fun v=>(S.blk.kp (A.jm v) (aB _ bn)).c 12 (.slice la d.f.locals.length lc) (by rw[<-aO];rfl);have eP:=fun v=>(S.blk.kp (A.jm v) (aB _ bn)).c 13 (.slice sa d.f.stack.length sc) (by rw[<-bF];rfl);have ag:=jA.1 (F.o.good.frames d.f (by simp only[Gh.st];exact Sd (R3 az)));have aA:=tu (nD F.o.ok ag.1).1;have fA:d.f.locals.length<=1000:=by have:=aA.locals;have:=ag.2.2.2.1;omega
     have fE:d.f.stack.length<=1000:=by have:=aA.stack;have:=ag.2.2.2.2.1;omega
     have eU:Zz (Flat wr 2 (.slice la d.f.locals.length lc) d.f.locals.length (d.f.locals.flatMap jW)):=Zy (by rw[<-aO];exact pX S.loc.row (oH wH _));have dN:Zz (SliceOf 2 mP wr (fun _=>True) (.slice sa d.f.stack.length sc) d.f.stack):=Zy (by rw[<-bF];exact SliceOf.lJ jW S.kI.row rfl rfl (fun _ _=>rfl) (fun _ _=>rfl) (fun a h1 h2=>trivial) Zm);have dM:Zz (SliceOf 2 mP wr (fun _=>True) (.slice la d.f.locals.length lc) d.f.locals):=Zy (by rw[<-aO];exact SliceOf.lJ jW S.loc.row rfl rfl (fun _ _=>rfl) (fun _ _=>rfl) (fun a h1 h2=>trivial) Zm);have⟨m,dI,dU,HB,HF,dO,eX⟩:=qh A az aB hB hF af bq;have fu:(e.length:Int)=K:=by omega
     clear A az aB hB hF af bq aO bF S hM bg ag aA aN;go_wp2_with fail;clear g0;refine kD m 24 [([0,1,2,3,4,5,6,7,8,9,10,11,12,13,15,16,17,18,19],14),([],20),([21],22),([],23)] [] ?_ ?_
     . exact jf
     refine lS ?_;intro f c;go_wp2_with fail;refine(tZ ((dM.o.ext mP.stays jf).vals) Zm).mono ?_;rintro b Z ⟨⟨v6,rfl,bB⟩,ae⟩;obtain⟨x6,y6,rfl⟩:=jB bB;have q:=Zy (((Kp.refl _ wr).drew:Ext wr _).trans ae);have dR:Zz (Z.ownsRow wr.heap.size 37 2 (.slice x6 d.f.locals.length y6) d.f.locals.length (d.f.locals.flatMap jW)):=Zy bB;clear ae bB;go_wp2_with fail;refine kk m c q.o.any ?_;clear c f;refine lF rfl fun f c=>?_;go_wp2_with fail;refine(tZ ((dN.o.ext mP.stays q.o).vals) Zm).mono ?_;rintro b w7 ⟨⟨v7,rfl,bC⟩,bR⟩;obtain⟨x7,y7,rfl⟩:=jB bC;have⟨Q,dS⟩:=je bR bC;clear bR bC;go_wp2_with fail;refine kk m c (q.o.trans Q.o).any ?_;clear c f;refine lS ?_;intro f c;go_wp2_with fail;refine kk m c ((q.o.trans Q.o).alloc _).any ?_;clear c f;refine lF rfl fun f c=>?_;have dC:=q.o.size;have fG:=Q.o.size;obtain⟨fH,dx,bY,dm,dY,-⟩:=Own.more HF.o.dom dR.o q.o.size ek (9,e.length);obtain⟨bL,bD,bZ,dn,dZ,-⟩:=Own.more bY dS.o Q.o.size Zm (10,e.length);have aK:=HF.o.ext (q.o.trans Q.o);have aM:∀a aC,bK a=some aC->bL a=some aC:=fun a aC R=>bD _ _ (dx _ _ R);have aj:=aK.row.relabel aM;have bf:Ext w7 (w7.alloc (.cells #[d.f.of.of.keeper,d.f.of.of.name,d.f.of.at_,d.f.pc,.slice x6 d.f.locals.length y6,.slice x7 d.f.stack.length y7] 68)):=kx;refine jo CX rfl (.tmp 35) (.tmp 56) rfl x.heap.size (.slice va e.length vc) e.length (e.flatMap Ki) rfl ((aj.ext bf).row) w7.heap.size 1 (Ki (⟨d.f,.slice x6 d.f.locals.length y6,.slice x7 d.f.stack.length y7⟩:GF)) rfl rfl (hH.ny _ _ rfl) (by simp[Ki,Value.oneCell']) Zm Zr ?_;intro g9 c9 z bW bU cB;change f _ _;have U:=bf.any.trans bU;refine kk m c ((q.o.trans Q.o).any.trans U) ?_;clear c f;obtain⟨dw,aH,cu,eD⟩:=lU.app aj bZ bW U (cB.imp id fun b=>by simp at b;omega);have bA:vF z (bL.add g9 (8,0)) x.heap.size (g9,e.length+1,c9) (e++[(⟨d.f,.slice x6 d.f.locals.length y6,.slice x7 d.f.stack.length y7⟩:GF)]):=by
      refine⟨cu,by simpa using dw,fun aP bJ D=>?_,fun aP bJ D=>?_⟩
      all_goals
       rcases Si aP e.length with hj|hj|hj
      . rw[RY hj]at D;exact aj.beside ((aK.loc aP bJ D).relabel aM) U aH Zl
      . subst hj;simp at D;subst D;exact aj.beside ((dm.ext Q.o).relabel bD) U aH Zl
      . rw[Sz Zr]at D;cases D
      . rw[RY hj]at D;exact aj.beside ((aK.kI aP bJ D).relabel aM) U aH Zl
      . subst hj;simp at D;subst D;exact aj.beside dn U aH Zl
      . rw[Sz Zr]at D;cases D
     have bV:=(dO.o.trans (q.o.trans Q.o).any).own U (fun a b=>(aj.blk b).1);have aJ:=(HB.o.ext (q.o.trans Q.o)).kp U (dU.o _ bX);obtain⟨qz,-,q1,-⟩:=aJ.ca;have f1:=aJ.frozen 1;obtain⟨L,W⟩:=Ry (z.setCell (B,1) (g9,e.length+1,c9));have T:Kp (·=B) z L:=by rw[W];exact(Kp.refl (·=B) z).setCell (p:=⟨B,1,none⟩) (fun _=>rfl) _
     have aD:hV L B 39 #[g.status,(g9,e.length+1,c9),.slice n h.length o,.slice i g.outs.length j,g.back.kind,g.back.n]:=by rw[W];exact aJ.jk 1 _
     have bT:=bA.kp T (fun a k b=>by have:=(bA.dom a k).1;omega);have⟨aS,aU⟩:=je (RJ (bV.trans T) (RJ aD bT)) W;clear dx bY dm dY bD bZ dn dZ aK aM aj bf bW bU cB U dw aH cu eD bA bV aJ W T aD bT m eT k0 k1 k2 eH eO eP;refine kC ?_;go_wp2_with fail;rw[<-aU.o];refine⟨⟨K+1,bL.add g9 (8,0),e++[(⟨d.f,.slice x6 d.f.locals.length y6,.slice x7 d.f.stack.length y7⟩:GF)],(g9,e.length+1,c9),by omega,by go_num,aS.o.1,aS.o.2.1,aS.o.2.2,Zy ?_⟩,by simp[intOf];omega⟩;rw[RI,aI.o,RL,Sr,dI.o];rfl
   . have di:K=g.cs.length:=by omega
     have bu:e.map GF.f=g.st.frames:=by
      rw[aI.o,di];exact SY Zl
     obtain⟨yz,y0,y1,y2,y3,y4,y5,-⟩:=hB.ca;have aL:=(dG.o.ext bM.o).kp af Zm;obtain⟨zz,z0,z1,z2,z3,z4,z5,-⟩:=aL.ca;obtain⟨fI,fJ,fK,fM,fO,fP,-⟩:=aL.fz;obtain⟨L,W⟩:=Ry ((((((wr.setCell w.heap.size g.status).setCell ⟨w.heap.size,1,none⟩ (.slice va e.length vc)).setCell ⟨w.heap.size,2,none⟩ (.slice n h.length o)).setCell ⟨w.heap.size,3,none⟩ (.slice i g.outs.length j)).setCell ⟨w.heap.size,4,none⟩ g.back.kind).setCell ⟨w.heap.size,5,none⟩ g.back.n);have T:Kp (·=w.heap.size) wr L:=by rw[W];exact Kp.oL (D:=(·=w.heap.size)) rfl _ _ _ _ _ _
     have aD:hV L w.heap.size 39 #[g.status,.slice va e.length vc,.slice n h.length o,.slice i g.outs.length j,g.back.kind,g.back.n]:=by rw[W];exact aL.oL _ _ _ _ _ _
     have bQ:=bg.own T (fun a b=>by omega);have bz:∀a,E.heap.size<=a->a<L.heap.size->w.heap.size<=a:=fun a k _=>by omega
     have cO:∀a,x.heap.size<=a->a<L.heap.size->w.heap.size<=a:=fun a k _=>by omega
     have hS:jQ L (fun a=>w.heap.size<=a) g.st [g.status,.slice va e.length vc,.slice n h.length o,.slice i g.outs.length j,g.back.kind,g.back.n]:=by
      have cz:=(hF.kp T (fun a k b=>by have:=(hF.dom a k).1;omega)).slice cO Zm (fun u hx=>by
       have bH:u.f∈g.st.frames:=by rw[<-bu];exact Sd hx
       have ag:=jA.1 (F.o.good.frames u.f bH);have aA:=tu (nD F.o.ok ag.1).1;have:=aA.locals;have:=ag.2.2.2.1;have:=aA.stack;have:=ag.2.2.2.2.1;omega)
      have fD:h.length=g.st.heap.length:=by rw[<-aa.o,Sn]
      have cK:=((H.o.kp af (fun a k b=>by subst b;exact k dP.o)).kp T (fun a k b=>by have:=(H.o.dom a k).1;omega)).slice bz Zm (fun u hx=>by
       have bH:u.o∈g.st.heap:=by rw[<-aa.o];exact Sd hx
       have hh:=(mZ.1 F.o.good.heap).2 u.o bH;rw[hh.2.1];have h1:=rP F.o.ok (chain p u.o.of).reverse;have h2:=vI p u.o.of;unfold layout;rw[RV hh.1];rw[Tu]at h1;omega)
      have eB:=iZ (iZ I.o af (fun a k _ b=>dQ.o (by rw[k,b]))) T (fun a k h1 b=>by omega);rw[bu]at cz;rw[aa.o]at cK;exact⟨_,_,_,rfl,cz,cK,SliceOf.lJ uJ eB rfl rfl (fun _ _=>rfl) (fun _ _=>rfl) bz (by show g.outs.length<=_;omega)⟩
     have⟨HS,dK,dF,aU⟩:=jV hS bQ aD W;clear hS bQ aD W T aL bz cO hF af hB bu aI di bq;go_wp2_with fail;rw[<-aU.o];refine DV (jw lG rfl w.heap.size rfl [g.status,.slice va e.length vc,.slice n h.length o,.slice i g.outs.length j,g.back.kind,g.back.n] (hH.lV dF.o) rfl) rfl ?_;exact⟨⟨_,rfl,HS.o⟩,dK.o⟩
 have aX:=Zy dD;clear dD J;refine qA m 20 (.two [0,1,2,3,4,5,6,7,9,10,11,12,14,15,16,17] 8 19 (.two [] 13 19 (.one [18] 19 (.fin [])) (.one [] 13 (.fin [18]))) (.one [] 8 (.one [] 13 (.fin [18])))) ?_ ?_
 . exact jf
 refine two [_,_,_,_,_,_,_,_,_,_,_,_,_,_,_,_] rfl rfl rfl fun av J=>?_;(repeat (go_big_quiet_step (fail)));((refine Gf J (fun f c=>?_) fun f c=>?_)<;>clear J av)
 . go_wp2_with fail;refine(yA (fun _=>True) g.st.heap (by rw[<-bO.o];exact(au.o.ext jf).things) dh).mono ?_;rintro b y ⟨⟨v4,N,h,rfl,ai,O⟩,ax⟩;obtain⟨n,o,rfl⟩:=O.row.form;have⟨s,H,aa⟩:=jy (((Kp.refl _ E).drew:Ext E _).trans ax) O ai;have dA:=s.o.size;clear ax O ai;go_wp2_with fail;refine kk m c s.o ?_;clear c f;refine EG rfl rfl (fun f c=>?_) fun f c=>?_
   . go_wp2_with fail;refine(yw (by rw[<-aT.o];exact pX (au.o.ext s.o).outs.row (oH CF _)) Zm).mono ?_;rintro b P ⟨⟨v5,rfl,r⟩,C⟩;obtain⟨i,j,rfl⟩:=jB r;have⟨G,I⟩:=je C r;have dB:=C.size;clear C r;go_wp2_with fail;refine kk m c (s.o.trans G.o) ?_;clear c f;refine Cf ?_;intro f c;go_wp2_with fail;refine kk m c ((s.o.trans G.o).alloc _) ?_;clear c f;clear m r2 r4 r5 r6 r7;refine kM ?_;go_wp2_with fail;have bS:∀bP,Ext P (P.alloc bP):=fun bP=>jr _;refine aX.o P.heap.size o j n i N h _ ((s.o.trans G.o).alloc _) aa.o (H.o.kp (D:=fun _=>False) (G.o.trans (bS _)) fun _ _ u=>u) (lM (iZ (D:=fun _=>False) I.o (bS _) fun _ _ _ u=>u) dA) (hV.new _ _ _) Zm ?_ ?_
     . cases b:N P.heap.size with
       |none=>rfl
       |some aC=>have:=(H.o.dom _ (by rw[b];simp)).2;omega
     . intro b;have:=(I.o.lt _ b).2;omega
   . go_wp2_with fail;refine kk m c (s.o.alloc _) ?_;clear c f;obtain⟨Z,X,ae,b6⟩:=nu y #[.int .i64 0,(),(),(),.int .i64 0,.int .i64 0] 39;have⟨q,aQ,aV⟩:=jy ae b6 X;have dC:Z.heap.size=y.heap.size+1:=by rw[X];simp
     clear ae b6 X;refine jZ rfl fun f c=>?_;go_wp2_with fail;rw[<-aV.o];refine(yw (by rw[<-aT.o];exact pX (au.o.ext (s.o.trans q.o)).outs.row (oH CF _)) Zm).mono ?_;rintro b P ⟨⟨v5,rfl,r⟩,C⟩;obtain⟨i,j,rfl⟩:=jB r;have V:=aQ.o.ext C;obtain⟨yz,y0,y1,y2,y3,y4,y5,-⟩:=V.ca;obtain⟨f0,f1,f2,f3,f4,f5,-⟩:=V.fz;obtain⟨z,Y⟩:=Ry ((((((P.setCell y.heap.size g.status).setCell ⟨y.heap.size,1,none⟩ ()).setCell ⟨y.heap.size,2,none⟩ (.slice n h.length o)).setCell ⟨y.heap.size,3,none⟩ (.slice i g.outs.length j)).setCell ⟨y.heap.size,4,none⟩ g.back.kind).setCell ⟨y.heap.size,5,none⟩ g.back.n);have aG:Kp (·=y.heap.size) P z:=by rw[Y];exact Kp.oL (D:=(·=y.heap.size)) rfl _ _ _ _ _ _
     have b9:hV z y.heap.size 39 #[g.status,(),.slice n h.length o,.slice i g.outs.length j,g.back.kind,g.back.n]:=by rw[Y];exact V.oL _ _ _ _ _ _
     have⟨G,I,ak,aR,aW⟩:=mr C r aG b9 Y;have dB:=C.size;clear C r aG b9 Y V;go_wp2_with fail;refine kk m c ((s.o.trans q.o).trans G.o) ?_;clear c f;clear m r2 r4 r5 r6 r7;refine El [_] rfl fun av J=>?_;(repeat (go_big_quiet_step (fail)));refine qn J ?_;clear J av;go_wp2_with fail;rw[<-aW.o];refine aX.o y.heap.size o j n i N h _ (((s.o.trans q.o).trans G.o).own ak.o (fun a b=>by omega)) aa.o ((H.o.kp (D:=fun _=>False) (q.o.trans G.o) fun _ _ u=>u).kp ak.o (fun a k b=>by have:=(H.o.dom a k).2;omega)) (lM (iZ I.o ak.o fun a k h1 b=>by have:=(I.o.lt a k).1;omega) Zm) aR.o Zm ?_ ?_
     . cases b:N y.heap.size with
       |none=>rfl
       |some aC=>have:=(H.o.dom _ (by rw[b];simp)).2;omega
     . intro b;have:=(I.o.lt _ b).1;omega
 . go_wp2_with fail;refine kk m c (((Kp.refl _ E).drew).alloc _) ?_;clear c f;obtain⟨Z,X⟩:=Ry ((E.alloc (.cells #[.int .i64 0,(),(),(),.int .i64 0,.int .i64 0] 39)).drew);have ae:Ext E Z:=by rw[X];exact kx
   have b6:hV Z (w.heap.size+1) 39 #[.int .i64 0,(),(),(),.int .i64 0,.int .i64 0]:=by rw[X];exact(hV.newAt _ _ eF).ext jf
   have⟨q,aQ,aV⟩:=jy ae b6 X;have dC:Z.heap.size=E.heap.size+1:=by rw[X];simp
   clear ae b6 X;refine jZ rfl fun f c=>?_;go_wp2_with fail;rw[<-aV.o];refine(yA (fun _=>True) g.st.heap (by rw[<-bO.o];exact(au.o.ext q.o).things) dh).mono ?_;rintro b y ⟨⟨v4,N,h,rfl,ai,O⟩,ax⟩;obtain⟨n,o,rfl⟩:=O.row.form;have⟨s,dL,H,aa⟩:=jV (q.o.trans ax) ax O ai;have dA:=ax.size;clear ax O ai;go_wp2_with fail;refine kk m c s.o ?_;clear c f
   . refine jZ rfl fun f c=>?_;go_wp2_with fail;refine(yw (by rw[<-aT.o];exact pX (au.o.ext s.o).outs.row (oH CF _)) Zm).mono ?_;rintro b P ⟨⟨v5,rfl,r⟩,C⟩;obtain⟨i,j,rfl⟩:=jB r;have V:=(aQ.o.ext dL.o).ext C;obtain⟨yz,y0,y1,y2,y3,y4,y5,-⟩:=V.ca;obtain⟨f0,f1,f2,f3,f4,f5,-⟩:=V.fz;obtain⟨z,Y⟩:=Ry ((((((P.setCell ⟨w.heap.size+1,0,none⟩ g.status).setCell ⟨w.heap.size+1,1,none⟩ ()).setCell ⟨w.heap.size+1,2,none⟩ (.slice n h.length o)).setCell ⟨w.heap.size+1,3,none⟩ (.slice i g.outs.length j)).setCell ⟨w.heap.size+1,4,none⟩ g.back.kind).setCell ⟨w.heap.size+1,5,none⟩ g.back.n);have aG:Kp (·=w.heap.size+1) P z:=by rw[Y];exact Kp.oL (D:=(·=w.heap.size+1)) rfl _ _ _ _ _ _
     have b9:hV z (w.heap.size+1) 39 #[g.status,(),.slice n h.length o,.slice i g.outs.length j,g.back.kind,g.back.n]:=by rw[Y];exact V.oL _ _ _ _ _ _
     have⟨G,I,ak,aR,aW⟩:=mr C r aG b9 Y;have dB:=C.size;clear C r aG b9 Y V;go_wp2_with fail;refine kk m c (s.o.trans G.o) ?_;clear c f;clear m r2 r4 r5 r6 r7;refine El [_] rfl fun av J=>?_;(repeat (go_big_quiet_step (fail)));refine qn J ?_;clear J av;go_wp2_with fail;rw[<-aW.o];refine aX.o (w.heap.size+1) o j n i N h _ ((s.o.trans G.o).own ak.o (fun a b=>by omega)) aa.o (((H.o.kp (D:=fun _=>False) G.o fun _ _ u=>u).kp ak.o (fun a k b=>by have:=(H.o.dom a k).1;omega)).mono Zm) (lM (iZ I.o ak.o fun a k h1 b=>by have:=(I.o.lt a k).1;omega) Zm) aR.o Zm ?_ ?_
     . cases b:N (w.heap.size+1)with
       |none=>rfl
       |some aC=>have:=(H.o.dom _ (by rw[b];simp)).1;omega
     . intro b;have:=(I.o.lt _ b).1;omega
theorem Dy(w:World)(l:jh)(p:hZ)(d:Own)(b a:Nat)(lk:Bool)(g:Gh)(i:ji w l p d b a lk g):Calls prog 32 #[some a] w fun h e=>(∃c,h=.returned (.agg c.toArray)/\jQ e (fun f=>w<=f) g.st c)/\Ext w e:=BN w l p d b a lk g i.run
end Go.Proofs.YtlhlnddgfcmfkaaGreat
