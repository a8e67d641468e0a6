/- Walks. -/
import Derived.Test.YtlhgbjbkjalfjaaGreatTwCoreLo
import Derived.Test.YtlhgbjbkjalfjaaGreatTwCoreLp
import Derived.Test.YtlhgbjbkjalfjaaGreatTwCoreLk
set_option maxRecDepth 100000
set_option maxHeartbeats 4000000
set_option linter.all false
namespace Go.Proofs.YtlhgbjbkjalfjaaGreat
open Go Go.RowKit Tryz M
variable {b: Book}{lk: Bool}{g: Gh}{cs: List Value}{c e f j: Nat}{D I: Nat->Prop}{i k: Own}{r: Rc}{s: St}{v: Value}{w: World}{p: iZ}{l: jk}
theorem yO(I:Nat->Prop){v:Value}(f:List qG)(k:SliceOf 3 wC w I v f)(hl:f.length<=12):Calls prog 107 #[v] w fun i w'=>(∃v' s a,i=.returned v'/\a.map GO.o=f/\rG w' s w.heap.size v' a)/\Ext w w':=by
 obtain⟨aP,aQ,rfl,hn,aS⟩:=k.form;have az:=Zy k;clear k;go_enter func107,ntmps107;go_wp2;go_loopw [8,3] (fun S v3 wr=>∃(g:Nat) (s:Own) (a:List GO),g<=f.length/\S=.int .i64 g/\Ext w wr/\Zz (a.map GO.o=f.take g)/\rG wr s w.heap.size v3 a) (fun S _ _=>f.length - (intOf S).toNat)
 case atStart=>exact⟨0,_,[],SV _,rfl,Kp.rr,Zy Zl,rG.nil _ _⟩
 case round=>
  obtain⟨g,s,a,hq,rfl,m,H,e⟩:=hrel;obtain⟨E,F,rfl⟩:=e.row.form;have ah:a.length=g:=by
   have:=congrArg List.length H.o;simpa [U5 hq]using this
  by_cases aI:g<f.length
  . obtain⟨⟨⟨q,r⟩,c⟩,b⟩:=om f g aI;obtain⟨d,aY,cs,rfl,hI,⟨vf,rfl,O⟩,-,hc⟩:=(az.o.ext wC.stays m).get b;obtain⟨fa,fc,rfl,aT,aH⟩:=O.form;obtain⟨V,g1,g2⟩:=hc.three;have gz:=jc V;obtain⟨t,R,z,U⟩:=nu wr #[q,r,.slice fa c.length fc] 63;have aX:t.heap.size=wr.heap.size+1:=by rw[R];simp
    have ax:¬(Value.slice E a.length F).ownBlock=some wr.heap.size:=fun i=>by have:=(e.row.blk i).2;omega
    obtain⟨aO,aR,aU,J⟩:=qC.ex (fun W'=>Kp (fun d=>(Value.slice E a.length F).ownBlock=some d) t W') _ Kp.rr;obtain⟨-,r0,r1,r2,-⟩:=hZ.lC fun aM=>(U.kp (J.jv aM) ax);have⟨y,aF⟩:=jf J R;have B:Zz (rG t s w.heap.size (.slice E a.length F) a):=Zy ⟨fun d C=>⟨(e.dom d C).1,by have:=(e.dom d C).2;omega⟩,e.row.ext z,fun p A b=>(e.obj p A b).ext z,e.IY⟩;have⟨HF,aA,HX,aN⟩:=jU (O.ext mY.stays z) (m.trans z) b ah;have aW:=m.size;have aV:(a.length:Int)=g:=by omega
    clear m e z U R ax J O hc b ah;go_wp2_with fail;rw[<-aF.o];clear V g1 g2;refine jW y 9 [([0,1,2,3,4],5),([6],7),([],8)] [] ?_ ?_
    . exact jg
    refine lJ ?_;intro l j;go_wp2_with fail;refine(uq ((HF.o.ext mY.stays jg).vals) aH).mono ?_;rintro i G ⟨⟨v6,rfl,P⟩,W⟩;obtain⟨u,x,rfl⟩:=jA P;have h:=Zy (((Kp.refl _ t).drew:Ext t _).trans W);have aC:Zz (G.ownsRow t.heap.size 37 2 (Value.slice u c.length x) c.length (c.flatMap jY)):=Zy P;clear W P;go_wp2_with fail;refine kk y j h.o.any ?_;clear j l;refine lJ ?_;intro l j;go_wp2_with fail;refine kk y j (h.o.alloc _).any ?_;clear j l;refine kN rfl fun l j=>?_;obtain⟨ay,Q,aa,ak,aG,ai⟩:=Own.more B.o.dom aC.o h.o.size Zm (7,a.length);have o:=(B.o.row.ext h.o).relabel Q;have ag:=fun p A b=>((B.o.obj p A b).ext h.o).relabel Q;have L:Ext G (G.alloc (.cells #[q,r,(Value.slice u c.length x)] 63)):=kx;have aJ:∀aL∈qd (⟨⟨⟨q,r⟩,c⟩,(Value.slice u c.length x)⟩:GO),aL.oneCell'=true:=by
     simp[qd,Value.oneCell']
    refine jo Hy rfl (.tmp 12) (.tmp 19) rfl w.heap.size (.slice E a.length F) a.length (a.flatMap qd) rfl ((o.ext L).row) G.heap.size 1 (qd (⟨⟨⟨q,r⟩,c⟩,(Value.slice u c.length x)⟩:GO)) rfl rfl (hH.nL _ _ rfl) aJ Zm (by have:=h.o.size;simp;omega) ?_;intro K c9 w9 Z Y af;change l _ _;have n:=L.any.trans Y;refine kk y j (h.o.any.trans n) ?_;clear j l;obtain⟨au,N,ae,aj⟩:=l6.app o aa Z n (af.imp id fun i=>by simp at i;omega)
    have av : rG w9 (ay.add K (2, 0)) w.heap.size (.slice (some ⟨K, 0, none⟩) (a.length + 1) c9) (a ++ [(⟨⟨⟨q, r⟩, c⟩, (Value.slice u c.length x)⟩ : GO)]) := by
     refine⟨ae,by simpa using au,fun p A b=>?_,fun d T C=>?_⟩
     . rcases V3 p a.length with D|D|D
       . rw[Te D]at b;exact o.beside (ag p A b) n N Zl
       . subst D;simp at b;subst b;exact o.beside ak n N Zl
       . rw[U9 Zr]at b;cases b
     . rcases aj d T C with k|rfl
       . rcases ai d T k with k|rfl
         . exact B.o.IY d T k
         . exact .inr ⟨_,rfl⟩
       . exact .inl rfl
    have X:=(aA.o.trans h.o).own n (fun d i=>(o.blk i).1);have⟨aD,aB⟩:=jf av X;clear Q aa ak aG ai o ag L Z Y af n au N ae aj av X y r0 r1 r2;refine ku ?_;go_wp2_with fail;refine⟨⟨g+1,ay.add K (2,0),a++[(⟨⟨⟨q,r⟩,c⟩,(Value.slice u c.length x)⟩:GO)],by omega,by go_num,aB.o,Zy ?_,aD.o⟩,by simp[intOf];omega⟩;rw[TB,H.o,TQ,HX.o];rfl
  . have aK:g=f.length:=by omega
    have HR:Zz (a.map GO.o=f):=Zy (by rw[H.o,aK,TC]);have⟨HO,HE⟩:=jf e m;clear e m;go_wp2;go_ret;exact⟨⟨_,s,a,rfl,HR.o,HO.o⟩,HE.o⟩
theorem rG.mono{d: Nat}{j:List GO}(a:rG w k c v j)(b:d<=c):rG w k d v j:=
 ⟨fun e f=>⟨TL b (a.dom e f).1,(a.dom e f).2⟩,⟨lV a.row.row b,a.row.role⟩,fun h i g=>⟨lV (a.obj h i g).row b,(a.obj h i g).role⟩,a.IY⟩
theorem rG.kp{i: World}{e:Own}{h:List GO}(c:rG w e f v h)(d:Kp D w i)(g:∀a,e a≠none->¬D a):rG i e f v h:=
 ⟨fun a b=>⟨(c.dom a b).1,Tx (c.dom a b).2 d.size⟩,c.row.keep d (nA.refl _ _) fun a b _=>g a (by rw[b];simp),fun k l j=>(c.obj k l j).keep d (nA.refl _ _) fun a b _=>g a (by rw[b];simp),c.IY⟩
theorem M.Good.part(a:M.Good p s)(n:Nat):M.Good p {s with frames:=s.frames.take n}:=
 ⟨a.heap,fun b c=>a.frames b (Uv c),by have:=a.nf;simp;omega,a.outs,a.sH,a.back⟩
theorem jm.start{f:Own}{g: Nat}{st:Int}{r:List GO}{n:List Int}{s:Val}{B vo:Value}(F:ji w l p)(D:l.L<g)(i:rG w f g B r)(I:f e=none)(v:g<=e) (u:hZ w e 170 (yl l lk ⟨st,[],r,n,s,(),B,vo⟩)) (y:w.ownsRow g 3 1 vo n.length (n.flatMap uR)) (J:∀a,vo.ownBlock=some a->f a=none/\a≠e)(E:M.Good p ⟨st,[],r.map GO.o,n,s⟩):∃N,jm w l p N g e lk ⟨st,[],r,n,s,(),B,vo⟩:=by
 have o:∀a h,f a=some h->(f.add e (0,0)) a=some h:=fun a h b=>by
  rw[Own.lY _ (fun c=>by subst c;rw[I]at b;cases b)];exact b
 have G:∀a,f.add e (0,0) a≠none->g<=a/\a<w.heap.size:=fun a b=>by
  by_cases c:a=e
  . subst c;exact⟨v,u.lt⟩
  . rw[Own.lY _ c]at b;exact i.dom a b
 have C:∀a d,¬f a=some (4,d):=fun a d b=>by rcases i.IY _ _ b with c|⟨_,c⟩<;>cases c
 have O:∀d:Nat,∀j:GC,([]:List GC)[d]?=some j->qy w l p f g d j:=fun d j m=>by simp at m
 cases q:vo.ownBlock with
 |none=>
  exact⟨f.add e (0,0),F,D,u,Own.add_eq _ _ _,v,l6.nil _ _ _ _ _ _,fun d j m=>by simp at m,i.row.relabel o,fun z A x=>(i.obj z A x).relabel o,⟨y,fun a b=>by rw[q]at b;cases b⟩,G,E,fun a d b=>absurd (Own.GN Zl b) (C a d)⟩
 | some k =>
  obtain⟨K,L⟩:=J k q;have H:=y.lt k q;have t:∀a h,(f.add e (0,0)) a=some h->((f.add e (0,0)).add k (3,0)) a=some h:=fun a h b=>by
   rw[Own.lY _ (fun c=>by subst c;rw[Own.lY _ L,K]at b;cases b)];exact b
  refine⟨(f.add e (0,0)).add k (3,0),F,D,u,t _ _ (Own.add_eq _ _ _),v,l6.nil _ _ _ _ _ _,fun d j m=>by simp at m,(i.row.relabel o).relabel t,fun z A x=>((i.obj z A x).relabel o).relabel t,⟨y,fun a b=>?_⟩,fun a b=>?_,E,fun a d b=>absurd (Own.GN Zl (Own.GN Zl b)) (C a d)⟩
  . rw[q]at b;cases b;exact Own.add_eq _ _ _
  . by_cases c:a=k
    . subst c;exact H
    . rw[Own.lY _ c]at b;exact G a b
theorem IA(w:World)(l:jk)(p:iZ)(aS:ji w l p)(lk:Bool)(s:St){cs:List Value}(hs:kg w (· <l.O) s cs)(hv:CO p s=true):Calls prog 69 #[some l.L,.bool lk,.agg cs.toArray] w fun b w'=>(∃mb au g,b=.returned (.pointer (some ⟨mb,0,none⟩))/\jm w' l p au w mb lk g/\g.st=s)/\Ext w w':=by
 obtain⟨a1,c1,a2,c2,a3,c3,rfl,x,h2,h3⟩:=hs.form;have hR:=wm.1 hv;clear hs hv;obtain⟨v,n,P,k,⟨t,u⟩⟩:=s;simp only at x h2 h3 |-;have eO:=x.form;have aJ:=h2.form;have eP:=h3.form;obtain⟨_,_,e1,fV,gp⟩:=eO;cases e1;obtain⟨_,_,e2,fZ,gq⟩:=aJ;cases e2;obtain⟨_,_,e3,gm,eH⟩:=eP;cases e3;have eD:=(nD.1 hR.good.heap).1;obtain⟨U,Q⟩:=SS ((w.alloc (.cells #[v,.slice a1 n.length c1,.slice a2 P.length c2,.slice a3 k.length c3,t,u] 39)).alloc (.cells #[some l.L,.bool lk,v,(),(),(),t,u] 170));have bR:Ext w U:=by rw[Q];exact kx
 have b5:hZ U w 39 #[v,.slice a1 n.length c1,.slice a2 P.length c2,.slice a3 k.length c3,t,u]:=by rw[Q];exact(hZ.new _ _ _).ext kx
 have b7:hZ U (w+1) 170 #[some l.L,.bool lk,v,(),(),(),t,u]:=by rw[Q];exact hZ.newAt _ _ Zl
 have gB:U.heap.size=w+2:=by rw[Q];simp
 have dZ:=aS.lt;have⟨HL,HR,bD,dn,dx,dR,H1,H2,H3⟩:=sV aS hR bR b5 b7 Q x h2 h3;clear aS hR bR b5 b7 Q x h2 h3;go_enter func69,ntmps69;go_wp2_with fail;rw[<-dR.o];refine(yO (· <l.O) P (H2.ext wC.stays bD) eD).mono ?_;rintro b w2 ⟨⟨vh,aO,I,rfl,cK,hO⟩,aa⟩;obtain⟨Y,Z,rfl⟩:=hO.row.form;have aR:=dn.ext aa;have aD:=dx.ext aa;obtain⟨w3,aM⟩:=SS (w2.setCell ⟨w+1,4,none⟩ (Value.slice Y I.length Z));have af:Kp (·=w+1) w2 w3:=by rw[aM];exact nH
 have bN:hZ w3 (w+1) 170 #[some l.L,.bool lk,v,(),(Value.slice Y I.length Z),(),t,u]:=by rw[aM];exact aD.jy 4 _
 have bL:=aR.kp af Zm;obtain⟨yz,-,-,-,-,y4,-⟩:=aD.ca;have yf:=aD.frozen 4;obtain⟨xz,-,-,-,x3,-⟩:=aR.ca;have⟨bE,aC,bH,dS,dz,dw⟩:=nE ((bD.trans aa).own af (fun a b=>Zm)) (hO.kp af (fun a c b=>SX ((hO.dom a c).1))) cK aM bN bL;have gI:w2.heap.size<=w3:=af.size;have gH:=aa.size;clear cK hO aa aR aD aM af bN bL;go_wp2_with fail;rw[<-dS.o];clear y4 yf yz x3 xz;refine(yM ((H3.ext oW.stays bE).ints) eH).mono ?_;rintro b w4 ⟨⟨vo,rfl,ai⟩,ae⟩;obtain⟨ao,co,rfl⟩:=jA ai;have aF:=dz.ext ae;have bM:=dw.ext ae;obtain⟨J,aN⟩:=SS (w4.setCell ⟨w+1,5,none⟩ (Value.slice ao k.length co));have aG:Kp (·=w+1) w4 J:=by rw[aN];exact nH
 have bO:hZ J (w+1) 170 #[some l.L,.bool lk,v,(),(Value.slice Y I.length Z),(Value.slice ao k.length co),t,u]:=by rw[aN];exact aF.jy 5 _
 have aT:=(bE.trans ae).own aG (fun a b=>Zm);have bY:rG J aO w (Value.slice Y I.length Z) I:=((aC.kp (D:=fun _=>False) ae fun _ _ fO=>fO).kp aG (fun a c b=>SX ((aC.dom a c).1))).mono Zm;have di:J.ownsRow w 3 1 (Value.slice ao k.length co) k.length (k.flatMap uR):=lV (jb ai aG (fun f hq c b=>SX (ai.lt f hq))) Zm;have o:∃av,jm J l p av w (w+1) lk ⟨v,[],I,k,⟨t,u⟩,(),(Value.slice Y I.length Z),(Value.slice ao k.length co)⟩:=by
  refine jm.start (HL.ext aT) dZ bY ?_ Zm bO di (fun a c=>?_) ?_
  . cases b:aO (w+1)with
    |none=>rfl
    |some fe=>have:=(aC.dom _ (by rw[b];simp)).1;omega
  . have x:=(ai.lt a c).1;refine⟨?_,Zm⟩;cases b:aO a with
    |none=>rfl
    |some fe=>have:=(aC.dom _ (by rw[b];simp)).2;omega
  . rw[bH.o];have:=HR.good.part 0;simpa using this
 obtain⟨yz,-,-,-,-,-,y5,-⟩:=aF.ca;have yf:=aF.frozen 5;obtain⟨xz,-,x1,-⟩:=bM.ca;have⟨HM,dD,dU⟩:=jB o aT aN;clear aF bM aN aG bO aT bY di o ai ae;go_wp2_with fail;rw[<-dU.o];clear y5 yf yz x1 xz;go_loopw [34] (fun ak wr=>∃(f:Nat) (au:Own) (g:Gh),f<=n.length/\ak=.int .i64 f/\Ext w wr/\jm wr l p au w (w+1) lk g/\g.st=⟨v,n.take f,P,k,⟨t,u⟩⟩) (fun ak _=>n.length - (intOf ak).toNat)
 case atStart=>
  obtain⟨av,o⟩:=HM.o;exact⟨0,av,_,SV _,rfl,dD,o,by simp[Gh.st,bH.o]⟩
 case round=>
  obtain⟨f,au,g,hq,rfl,K,o,ag⟩:=hrel;by_cases eG:f<n.length
  . obtain⟨⟨⟨⟨C,D⟩,B⟩,T,j,y⟩,hx⟩:=om n f eG;have aV:=jD.1 (HR.good.frames _ (RA hx));have fP:=Zy aV;obtain⟨a,gM,cs,rfl,hI,⟨vl,vs,rfl,aH,aL⟩,-,hc⟩:=(H1.ext Dc.stays K).get hx;obtain⟨la,lc,rfl,eF,cB⟩:=aH.form;obtain⟨sa,sc,rfl,eX,dh⟩:=aL.form;simp only at aH aL eF cB eX dh hc;obtain⟨g0,g1,g2,g3,g4,g5⟩:=hc.six;have gz:=jc g0;obtain⟨w9,bC,L,b9⟩:=nu wr #[C,D,B,T,.slice la j.length lc,.slice sa y.length sc] 80;have gK:(w9:Nat)=wr+1:=by rw[bC];simp
    obtain⟨yz,y0,y1,y2,-⟩:=b9.ca;obtain⟨d,hm⟩:∃d,M.method p ⟨⟨C,D⟩,B⟩=d:=⟨_,rfl⟩;have aY:=lH w9 l p (o.kr.ext L) ⟨⟨C,D⟩,B⟩ aV.1;rw[hm]at aY;have cz:g.cs.length=f:=by
     have:=congrArg (fun s=>s.frames.length) ag;simpa [Gh.st,U5 hq]using this
    have eB:∀a,g.vc.ownBlock=some a->a<wr.heap.size:=fun a b=>(o.calls.blk b).2;have⟨aB,HM,dI,dE,dA,dV,bG,bI,dO⟩:=sV aY hm (o.ext L) (K.trans L) b9 bC (aH.ext mY.stays L) (aL.ext mY.stays L) ag;have⟨HX,dG⟩:=jf hx cz;have eY:=K.size;clear aV aH aL hc L b9 bC aY hm ag hx cz K o;go_wp2_with fail;rw[<-dV.o];clear g0 g1 g2 g3 g4 g5;refine aB.mono ?_;rintro b w6 ⟨⟨cs,aX,rfl⟩,G⟩;obtain⟨h,rfl⟩:=nU aX;obtain⟨z,aj⟩:=SS (w6.alloc (.cells (mF d h).toArray 132));have F:Ext w6 z:=by rw[aj];exact kx
    have bK:hZ z w6 132 (mF d h).toArray:=by rw[aj];exact hZ.new _ _ _
    have gD:z.heap.size=w6+1:=by rw[aj];simp
    have bP:=dA.ext (G.trans F);have O:=dI.ext (G.trans F);have gJ:=G.size;obtain⟨va,vc,bu⟩:=O.calls.form;have bz:¬g.vc.ownBlock=some (w.heap.size+1):=fun b=>by have:=O.calls.role _ b;rw[O.role]at this;cases this
    have bA:∀a,wr.heap.size<=a->¬g.vc.ownBlock=some a:=fun a c b=>SX (eB a b)
    obtain⟨fQ,fT,gu,X⟩:=qC.ex (fun W'=>Kp (fun a=>g.vc.ownBlock=some a) z W') _ Kp.rr;have fK:=fun az=>(O.blk.kp (X.jv az) bz).c 3 (.slice va g.cs.length vc) (by rw[<-bu];rfl);obtain⟨-,fE,fF,fG,fH,fI,fJ,-⟩:=hZ.lC fun az=>(bP.kp (X.jv az) (bA _ (T9 _)));have dW:(wr:Nat)<=w6:=Zm
    obtain⟨-,fo,fq,fu,fw,fA,fB,fC,fD,-⟩:=hZ.lC fun az=>(bK.kp (X.jv az) (bA _ dW));have⟨E,aQ,dQ,aP,dC,dJ,dH,dN,bJ⟩:=sV X bu bz O (dE.trans (G.trans F)) (jM.ext jd.stays F aX) (bG.ext mY.stays (G.trans F)) (bI.ext mY.stays (G.trans F)) aj;clear X bu bz bA O aX aj bK bP F G aB y0 y1 y2 yz bG bI;simp only[mF];unfold mF at bJ;go_wp2_with fail;rw[<-bJ.o];refine jW E 23 [([0,1,2,3,4,5,6,7,8,9,10,11,13,14,16,17],12),([],15),([18,19],20),([],21),([],22)] [] ?_ ?_
    . exact jg
    refine lJ ?_;intro r i;go_wp2_with fail;refine(uq ((dH.ext mY.stays jg).vals) cB).mono ?_;rintro b fM ⟨⟨gN,rfl,aZ⟩,bT⟩;obtain⟨V,W,rfl⟩:=jA aZ;have m:=Zy (((Kp.refl _ z).drew:Ext z _).trans bT);have dL:Zz (fM.ownsRow z 37 2 (Value.slice V j.length W) j.length (j.flatMap jY)):=Zy aZ;clear bT aZ;go_wp2_with fail;refine kk E i m.any ?_;clear i r;refine kN rfl fun r i=>?_;go_wp2_with fail;refine(uq ((dN.ext mY.stays m).vals) dh).mono ?_;rintro b e ⟨⟨gP,rfl,bf⟩,bU⟩;obtain⟨ax,ay,rfl⟩:=jA bf;have⟨q,dM⟩:=jf bU bf;clear bU bf;go_wp2_with fail;refine kk E i (m.trans q).any ?_;clear i r;refine lJ ?_;intro r i;go_wp2_with fail;refine kk E i ((m.trans q).alloc _).any ?_;clear i r;refine kN rfl fun r i=>?_;go_wp2_with fail;refine kk E i (((m.trans q).alloc _).alloc _).any ?_;clear i r;refine kN rfl fun r i=>?_;obtain⟨A,R⟩:=SS ((e.alloc (.cells #[C,D,B,.string d.name,.slice h.a1 d.args.length h.c1,.int .i64 d.ret.kind,.string d.ret.name,.int .i64 d.locals,.int .i64 d.stack,.slice h.a2 d.code.length h.c2,.slice h.a3 d.maps.length h.c3,T,(Value.slice V j.length W),(Value.slice ax y.length ay),.int .i64 d.stack] 176)).alloc (.cells #[some e] 171));rw[<-R];have H:Ext e A:=by rw[R];exact kx
    have bB:hZ A e 176 #[C,D,B,.string d.name,.slice h.a1 d.args.length h.c1,.int .i64 d.ret.kind,.string d.ret.name,.int .i64 d.locals,.int .i64 d.stack,.slice h.a2 d.code.length h.c2,.slice h.a3 d.maps.length h.c3,T,(Value.slice V j.length W),(Value.slice ax y.length ay),.int .i64 d.stack]:=by rw[R];exact(hZ.newAt (W:=e) (g:=e.heap.size) _ _ rfl).ext kx
    have bS:hH A (e+1) 0 [some e]:=by rw[R];exact hH.nL _ _ Zl
    have gL:A.heap.size=e+2:=by rw[R];simp
    have gy:(w:Nat)<=wr:=eY;have gF:=m.size;have gG:=q.size;obtain⟨aO,df,bZ,cO,ed,eQ⟩:=Own.more aP.dom dL m.size Zm (5,g.cs.length);obtain⟨S,bg,aU,cZ,ek,eT⟩:=Own.more bZ dM q.size Zm (6,g.cs.length);have aJ:∀a,e.heap.size<=a->S a=none:=fun a c=>by
     cases b:S a with
     |none=>rfl
     |some f=>have:=(aU a (by rw[b];simp)).2;omega
    have aK:∀a f,S a=some f->(S.add e (4,g.cs.length)) a=some f:=fun a f c=>by
     rw[Own.lY _ (fun b=>by rw[b,aJ _ (T9 _)]at c;cases c)];exact c
    have cu:∀a,S.add e (4,g.cs.length) a≠none->w.heap.size<=a/\a<A.heap.size:=fun a c=>by
     by_cases b:a=e.heap.size
     . subst b;omega
     . rw[Own.lY _ b]at c;have:=aU a c;omega
    have bV := (aP.ext ((m.trans q).trans H)).relabel (fun a f c => aK _ _ (bg _ _ (df _ _ c))) cu fun a ak c => by
     by_cases b:a=e.heap.size
     . rw[b];exact⟨_,bB.c 0 _ rfl⟩
     . rw[Own.lY _ b]at c;rcases eT _ _ c with c|c
       . rcases eQ _ _ c with c|c
         . obtain⟨eZ,hk⟩:=aP.xU a ak c;exact⟨eZ,((m.trans q).trans H).je hk⟩
         . cases c
       . cases c
    have bQ:qy A l p (S.add e (4,g.cs.length)) w g.cs.length (⟨⟨⟨⟨C,D⟩,B⟩,T,j,y⟩,e.heap.size,h,(Value.slice V j.length W),(Value.slice ax y.length ay)⟩:GC):=by
     refine⟨?_,Own.add_eq _ _ _,by show w.heap.size<=e;omega,?_,((cO.ext (q.o.trans H)).relabel bg).relabel aK,(cZ.ext H).relabel aK⟩
     . unfold Bp;simp only[HM.o];exact bB
     . simp only[HM.o];exact jM.ext jd.stays ((m.trans q).trans H) dJ
    have⟨aA,dB,bF⟩:=jB bV bQ ((m.trans q).trans H);have fU:g.cs.length<8:=by have x:n.length<=8:=HR.good.nf;have h2:=dG.o;omega
    clear R bB bV bQ df bZ cO ed bg aU cZ ek aJ aK cu H;refine jo FI rfl (.tmp 46) (.tmp 63) rfl w (.slice va g.cs.length vc) g.cs.length (g.cs.flatMap uZ) rfl (by rw[<-aQ.o];exact aA.calls.row) (e+1) 1 [some e] rfl rfl bS Zt Zm Zm ?_;intro gg c9 dm bX N aW;change r _ _;rw[<-aQ.o]at N aW;refine kk E i (bF.any.trans N) ?_;clear i r;have aI:=aA.blk.kp N dQ;have q3:=aI.c 3 (.slice va g.cs.length vc) (by rw[<-aQ.o];rfl);have f3:=aI.frozen 3;have qz:=aI.lt;have bq:({g with cs:=g.cs++[(⟨⟨⟨⟨C,D⟩,B⟩,T,j,y⟩,e.heap.size,h,(Value.slice V j.length W),(Value.slice ax y.length ay)⟩:GC)],vc:=.slice (some ⟨gg,0,none⟩) (g.cs.length+1) c9}:Gh).st=⟨v,n.take (f+1),P,k,⟨t,u⟩⟩:=by
     have x:=dO.o;simp only[Gh.st,St.mk.injEq]at x |-;obtain⟨e1,e2,e3,e4,e5⟩:=x;refine⟨e1,?_,e3,e4,e5⟩;rw[TB,e2,TQ,HX.o];rfl
    obtain⟨dY,av,eu,bW⟩:=aA.Kz (⟨⟨⟨⟨C,D⟩,B⟩,T,j,y⟩,e.heap.size,h,(Value.slice V j.length W),(Value.slice ax y.length ay)⟩:GC) dB gg c9 bX N (by
     rcases aW with b|b
     . exact .inl b
     . right;omega) (by rw[bq];exact HR.good.part (f+1))
    have dX:Ext w (dm.setCell ⟨w+1,3,none⟩ (.slice (some ⟨gg,0,none⟩) (g.cs.length+1) c9)):=
     ((dC.trans bF).own N (fun a b=>(aA.calls.blk b).1)).own ((Kp.refl (·=w+1) dm).setCell (p:=⟨w+1,3,none⟩) (fun _=>rfl) _) (fun a b=>Zm)
    have⟨dF,dK,dP⟩:=jB dX bW bq;clear dY eu bW bq aI bX N aW bS E fK fE fF fG fH fI fJ fo fq fu fw fA fB fC fD;refine ku ?_;go_wp2_with fail;exact⟨⟨f+1,av,_,Zm,by go_num,dF.o,dK.o,dP.o⟩,by simp[intOf];omega⟩
  . have eU:f=n.length:=Zm
    have HF:Zz (g.st=⟨v,n,P,k,⟨t,u⟩⟩):=Zy (by rw[ag,eU,TC]);have⟨HE,aB⟩:=jf K o;clear K o ag;go_wp2;go_ret;exact⟨⟨_,au,g,rfl,aB,HF⟩,HE⟩
theorem Dp:Elem 34 80 6:=kP (z:=.agg #[Tc, "",Tc,Tc,(),()]) (bytes:=88) underlying34 Zo rfl Zn Zn
structure GF where
 f:Fr
 vl:Value
 vs:Value
def Lg(x:GF):List Value:=[.int .i64 x.f.of.of.keeper,.string x.f.of.of.name,.int .i64 x.f.of.at_,.int .i64 x.f.pc,x.vl,x.vs]
structure vN(w:World)(own:Own)(B:Nat)(v:Value)(fs:List GF):Prop where
 dom:∀b,own b≠none->B<=b/\b<w.heap.size
 row:l6 w own B (8,0) 80 6 v fs.length (fs.flatMap Lg)
 loc:∀j x,fs[j]?=some x->l6 w own B (9,j) 37 2 x.vl x.f.locals.length (x.f.locals.flatMap jY)
 kH:∀j x,fs[j]?=some x->l6 w own B (10,j) 37 2 x.vs x.f.stack.length (x.f.stack.flatMap jY)
theorem vN.nil(w:World)(b:Nat):vN w (fun _=>none) b () []:=
 ⟨fun e a=>absurd rfl a,l6.nil _ _ _ _ _ _,fun c d a=>by simp at a,fun c d a=>by simp at a⟩
theorem vN.slice{F:Own}{l:Nat}{d:List GF}(i:vN w F l v d){I:Nat->Prop}(hI:∀b,l<=b->b<w.heap.size->I b)(hl:d.length<=4294967296)(n:∀a∈d,a.f.locals.length<=4294967296/\a.f.stack.length<=4294967296):SliceOf 6 Dc w I v (d.map GF.f):=by
 have y:∀a∈d,SliceOf 2 mY w I a.vl a.f.locals/\SliceOf 2 mY w I a.vs a.f.stack:=fun a c=>by
  obtain⟨k,A,h⟩:=Wy c;have o:d[k]?=some a:=by rw[Ou A,h]
  exact⟨SliceOf.lS jY (i.loc k a o).row rfl rfl (fun _ _=>rfl) (fun _ _=>rfl) (fun b e f=>hI b e f) (n a c).1,
   SliceOf.lS jY (i.kH k a o).row rfl rfl (fun _ _=>rfl) (fun _ _=>rfl) (fun b e f=>hI b e f) (n a c).2⟩
 have D:SliceOf 6 (fun w I (a:GF) m=>(SliceOf 2 mY w I a.vl a.f.locals/\SliceOf 2 mY w I a.vs a.f.stack)/\m=Lg a) w I v d:=
  SliceOf.lS Lg i.row.row rfl rfl (fun _ _=>rfl) (fun g C=>⟨y g C,rfl⟩) (fun b e f=>hI b e f) hl
 obtain⟨r,s,h,e,f,u⟩:=D;refine⟨r,s,by rw[h,UH],by rw[UH];exact e,by rw[UH];exact f,fun q a c=>?_⟩;rw[V4]at c;cases j:d[q]? with
 |none=>rw[j]at c;cases c
 |some g=>
  rw[j]at c;cases c;obtain⟨b,E,m,t,x,⟨p,rfl⟩,B,z⟩:=u q g j;exact⟨b,E,_,t,x,⟨g.vl,g.vs,rfl,p.1,p.2⟩,B,z⟩
theorem vN.ext{k: World}{j:Own}{h:List GF}(a:vN w j f v h)(b:Ext w k):vN k j f v h:=
 ⟨fun g i=>⟨(a.dom g i).1,Tx (a.dom g i).2 b.size⟩,a.row.ext b,fun d e c=>(a.loc d e c).ext b,fun d e c=>(a.kH d e c).ext b⟩
theorem vN.kp{l: World}{k:List GF}(c:vN w i j v k)(d:Kp D w l)(e:∀a,i a≠none->¬D a):vN l i j v k:=
 ⟨fun a b=>⟨(c.dom a b).1,Tx (c.dom a b).2 d.size⟩,c.row.keep d (nA.refl _ _) fun a b _=>e a (by rw[b];simp),
  fun g h f=>(c.loc g h f).keep d (nA.refl _ _) fun a b _=>e a (by rw[b];simp),fun g h f=>(c.kH g h f).keep d (nA.refl _ _) fun a b _=>e a (by rw[b];simp)⟩
structure RG(w:World)(p:iZ)(own:Own)(B i:Nat)(c:GC):Prop where
 blk:hZ w c.cb 176 (Bp p c)
 low:B<=c.cb
 loc:l6 w own B (5,i) 37 2 c.vl c.f.locals.length (c.f.locals.flatMap jY)
 kH:l6 w own B (6,i) 37 2 c.vs c.f.stack.length (c.f.stack.flatMap jY)
structure zo(w:World)(l:jk)(p:iZ)(own:Own)(B mb:Nat)(lk:Bool)(g:Gh):Prop where
 ok:kQ p=true
 blk:hZ w mb 170 (yl l lk g)
 low:B<=mb
 calls:l6 w own B (1,0) 171 1 g.vc g.cs.length (g.cs.flatMap uZ)
 call:∀i c,g.cs[i]?=some c->RG w p own B i c
 heap:l6 w own B (2,0) 63 3 g.vh g.os.length (g.os.flatMap qd)
 obj:∀j o,g.os[j]?=some o->l6 w own B (7,j) 37 2 o.v o.o.fields.length (o.o.fields.flatMap jY)
 outs:l6 w own B (3,0) 3 1 g.vo g.outs.length (g.outs.flatMap uR)
 good:M.Good p g.st
theorem jm.run{h:Own}(a:jm w l p h e f lk g):zo w l p h e f lk g:=
 ⟨a.kr.ok,a.blk,a.low,a.calls,fun d b c=>⟨(a.call d b c).blk,(a.call d b c).low,(a.call d b c).loc,(a.call d b c).kH⟩,a.heap,a.obj,a.outs,a.good⟩
theorem zo.kp{m: World}{o: Nat}(a:zo w l p i c o lk g)(k:Kp D w m)(j:∀h,c<=h->¬D h):zo m l p i c o lk g:=by
 have b:∀{r:Nat×Nat} {n b q:Nat} {s:Value} {t:List Value},l6 w i c r n b s q t->l6 m i c r n b s q t:=fun a=>a.keep k (nA.refl _ _) fun h _ u=>j h u;exact⟨a.ok,a.blk.kp k (j _ a.low),a.low,b a.calls,fun f d e=>⟨(a.call f d e).blk.kp k (j _ (a.call f d e).low),(a.call f d e).low,b (a.call f d e).loc,b (a.call f d e).kH⟩,b a.heap,fun x y v=>b (a.obj x y v),b a.outs,a.good⟩
theorem zo.ext{d: World}{c:Own}{a b:Nat}(e:zo w l p c a b lk g)(f:Ext w d):zo d l p c a b lk g:=e.kp f fun _ _ h=>h
theorem zo.things{I:Own}{q G:Nat}(e:zo w l p I q G lk g):SliceOf 3 wC w (fun _=>True) g.vh g.st.heap:=by
 have k:=nD.1 e.good.heap;have B:∀a∈g.st.heap,a.fields.length<=4294967296:=fun a b=>by
  rw[(k.2 a b).2.1];have d:=rU e.ok (chain p a.of).reverse;have f:=vR p a.of;unfold layout;rw[Tv (k.2 a b).1];rw[Va]at d;omega
 have x:∀a∈g.os,SliceOf 2 mY w (fun _=>True) a.v a.o.fields:=fun a b=>by
  obtain⟨F,z,j⟩:=Wy b;exact SliceOf.lS jY (e.obj F a (by rw[Ou z,j])).row rfl rfl (fun _ _=>rfl) (fun _ _=>rfl) (fun i d f=>trivial) (B a.o (by simp only[Gh.st];exact Vr b))
 have A:g.os.length<=4294967296:=by
  have:=k.1;simp only[Gh.st,UH]at this;omega
 have D:SliceOf 3 (fun w r (h:GO) n=>SliceOf 2 mY w r h.v h.o.fields/\n=qd h) w (fun _=>True) g.vh g.os:=
  SliceOf.lS qd e.heap.row rfl rfl (fun _ _=>rfl) (fun a b=>⟨x a b,rfl⟩) (fun i d f=>trivial) A
 obtain⟨s,t,j,d,f,v⟩:=D;refine⟨s,t,by rw[j];simp[Gh.st],by simpa [Gh.st]using d,by simpa [Gh.st]using f,fun o h c=>?_⟩;simp only[Gh.st]at c;rw[V4]at c;cases m:g.os[o]? with
 |none=>rw[m]at c;cases c
 |some a=>
  rw[m]at c;cases c;obtain⟨i,H,n,u,J,⟨E,rfl⟩,C,y⟩:=v o a m;exact⟨i,H,_,u,trivial,⟨a.v,rfl,E⟩,C,y⟩
theorem Co(w:World)(l:jk)(p:iZ)(eH:Own)(dB t:Nat)(lk:Bool)(g:Gh)(N:zo w l p eH dB t lk g):Calls prog 73 #[some t] w fun b w'=>(∃cs,b=.returned (.agg cs.toArray)/\kg w' (fun a=>w.heap.size<=a) g.st cs)/\Ext w w':=by
 obtain⟨B,bD,aW,b2⟩:=nu w #[Tc,(),(),(),Tc,Tc] 39;have eu:B.heap.size=w.heap.size+1:=by rw[bD];simp
 obtain⟨ca,cc,dn⟩:=N.calls.form;obtain⟨ha,hc,bB⟩:=N.heap.form;obtain⟨oa,oc,o⟩:=N.outs.form;have fu:=N.blk.lt;have ak:=N.ext aW;obtain⟨dS,dU,dZ,y⟩:=ll B;have r2:=fun v=>(ak.blk.ext (y.jv v)).c 2 g.status rfl;have r4:=fun v=>(ak.blk.ext (y.jv v)).c 4 (.slice ha g.os.length hc) (by rw[<-bB];rfl);have r5:=fun v=>(ak.blk.ext (y.jv v)).c 5 (.slice oa g.outs.length oc) (by rw[<-o];rfl);obtain⟨-,-,-,-,-,-,-,r6,r7,-⟩:=hZ.lC fun v=>(ak.blk.ext (y.jv v));have⟨i,C,af,dD,dG,bK,bL,aQ,dR⟩:=sV y N ak b2 aW dn bB o bD;clear y N ak b2 aW dn bB o bD;go_enter func73,ntmps73;go_wp2_with fail;rw[<-dR.o];rename_i ag G;have cO:=(nD.1 C.o.good.heap).1;have fw:g.outs.length<=40:=C.o.good.outs;have eZ:g.cs.length<=8:=by have:=C.o.good.nf;simpa [Gh.st]using this
 have eY : ∀ a, g.vc.ownBlock = some a -> a < w.heap.size := fun a b => (C.o.calls.blk b).2; have dA : ∀ (I r m : Nat) (q k : Option Addr) (J : Own) (j : List GO) (x : World), Ext B x -> j.map GO.o = g.st.heap -> rG x J B.heap.size (.slice q j.length r) j →
     x.ownsRow B.heap.size 3 1 (.slice k g.outs.length m) g.outs.length (g.outs.flatMap uR)->hZ x I 39 #[g.status,(),.slice q j.length r,.slice k g.outs.length m,g.back.kind,g.back.n]->B.heap.size<=I->J I=none->(Value.slice k g.outs.length m).ownBlock≠some I→
     ag {tmps:=#[.pointer (some ⟨t,0,none⟩),undef,.pointer (some ⟨w.heap.size,0,none⟩),.pointer (some ⟨I,0,none⟩),undef,undef,.pointer (some ⟨t,0,none⟩),.pointer (some ⟨t,0,none⟩),.pointer (some ⟨t,2,none⟩),.int .i64 g.status,.pointer (some ⟨t,0,none⟩),.pointer (some ⟨t,0,none⟩),.pointer (some ⟨t,4,none⟩),.slice ha g.os.length hc,.slice q j.length r,.pointer (some ⟨t,0,none⟩),.pointer (some ⟨t,0,none⟩),.pointer (some ⟨t,5,none⟩),.slice oa g.outs.length oc,.slice k g.outs.length m,.pointer (some ⟨t,0,none⟩),.pointer (some ⟨t,0,none⟩),.pointer (some ⟨t,6,none⟩),.agg #[g.back.kind,g.back.n],.agg #[g.status,(),.slice q j.length r,.slice k g.outs.length m,g.back.kind,g.back.n],undef,undef,undef,undef,undef,undef,undef,undef,undef,undef,undef,undef,undef,undef,undef,undef,undef,undef,undef,undef,undef,undef,undef,undef,undef,undef,undef,undef,undef,undef,undef,undef,undef,undef,undef,undef],defers:=[]} x:=by
  intro I r m q k J j x aA Y K o aV eU cB cK;refine G _ _ ?_;clear G i r2 r4 r5 r6 r7;have m3:=(af.o.ext aA).blk.c 3 (.slice ca g.cs.length cc) (by rw[<-bK.o];rfl);have mz:=(af.o.ext aA).blk.lt;have⟨bJ,U,E,F,dE,dM,dN⟩:=qA aA Y K o aV cB cK;have fC:=aA.size;have bU:=aV.lt;clear aA Y K o aV cB cK;go_wp2_with fail;clear m3 mz;go_loopw [30] (fun bF wr=>∃(H:Nat) (bH:Own) (f:List GF) (vf:Value),H<=g.cs.length/\bF=.int .i64 H/\Kp (·=I) x wr/\hZ wr I 39 #[g.status,vf,.slice q j.length r,.slice k g.outs.length m,g.back.kind,g.back.n]/\vN wr bH x.heap.size vf f/\Zz (f.map GF.f=(g.cs.map GC.f).take H)) (fun bF _=>g.cs.length - (intOf bF).toNat)
  case atStart=>exact⟨0,_,[],(),SV _,rfl,Kp.rr,dE.o,vN.nil _ _,Zy Zl⟩
  case round =>
   obtain⟨H,bH,f,vf,hq,rfl,W,hB,hF,aF⟩:=hrel;obtain⟨va,vc,rfl⟩:=hF.row.form;have bf:f.length=H:=by
    have:=congrArg List.length aF.o;simpa [U5 hq]using this
   have aY:=(dG.o.trans bJ.o).own W (fun a b=>by omega);have eB:=W.size;by_cases dX:H<g.cs.length
   . obtain⟨d,au⟩:=om g.cs H dX;have hM:=C.o.ext aY;have O:=hM.call H d au;have aK:=hM.calls.row;rw[bK.o]at aK;obtain⟨gb,eT,b,-,fo,-⟩:=jT aK Zm;cases b;have g0:=(lT (enc:=uZ) (k:=1) (fun _=>rfl) aK au).one;rw[V5]at g0;obtain⟨la,lc,aL⟩:=O.loc.form;obtain⟨sa,sc,bC⟩:=O.kH.form;have eX:=(C.o.call H d au).blk.lt;have dY:x.heap.size<=wr.heap.size:=eB;have ax:∀a,a<x.heap.size->¬(Value.slice va f.length vc).ownBlock=some a:=fun a h b=>by have:=(hF.row.blk b).1;omega
     obtain⟨dS,dU,dZ,y⟩:=qC.ex (fun W'=>Kp (fun a=>(Value.slice va f.length vc).ownBlock=some a) wr W') _ Kp.rr;have eO:=fun v=>(hB.kp (y.jv v) (ax _ bU)).c 1 (.slice va f.length vc) rfl;have aZ:d.cb<x.heap.size:=by omega
     obtain⟨-,k0,k1,k2,-,-,-,-,-,-,-,-,eD,-⟩:=hZ.lC fun v=>(O.blk.kp (y.jv v) (ax _ aZ));have eF:=fun v=>(O.blk.kp (y.jv v) (ax _ aZ)).c 12 (.slice la d.f.locals.length lc) (by rw[<-aL];rfl);have eG:=fun v=>(O.blk.kp (y.jv v) (ax _ aZ)).c 13 (.slice sa d.f.stack.length sc) (by rw[<-bC];rfl);have X:=jD.1 (C.o.good.frames d.f (by simp only[Gh.st];exact Vr (RA au)));have av:=tJ (nQ C.o.ok X.1).1;have fq:d.f.locals.length<=1000:=by have:=av.locals;have:=X.2.2.2.1;omega
     have fB:d.f.stack.length<=1000:=by have:=av.stack;have:=X.2.2.2.2.1;omega
     have eP:Zz (Flat wr 2 (.slice la d.f.locals.length lc) d.f.locals.length (d.f.locals.flatMap jY)):=Zy (by rw[<-aL];exact qi O.loc.row (oN wQ _));have dK:Zz (SliceOf 2 mY wr (fun _=>True) (.slice sa d.f.stack.length sc) d.f.stack):=Zy (by rw[<-bC];exact SliceOf.lS jY O.kH.row rfl rfl (fun _ _=>rfl) (fun _ _=>rfl) (fun a h1 h2=>trivial) Zm);have dJ:Zz (SliceOf 2 mY wr (fun _=>True) (.slice la d.f.locals.length lc) d.f.locals):=Zy (by rw[<-aL];exact SliceOf.lS jY O.loc.row rfl rfl (fun _ _=>rfl) (fun _ _=>rfl) (fun a h1 h2=>trivial) Zm);have⟨i,dF,dQ,HB,HF,dL,eQ⟩:=qA y au ax hB hF W bf;have fe:(f.length:Int)=H:=by omega
     clear y au ax hB hF W bf aL bC O hM aY X av aK;go_wp2_with fail;clear g0;refine jW i 24 [([0,1,2,3,4,5,6,7,8,9,10,11,12,13,15,16,17,18,19],14),([],20),([21],22),([],23)] [] ?_ ?_
     . exact jg
     refine lJ ?_;intro e c;go_wp2_with fail;refine(uq ((dJ.o.ext mY.stays jg).vals) Zm).mono ?_;rintro b T ⟨⟨v6,rfl,bu⟩,V⟩;obtain⟨x6,y6,rfl⟩:=jA bu;have n:=Zy (((Kp.refl _ wr).drew:Ext wr _).trans V);have dO:Zz (T.ownsRow wr.heap.size 37 2 (.slice x6 d.f.locals.length y6) d.f.locals.length (d.f.locals.flatMap jY)):=Zy bu;clear V bu;go_wp2_with fail;refine kk i c n.o.any ?_;clear c e;refine kN rfl fun e c=>?_;go_wp2_with fail;refine(uq ((dK.o.ext mY.stays n.o).vals) Zm).mono ?_;rintro b w7 ⟨⟨v7,rfl,bz⟩,bO⟩;obtain⟨x7,y7,rfl⟩:=jA bz;have⟨L,dP⟩:=jf bO bz;clear bO bz;go_wp2_with fail;refine kk i c (n.o.trans L.o).any ?_;clear c e;refine lJ ?_;intro e c;go_wp2_with fail;refine kk i c ((n.o.trans L.o).alloc _).any ?_;clear c e;refine kN rfl fun e c=>?_;have dz:=n.o.size;have fD:=L.o.size;obtain⟨fE,dm,bV,df,dV,-⟩:=Own.more HF.o.dom dO.o n.o.size dY (9,f.length);obtain⟨bI,bA,bW,dh,dW,-⟩:=Own.more bV dP.o L.o.size Zm (10,f.length);have aH:=HF.o.ext (n.o.trans L.o);have aJ:∀a ay,bH a=some ay->bI a=some ay:=fun a ay N=>bA _ _ (dm _ _ N);have Z:=aH.row.relabel aJ;have aX:Ext w7 (w7.alloc (.cells #[d.f.of.of.keeper,d.f.of.of.name,d.f.of.at_,d.f.pc,.slice x6 d.f.locals.length y6,.slice x7 d.f.stack.length y7] 80)):=kx;refine jo Dp rfl (.tmp 35) (.tmp 56) rfl x.heap.size (.slice va f.length vc) f.length (f.flatMap Lg) rfl ((Z.ext aX).row) w7.heap.size 1 (Lg (⟨d.f,.slice x6 d.f.locals.length y6,.slice x7 d.f.stack.length y7⟩:GF)) rfl rfl (hH.nL _ _ rfl) (by simp[Lg,Value.oneCell']) Zm Zr ?_;intro g9 c9 w9 bT bR bZ;change e _ _;have Q:=aX.any.trans bR;refine kk i c ((n.o.trans L.o).any.trans Q) ?_;clear c e;obtain⟨di,aC,bX,ek⟩:=l6.app Z bW bT Q (bZ.imp id fun b=>by simp at b;omega);have bq:vN w9 (bI.add g9 (8,0)) x.heap.size (g9,f.length+1,c9) (f++[(⟨d.f,.slice x6 d.f.locals.length y6,.slice x7 d.f.stack.length y7⟩:GF)]):=by
      refine⟨bX,by simpa using di,fun aM bG A=>?_,fun aM bG A=>?_⟩
      all_goals
       rcases V3 aM f.length with hj|hj|hj
      . rw[Te hj]at A;exact Z.beside ((aH.loc aM bG A).relabel aJ) Q aC Zl
      . subst hj;simp at A;subst A;exact Z.beside ((df.ext L.o).relabel bA) Q aC Zl
      . rw[U9 Zr]at A;cases A
      . rw[Te hj]at A;exact Z.beside ((aH.kH aM bG A).relabel aJ) Q aC Zl
      . subst hj;simp at A;subst A;exact Z.beside dh Q aC Zl
      . rw[U9 Zr]at A;cases A
     have bS:=(dL.o.trans (n.o.trans L.o).any).own Q (fun a b=>(Z.blk b).1);have aG:=(HB.o.ext (n.o.trans L.o)).kp Q (dQ.o _ bU);obtain⟨qz,-,q1,-⟩:=aG.ca;have f1:=aG.frozen 1;obtain⟨aa,aj⟩:=SS (w9.setCell (I,1) (g9,f.length+1,c9));have P:Kp (·=I) w9 aa:=by rw[aj];exact nH
     have az:hZ aa I 39 #[g.status,(g9,f.length+1,c9),.slice q j.length r,.slice k g.outs.length m,g.back.kind,g.back.n]:=by rw[aj];exact aG.jy 1 _
     have bQ:=bq.kp P (fun a h b=>by have:=(bq.dom a h).1;omega);have⟨aP,aR⟩:=jf (Tn (bS.trans P) (Tn az bQ)) aj;clear dm bV df dV bA bW dh dW aH aJ Z aX bT bR bZ Q di aC bX ek bq bS aG aj P az bQ i eO k0 k1 k2 eD eF eG;refine ku ?_;go_wp2_with fail;rw[<-aR.o];refine⟨⟨H+1,bI.add g9 (8,0),f++[(⟨d.f,.slice x6 d.f.locals.length y6,.slice x7 d.f.stack.length y7⟩:GF)],(g9,f.length+1,c9),by omega,by go_num,aP.o.1,aP.o.2.1,aP.o.2.2,Zy ?_⟩,by simp[intOf];omega⟩;rw[TB,aF.o,TQ,V4,dF.o];rfl
   . have cZ:H=g.cs.length:=by omega
     have bg:f.map GF.f=g.st.frames:=by
      rw[aF.o,cZ];exact TV Zl
     obtain⟨yz,y0,y1,y2,y3,y4,y5,-⟩:=hB.ca;have aI:=(dD.o.ext bJ.o).kp W Zm;obtain⟨zz,z0,z1,z2,z3,z4,z5,-⟩:=aI.ca;obtain⟨fF,fG,fH,fI,fJ,fK,-⟩:=aI.fz;obtain⟨aa,aj,az,P⟩:=Kb aI g.status (.slice va f.length vc) (.slice q j.length r) (.slice k g.outs.length m) g.back.kind g.back.n;have bN:=aY.own P (fun a b=>by omega);have bn:∀a,B.heap.size<=a->a<aa.heap.size->w.heap.size<=a:=fun a h _=>by omega
     have cz:∀a,x.heap.size<=a->a<aa.heap.size->w.heap.size<=a:=fun a h _=>by omega
     have hS:kg aa (fun a=>w.heap.size<=a) g.st [g.status,.slice va f.length vc,.slice q j.length r,.slice k g.outs.length m,g.back.kind,g.back.n]:=by
      have bY:=(hF.kp P (fun a h b=>by have:=(hF.dom a h).1;omega)).slice cz Zm (fun u hx=>by
       have bE:u.f∈g.st.frames:=by rw[<-bg];exact Vr hx
       have X:=jD.1 (C.o.good.frames u.f bE);have av:=tJ (nQ C.o.ok X.1).1;have:=av.locals;have:=X.2.2.2.1;have:=av.stack;have:=X.2.2.2.2.1;omega)
      have fA:j.length=g.st.heap.length:=by rw[<-U.o,UH]
      have cu:=((E.o.kp W (fun a h b=>by subst b;exact h dM.o)).kp P (fun a h b=>by have:=(E.o.dom a h).1;omega)).slice bn Zm (fun u hx=>by
       have bE:u.o∈g.st.heap:=by rw[<-U.o];exact Vr hx
       have hh:=(nD.1 C.o.good.heap).2 u.o bE;rw[hh.2.1];have h1:=rU C.o.ok (chain p u.o.of).reverse;have h2:=vR p u.o.of;unfold layout;rw[Tv hh.1];rw[Va]at h1;omega)
      have ed:=jb (jb F.o W (fun a h _ b=>dN.o (by rw[h,b]))) P (fun a h h1 b=>by omega);rw[bg]at bY;rw[U.o]at cu;exact⟨_,_,_,rfl,bY,cu,SliceOf.lS uR ed rfl rfl (fun _ _=>rfl) (fun _ _=>rfl) bn (by show g.outs.length<=_;omega)⟩
     have⟨HS,dH,dC,aR⟩:=jU hS bN az aj;clear hS bN az aj P aI bn cz hF W hB bg aF cZ bf;go_wp2_with fail;rw[<-aR.o];refine Cv (jE nP rfl w.heap.size rfl [g.status,.slice va f.length vc,.slice q j.length r,.slice k g.outs.length m,g.back.kind,g.back.n] (hH.l7 dC.o) rfl) rfl ?_;exact⟨⟨_,rfl,HS.o⟩,dH.o⟩
 have aU:=Zy dA;clear dA G;refine qp i 20 (.two [0,1,2,3,4,5,6,7,9,10,11,12,14,15,16,17] 8 19 (.two [] 13 19 (.one [18] 19 (.fin [])) (.one [] 13 (.fin [18]))) (.one [] 8 (.one [] 13 (.fin [18])))) ?_ ?_
 . exact jg
 refine two [_,_,_,_,_,_,_,_,_,_,_,_,_,_,_,_] rfl rfl rfl fun ag G=>?_;(repeat (go_big_quiet_step (fail)));((refine F5 G (fun e c=>?_) fun e c=>?_)<;>clear G ag)
 . go_wp2_with fail;refine(yO (fun _=>True) g.st.heap (by rw[<-bL.o];exact(af.o.ext jg).things) cO).mono ?_;rintro b w4 ⟨⟨v4,J,j,rfl,Y,K⟩,ai⟩;obtain⟨q,r,rfl⟩:=K.row.form;have⟨s,E,U⟩:=jB (((Kp.refl _ B).drew:Ext B _).trans ai) K Y;have dw:=s.o.size;clear ai K Y;go_wp2_with fail;refine kk i c s.o ?_;clear c e;refine Fw rfl rfl (fun e c=>?_) fun e c=>?_
   . go_wp2_with fail;refine(yM (by rw[<-aQ.o];exact qi (af.o.ext s.o).outs.row (oN CZ _)) Zm).mono ?_;rintro b w5 ⟨⟨v5,rfl,o⟩,z⟩;obtain⟨k,m,rfl⟩:=jA o;have⟨D,F⟩:=jf z o;have dx:=z.size;clear z o;go_wp2_with fail;refine kk i c (s.o.trans D.o) ?_;clear c e;refine Bi ?_;intro e c;go_wp2_with fail;refine kk i c ((s.o.trans D.o).alloc _) ?_;clear c e;clear i r2 r4 r5 r6 r7;refine kL ?_;go_wp2_with fail;have bP:∀bM,Ext w5 (w5.alloc bM):=fun bM=>jw _;refine aU.o w5.heap.size r m q k J j _ ((s.o.trans D.o).alloc _) U.o (E.o.kp (D:=fun _=>False) (D.o.trans (bP _)) fun _ _ u=>u) (lV (jb (D:=fun _=>False) F.o (bP _) fun _ _ _ u=>u) dw) (hZ.new _ _ _) Zm ?_ ?_
     . cases b:J w5.heap.size with
       |none=>rfl
       |some ay=>have:=(E.o.dom _ (by rw[b];simp)).2;omega
     . intro b;have:=(F.o.lt _ b).2;omega
   . go_wp2_with fail;refine kk i c (s.o.alloc _) ?_;clear c e;obtain⟨T,S,V,b6⟩:=nu w4 #[Tc,(),(),(),Tc,Tc] 39;have⟨n,aN,aS⟩:=jB V b6 S;have dz:T.heap.size=w4.heap.size+1:=by rw[S];simp
     clear V b6 S;refine jX rfl fun e c=>?_;go_wp2_with fail;rw[<-aS.o];refine(yM (by rw[<-aQ.o];exact qi (af.o.ext (s.o.trans n.o)).outs.row (oN CZ _)) Zm).mono ?_;rintro b w5 ⟨⟨v5,rfl,o⟩,z⟩;obtain⟨k,m,rfl⟩:=jA o;have R:=aN.o.ext z;obtain⟨yz,y0,y1,y2,y3,y4,y5,-⟩:=R.ca;obtain⟨f0,f1,f2,f3,f4,f5,-⟩:=R.fz;obtain⟨w9,aD,b9,aB⟩:=Kb R g.status () (.slice q j.length r) (.slice k g.outs.length m) g.back.kind g.back.n;have⟨D,F,ae,aO,aT⟩:=ni z o aB b9 aD;have dx:=z.size;clear z o aB b9 aD R;go_wp2_with fail;refine kk i c ((s.o.trans n.o).trans D.o) ?_;clear c e;clear i r2 r4 r5 r6 r7;refine EJ [_] rfl fun ag G=>?_;(repeat (go_big_quiet_step (fail)));refine qn G ?_;clear G ag;go_wp2_with fail;rw[<-aT.o];refine aU.o w4.heap.size r m q k J j _ (((s.o.trans n.o).trans D.o).own ae.o (fun a b=>by omega)) U.o ((E.o.kp (D:=fun _=>False) (n.o.trans D.o) fun _ _ u=>u).kp ae.o (fun a h b=>by have:=(E.o.dom a h).2;omega)) (lV (jb F.o ae.o fun a h h1 b=>by have:=(F.o.lt a h).1;omega) Zm) aO.o Zm ?_ ?_
     . cases b:J w4.heap.size with
       |none=>rfl
       |some ay=>have:=(E.o.dom _ (by rw[b];simp)).2;omega
     . intro b;have:=(F.o.lt _ b).1;omega
 . go_wp2_with fail;refine kk i c (((Kp.refl _ B).drew).alloc _) ?_;clear c e;obtain⟨T,S⟩:=SS ((B.alloc (.cells #[Tc,(),(),(),Tc,Tc] 39)).drew);have V:Ext B T:=by rw[S];exact kx
   have b6:hZ T (w.heap.size+1) 39 #[Tc,(),(),(),Tc,Tc]:=by rw[S];exact(hZ.newAt _ _ eu).ext jg
   have⟨n,aN,aS⟩:=jB V b6 S;have dz:T.heap.size=B.heap.size+1:=by rw[S];simp
   clear V b6 S;refine jX rfl fun e c=>?_;go_wp2_with fail;rw[<-aS.o];refine(yO (fun _=>True) g.st.heap (by rw[<-bL.o];exact(af.o.ext n.o).things) cO).mono ?_;rintro b w4 ⟨⟨v4,J,j,rfl,Y,K⟩,ai⟩;obtain⟨q,r,rfl⟩:=K.row.form;have⟨s,dI,E,U⟩:=jU (n.o.trans ai) ai K Y;have dw:=ai.size;clear ai K Y;go_wp2_with fail;refine kk i c s.o ?_;clear c e
   . refine jX rfl fun e c=>?_;go_wp2_with fail;refine(yM (by rw[<-aQ.o];exact qi (af.o.ext s.o).outs.row (oN CZ _)) Zm).mono ?_;rintro b w5 ⟨⟨v5,rfl,o⟩,z⟩;obtain⟨k,m,rfl⟩:=jA o;have R:=(aN.o.ext dI.o).ext z;obtain⟨yz,y0,y1,y2,y3,y4,y5,-⟩:=R.ca;obtain⟨f0,f1,f2,f3,f4,f5,-⟩:=R.fz;obtain⟨w9,aD,b9,aB⟩:=Kb R g.status () (.slice q j.length r) (.slice k g.outs.length m) g.back.kind g.back.n;have⟨D,F,ae,aO,aT⟩:=ni z o aB b9 aD;have dx:=z.size;clear z o aB b9 aD R;go_wp2_with fail;refine kk i c (s.o.trans D.o) ?_;clear c e;clear i r2 r4 r5 r6 r7;refine EJ [_] rfl fun ag G=>?_;(repeat (go_big_quiet_step (fail)));refine qn G ?_;clear G ag;go_wp2_with fail;rw[<-aT.o];refine aU.o (w.heap.size+1) r m q k J j _ ((s.o.trans D.o).own ae.o (fun a b=>by omega)) U.o (((E.o.kp (D:=fun _=>False) D.o fun _ _ u=>u).kp ae.o (fun a h b=>by have:=(E.o.dom a h).1;omega)).mono Zm) (lV (jb F.o ae.o fun a h h1 b=>by have:=(F.o.lt a h).1;omega) Zm) aO.o Zm ?_ ?_
     . cases b:J (w.heap.size+1)with
       |none=>rfl
       |some ay=>have:=(E.o.dom _ (by rw[b];simp)).1;omega
     . intro b;have:=(F.o.lt _ b).1;omega
theorem JQ(w:World)(l:jk)(p:iZ)(d:Own)(b a:Nat)(lk:Bool)(g:Gh)(i:jm w l p d b a lk g):Calls prog 73 #[some a] w fun h e=>(∃c,h=.returned (.agg c.toArray)/\kg e (fun f=>w<=f) g.st c)/\Ext w e:=Co w l p d b a lk g i.run
theorem One.int:One oW:=fun _ _ _ _ b c a=>by subst b;simp at a;subst a;rfl
theorem One.val:One mY:=fun _ _ _ _ b c a=>by subst b;simp[jY]at a;rcases a with rfl|rfl<;>rfl
theorem Dc.inside{x:Fr}(a:Dc w I x cs):Dc w (fun b=>I b/\b<w) x cs:=by
 obtain⟨e,f,d,c,b⟩:=a;exact⟨e,f,d,c.inside (fun _ _ _ _ a=>a) Zn,b.inside (fun _ _ _ _ a=>a) Zn⟩
theorem yt{b: World}(d:Kp (fun a=>(Value.slice none 0 0).ownBlock=some a) w b):Kp D w b:=d.weak fun a _ c=>by cases c
theorem JF(I:Nat->Prop){cs:List Value}{s:St}(hs:kg w I s cs)(hh:s.heap.length<=12):Calls prog 66 #[.agg cs.toArray] w fun c w'=>(∃bC,c=.returned (.agg bC.toArray)/\kg w' (fun a=>w.heap.size<=a) s bC)/\Ext w w':=by
 obtain⟨vf,vh,vo,rfl,hf,hp,ho⟩:=hs;obtain⟨a1,c1,rfl,-,dV⟩:=hf.form;obtain⟨a2,c2,rfl,-,fA⟩:=hp.form;obtain⟨a3,c3,rfl,-,eu⟩:=ho.form;obtain⟨q,V⟩:=SS ((w.alloc (.cells #[.int .i64 s.status,.slice a1 s.frames.length c1,.slice a2 s.heap.length c2,.slice a3 s.outs.length c3,.int .i64 s.back.kind,.int .i64 s.back.n] 39)).alloc (.cells #[.int .i64 0,(),(),(),.int .i64 0,.int .i64 0] 39));have bE:Ext w q:=by rw[V];exact kx
 have b1:hZ q w 39 #[.int .i64 s.status,.slice a1 s.frames.length c1,.slice a2 s.heap.length c2,.slice a3 s.outs.length c3,.int .i64 s.back.kind,.int .i64 s.back.n]:=by rw[V];exact(hZ.new _ _ _).ext kx
 have b2:hZ q (w+1) 39 #[.int .i64 0,(),(),(),.int .i64 0,.int .i64 0]:=by rw[V];exact hZ.newAt _ _ Zl
 have bZ:q.heap.size=w+2:=by rw[V];simp
 obtain⟨-,-,e1,-⟩:=b1.ca;have f1:=b1.frozen 1;have o:=b1.lt;have⟨dM,eX,cB,cu⟩:=jU V bZ (b2.kp (D:=(·=w)) ((Kp.refl (·=w) q).setCell (p:=⟨w,1,none⟩) (fun _=>rfl) ()) Zm) (b1.jy 1 ());have dn:Zz (Ext w (q.setCell (w,1) ())):=Zy (bE.own ((Kp.refl (·=w) q).setCell (p:=⟨w,1,none⟩) (fun _=>rfl) _) fun k c=>Zm);have⟨HF,HP,HO⟩:=jB hf hp ho;clear V bZ b1 b2 bE hf hp ho;go_enter func66,ntmps66;go_upto_region 1 with(fail);rw[<-dM.o];go_wp2_with fail;clear e1 f1 o;go_loopw [11] (fun aW wr=>∃(d:Nat) (R:List (List Value)) (aA:Value),d<=s.frames.length/\aW=.int .i64 d/\kv 80 6 Dc wr (fun a=>w.heap.size+2<=a/\a<wr.heap.size/\aA.ownBlock≠some a) (w+2) aA R (s.frames.take d)/\hZ wr (w+1) 39 #[.int .i64 0,(),(),(),.int .i64 0,.int .i64 0]/\hZ wr w 39 #[.int .i64 s.status,aA,.slice a2 s.heap.length c2,.slice a3 s.outs.length c3,.int .i64 s.back.kind,.int .i64 s.back.n]/\Ext w wr) (fun aW _=>s.frames.length - (intOf aW).toNat)
 case atStart=>exact⟨0,[],(),SV _,rfl,⟨Tf _ _ _ _,by simp,trivial⟩,cB.o,cu.o,dn.o⟩
 case round=>
  obtain⟨d,bD,aA,hq,rfl,D,p,E,hE⟩:=hrel;have⟨HM,y,Q,HE⟩:=jU D p E hE;by_cases ek:d<s.frames.length
  . have aR:(s.frames.take d).length=d:=by rw[Tj];omega
    have bf:=Zy aR;obtain⟨m,n,bV⟩:=jA D.own;rw[aR]at bV;subst bV;obtain⟨b,hx⟩:=get_some ek;obtain⟨a,eT,cs,rfl,dR,⟨vl,vs,rfl,hl,hs⟩,-,G⟩:=(HF.o.ext Dc.stays hE).get hx;obtain⟨p1,p2,rfl,-,dW⟩:=hl.form;obtain⟨p3,p4,rfl,-,eF⟩:=hs.form;obtain⟨fq,dY,bS,bJ⟩:=hl.cells One.val Zn;obtain⟨fw,ed,bU,bM⟩:=hs.cells One.val Zn;have j0:=G 0 _ rfl;have j1:=G 1 _ rfl;have j2:=G 2 _ rfl;have j3:=G 3 _ rfl;have j4:=G 4 _ rfl;have j5:=G 5 _ rfl;simp only[U3]at j0;have jz:=jc j0;obtain⟨X,bY,A,b5⟩:=nu wr #[.int .i64 b.of.of.keeper,.string b.of.of.name,.int .i64 b.of.at_,.int .i64 b.pc,.slice p1 b.locals.length p2,.slice p3 b.stack.length p4] 80;obtain⟨kz,-,-,-,-,k4,-⟩:=b5.ca;have⟨dN,r,aa,dx,dz,dG,dI,HX⟩:=wL bY A b5 (bJ.ext A) bM bS bU hx;clear D p E hE hl hs G hx dR bY A b5 bJ bM bS bU aR;go_upto_region 6 with(fail);rw[<-dN.o];clear j0 j1 j2 j3 j4 j5 jz;go_wp2_with (at_builtin;refine jK rQ _ rfl _ _ rfl X _ 0 [] rfl (Tf _ _ _ _) _ _ _ _ rfl dx.o Zm (T9 _) ?_);intro v6 j h6 T;have B:Ext X j:=yt T;obtain⟨O,P,rfl⟩:=jA h6;have au:=aa.o.ext B;obtain⟨lz,-,-,-,-,l4,-⟩:=au.ca;have f4:=au.frozen 4;have⟨dJ,ag,dh⟩:=jB h6 B au;clear h6 T B au kz k4;go_upto_region 7 with(fail);obtain⟨l,ax⟩:=SS (j.setCell (wr,4) (.slice O b.locals.length P));have K:Kp (·=wr) j l:=by rw[ax];exact nH
    have u:hZ l wr 80 #[.int .i64 b.of.of.keeper,.string b.of.of.name,.int .i64 b.of.at_,.int .i64 b.pc,.slice O b.locals.length P,.slice p3 b.stack.length p4]:=by rw[ax];exact dh.o.jy 4 _
    rw[<-ax];have eG:(wr:Nat)<X:=aa.o.lt;have C:=((r.o.trans ag.o).own K fun a c=>Zm);have bW:=jb dJ.o K fun S H e=>Zm
    obtain⟨kz,-,-,-,-,-,k5,-⟩:=u.ca;have bN:=dz.o.ext C;have⟨ah,aG,aB,aZ⟩:=jU C bW u K;clear ax K u C bW lz l4 f4;go_wp2_with (at_builtin;refine jK rQ _ rfl _ _ rfl l _ 0 [] rfl (Tf _ _ _ _) _ _ _ _ rfl bN Zm (T9 _) ?_);intro v8 x h8 L;have aJ:Ext l x:=yt L;obtain⟨Y,Z,rfl⟩:=jA h8;have v:=aB.o.ext aJ;obtain⟨lz,-,-,-,-,-,l5,-⟩:=v.ca;have f5:=v.frozen 5;have⟨aY,dK,ai⟩:=jB v h8 aJ;clear h8 L aJ v bN kz k5;go_upto_region 8 with(fail);obtain⟨g,W⟩:=SS (x.setCell (wr,5) (.slice Y b.stack.length Z));have af:Kp (·=wr) x g:=by rw[W];exact nH
    have aP:hZ g wr 80 #[.int .i64 b.of.of.keeper,.string b.of.of.name,.int .i64 b.of.at_,.int .i64 b.pc,.slice O b.locals.length P,.slice Y b.stack.length Z]:=by rw[W];exact aY.o.jy 5 _
    rw[<-W];have eH:=ag.o.size;have eO:=aZ.o.size;have eP:=ai.o.size;have eQ:=af.size;have t:=(ah.o.trans ai.o).own af fun a c=>Zm
    have bX:=jb dK.o af fun S H e=>Zm
    have bP:=jb aG.o ((ai.o.any (D:=(·=wr))).trans af) fun S H e=>Zm
    have aN:=HM.o.ext Dc.stays t;obtain⟨kz,-,-,k2,-⟩:=(Q.o.ext t).ca;have g1:=(Q.o.ext t).frozen 1;obtain⟨-,r0,r1,r2,r3,r4,r5,-⟩:=aP.ca;have⟨aC,dL,dD,bg,eU⟩:=ni t bX bP aN aP;have bA:Zz (wr.heap.size<g):=Zy Zm;have aT:=aN.own;rw[bf.o]at aT;have dF:=Zy aT;have F:=Q.o.ext t;obtain⟨kz,-,k1,-⟩:=F.ca;have ae:=Zy fun a c=>HM.o.own.lt a c;clear aN bX bP t aP W af aT eG eH eO eP eQ k2 l5 f5 lz g1 F;have dX:d+1<=4294967296:=Zm
    have dU:w.heap.size+2<=(g.alloc (.cells #[.int .i64 b.of.of.keeper,.string b.of.of.name,.int .i64 b.of.at_,.int .i64 b.pc,.slice O b.locals.length P,.slice Y b.stack.length Z] 80)).heap.size:=by have:=bA.o;have:=y.o.lt;simp;omega
    go_wp2_with (at_builtin;refine jo Dp rfl _ _ rfl (w+2) (.slice m d n) d bD.flatten rfl (jb (D:=fun _=>False) dF.o ((Kp.refl _ g).alloc _) fun _ _ _ b=>b) g 1 [.int .i64 b.of.of.keeper,.string b.of.of.name,.int .i64 b.of.at_,.int .i64 b.pc,.slice O b.locals.length P,.slice Y b.stack.length Z] rfl rfl (hH.nL _ _ rfl) Zt dX dU ?_);intro h z aX bG aM bO;have aL:=((Kp.refl _ g).alloc _:Ext g _).any.trans aM;have n1:¬(Value.slice m d n).ownBlock=some w.heap.size:=fun c=>SX (ae.o _ c)
    have F:=(Q.o.ext aC.o).kp aL n1;obtain⟨bz,-,d1,-⟩:=F.ca;have f1:=F.frozen 1;have cO:=Zy F;have⟨aF,bn,dA⟩:=jB aL bG bO;have dO:Zz (g.heap.size<aX):=Zy (by have:=aM.size;simp at this;omega);clear F aL bG aM bO r0 r1 r2 r3 r4 r5 k1;go_upto_region 9 with(fail);obtain⟨i,hW⟩:=SS (aX.setCell (w,1) (h,d+1,z));have U:Kp (·=w) aX i:=by rw[hW];exact nH
    have bI:hZ i w 39 #[.int .i64 s.status,(h,d+1,z),.slice a2 s.heap.length c2,.slice a3 s.outs.length c3,.int .i64 s.back.kind,.int .i64 s.back.n]:=by rw[hW];exact cO.o.jy 1 _
    rw[<-hW];have z1:=y.o.lt;have z2:=aa.o.lt;have z3:=ag.o.size;have z4:=aZ.o.size;have z5:=ai.o.size;have z6:=U.size;have z8:=dO.o;have z9:=bA.o;have zW:=bn.o.lt h rfl;have z7:(h<wr/\(Value.slice m d n).ownBlock=some h)\/g.heap.size<h:=by
     rcases dA.o with f|f
     . exact .inl ⟨(ae.o _ f).2,f⟩
     . right;omega
    have aV:∀(J:Nat->Prop),(∀a,J a->w.heap.size<a/\¬(Value.slice m d n).ownBlock=some a)->Same J g i:=fun J hJ a az fD e hc=>
     U.lL (aF.o.lL hc (hJ a e).2) (fun c=>SX ((hJ a e).1))
    have aQ:∀a,(Value.slice (some ⟨h,0,none⟩) (d+1) z).ownBlock=some a->h=a:=fun a c=>by simpa [Value.ownBlock]using c
    have aU:∀{vv:Value} {xs:List Val} {R:List (List Value)} {lo:Nat},wr<lo->g.ownsRow lo 37 2 vv xs.length R.flatten->(∀aH∈R,aH.length=2)->kD mY wr I xs R->xs.length<=4294967296->SliceOf 2 mY i (fun a=>w.heap.size+2<=a/\a<i.heap.size/\(Value.slice (some ⟨h,0,none⟩) (d+1) z).ownBlock≠some a) vv xs:=fun{vv xs R lo} h1 h2 h3 h4 h5=>by
     refine(SliceOf.owned (I:=fun a=>lo<=a/\a<g.heap.size) h2 h3 Zn (h4.free fun _ _ _ _ _ _ f=>f) (fun a h1 h2=>⟨h1,h2⟩) h5).keep mY.stays (aV _ fun a e=>⟨Zm,fun c=>SX (ae.o _ c)⟩) fun a e=>⟨Zm,Zm,fun c=>?_⟩;have:=aQ a c;omega
    have bQ:Dc i (fun a=>w.heap.size+2<=a/\a<i.heap.size/\(Value.slice (some ⟨h,0,none⟩) (d+1) z).ownBlock≠some a) b [.int .i64 b.of.of.keeper,.string b.of.of.name,.int .i64 b.of.at_,.int .i64 b.pc,.slice O b.locals.length P,.slice Y b.stack.length Z]:=
     ⟨_,_,rfl,aU z2 dD.o dY dG.o dW,aU Zm dL.o ed dI.o eF⟩
    have bH:kv 80 6 Dc i (fun a=>w.heap.size+2<=a/\a<i.heap.size/\(Value.slice (some ⟨h,0,none⟩) (d+1) z).ownBlock≠some a) (w+2) (h,d+1,z) (bD++[[.int .i64 b.of.of.keeper,.string b.of.of.name,.int .i64 b.of.at_,.int .i64 b.pc,.slice O b.locals.length P,.slice Y b.stack.length Z]]) (s.frames.take (d+1)):=by
     rw[<-EI HX.o];refine⟨?_,fun aH hc=>(TZ.1 hc).elim (bg.o.len aH) fun f=>by simp at f;rw[f];rfl,(bg.o.all.keep Dc.stays (aV _ fun a e=>⟨Zm,e.2.2⟩) fun a e=>⟨e.1,Zm,fun c=>?_⟩).snoc bQ⟩
     . have:=jb bn.o U (fun S H _ c=>by cases H;omega);rw[TP,bf.o,List.flatten_append];simpa using this
     . have:=aQ a c;subst this;rcases z7 with f|f
       . exact e.2.2 f.2
       . omega
    have⟨cK,dm,df,dw⟩:=jU bH bI (((y.o.ext aC.o).kp aF.o fun c=>SX (ae.o _ c)).kp U Zm) ((((HE.o.trans aC.o).own aF.o fun a c=>SX (ae.o _ c))).own U fun a c=>Zm);clear bH bQ aU aQ aV bI U hW z1 z2 z3 z4 z5 z6 z7 z8 z9 zW bz d1 f1 n1;go_wp2_with fail;exact⟨⟨d+1,_,_,Zm,by go_num,cK.o,df.o,dm.o,dw.o⟩,by simp[intOf];omega⟩
  . obtain rfl:d=s.frames.length:=Zm
    rw[TC]at D;obtain⟨m,n,rfl⟩:=jA D.own;have HM:=Zy D;obtain⟨bz,k0,k1,k2,k3,k4,k5,-⟩:=E.ca;have h:=E.frozen 2;have z1:=E.lt;have⟨HE,Q,y⟩:=jB hE E p;clear D E p hE;go_wp2_with fail;refine(yO _ _ (HP.o.ext wC.stays HE.o) hh).mono ?_;rintro c X ⟨⟨v5,fC,N,rfl,aS,hO⟩,A⟩;obtain⟨x5,y5,rfl⟩:=jA hO.row.row;have ak:=Q.o.ext A;obtain⟨cz,-,-,bB,aI,-⟩:=ak.ca;have dP:=ak.frozen 2;have⟨aa,r,bu,bq⟩:=jU ak A aS hO;have bR:N.length=s.heap.length:=by rw[<-aS];simp
    have dE:=Zy bR;clear ak A aS hO bR k0 k1 k2 k3 k4 k5 h;obtain⟨fu,dZ,bT,bK⟩:=HO.o.cells One.int Zn;go_upto_region 11 with(fail);obtain⟨j,av⟩:=SS (X.setCell (w,2) (.slice x5 N.length y5));have T:Kp (·=w) X j:=by rw[av];exact nH
    have aO:hZ j w 39 #[.int .i64 s.status,.slice m s.frames.length n,.slice x5 N.length y5,.slice a3 s.outs.length c3,.int .i64 s.back.kind,.int .i64 s.back.n]:=by rw[av];exact aa.o.jy 2 _
    rw[<-av];have B:=(HE.o.trans r.o).own T fun a c=>Zm
    have bL:=bK.ext B;obtain⟨cz,-,-,-,aI,-⟩:=aO.ca;have⟨di,ag,aD,dH⟩:=jU aO B T bT;clear av T aO B bB dP bT bK;go_wp2_with (at_builtin;refine jK Al _ rfl _ _ rfl j _ 0 [] rfl (Tf _ _ _ _) _ _ _ _ rfl bL Zm (T9 _) ?_);intro v7 l h7 K;have C:Ext j l:=yt K;obtain⟨x7,y7,rfl⟩:=jA h7;have u:=di.o.ext C;have f3:=u.frozen 3;obtain⟨bz,-,-,-,eZ,-⟩:=u.ca;have⟨aB,aG,ah⟩:=jB u h7 C;clear h7 K C u bL cz aI;go_upto_region 12 with(fail);obtain⟨x,ay⟩:=SS (l.setCell (w,3) (.slice x7 s.outs.length y7));have L:Kp (·=w) l x:=by rw[ay];exact nH
    have v:hZ x w 39 #[.int .i64 s.status,.slice m s.frames.length n,.slice x5 N.length y5,.slice x7 s.outs.length y7,.int .i64 s.back.kind,.int .i64 s.back.n]:=by rw[ay];exact aB.o.jy 3 _
    rw[<-ay];have z1:=r.o.size;have z2:=aD.o.size;have z3:=ah.o.size;have z4:=L.size;have z5:=y.o.lt;have aK:=(aD.o.trans ah.o.any).trans L;have p:=(y.o.ext r.o).kp aK Zm;obtain⟨-,c0,eY,bB,aI,fe,fo,-⟩:=v.ca;obtain⟨bz,d0,d1,d2,d3,d4,d5,-⟩:=p.ca;have o:=p.frozen;have f0:=o 0;have f1:=o 1;have f2:=o 2;have f3:=o 3;have f4:=o 4;have f5:=o 5;have aY:=Zy v;have cZ:=Zy p;have⟨dC,dB⟩:=jf L aK;clear ay L v p o z1 z2 z3 z4 z5 aK;go_wp2_with fail;obtain⟨g,W,dQ,bF⟩:=Kb cZ.o (.int .i64 s.status) (.slice m s.frames.length n) (.slice x5 N.length y5) (.slice x7 s.outs.length y7) (.int .i64 s.back.kind) (.int .i64 s.back.n);rw[<-W];have z1:=r.o.size;have z2:=aD.o.size;have z5:=y.o.lt;have aj:=(dB.o.weak (D':=fun a=>a=w.heap.size\/a=w.heap.size+1) fun _ _=>.inl).trans (bF.weak fun _ _=>.inr);have dS:=(dC.o.weak (D':=fun a=>a=w.heap.size\/a=w.heap.size+1) fun _ _=>.inl).trans (bF.weak fun _ _=>.inr);have fE:=aj.size;have t:=(HE.o.trans r.o).own aj fun a c=>Zm
    have eB:=bq.o.kp aj fun a e c=>SX ((bq.o.dom a e).1)
    have eD:∀az∈N,az.o.fields.length<=4294967296:=fun az ho=>by
     have hm:az.o∈s.heap:=by rw[<-bu.o];exact Vr ho
     obtain⟨fB,hj⟩:=UE.1 hm;obtain⟨a,eT,cs,-,-,⟨vf,-,hf⟩,-,-⟩:=HP.o.get (k:=3) hj;obtain⟨_,_,-,-,f⟩:=hf.form;exact f
    refine Cv (jE nP rfl (w+1) rfl [.int .i64 s.status,.slice m s.frames.length n,.slice x5 N.length y5,.slice x7 s.outs.length y7,.int .i64 s.back.kind,.int .i64 s.back.n] (hH.l7 dQ) rfl) rfl ?_;refine⟨⟨_,rfl,_,_,_,rfl,?_,?_,?_⟩,t⟩
    . exact(HM.o.keep (J:=fun a=>w.heap.size<=a) Dc.stays ((r.o.any).trans aj) (fun S H c=>SX ((HM.o.own.lt S H).1)) (fun a e c=>Zm) fun a e=>Zm).slice Zn (fun a e _=>Zm) dV
    . rw[<-bu.o];exact eB.slice (fun a f _=>Zm) (by rw[dE.o];omega) eD
    . exact SliceOf.owned (jb aG.o dS fun S H e=>Zm) dZ Zn (dH.o.free fun _ _ _ _ _ _ f=>f) (fun a h1 _=>Zm) eu
structure M.RW where
 p:iZ
 b:Book
 s:St
def lh:lZ RW:=fun w I x cs=>∃vp ve vq cv,cs=vp::ve::vq::cv/\SliceOf 2 ja w I vp x.p/\SliceOf 4 nG w I ve x.b.jI/\SliceOf 3 lq w I vq x.b.jq/\kg w I x.s cv
theorem lh.stays:jM lh:=fun _ _ _ _ _ _ b a ⟨_,_,_,_,e,h1,h2,h3,h4⟩=>⟨_,_,_,_,e,h1.keep ja.stays b a,h2.keep nG.stays b a,h3.keep lq.stays b a,kg.stays _ _ _ _ _ _ b a h4⟩
theorem kg.Aw(b:kg w I s cs):kg w (fun e=>I e/\e<w) s cs:=by
 obtain⟨d,i,j,c,f,g,h⟩:=b;exact⟨d,i,j,c,f.inside (fun _ _ _ _ b=>b.inside) Zn,g.inside (fun _ _ _ _ ⟨d,c,a⟩=>⟨d,c,a.inside (fun _ _ _ _ b=>b) Zn⟩) Zn,h.inside (fun _ _ _ _ b=>b) Zn⟩
theorem One.Qk:One nG:=fun _ _ _ _ b c a=>by subst b;simp[zw]at a;rcases a with rfl|rfl|rfl|rfl<;>rfl
theorem One.JY:One lq:=fun _ _ _ _ b c a=>by subst b;simp[vJ]at a;rcases a with rfl|rfl|rfl<;>rfl
def Ae:lZ RW:=fun w I x cs=>∃vp ve vq cv,cs=ve::vq::vp::cv/\SliceOf 2 ja w I vp x.p/\SliceOf 4 nG w I ve x.b.jI/\SliceOf 3 lq w I vq x.b.jq/\kg w I x.s cv
theorem Jj(w:World)(I:Nat->Prop)(hI:∀e,I e->e<w.heap.size)(x:RW){cs:List Value}(h:lh w I x cs)(hh:x.s.heap.length<=12):Calls prog 26 #[.agg cs.toArray] w fun u w'=>(∃d aH,u=.returned (.pointer (some ⟨d,0,none⟩))/\w.heap.size<=d/\hZ w' d 162 aH.toArray/\Ae w' (fun e=>I e\/(w.heap.size<=e/\e≠d)) x aH)/\Ext w w':=by
 obtain⟨vp,ve,vq,cv,rfl,hp,he,hq,J⟩:=h;obtain⟨f1,d1,f2,d2,f3,d3,rfl,bD,bE,bF⟩:=J.form;obtain⟨aF,aG,rfl,-,bH⟩:=hp.form;obtain⟨a2,c2,rfl,-,bA⟩:=he.form;obtain⟨a3,c3,rfl,-,bC⟩:=hq.form;obtain⟨K,ae⟩:=SS (w.alloc (.cells #[.slice aF x.p.length aG,.slice a2 x.b.jI.length c2,.slice a3 x.b.jq.length c3,x.s.status,.slice f1 x.s.frames.length d1,.slice f2 x.s.heap.length d2,.slice f3 x.s.outs.length d3,x.s.back.kind,x.s.back.n] 41));have ak:Ext w K:=by rw[ae];exact kx
 have b1:hZ K w 41 #[.slice aF x.p.length aG,.slice a2 x.b.jI.length c2,.slice a3 x.b.jq.length c3,x.s.status,.slice f1 x.s.frames.length d1,.slice f2 x.s.heap.length d2,.slice f3 x.s.outs.length d3,x.s.back.kind,x.s.back.n]:=by rw[ae];exact hZ.new _ _ _
 obtain⟨-,e0,-⟩:=b1.ca;have⟨aC,S⟩:=jf ae b1;have aN:=hp.ext ja.stays ak;have⟨HP,HE,HQ,HS,aT,az⟩:=nE hp he hq J hI ak;clear ae b1 ak hp he hq J hI bD bE bF;go_enter func26,ntmps26;go_upto_region 1 with(fail);rw[<-aC.o];go_wp2_with fail;refine(zN _ I _ aN fun e B=>Tx (aT e B) az.size).mono ?_;rintro u w2 ⟨⟨v2,rfl,ay⟩,Y⟩;obtain⟨a5,c5,rfl,-,-⟩:=ay.form;obtain⟨a,aO,Z,b3⟩:=nu w2 #[.slice a5 x.p.length c5] 25;have X:=(az.trans Y).trans Z;obtain⟨ai,l2,r2,aI⟩:=HE.cells One.Qk Zn;obtain⟨aj,l3,r3,aJ⟩:=HQ.cells One.JY Zn;have⟨bg,bf⟩:=jf aO (ay.ext ja.stays Z);have aD:Zz (w.heap.size<K/\K.heap.size<=w2/\(w2:Nat)<a):=Zy ⟨S.lt,Y.size,b3.lt⟩;have bI:=aD.o;obtain⟨bq,bu,bB,r⟩:=ll a;have H:=S.ext (Y.trans Z);obtain⟨-,-,q1,q2,-⟩:=hZ.lC fun E=>H.ext (r.jv E);have⟨j,aR,aA,S,aB,ah,aW,aX⟩:=wL r b3 X H (aI.ext X) (aJ.ext X) r2 r3;clear aO Z b3 X r2 r3 aI aJ ay Y e0 aN r H;go_upto_region 2 with(fail);rw[<-bg.o];refine qp j 10 (.two [0,1,2,4,5,6] 3 9 (.two [] 7 9 (.one [8] 9 (.fin [])) (.one [] 7 (.fin [8]))) (.one [] 3 (.one [] 7 (.fin [8])))) ?_ ?_
 . exact jg
 refine two [_,_,_,_,_,_] rfl rfl rfl fun Q v=>?_;(repeat (go_big_quiet_step (fail)));((refine F5 v (fun c b=>?_) fun c b=>?_)<;>clear v Q);focus
  refine jK Dn _ rfl _ _ rfl a _ 0 [] rfl (Tf _ _ _ _) _ _ _ _ rfl (aB.ext ((Kp.refl _ a).drew:Ext a _)) Zm (((Kp.refl _ a).drew:Ext a _)).size ?_
  intro v7 w7 q m
  have D:=yt (D:=fun _=>False) m
  clear m
  change c _ _
  obtain⟨y,z,rfl⟩:=jA q
  have i:=Kp.trans ((Kp.refl _ a).drew:Ext a _) D
  rw[Tm,TW]at q
  rw[Tm]
  refine kk j b i ?_;clear b c
  go_simp
  refine Fw rfl rfl (fun c b=>?_) fun c b=>?_
  focus
   refine jK yQ _ rfl _ _ rfl a _ 0 [] rfl (Tf _ _ _ _) _ _ _ _ rfl (ah.ext i) Zm (i).size ?_
   intro v8 N k m
   have o:=yt (D:=fun _=>False) m
   clear m
   change c _ _
   obtain⟨s,t,rfl⟩:=jA k
   have n:=Kp.trans i o
   rw[Tm,TW]at k
   rw[Tm]
   refine kk j b n ?_;clear b c
   go_simp
   refine Bi ?_;intro c b
   go_wp2_with fail
   refine kk j b (n.alloc _) ?_;clear b c
   refine kL ?_
   obtain⟨f,g⟩:=SS (N.alloc (.cells #[(),()] 33))
   obtain⟨d,l⟩:∃d,d=N.heap.size:=⟨_,rfl⟩
   have W:Zz (Ext a f):=Zy (by rw[g];exact n.alloc _)
   have O:Zz (f.ownsRow a 107 4 (.slice y x.b.jI.length z) x.b.jI.length ai.flatten):=Zy (by rw[g];exact jb q (o.alloc _) fun _ _ _ x=>x)
   have P:Zz (f.ownsRow a 112 3 (.slice s x.b.jq.length t) x.b.jq.length aj.flatten):=Zy (by rw[g];exact jb k (D:=fun _=>False) (jw _) fun _ _ _ x=>x)
   have A:hZ f d 33 #[(),()]:=by rw[g,l];exact hZ.new _ _ _
   have aQ:a.heap.size<=d:=by rw[l];exact n.size
   rw[<-l,<-g]
   clear g l
   clear q k i n D o
  rotate_left
  focus
   go_wp2_with fail
   refine kk j b (i.alloc _) ?_;clear b c
   refine jX rfl fun c b=>?_
   refine jK yQ _ rfl _ _ rfl a _ 0 [] rfl (Tf _ _ _ _) _ _ _ _ rfl (ah.ext (i.alloc _)) Zm ((i.alloc _)).size ?_
   intro v8 N k m
   have o:=yt (D:=fun _=>False) m
   clear m
   change c _ _
   obtain⟨s,t,rfl⟩:=jA k
   have n:=Kp.trans (i.alloc _) o
   rw[Tm,TW]at k
   rw[Tm]
   refine kk j b n ?_;clear b c
   go_simp
   refine EJ [_] rfl fun Q v=>?_;(repeat (go_big_quiet_step (fail)));refine qn v ?_;clear v Q
   obtain⟨f,g⟩:∃f,f=N:=⟨_,rfl⟩
   obtain⟨d,l⟩:∃d,d=w7.heap.size:=⟨_,rfl⟩
   have W:Zz (Ext a f):=Zy (by rw[g];exact n)
   have O:Zz (f.ownsRow a 107 4 (.slice y x.b.jI.length z) x.b.jI.length ai.flatten):=Zy (by rw[g];exact jb q (Kp.trans (jw _) o) fun _ _ _ x=>x)
   have P:Zz (f.ownsRow a 112 3 (.slice s x.b.jq.length t) x.b.jq.length aj.flatten):=Zy (by rw[g];exact k)
   have A:hZ f d 33 #[(),()]:=by rw[g,l];exact(hZ.new _ _ _).ext o
   have aQ:a.heap.size<=d:=by rw[l];exact i.size
   rw[<-l,<-g]
   clear g l
   clear q k i n D o
 rotate_left 2;focus
  go_wp2_with fail
  refine kk j b ((Kp.refl _ a).drew.alloc _) ?_;clear b c
  refine jX rfl fun c b=>?_
  refine jK Dn _ rfl _ _ rfl a _ 0 [] rfl (Tf _ _ _ _) _ _ _ _ rfl (aB.ext ((Kp.refl _ a).drew.alloc _:Ext a _)) Zm (((Kp.refl _ a).drew.alloc _:Ext a _)).size ?_
  intro v7 w7 q m
  have D:=yt (D:=fun _=>False) m
  clear m
  change c _ _
  obtain⟨y,z,rfl⟩:=jA q
  have i:=Kp.trans ((Kp.refl _ a).drew.alloc _:Ext a _) D
  rw[Tm,TW]at q
  rw[Tm]
  refine kk j b i ?_;clear b c
  go_simp
  refine jX rfl fun c b=>?_
  refine jK yQ _ rfl _ _ rfl a _ 0 [] rfl (Tf _ _ _ _) _ _ _ _ rfl (ah.ext i) Zm (i).size ?_
  intro v8 N k m
  have o:=yt (D:=fun _=>False) m
  clear m
  change c _ _
  obtain⟨s,t,rfl⟩:=jA k
  have n:=Kp.trans i o
  rw[Tm,TW]at k
  rw[Tm]
  refine kk j b n ?_;clear b c
  go_simp
  refine EJ [_] rfl fun Q v=>?_;(repeat (go_big_quiet_step (fail)));refine qn v ?_;clear v Q
  obtain⟨f,g⟩:∃f,f=N:=⟨_,rfl⟩
  obtain⟨d,l⟩:∃d,d=a.heap.size:=⟨_,rfl⟩
  have W:Zz (Ext a f):=Zy (by rw[g];exact n)
  have O:Zz (f.ownsRow a 107 4 (.slice y x.b.jI.length z) x.b.jI.length ai.flatten):=Zy (by rw[g];exact jb q o fun _ _ _ x=>x)
  have P:Zz (f.ownsRow a 112 3 (.slice s x.b.jq.length t) x.b.jq.length aj.flatten):=Zy (by rw[g];exact k)
  have A:hZ f d 33 #[(),()]:=by rw[g,l];exact((hZ.new a.drew _ _).ext D).ext o
  have aQ:a.heap.size<=d:=by rw[l];exact T9 _
  rw[<-l,<-g]
  clear g l
  clear q k i n D o
 all_goals
  obtain⟨bz,-⟩:=A.ca;obtain⟨k0,k1,-⟩:=A.fz;obtain⟨-,m0,m1,-⟩:=A.ca;have T:=Zy A;clear A j q1 q2 aC;go_upto_region 3 with(fail);obtain⟨L,aP,b5,aa⟩:=st2 T (.slice y x.b.jI.length z) (.slice s x.b.jq.length t);rw[<-aP];have au:=W.own aa fun e u=>Zm
  have H:=S.ext au;have aL:=aR.ext au;have n7:∀p,(Value.slice y x.b.jI.length z).ownBlock=some p->¬p=d:=fun p C u=>by
   obtain⟨_,h⟩:=nX O C;subst u;exact absurd (hZ.inj h T.o) Zn
  have n8:∀p,(Value.slice s x.b.jq.length t).ownBlock=some p->¬p=d:=fun p C u=>by
   obtain⟨_,h⟩:=nX P C;subst u;exact absurd (hZ.inj h T.o) Zn
  have⟨aU,aV⟩:=jf (jb O aa fun p C _=>n7 p C) (jb P aa fun p C _=>n8 p C);obtain⟨bq,bu,bB,r⟩:=ll L;obtain⟨-,-,-,-,r3,r4,r5,r6,r7,r8,-⟩:=hZ.lC fun E=>H.ext (r.jv E);obtain⟨-,s0,s1,-⟩:=hZ.lC fun E=>b5.ext (r.jv E);obtain⟨-,t0,-⟩:=hZ.lC fun E=>aL.ext (r.jv E);have⟨j,U⟩:=jf r au;clear r aP aa b5 H aL T W O P n7 n8 bz k0 k1 m0 m1;refine jW j 7 [([0,1,2,3],4),([5],6)] [] ?_ ?_
  . exact jg
  refine lJ ?_;intro c b;go_wp2_with fail;refine(JF I (kg.stays _ _ _ _ _ _ (Ext.same (aA.trans (U.trans jg))) (fun _ h=>h) HS) hh).mono ?_;rintro u w6 ⟨⟨bG,rfl,ax⟩,aK⟩;obtain⟨F,e1,G,e2,h3,e3,rfl,-⟩:=ax.form;have⟨V,aY⟩:=jf (((Kp.refl _ L).drew:Ext L _).trans aK) ax;clear aK ax;go_wp2_with fail;refine kk j b V ?_;clear b c;refine lJ ?_;intro c b;go_wp2_with fail;refine kk j b (V.alloc _) ?_;clear b c;clear j r3 r4 r5 r6 r7 r8 s0 s1 t0;refine ku ?_;obtain⟨R,af⟩:=SS (w6.alloc (.cells #[.slice y x.b.jI.length z,.slice s x.b.jq.length t,.slice a5 x.p.length c5,x.s.status,.slice F x.s.frames.length e1,.slice G x.s.heap.length e2,.slice h3 x.s.outs.length e3,x.s.back.kind,x.s.back.n] 162));have aM:hZ R w6 162 #[.slice y x.b.jI.length z,.slice s x.b.jq.length t,.slice a5 x.p.length c5,x.s.status,.slice F x.s.frames.length e1,.slice G x.s.heap.length e2,.slice h3 x.s.outs.length e3,x.s.back.kind,x.s.back.n]:=by rw[af];exact hZ.new _ _ _
  have av:Ext w6 R:=by rw[af];exact kx
  have⟨ag,aS,aZ⟩:=jB (V.trans av) aM (kg.stays _ _ _ _ _ _ (Ext.same av) (fun _ h=>h) (kg.Aw aY));rw[<-af];clear af aM av;go_wp2;go_ret;have z3:=aD.o;have z5:=U.size;have z6:=V.size;have J:∀{bn:Nat->Prop},Same bn L R:=Ext.same ag;refine⟨⟨w6,[_,_,_,_,_,_,_,_,_],rfl,Zm,aS.o,_,_,_,[_,_,_,_,_,_],rfl,?_,?_,?_,?_⟩,((aA.o.trans U.o).trans ag.o)⟩
  . exact(bf.inside (fun _ _ _ _ h=>ja.inside h) Zn).keep ja.stays (Ext.same (U.trans ag)) fun e B=>B.1.imp id fun h=>⟨Zm,Zm⟩
  . exact(SliceOf.owned (I:=fun e=>a.heap.size<=e/\e<L.heap.size) aU l2 Zn (aW.free fun _ _ _ _ _ _ h=>h) (fun e F G=>⟨F,G⟩) bA).keep nG.stays J fun e B=>.inr ⟨Zm,Zm⟩
  . exact(SliceOf.owned (I:=fun e=>a.heap.size<=e/\e<L.heap.size) aV l3 Zn (aX.free fun _ _ _ _ _ _ h=>h) (fun e F G=>⟨F,G⟩) bC).keep lq.stays J fun e B=>.inr ⟨Zm,Zm⟩
  . exact kg.stays _ _ _ _ _ _ (fun _ _ _ _ h=>h) (fun e B=>.inr ⟨by have:=B.1;simp at this;omega,Zm⟩) aZ.o
theorem Ah:yH 41 9:=⟨_,underlying41,by kernel_rfl⟩
theorem Ga(w:World){I:Nat->Prop}(A:Nat)(x:RW)(cs:List Value)(K:hZ w A 162 cs.toArray)(q:Ae w I x cs):Calls prog 28 #[some A] w fun G L=>(∃F,G=.returned (.agg F.toArray)/\lh L I x F)/\Ext w L:=by
 obtain⟨vp,ve,vq,cv,rfl,v,u,y,z⟩:=q;obtain⟨n,k,o,l,p,m,rfl,-⟩:=z.form;obtain⟨e,h,rfl,-,-⟩:=v.form;obtain⟨f,i,rfl,-,-⟩:=u.form;obtain⟨g,j,rfl,-,-⟩:=y.form;obtain⟨a,c⟩:=SS (w.alloc (.cells #[(),(),(),Tc,(),(),(),Tc,Tc] 41));have r:Ext w a:=by rw[c];exact kx
 have E:hZ a w 41 #[(),(),(),Tc,(),(),(),Tc,Tc]:=by rw[c];exact hZ.new _ _ _
 obtain⟨ae,ag,ah,d⟩:=ll a;have s:=K.ext r;obtain⟨bz,-⟩:=s.ca;obtain⟨-,U,V,W,X,Y,Z,r6,r7,r8,-⟩:=hZ.lC fun aa=>s.ext (d.jv aa);have⟨D,P,B,N⟩:=jU d c E r;have O:Zz (lh w I x [.slice e x.p.length h,.slice f x.b.jI.length i,.slice g x.b.jq.length j,x.s.status,.slice n x.s.frames.length k,.slice o x.s.heap.length l,.slice p x.s.outs.length m,x.s.back.kind,x.s.back.n]):=Zy ⟨_,_,_,_,rfl,v,u,y,z⟩;clear c E r d v u y z K s;go_enter func28,ntmps28;go_upto_region 1 with(fail);rw[<-P.o];refine jW D 13 [] [0,1,2,3,4,5,6,7,8,9,10,11,12] ?_ ?_
 . exact jg
 have b:Ext a a.drew:=jg;generalize a.drew=wd at b |-;have t:=B.ext b;obtain⟨g0,g1,g2,g3,g4,g5,g6,g7,g8,-⟩:=t.fz;obtain⟨gz,h0,h1,h2,h3,h4,h5,h6,h7,h8,-⟩:=t.ca;have C:=Zy b;clear b t;refine r9 [_,_,_,_,_,_,_,_,_,_,_,_,_] rfl fun Q J=>?_;(repeat (go_big_quiet_step (fail)));refine qn J ?_;clear J Q;clear D U V W X Y Z r6 r7 r8;go_wp2_with fail;obtain⟨w9,T,R,S⟩:=OJ (B.ext C) (.slice e x.p.length h) (.slice f x.b.jI.length i) (.slice g x.b.jq.length j) x.s.status (.slice n x.s.frames.length k) (.slice o x.s.heap.length l) (.slice p x.s.outs.length m) x.s.back.kind x.s.back.n;rw[<-T];have H:=(N.trans C).own S fun af G=>Zm
 refine Cv (jE Ah rfl w rfl [.slice e x.p.length h,.slice f x.b.jI.length i,.slice g x.b.jq.length j,x.s.status,.slice n x.s.frames.length k,.slice o x.s.heap.length l,.slice p x.s.outs.length m,x.s.back.kind,x.s.back.n] (hH.l7 R) rfl) rfl ?_;exact⟨⟨_,rfl,lh.stays _ _ _ _ _ _ (Ext.same H) (fun _ q=>q) O⟩,H⟩
structure M.wD(x:RW):Prop where
 kr:kQ x.p=true
 vm:CO x.p x.s=true
 book:nJ x.p x.b
theorem Ox(w:World)(I:Nat->Prop)(hI:∀a,I a->a<w.heap.size)(x:RW){cs:List Value}(d:lh w I x cs)(F:wD x):Calls prog 25 #[.agg cs.toArray] w fun c w'=>c=.returned (.bool true)/\Ext w w':=by
 obtain⟨vp,ve,vq,cv,rfl,r,q,s,t⟩:=d;obtain⟨f1,d1,f2,d2,f3,d3,rfl,-⟩:=t.form;obtain⟨W,Z,rfl,-,ag⟩:=r.form;obtain⟨X,c2,rfl,-,af⟩:=q.form;obtain⟨Y,c3,rfl,-,ah⟩:=s.form;obtain⟨w0,E,i,m⟩:=nu w #[.slice W x.p.length Z,.slice X x.b.jI.length c2,.slice Y x.b.jq.length c3,x.s.status,.slice f1 x.s.frames.length d1,.slice f2 x.s.heap.length d2,.slice f3 x.s.outs.length d3,x.s.back.kind,x.s.back.n] 41;obtain⟨-,e0,-⟩:=m.ca;have⟨Q,V,k,L,S,T,h,f,l⟩:=sV (qh w0 I _ x.p (r.ext ja.stays i) fun a b=>Tx (hI a b) i.size) E m q s t hI i F;clear E m i r q s t hI F;go_enter func25,ntmps25;go_upto_region 1 with(fail);rw[<-V.o];go_wp2_with fail;refine Q.mono ?_;rintro c G ⟨j,aa⟩;rcases aa with⟨b,-⟩|⟨-,y,rfl,p,B⟩
 . rw[l.o.kr]at b;cases b
 obtain⟨-,-,r1,r2,r3,r4,r5,r6,r7,r8,-⟩:=(k.ext j).ca;have o:=f.trans j;have J:=Zy (k.ext j);have ai:=f.size;have v:=DY G y x.p p x.s (kg.stays _ _ _ _ _ _ (Ext.same o) (fun a b=>SX (h.o a b)) T.o);rw[l.o.vm]at v;have⟨U,P,g,R⟩:=jU v p o B;clear p j o v B e0;go_wp2_with fail;refine U.mono ?_;rintro c H ⟨rfl,n⟩;have e:Kp (·=y.D) G H:=n.kp;have z0:=R.o;have z1:=P.ord;have u:=Kp.same e fun a b c=>SX (h.o a b)
 have C:=yZ H y x.p n.at_ I (fun z D=>⟨S9 (h.o z D) g.size e.size,SX (h.o z D)⟩) x.b ((L.o.ext nG.stays g.o).keep nG.stays u fun _ d=>d) ((S.o.ext lq.stays g.o).keep lq.stays u fun _ d=>d) l.o.book;have K:=Zy C;have ae:=k.lt;obtain⟨-,-,s1,s2,-⟩:=(J.kp e Zm).ca;have N:=Zy e;clear n e u C r1 r2 r3 r4 r5 r6 r7 r8 ae;go_wp2_with fail;refine K.mono ?_;rintro c w4 ⟨aj,ak,au,-,-,-,rfl,A,-⟩;have O:=Zy A;clear A s1 s2;go_wp2;go_ret;exact⟨rfl,(g.own N fun a c=>SX f.size).own O.o fun a c=>SX f.o.size⟩
theorem Kp.own'{D': Nat->Prop}{a b: World}(d:Kp D w a)(e:Kp D' a b)(h:∀c,D' c->D c\/w.heap.size<=c):Kp D w b:=
 ⟨e.os.trans d.os,e.tape.trans d.tape,e.output.trans d.output,TL d.size e.size,
  fun c f g=>(e.block c (Tx f d.size) (fun i=>(h c i).elim g fun j=>absurd j (Nat.not_le.2 f))).trans (d.block c f g)⟩
theorem yT:kg w I pV [.int .i64 4,(),(),(),Tc,Tc]:=
 ⟨_,_,_,rfl,SliceOf.nil _ _ _ _,SliceOf.nil _ _ _ _,SliceOf.nil _ _ _ _⟩
theorem M.Good.empty:M.Good p ⟨1,[],[],[],lX⟩:=⟨by simp[pE],by simp,by simp,by simp,by simp,by simp[jS,lX]⟩
theorem Ij(x:ji w l p)(lk:Bool)(dW:Zz (lk=true->zJ))(k:Int)(n m:ByteArray)(args:List Int)(va:Option Addr)(ac:Nat)(aJ:SliceOf 1 oW w (· <l.O) (.slice va args.length ac) args)(di:args.all nZ=true):Calls prog 43 #[some l.L,.bool lk,k,n,m,.slice va args.length ac] w fun b w'=>(∃F,b=.returned (.agg F.toArray)/\kg w' (fun a=>w.heap.size<=a) (M.start p lk k n m args) F)/\Kp (·=l.D) w w':=by
 obtain⟨w1,aU,aB,bJ⟩:=nu w #[Tc,(),(),(),Tc,Tc] 39;have fI:(w1:Nat)=w+1:=by rw[aU];simp
 have fu:=x.ET;have fw:=x.lt;have fF:=x.ord;obtain⟨ak,hF⟩:∃ak,find p k n=ak:=⟨_,rfl⟩;obtain⟨⟨q,r⟩,cd⟩:=ak;have aN:=mJ w1 l p (x.ext aB) k n;rw[hF]at aN
 have f : Zz (M.start p lk k n m args = if cd = 1 /\ ko p ⟨q, r⟩ = true then
     (if(call p k n m).2=1/\pU (M.method p (call p k n m).1) args=true then
      end_ (enter p lk (call p k n m).1 (⟨2,0⟩::args.map mM) ⟨1,[],[fresh p ⟨q,r⟩],[],lX⟩).1 (enter p lk (call p k n m).1 (⟨2,0⟩::args.map mM) ⟨1,[],[fresh p ⟨q,r⟩],[],lX⟩).2
     else pV)else pV):=Zy (by unfold M.start;rw[hF])
 have cO:args.length<=4294967296:=by obtain⟨_,_,b,_,h4⟩:=aJ.form;exact h4
 have⟨bA,bF,dD,dZ,bg,dS⟩:=nE ((LC.refl x).ext aB) aN bJ aU aJ di;clear x aB bJ aU hF aN aJ di;go_enter func43,ntmps43;go_wp2_with fail;rw[<-dZ.o];refine bF.mono ?_;rintro b w2 ⟨rfl,Q⟩;have fO:=Q.size;obtain⟨w3,aV,aD,O⟩:=nu w2 #[q,r] 60;have fP:(w3:Nat)=w2+1:=by rw[aV];simp
 have c:=dD.ext Q;have⟨K,ay,bB,bn,bq,eu⟩:=nE c (bA.kp.trans Q.any) (bA.ext (Q.trans aD)) (c.ext aD) O aV;clear Q aD O aV bF;by_cases ah:cd=1;rotate_left
 . have fD:=TI.2 ah;replace f:Zz (M.start p lk k n m args=pV):=Zy (by rw[f.o,Tt (fun b=>ah b.1)]);clear ah;obtain⟨yz,y0,y1,y2,y3,y4,y5,-⟩:=c.ca;obtain⟨f0,f1,f2,f3,f4,f5,-⟩:=c.fz;clear c;go_wp2_with fail;obtain⟨u,o,z,A⟩:=Kb K (.int .i64 4) () () () Tc Tc;rw[<-o];refine Cv (jE nP rfl w rfl [.int .i64 4,(),(),(),Tc,Tc] (hH.l7 (z.ext (jw _))) rfl) rfl ?_;rw[f.o];exact⟨⟨_,rfl,yT⟩,(ay.own A (fun a b=>Zm)).alloc _⟩
 subst ah;clear c;replace f:=Zy f.o;go_wp2_with fail;rw[<-eu.o];refine(mU bB.at_ ⟨q,r⟩).mono ?_;rintro b w4 ⟨rfl,bR,T⟩;have⟨X,V,bu⟩:=jB (bB.step bR T) (bn.kp T Zm) (bq.kp T Zm);have fQ:=T.size;clear bR T bq bn;cases U:ko p ⟨q,r⟩
 . replace f:Zz (M.start p lk k n m args=pV):=Zy (by rw[f.o,Tt (fun b=>by rw[U]at b;cases b.2)]);clear U;have c:=V.o;obtain⟨yz,y0,y1,y2,y3,y4,y5,-⟩:=c.ca;obtain⟨f0,f1,f2,f3,f4,f5,-⟩:=c.fz;clear c;go_wp2_with fail;obtain⟨u,o,z,A⟩:=Kb V (.int .i64 4) () () () Tc Tc;rw[<-o];refine Cv (jE nP rfl w rfl [.int .i64 4,(),(),(),Tc,Tc] (hH.l7 z) rfl) rfl ?_;rw[f.o];exact⟨⟨_,rfl,yT⟩,X.kp.own A (fun a b=>Zm)⟩
 have dG:=Zy U;obtain⟨G,R⟩:∃G,call p k n m=G:=⟨_,rfl⟩;obtain⟨⟨⟨C,D⟩,E⟩,c2⟩:=G;have ag:=uF w4 l p X.at_ k n m;rw[R]at ag;simp only[zT]at ag;have cK:c2=1->kC p ⟨⟨C,D⟩,E⟩=true:=fun h1=>by
  have h1:(call p k n m).2=1:=by rw[R];exact h1
  obtain⟨rr,dw⟩:=qU h1;rw[R]at dw;exact qK dw
 have⟨bG,bC⟩:=jf cK ag;replace f:=Zy (f.trans (Tv (by simp[U])));rw[R]at f;clear U R ag cK;go_wp2_with fail;refine bC.mono ?_;rintro b w5 ⟨⟨ev,rfl,aM⟩,bS,H⟩;obtain⟨w6,aW,ae,P⟩:=nu w5 #[C,D,E] 78;have fU:(w6:Nat)=w5+1:=by rw[aW];simp
 have fT:=H.size;have c:=V.kp H Zm;have⟨K,ay,L,au,bz,W,eB⟩:=qA c (X.kp.trans H) ((X.step bS H).ext ae) (c.ext ae) ((bu.kp H Zm).ext ae) P aW;clear bS H ae P aW bC V bu;rcases aM.weak with⟨rfl,rfl⟩|⟨I,eb,rfl⟩;rotate_left
 . replace f:Zz (M.start p lk k n m args=pV):=Zy (by rw[f.o,Tt (fun b=>I b.1)]);clear I aM;obtain⟨yz,y0,y1,y2,y3,y4,y5,-⟩:=c.ca;obtain⟨f0,f1,f2,f3,f4,f5,-⟩:=c.fz;clear c;go_wp2_with fail;obtain⟨u,o,z,A⟩:=Kb K (.int .i64 4) () () () Tc Tc;rw[<-o];refine Cv (jE nP rfl w rfl [.int .i64 4,(),(),(),Tc,Tc] (hH.l7 (z.ext (jw _))) rfl) rfl ?_;rw[f.o];exact⟨⟨_,rfl,yT⟩,(ay.own A (fun a b=>Zm)).alloc _⟩
 clear aM c;have s:=bG.o rfl;obtain⟨mt,e⟩:∃mt,M.method p ⟨⟨C,D⟩,E⟩=mt:=⟨_,rfl⟩;have aP:Kv mt:=by rw[<-e];exact tJ (nQ L.at_.ok s).1
 have aR:=lH w6 l p L.at_ ⟨⟨C,D⟩,E⟩ s;rw[e]at aR;have fB:=aP.Hr;have⟨fe,dR,HM,HX⟩:=jU aP aR e s;clear e aR s bG aP;go_wp2_with fail;rw[<-eB.o];refine dR.mono ?_;rintro b w7 ⟨⟨F,aQ,rfl⟩,bN⟩;have dx:=Ew w7 (· <l.O) F mt aQ args va ac cO;obtain⟨t2,rfl⟩:=nU aQ;have⟨N,bE⟩:=jf dx bN;clear dx bN aQ;simp only[mF]at N |-;go_wp2_with fail;refine N.mono ?_;rintro b g ⟨rfl,bO⟩;have v:=Zy (bE.trans bO);have fV:=v.size;clear bO N bE;cases B:pU mt args
 . replace f:Zz (M.start p lk k n m args=pV):=Zy (by
    rw[f.o,Tt];rintro⟨_,b⟩;simp only[HM.o,B]at b;cases b)
   clear B;have c:=au.ext v;obtain⟨yz,y0,y1,y2,y3,y4,y5,-⟩:=c.ca;obtain⟨f0,f1,f2,f3,f4,f5,-⟩:=c.fz;have K:=Zy c;clear c;go_wp2_with fail;obtain⟨u,o,z,A⟩:=Kb K (.int .i64 4) () () () Tc Tc;rw[<-o];refine Cv (jE nP rfl w rfl [.int .i64 4,(),(),(),Tc,Tc] (hH.l7 z) rfl) rfl ?_;rw[f.o];exact⟨⟨_,rfl,yT⟩,(L.ext v).kp.own A (fun a b=>Zm)⟩
 replace f:=Zy (f.trans (Tv (by simp[HM.o,B])));have cZ:mt.args.length=args.length:=by
  unfold pU at B;simp only[Ty,Tq]at B;exact B.1
 have dQ:=Zy cZ;have fA:args.length<=3:=Zm
 clear B cZ cO;have O:=bz.ext v;obtain⟨rz,r0,r1,-⟩:=O.ca;obtain⟨u,o,aF,bK⟩:=nu g #[some l.L,.bool lk,.int .i64 1,(),(),(),Tc,Tc] 170;have fZ:(u:Nat)=g+1:=by rw[o];simp
 obtain⟨aY,af⟩:∃eU,jm u l p eU g g lk ⟨1,[],[],[],lX,(),(),()⟩:=
  jm.start (L.at_.ext (v.trans aF)) Zm (rG.nil _ _) rfl (T9 _) bK (Tf _ _ _ _) (fun a d=>by cases d) M.Good.empty
 have bY:Calls prog 88 #[some g,.agg #[q,r]] u (jZ u l p aY g g lk (.agg #[.int .i64 2,Tc]) ⟨1,[],[fresh p ⟨q,r⟩],[],lX⟩):=
  Cm u l p aY g g lk af ⟨q,r⟩ dG Zl
 have dh:∀a,a<g.heap.size->a≠l.D->¬MO l aY a:=fun a d hd e=>by
  rcases e with e|e
  . exact hd e
  . have:=(af.dom a e).1;omega
 have⟨az,dI,dH,av,eD⟩:=ni dh (fun a d=>(af.dom a d).1) bY aF o;clear O aF bK o af bY dh;go_wp2_with fail;rw[<-eD.o];refine dH.mono ?_;rintro b i ⟨rfl,S,dA,aA,eG,bT,bZ⟩;clear r0 r1 rz;have fJ:=S.size;have bH:=Zy (((L.ext v).kp.trans av.any).own' S (fun a d=>by
  rcases d with d|d
  . exact .inl d
  . right;have:=dI.o a d;omega))
 have dC:Zz (SliceOf 1 oW i (· <l.O) (.slice va args.length ac) args):=Zy (bg.keep oW.stays (bH.same fun a d b=>Zm) fun _ x=>x);have dE:Zz (hZ i w 39 #[Tc,(),(),(),Tc,Tc]):=Zy ((au.ext (v.trans av)).kp S (az _ Zm Zm));have dF:Zz (hZ i w5 78 #[C,D,E]):=Zy ((W.ext (v.trans av)).kp S (az _ Zm Zm));have⟨Z,ax⟩:=jf bT bZ;obtain⟨aj,ai⟩:=SS (i.alloc (.cells #[.int .i64 2,Tc] 37));have bM:Ext i aj:=by rw[ai];exact kx
 have t:aj.ownsRow i 37 2 (.slice (some ⟨i,0,none⟩) 1 1) 1 (jY ⟨2,0⟩):=by
  rw[ai];exact Vj (size:=2) i #[.int .i64 2,Tc] 1 (T9 _) (by unfold maxLen;omega) rfl
 have⟨dJ,dV,ed⟩:=jB bM t ai;clear S eG bT bZ bM t ai az bg au W bz;go_wp2_with fail;rw[<-ed.o];go_loopw [66,18] (fun aX vv wr=>∃j:Nat,j<=args.length/\aX=.int .i64 j/\Ext i wr/\wr.ownsRow i 37 2 vv (j+1) ((Val.mk 2 0::(args.take j).map mM).flatMap jY)) (fun aX _ _=>args.length - (intOf aX).toNat)
 case atStart=>exact⟨0,SV _,rfl,dJ,by simpa using dV.o⟩
 case round=>
  obtain⟨j,hq,rfl,y,t⟩:=hrel;obtain⟨vb,vc,rfl,eQ,fH,fG⟩:=jT t Zm;have gm:=y.size;by_cases eO:j<args.length
  . obtain⟨J,s⟩:=om args j eO;obtain⟨a,gp,F,rfl,hI,rfl,-,I⟩:=(dC.ext oW.stays y).get s;rw[V5]at I;have g0:=I.one;have gz:=jc g0;have⟨HX,Y,dX⟩:=jB s y t;clear s I y t;go_wp2_with fail;refine(CY J).mono ?_;rintro b aZ ⟨rfl,aC⟩;have bD:=Zy aC;have eT:=aC.size;clear aC;go_wp2_with (at_builtin;refine vC rQ _ rfl _ _ rfl i _ (j+1) _ rfl (jb (D:=fun _=>False) dX (bD.alloc _) fun _ _ _ J=>J) aZ 1 (jY (mM J)) rfl rfl ?c1 ?c2 ?c3 ?c4 ?_)
    case c1=>exact hH.nL _ _ rfl
    case c2=>exact wQ _
    case c3=>omega
    case c4=>simp;omega
    intro v' w' dm hK g1 fq eP aO fE;subst eP;have dU:=Zy dm;have dO:=Zy hK;clear dm hK;go_wp2_with fail;refine⟨⟨j+1,Zm,by go_num,(Y.o.trans (bD.o.alloc _)).own dO.o (fun a b=>by cases b;exact eQ),?_⟩,by simp[intOf];omega⟩;have:=dU.o;rw[TQ,HX.o];simpa using this
  . have aS:j=args.length:=Zm
    have hM:=Z.ext y;have aO:aA.os.length=1:=by
     have:=congrArg (fun eZ=>eZ.heap.length) ax;simpa [Gh.st]using this
    have cB:aA.status=1:=by have:=congrArg St.status ax;exact this
    have aT:(Val.mk 2 0::args.map mM).length=j+1:=by simp;omega
    have dn:wr.ownsRow i 37 2 (vb,j+1,vc) (Val.mk 2 0::args.map mM).length ((Val.mk 2 0::args.map mM).flatMap jY):=by
     rw[aT];rw[aS,TC]at t;rw[aS];exact t
    have aL:=zS wr l p dA g g lk dW aA hM cB ⟨⟨C,D⟩,E⟩ HX i _ (Val.mk 2 0::args.map mM) dn (fun a d e=>by
        have fC:a=vb:=by cases d;rfl
        rcases e with e|e
        . omega
        . have:=(Z.dom _ e).2;omega) (fun gq hv=>by
        rw[aO];rcases Ud.1 hv with rfl|hv
        . exact Ba _ Zm Zm
        . obtain⟨J,s,rfl⟩:=Vw.1 hv;exact pJ _ (TY.1 dS J s)) (by rw[aT,HM.o,dQ.o];omega)
    rw[ax.o]at aL;have P:=dF.ext y;obtain⟨rz,r0,r1,r2,-⟩:=P.ca;have⟨dL,Y,fo⟩:=jB aL y hM;clear aL y hM t dn P aT aO cB aS;go_wp2_with fail;refine dL.mono ?_;rintro b aZ ⟨rfl,aG,eX,eF,bX,bU,cu⟩;have aK:=Iq aZ l p eX g g lk eF bU (enter p lk ⟨⟨C,D⟩,E⟩ (Val.mk 2 0::args.map mM) ⟨1,[],[fresh p ⟨q,r⟩],[],lX⟩).1;rw[cu]at aK;have⟨dK,dN,dB⟩:=jB aK aG bX;have eT:=aG.size;clear aK aG bX bU cu r0 r1 r2 rz;go_wp2_with fail;refine dK.mono ?_;rintro b bf ⟨rfl,aH,eY,h,eH,bV,cz⟩;have N:=Zy (JQ bf l p eY g g lk h bV);have fK:=aH.size;have bQ:=dN.mo aH dB;have⟨bI,dM⟩:=jf bQ cz;clear aH eH bV cz bQ;go_wp2_with fail;refine N.mono ?_;rintro b gu ⟨⟨F,rfl,hS⟩,aa⟩;have HS:=Zy hS;obtain⟨a1,c1,a2,c2,a3,c3,rfl,-,-,-⟩:=hS.form;have df:∀a,a<g.heap.size->a≠l.D->¬MO l dA a:=fun a d hd e=>by
     rcases e with e|e
     . exact hd e
     . have:=(Z.dom a e).1;omega
    have c:=((dE.ext Y).kp bI (df _ Zm Zm)).ext aa;have fM:=aa.size;obtain⟨gy,dz,bL,aI⟩:=Kb c h.st.status (.slice a1 h.st.frames.length c1) (.slice a2 h.st.heap.length c2) (.slice a3 h.st.outs.length c3) h.st.back.kind h.st.back.n;have bP:=((bH.trans Y.any).own' (bI.trans aa.any) (fun a d=>by
     rcases d with d|d
     . exact .inl d
     . right;have:=(Z.dom a d).1;omega)).own aI (fun a b=>Zm)
    have bW:=kg.stays _ _ _ (fun a=>w.heap.size<=a) _ _ (aI.same fun a (d:bf.heap.size<=a) b=>Zm) (fun a (d:bf.heap.size<=a)=>Zm) HS.o;obtain⟨yz,y0,y1,y2,y3,y4,y5,-⟩:=c.ca;obtain⟨f0,f1,f2,f3,f4,f5,-⟩:=c.fz;have⟨dP,dY,W,ek⟩:=jU bP bW bL dz;clear c dz aI bL bP bW hS aa df;go_wp2_with fail;rw[<-ek.o];refine Cv (jE nP rfl w rfl [h.st.status,.slice a1 h.st.frames.length c1,.slice a2 h.st.heap.length c2,.slice a3 h.st.outs.length c3,h.st.back.kind,h.st.back.n] (hH.l7 W) rfl) rfl ?_;rw[f.o];have hs:=dY.o;rw[dM.o]at hs |-;exact⟨⟨_,rfl,hs⟩,dP⟩
theorem BS:kg w I Kt [Tc,(),(),(),Tc,Tc]:=
 ⟨_,_,_,rfl,SliceOf.nil _ _ _ _,SliceOf.nil _ _ _ _,SliceOf.nil _ _ _ _⟩
theorem P5(w:World)(I:Nat->Prop)(v:Value)(p:iZ)(hp:SliceOf 2 ja w I v p)(hI:∀c,I c->c<w.heap.size)(lk:Bool)(aD:Zz (lk=true->zJ))(k:Int)(n m:ByteArray)(args:List Int)(va:Option Addr)(Q:Nat)(Z:SliceOf 1 oW w I (.slice va args.length Q) args):Calls prog 17 #[.agg #[v],.bool lk,k,n,m,.slice va args.length Q] w fun d w'=>(∃R,d=.returned (.agg R.toArray)/\kg w' (fun c=>w.heap.size<=c) (qM p lk k n m args) R)/\Ext w w':=by
 obtain⟨ag,ai,rfl,hn,aN⟩:=hp.form;obtain⟨r,E⟩:=SS ((w.alloc (.cells #[.slice ag p.length ai] 25)).alloc (.cells #[Tc,(),(),(),Tc,Tc] 39));have W:Ext w r:=by rw[E];exact kx
 have ah:hZ r (w+1) 39 #[Tc,(),(),(),Tc,Tc]:=by rw[E];exact hZ.newAt _ _ Zl
 have aR:r.heap.size=w+2:=by rw[E];simp
 have av:=qh r I (.slice ag p.length ai) p (hp.ext ja.stays W) (fun c C=>SX (hI c C));have aP:args.length<=4294967296:=by obtain⟨_,_,d,_,h4⟩:=Z.form;exact h4
 have a:Zz (qM p lk k n m args=if kQ p&&has p k&&jJ n&&jJ m&&args.all nZ then M.start p lk k n m args else Kt):=Zy rfl;have⟨af,aB,aA,aI,ay,HI⟩:=nE av W ah E Z hI;clear W ah E av hp Z hI;go_enter func17,ntmps17;go_wp2_with fail;rw[<-aI.o];refine af.mono ?_;rintro d w3 ⟨S,aJ⟩;have b:=aA.ext S;have⟨j,l⟩:=jf b (aB.trans S);have aS:=S.size;clear S af;rcases aJ with⟨D,rfl⟩|⟨D,aL,rfl,Y,aO⟩
 . replace a:Zz (qM p lk k n m args=Kt):=Zy (by rw[a.o,D];rfl);clear D;obtain⟨O,G,H,J,K,L,N,-⟩:=b.ca;obtain⟨t,u,x,y,z,A,-⟩:=b.fz;clear b;go_wp2_with fail;obtain⟨V,i,g,h⟩:=Kb j Tc () () () Tc Tc;rw[<-i];refine Cv (jE nP rfl (w+1) rfl [Tc,(),(),(),Tc,Tc] (hH.l7 g) rfl) rfl ?_;rw[a.o];exact⟨⟨_,rfl,BS⟩,l.own h (fun c d=>Zm)⟩
 have aQ:=Y.ord;have HL:=Zy Y;replace a:Zz (qM p lk k n m args=if has p k&&jJ n&&jJ m&&args.all nZ then M.start p lk k n m args else Kt):=Zy (by rw[a.o,D];rfl);clear Y D;go_wp2_with fail;refine(oU HL k).mono ?_;rintro d w1 ⟨rfl,rfl⟩;cases e:has p k
 . replace a:Zz (qM p lk k n m args=Kt):=Zy (by rw[a.o,e];rfl);clear e;obtain⟨O,G,H,J,K,L,N,-⟩:=b.ca;obtain⟨t,u,x,y,z,A,-⟩:=b.fz;clear b;go_wp2_with fail;obtain⟨V,i,g,h⟩:=Kb j Tc () () () Tc Tc;rw[<-i];refine Cv (jE nP rfl (w+1) rfl [Tc,(),(),(),Tc,Tc] (hH.l7 g) rfl) rfl ?_;rw[a.o];exact⟨⟨_,rfl,BS⟩,l.own h (fun c d=>Zm)⟩
 replace a:Zz (qM p lk k n m args=if jJ n&&jJ m&&args.all nZ then M.start p lk k n m args else Kt):=Zy (by rw[a.o,e];rfl);clear e;go_wp2_with fail;refine(mf n _).mono ?_;rintro d w1 ⟨rfl,rfl⟩;cases e:jJ n
 . replace a:Zz (qM p lk k n m args=Kt):=Zy (by rw[a.o,e];rfl);clear e;obtain⟨O,G,H,J,K,L,N,-⟩:=b.ca;obtain⟨t,u,x,y,z,A,-⟩:=b.fz;clear b;go_wp2_with fail;obtain⟨V,i,g,h⟩:=Kb j Tc () () () Tc Tc;rw[<-i];refine Cv (jE nP rfl (w+1) rfl [Tc,(),(),(),Tc,Tc] (hH.l7 g) rfl) rfl ?_;rw[a.o];exact⟨⟨_,rfl,BS⟩,l.own h (fun c d=>Zm)⟩
 replace a:Zz (qM p lk k n m args=if jJ m&&args.all nZ then M.start p lk k n m args else Kt):=Zy (by rw[a.o,e];rfl);clear e;go_wp2_with fail;refine(mf m _).mono ?_;rintro d w1 ⟨rfl,rfl⟩;cases e:jJ m
 . replace a:Zz (qM p lk k n m args=Kt):=Zy (by rw[a.o,e];rfl);clear e;obtain⟨O,G,H,J,K,L,N,-⟩:=b.ca;obtain⟨t,u,x,y,z,A,-⟩:=b.fz;clear b;go_wp2_with fail;obtain⟨V,i,g,h⟩:=Kb j Tc () () () Tc Tc;rw[<-i];refine Cv (jE nP rfl (w+1) rfl [Tc,(),(),(),Tc,Tc] (hH.l7 g) rfl) rfl ?_;rw[a.o];exact⟨⟨_,rfl,BS⟩,l.own h (fun c d=>Zm)⟩
 replace a:Zz (qM p lk k n m args=if args.all nZ then M.start p lk k n m args else Kt):=Zy (by rw[a.o,e];rfl);clear e b;have ae:Zz (SliceOf 1 oW w3 (· <aL.O) (.slice va args.length Q) args):=Zy (ay.keep oW.stays (Ext.same l) fun c C=>SX (HI.o c C));go_wp2;go_loopw [39] (fun aa wr=>∃o:Nat,o<=args.length/\aa=.int .i64 o/\Ext w3 wr/\Zz ((args.take o).all nZ=true)) (fun aa _=>args.length - (intOf aa).toNat)
 case atStart=>exact⟨0,SV _,rfl,Kp.rr,Zy Zl⟩
 case round=>
  obtain⟨o,hq,rfl,q,HQ⟩:=hrel;have s:=Zy q;have aU:=q.size;have b:=j.ext q;replace j:=Zy b;by_cases aK:o<args.length
  . obtain⟨F,hx⟩:=om args o aK;obtain⟨c,aV,R,rfl,hI,rfl,-,hc⟩:=(ae.ext oW.stays q).get hx;rw[V5]at hc;have g0:=hc.one;have gz:=jc g0;have HX:=Zy hx;clear hx hc q;go_wp2_with fail;refine(GU F _).mono ?_;rintro d w4 ⟨rfl,rfl⟩;cases U:(decide (-9999<=F)&&decide (F<=9999))
    . replace a:Zz (qM p lk k n m args=Kt):=Zy (by rw[a.o,rM HX.o (show nZ F=false from U)];rfl);clear U g0;obtain⟨O,G,H,J,K,L,N,-⟩:=b.ca;obtain⟨t,u,x,y,z,A,-⟩:=b.fz;clear b;go_wp2_with fail;obtain⟨V,i,g,h⟩:=Kb j Tc () () () Tc Tc;rw[<-i];refine Cv (jE nP rfl (w+1) rfl [Tc,(),(),(),Tc,Tc] (hH.l7 g) rfl) rfl ?_;rw[a.o];exact⟨⟨_,rfl,BS⟩,(l.trans s).own h (fun c d=>Zm)⟩
    . have P:Zz (nZ F=true):=Zy U;clear U b;go_wp2_with fail;exact⟨⟨o+1,Zm,by go_num,s.o,Zy (all_succ HQ.o HX.o P.o)⟩,by simp[intOf];omega⟩
  . have P:=Zy (qg HQ Zm);replace a:Zz (qM p lk k n m args=M.start p lk k n m args):=Zy (by rw[a.o,P.o];rfl);clear q b;go_wp2_with fail;refine(Ij (HL.ext s) lk aD k n m args va Q (ae.ext oW.stays s) P).mono ?_;rintro d w4 ⟨⟨R,rfl,B⟩,T⟩;rw[<-a.o]at B;obtain⟨f,hs⟩:∃f,qM p lk k n m args=f:=⟨_,rfl⟩;rw[hs]at B;have⟨aG,HS⟩:=jf hs B;obtain⟨a1,c1,a2,c2,a3,c3,rfl,-,-,-⟩:=B.form;have b:=j.kp T Zm;have aT:=T.size;obtain⟨aM,ax,aj,X⟩:=Kb b (.int .i64 f.status) (.slice a1 f.frames.length c1) (.slice a2 f.heap.length c2) (.slice a3 f.outs.length c3) (.int .i64 f.back.kind) (.int .i64 f.back.n);have ak:Ext w aM:=((l.trans s).own T (fun c d=>Zm)).own X (fun c d=>Zm);have au:=kg.stays _ _ _ (fun c=>w.heap.size<=c) _ _ (X.same fun c (C:wr.heap.size<=c) d=>Zm) (fun c (C:wr.heap.size<=c)=>Zm) HS.o;obtain⟨O,G,H,J,K,L,N,-⟩:=b.ca;obtain⟨t,u,x,y,z,A,-⟩:=b.fz;have⟨aC,aF,az,aH⟩:=jU ak au aj ax;clear b ax X aj ak au B T hs;go_wp2_with fail;rw[<-aH.o];refine Cv (jE nP rfl (w+1) rfl [.int .i64 f.status,.slice a1 f.frames.length c1,.slice a2 f.heap.length c2,.slice a3 f.outs.length c3,.int .i64 f.back.kind,.int .i64 f.back.n] (hH.l7 az) rfl) rfl ?_;rw[aG.o];exact⟨⟨_,rfl,aF⟩,aC⟩
theorem KO:zJ:=fun e c d a f b=>Ii e c d a f b
theorem Rv(w:World)(I:Nat->Prop){v:Value}(p:iZ)(g:SliceOf 2 ja w I v p)(hI:∀a,I a->a<w.heap.size)(lk:Bool)(k:Int)(n m:ByteArray)(args:List Int)(va:Option Addr)(b:Nat)(f:SliceOf 1 oW w I (.slice va args.length b) args):Calls prog 17 #[.agg #[v],.bool lk,k,n,m,.slice va args.length b] w fun e d=>(∃c,e=.returned (.agg c.toArray)/\kg d (fun a=>w.heap.size<=a) (qM p lk k n m args) c)/\Ext w d:=P5 w I v p g hI lk (Zy fun _=>KO) k n m args va b f
theorem kS.far{e: World}{h i:Value}{g:Own}(d:kS w r h i b)(l:Kp (MO r.l g) w e)(j:ji e r.l r.p)(k:∀c,g c≠none->f<=c)(o:w<=f):kS e r h i b:=
 d.kp l j fun c m n a=>by
  rcases a with a|a
  . have:=d.hB;have:=d.kr.ord;omega
  . have:=k c a;omega
theorem jm.far{n f: World}{l m:Value}{a:Nat}(d:jm w r.l p k a j lk g)(i:Kp (RD r l m) w f)(o:ji f r.l p)(h:kS n r l m b)(q:n<=a):jm f r.l p k a j lk g:=
 d.keep i (nA.refl _ _) (d.zO i.size) o (fun g e c=>SY ((d.dom g e).1) (h.Ov c)) fun g e c=>h.deep e c
theorem Kj(w:World)(I:Nat->Prop)(e:Nat)(x:RW)(cs:List Value)(hI:∀a,I a->a<w.heap.size/\a≠e)(c:hZ w e 162 cs.toArray)(j:Ae w I x cs)(hx:wD x):Calls prog 29 #[some e] w fun b w'=>b=.returned (.tuple #[])/\(∃x' aK,x'.p=x.p/\x'.s=M.step x.p true x.s/\(nJ x.p x'.b/\x.b.le x'.b)/\hZ w' e 162 aK.toArray/\Ae w' (fun a=>I a\/w.heap.size<=a) x' aK)/\Kp (·=e) w w':=by
 obtain⟨vp,ve,vq,cv,rfl,Z,he,hq,hs⟩:=j;obtain⟨f1,d1,f2,d2,f3,d3,rfl,-⟩:=hs.form;obtain⟨bI,bJ,rfl,-,fG⟩:=Z.form;obtain⟨a2,c2,rfl,-,fF⟩:=he.form;obtain⟨a3,c3,rfl,-,fH⟩:=hq.form;have⟨HP,HE,HQ,HS,S,U,F⟩:=qA Z he hq hs hI hx c;obtain⟨bz,e0,e1,e2,e3,e4,e5,e6,e7,e8,-⟩:=c.ca;have aR:=qh w I _ x.p Z fun a c=>(hI a c).1;have dO:=Zy aR;by_cases L:x.s.status=1
 . have eY:(x.s.status !=1)=false:=by rw[L];rfl
   have ah:=Zy L;clear Z he hq hs hI hx c aR L;go_enter func29,ntmps29;go_wp2_with fail;refine dO.mono ?_;rintro b w1 ⟨H,X⟩;rcases X with⟨c,-⟩|⟨-,z,rfl,hL,hO⟩
   . rw[U.o.kr]at c;cases c
   have bP:w<=z.O/\z.O<z.A/\z.A<z.D/\z.D<z.L:=⟨hO,hL.ord⟩;obtain⟨fC,eF,eG,-⟩:=(F.ext H).ca;have G:=Zy bP;have bK:=yZ w1 z x.p hL I (fun f o=>⟨Tx (S f o).1 H.size,SX ((S f o).1)⟩) x.b (HE.o.ext nG.stays H) (HQ.o.ext lq.stays H) U.o.book;have⟨dE,af⟩:=jf bK H;clear bK H e0 e1 e2 hL hO bP;go_wp2_with fail;refine dE.mono ?_;rintro b p ⟨h,dn,dw,rfl,bn,cB,rfl,k,aS⟩;have aL:=(F.ext af).kp k (SX G.o);obtain⟨fD,-,-,-,g3,g4,g5,d,g7,g8,-⟩:=aL.ca;have df:Same I w p:=fun a fJ fM c hc=>k.lL (af.je hc) (SY ((S a c).1) G.o);have aQ:=aS.kr;rw[bn]at aQ;have bO:=IA p h.l x.p aQ true x.s (kg.stays _ _ _ _ _ _ df (fun a c=>SY ((S a c).1) G.o) HS.o) U.o.vm;have⟨dP,dJ,aD,fo,T,dS⟩:=nE bO k aS aL bn cB;clear bO k aS aL bn cB df aQ eF eG e3 e4 e5 e6 e7 e8;go_wp2_with fail;refine dP.mono ?_;rintro b w3 ⟨⟨P,dm,f,rfl,J,o⟩,bL⟩;have cO:f.status=1:=by have:=congrArg St.status o;rw[ah.o]at this;exact this
   obtain⟨q0,i,X⟩:∃q0 i,f.cs=q0++[i]:=by
    have Y:f.cs≠[]:=fun b=>by
     have:=(wm.1 U.vm).goes.1 ah;rw[<-o]at this;simp[Gh.st,b]at this
    exact⟨f.cs.dropLast,f.cs.getLast Y,(UO Y).symm⟩
   obtain⟨va,vc,dh⟩:=J.calls.form;have m3:=J.blk.c 3 (.slice va f.cs.length vc) (by rw[<-dh];rfl);have mz:=J.blk.lt;have bR:=kX w3 h.l x.p dm p P true f J q0 i X;have⟨aI,HM,HG,dG,ae,dU⟩:=nE bR J o bL X cO;clear bR J o bL X cO dh g3 g4 g5 d g7 g8;go_wp2_with fail;refine aI.mono ?_;rintro b A ⟨rfl,aN⟩;have W:=HM.ext aN;have u:=W.at_ ae;have eU:=W.mi ae;have aZ:=W.Du ae;obtain⟨Q,hn⟩:∃Q:Nat,i.f.pc=Q:=⟨i.f.pc.toNat,by simp[kZ]at aZ;omega⟩;have eT:Q<(M.method x.p i.f.of).code.length:=by simp[kZ]at aZ;omega
   obtain⟨⟨op,ia,nm,bD⟩,hi⟩:=om (M.method x.p i.f.of).code Q eT;have cz:=u.blk.lt;obtain⟨bq,fK,cs,ea,eO,rfl,-,bV⟩:=(jd.code u.ml).get hi;obtain⟨g0,g1,g2,g3⟩:=bV.four;have gz:=jc g0;obtain⟨eB,eH,eX,m⟩:=ll A;have d9:=fun l=>(u.blk.ext (m.jv l)).c 9 (.slice i.t.a2 (M.method x.p i.f.of).code.length i.t.c2) rfl;have eD:=fun l=>(u.blk.ext (m.jv l)).c 11 Q (by rw[<-hn];rfl);have y0:=fun l=>(m.jv l).je g0;have y1:=fun l=>(m.jv l).je g1;have y2:=fun l=>(m.jv l).je g2;have y3:=fun l=>(m.jv l).je g3;rw[ea]at d9;have⟨t,bE,dH⟩:=jB m W aN;have dR:=Zy u.role;have fI:(Q:Int)<(M.method x.p i.f.of).code.length:=Zm
   have dM:Zz (p.heap.size<=i.cb/\i.cb<A):=Zy ⟨u.low,u.blk.lt⟩;clear W u eU aZ bV ea eO m g0 g1 g2 g3 aN m3 mz;go_wp2_with fail;refine jW t 12 [([0,1,2,3,4,5,6,7,8,9,10],11)] [] ?_ ?_
   . exact jg
   refine lJ ?_;intro V k;go_wp2_with fail;refine kk t k ((Kp.refl _ A).drew.alloc _:Ext A _) ?_;clear k V;obtain⟨w5,ax⟩:=SS ((A.alloc (.cells #[op,ia,nm,bD] 140)).drew);have aO:Ext A w5:=by rw[ax];exact((Kp.refl _ A).alloc _).drew
   have b5:hZ w5 A 140 #[op,ia,nm,bD]:=by rw[ax];exact(hZ.newAt _ _ rfl).ext jg
   have⟨bG,dB,ek,dY⟩:=jU aO b5 ax (LM w5 h.l x.p dm p P true (Zy fun _=>KO) f (bE.ext aO) q0 i ae dU);clear aO b5 ax t d9 eD y0 y1 y2 y3;refine ku ?_;go_wp2_with fail;rw[<-ek.o];refine dY.mono ?_;rintro b w6 ⟨rfl,aj,az,d,bS,ak,bX⟩;have aP:=((dG.trans dH).trans bG).any.trans aj;have aT:kS w6 h dn dw x.b:=aD.far aP (by rw[T.o];exact ak.kr) (fun f o=>(HM.dom f o).1) (T9 _);obtain⟨kq,bZ⟩:=ak.xU i.cb q0.length ((bS _ (Tx dM.2 bG.size)).trans dR);have aX:=dB.kp aj (bE.fresh (T9 _));obtain⟨g,y⟩:∃g:Rs,g=⟨w6,dn,dw,x.b⟩:=⟨_,rfl⟩;have aW:kK h g w6:=by rw[y];exact aT.begin
   have aV:kS g.w h g.ve g.vp g.b:=by rw[y];exact aT
   have cK:∀f,RD h g.ve g.vp f->f<p.heap.size:=fun f o=>by rw[y]at o;exact aD.Ov o
   obtain⟨eB,eH,eX,m⟩:=qC.ex (fun W'=>kK h g W') _ aW;obtain⟨-,i0,N,O,i3,-⟩:=hZ.lC fun l=>(m.jv l).blk aV (by rw[y];exact aX);have⟨t,fu,dK,bH,dI,aG,fB,fA,dL⟩:=sV m aj aP ak bX aW aV cK bZ;have aF:Zz (kS p h g.ve g.vp g.b):=Zy (by rw[y];exact aD);have aH:Zz (g.w=w6):=Zy (by rw[y]);have dW:Zz (g.b=x.b):=Zy (by rw[y]);have fq:=Zy aX;clear m aj aP ak bX aW aV cK bZ bS aT y aX;go_upto_region 8 with(fail);refine jW t 5 [([0,1,3],2),([],4)] [] ?_ ?_
   . exact aG.ext jg
   refine lJ ?_;intro V k;go_wp2_with fail;refine(mZ kq ((Kp.refl (fun _=>False) w6).drew.je dL)).mono ?_;rintro b wx ⟨rfl,rfl⟩;go_wp2_with fail;refine kk t k (aG.ext jg) ?_;clear k V;refine kN rfl fun V k=>?_;go_wp2_with fail;refine(Eo h g (aG.ext jg) kq ⟨op,ia,nm,bD⟩).mono ?_;rintro b s ⟨rfl,bQ⟩;have B:=Zy bQ;clear bQ;go_wp2_with fail;refine kk t k B ?_;clear k V;clear t i0 N O i3;refine tH rfl ?_;have v:=B.1;rw[aH.o]at v;have D:jm s h.l x.p az p P true d:=bH.far v (by have:=B.kr;rwa[T.o]at this) aF.o (T9 _);obtain⟨eZ,fe,di⟩:=D.calls.form;have m3:=D.blk.c 3 (.slice eZ d.cs.length fe) (by rw[<-di];rfl);have mz:=D.blk.lt;have⟨aa,fw⟩:=jf D v;clear v di;by_cases K:f.cs.length<d.cs.length;focus
    obtain⟨q1,c1,aY⟩:∃q1 c1,d.cs=q1++[c1]:=by
     have Y:d.cs≠[]:=fun b=>by rw[b]at K;simp at K
     exact⟨d.cs.dropLast,d.cs.getLast Y,(UO Y).symm⟩
    have eQ:=eq_true K
    have⟨aI,bF⟩:=jf (kX s h.l x.p az p P true d D q1 c1 aY) aY
    clear aY D K
    go_wp2_with fail
    refine aI.mono ?_
    rintro b w8 ⟨rfl,q⟩
    have bU:=(aa.ext q).at_ bF
    have bW:=(jD.1 ((aa.ext q).Du bF)).1
    obtain⟨-,t0,t1,t2,-⟩:=bU.blk.ca
    have⟨ag,dz⟩:=jf q (zG h g w8 (B.ext q) c1.f.of (by rw[T.o];exact bW))
    have dN:Zz (∀C,kK h g C->jm C h.l x.p az p P true d):=Zy fun C r=>bH.far (by have:=r.1;rwa[aH.o]at this) (by have:=r.kr;rwa[T.o]at this) aF.o (T9 _)
    clear bU bW q m3 mz
    go_wp2_with fail
    refine dz.mono ?_
    rintro b s ⟨rfl,r⟩
    have⟨B,aa⟩:=jf r (dN s r)
    clear r t0 t1 t2
    go_upto_region 11 with(fail)
   rotate_left;focus
    have eQ:=VB K
    clear K D
    go_upto_region 11 with(fail)
    clear m3 mz
   all_goals
    have fE:=F.lt;have ai:Ext w p:=af.own dJ fun a b=>SX G.o
    have bM:=ai.own dK fun a b=>by
     have:=G.o;have:=ai.size;rcases b with b|b
     . omega
     . have:=(HM.dom a b).1;omega
    have v:=B.1;rw[aH.o]at v;have bN:=bM.own v fun a b=>by
     have:=G.o;have:=dS.o;have:=af.size;rcases aF.o.BH b with b|b<;>omega
    obtain⟨-,vE,vP,n,-,cu,aU⟩:=B.o;rw[dW.o]at cu;have dF:=Zy (IM s h vE vP n aU);have dQ:Zz (nJ x.p n/\x.b.le n):=Zy ⟨by have:=aU.ok;rwa[T.o]at this,cu⟩;have aB:=Zy bN;have eu:=Zy ai.size;clear aU ai bM v bN;go_wp2_with fail;refine dF.mono ?_;rintro b w8 ⟨⟨v1,v2,rfl,bA,bB⟩,q⟩;obtain⟨N,j1,rfl,-,-⟩:=bA.form;obtain⟨O,j2,rfl,-,-⟩:=bB.form;have av:=F.ext (aB.trans q);obtain⟨n0,n1,-⟩:=av.fz;obtain⟨nz,o0,o1,-⟩:=av.ca;have⟨dC,ag,dZ,ed⟩:=jU av q bA bB;clear av q bA bB;go_upto_region 12 with(fail);obtain⟨E,ay⟩:=SS ((w8.setCell e (.slice N n.jI.length j1)).setCell (e,1) (.slice O n.jq.length j2));have bg:Kp (·=e) w8 E:=by rw[ay];exact nH
    have bT:hZ E e 162 #[.slice N n.jI.length j1,.slice O n.jq.length j2,.slice bI x.p.length bJ,x.s.status,.slice f1 x.s.frames.length d1,.slice f2 x.s.heap.length d2,.slice f3 x.s.outs.length d3,x.s.back.kind,x.s.back.n]:=by rw[ay];have j:=((dC.jy 0 (.slice N n.jI.length j1)).jy 1 (.slice O n.jq.length j2));simpa using j
    rw[<-ay];have⟨dX,dD,aC⟩:=jB (Co E h.l x.p az p P true d ((aa.run.ext ag).kp bg fun a c b=>SX eu.o)) bT bg;clear ay bT bg n0 n1 nz o0 o1;go_wp2_with fail;refine dX.mono ?_;rintro b dx ⟨⟨aK,rfl,bu⟩,aM⟩;have cZ:=bu;obtain⟨k1,l1,k2,l2,k3,l3,rfl,-⟩:=bu.form;have au:=dD.ext aM;obtain⟨-,-,-,n3,n4,n5,n6,n7,n8,-⟩:=au.fz;obtain⟨nz,-,-,-,o3,o4,o5,o6,o7,o8,-⟩:=au.ca;have⟨dA,aA,dV⟩:=jB au aM cZ;clear au aM bu cZ;go_wp2_with fail;obtain⟨R,bC⟩:=SS ((((((dx.setCell (e,3) d.st.status).setCell (e,4) (.slice k1 d.st.frames.length l1)).setCell (e,5) (.slice k2 d.st.heap.length l2)).setCell (e,6) (.slice k3 d.st.outs.length l3)).setCell (e,7) d.st.back.kind).setCell (e,8) d.st.back.n);have bf:Kp (·=e) dx R:=by rw[bC];exact nH
    have eP:hZ R e 162 #[.slice N n.jI.length j1,.slice O n.jq.length j2,.slice bI x.p.length bJ,d.st.status,.slice k1 d.st.frames.length l1,.slice k2 d.st.heap.length l2,.slice k3 d.st.outs.length l3,d.st.back.kind,d.st.back.n]:=by rw[bC];have j:=((((((dA.jy 3 d.st.status).jy 4 (.slice k1 d.st.frames.length l1)).jy 5 (.slice k2 d.st.heap.length l2)).jy 6 (.slice k3 d.st.outs.length l3)).jy 7 d.st.back.kind).jy 8 d.st.back.n);simpa using j
    rw[<-bC];refine Ta ?_;have hK:=(((aB.trans ag).any.trans aC).trans aA.any).trans bf;have z1:=aB.size;have z2:=ag.size;have z3:=aC.size;have z4:=aA.size;have zB:=F.lt;have sm:∀(aJ:Nat->Prop) {C:World},Kp (·=e) C R->(∀a,aJ a->a≠e)->Same aJ C R:=fun aJ C j hJ=>Kp.same j fun a c b=>hJ a c b;have bY:=(aC.trans aA.any).trans bf;refine⟨rfl,⟨⟨x.p,n,d.st⟩,[_,_,_,_,_,_,_,_,_],rfl,?_,dQ,eP,_,_,_,[_,_,_,_,_,_],rfl,?_,?_,?_,?_⟩,hK⟩
    . rw[dI.o,HG.o]
    . exact HP.keep ja.stays (sm _ hK fun a c=>(S a c).2) fun a c=>.inl c
    . exact dZ.keep nG.stays (sm _ bY fun a c b=>by subst b;have:s.heap.size<=a:=c;omega) fun a c=>.inr (by have:s.heap.size<=a:=c;omega)
    . exact ed.keep lq.stays (sm _ bY fun a c b=>by subst b;have:s.heap.size<=a:=c;omega) fun a c=>.inr (by have:s.heap.size<=a:=c;omega)
    . exact kg.stays _ _ _ _ _ _ (sm _ bf fun a c b=>by subst b;have:E.heap.size<=a:=c;omega) (fun a c=>.inr (by have:E.heap.size<=a:=c;omega)) dV.o
 . have eY:(x.s.status !=1)=true:=by simpa using L
   have r:M.step x.p true x.s=x.s:=by unfold M.step;rw[Tt L]
   have ah:=Zy r;clear Z he hq hs hI hx c aR L r;go_enter func29,ntmps29;go_wp2_with fail;refine Ta ?_;exact⟨rfl,⟨x,_,rfl,ah.symm,⟨U.book,Book.le.refl _⟩,F,_,_,_,_,rfl,HP.keep ja.stays (fun _ _ _ _ j=>j) fun _=>.inl,HE.keep nG.stays (fun _ _ _ _ j=>j) fun _=>.inl,HQ.keep lq.stays (fun _ _ _ _ j=>j) fun _=>.inl,kg.stays _ _ _ _ _ _ (fun _ _ _ _ j=>j) (fun _=>.inl) HS⟩,Kp.rr⟩
theorem Ae.inside{x:RW}(a:Ae w I x cs):Ae w (fun b=>I b/\b<w) x cs:=by
 obtain⟨j,i,k,c,d,e,f,g,h⟩:=a;exact⟨j,i,k,c,d,e.inside (fun _ _ _ _ a=>ja.inside a) Zn,f.inside (fun _ _ _ _ a=>a) Zn,g.inside (fun _ _ _ _ a=>a) Zn,h.Aw⟩
theorem IZ(w:World)(I:Nat->Prop)(hI:∀a,I a->a<w.heap.size)(x:RW){cs:List Value}(c:lh w I x cs)(D:wD x):Calls prog 9 #[.agg cs.toArray] w fun d w'=>(∃p P,d=.returned (.agg P.toArray)/\p.p=x.p/\p.s=M.step x.p true x.s/\(wD p/\x.b.le p.b)/\lh w' (fun a=>I a\/w.heap.size<=a) p P)/\Ext w w':=by
 have Z:=c;obtain⟨vp,ve,vq,cv,rfl,m,l,n,o⟩:=c;obtain⟨T,Q,U,R,V,S,rfl,-⟩:=o.form;obtain⟨F,L,rfl,-,aT⟩:=m.form;obtain⟨G,N,rfl,-,aS⟩:=l.form;obtain⟨H,O,rfl,-,aU⟩:=n.form;obtain⟨f,g⟩:=SS ((w.alloc (.cells #[.slice F x.p.length L,.slice G x.b.jI.length N,.slice H x.b.jq.length O,x.s.status,.slice T x.s.frames.length Q,.slice U x.s.heap.length R,.slice V x.s.outs.length S,x.s.back.kind,x.s.back.n] 41)).alloc (.cells #[(),(),(),Tc,(),(),(),Tc,Tc] 41));have s:Ext w f:=by rw[g];exact kx
 have A:hZ f w 41 #[.slice F x.p.length L,.slice G x.b.jI.length N,.slice H x.b.jq.length O,x.s.status,.slice T x.s.frames.length Q,.slice U x.s.heap.length R,.slice V x.s.outs.length S,x.s.back.kind,x.s.back.n]:=by rw[g];exact(hZ.new _ _ _).ext kx
 have j:hZ f (w+1) 41 #[(),(),(),Tc,(),(),(),Tc,Tc]:=by rw[g];exact hZ.newAt _ _ Zl
 have aA:f.heap.size=w+2:=by rw[g];simp
 obtain⟨-,e0,e1,e2,e3,e4,e5,e6,e7,e8,-⟩:=A.ca;have B:=lh.stays _ _ _ _ _ _ (Ext.same s) (fun _ c=>c) Z;have ak:=Ox f I (fun a e=>Tx (hI a e) s.size) x B D;have⟨aH,aK,aF,aB,aC,r,H0,y,i⟩:=sV ak g s A j aA B hI D;clear g s A j aA B ak m l n o Z hI D;go_enter func9,ntmps9;go_upto_region 1 with(fail);rw[<-aK.o];go_wp2_with fail;refine aH.mono ?_;rintro d w1 ⟨rfl,k⟩;have af:=lh.stays _ _ _ _ _ _ (Ext.same k) (fun _ c=>c) H0;have⟨aL,h⟩:=jf (Jj w1 I (fun a e=>S9 (y.o a e) k.size r.o) x af (Bc.1 i.o.vm).2.1) k;obtain⟨-,s0,s1,s2,s3,s4,s5,s6,s7,s8,-⟩:=(aB.ext k).ca;clear e0 e1 e2 e3 e4 e5 e6 e7 e8 k af;go_wp2_with fail;refine aL.mono ?_;rintro d w2 ⟨⟨v,aM,rfl,hB,ah,au⟩,ae⟩;have aJ:=Zy (Kj w2 (fun a=>(I a\/(w1.heap.size<=a/\a≠v))/\a<w2.heap.size) v x aM (fun a e=>⟨e.2,fun d=>by
  rcases e.1 with c|c
  . have:=y.o a c;have:=h.size;have:=r.o;omega
  . exact c.2 d⟩) ah au.inside i)
 have⟨E,q⟩:=jf hB ae;clear hB ae ah au s0 s1 s2 s3 s4 s5 s6 s7 s8;go_wp2_with fail;refine aJ.mono ?_;rintro d w3 ⟨rfl,⟨b,aN,ay,az,ax,ai,av⟩,ag⟩;have⟨aI,z,HY⟩:=jB (Ga w3 v b aN ai av) ag (Tn ay (Tn az ax));clear ay az ax ai av ag;go_wp2_with fail;refine aI.mono ?_;rintro d w7 ⟨⟨aR,rfl,h7⟩,C⟩;have aa:=h7;obtain⟨vp,ve,vq,cv,rfl,m,l,n,o⟩:=h7;obtain⟨W,k4,X,k5,Y,k6,rfl,-⟩:=o.form;obtain⟨J,k0,rfl,-,-⟩:=m.form;obtain⟨j,k2,rfl,-,-⟩:=l.form;obtain⟨K,k3,rfl,-,-⟩:=n.form;have z0:=r.o;have z1:=h.size;have z2:=q.size;have z3:=z.size;have z4:=E.o;have t:=((((aC.ext h).ext q).kp z Zm).ext C);obtain⟨q0,q1,q2,q3,q4,q5,q6,q7,q8,-⟩:=t.fz;obtain⟨fz,m0,m1,m2,m3,m4,m5,m6,m7,m8,-⟩:=t.ca;have⟨aD,aG⟩:=jf t C;have H7:=Zy aa;clear t C aa m l n o z0 z1 z2 z3 z4;go_wp2_with fail;obtain⟨w9,aQ,aP,aj⟩:=OJ aD (.slice J b.p.length k0) (.slice j b.b.jI.length k2) (.slice K b.b.jq.length k3) b.s.status (.slice W b.s.frames.length k4) (.slice X b.s.heap.length k5) (.slice Y b.s.outs.length k6) b.s.back.kind b.s.back.n;rw[<-aQ];have z0:=r.o;have z1:=h.size;have z2:=q.size;have z4:=E.o;have aO:Ext w w9:=(((((aF.trans h).trans q).own z fun a d=>Zm).trans aG.o).own aj fun a d=>Zm);refine Cv (jE Ah rfl (w+1) rfl [.slice J b.p.length k0,.slice j b.b.jI.length k2,.slice K b.b.jq.length k3,b.s.status,.slice W b.s.frames.length k4,.slice X b.s.heap.length k5,.slice Y b.s.outs.length k6,b.s.back.kind,b.s.back.n] (hH.l7 aP) rfl) rfl ?_;obtain⟨u,y2,y3⟩:=HY.o;refine⟨⟨b,_,rfl,u,y2,⟨⟨by rw[u];exact i.kr,by rw[u,y2];exact wm.2 (MC i.kr (wm.1 i.vm) true),by rw[u];exact y3.1⟩,y3.2⟩,lh.stays _ _ _ _ _ _ (Kp.same aj fun a e d=>?_) (fun a e=>?_) H7⟩,aO⟩
 . subst d;rcases e with⟨c|⟨c,-⟩,-⟩|c
   . have:=y.o _ c;omega
   . omega
   . omega
 . rcases e with⟨c|⟨c,-⟩,-⟩|c
   . exact .inl c
   . right;omega
   . right;omega
theorem KP(w:World)(I:Nat->Prop)(hI:∀b,I b->b<w.heap.size){v:Value}(p:iZ)(hp:SliceOf 2 ja w I v p)(n m:ByteArray)(args:List Int)(va:Option Addr)(ac:Nat)(bH:SliceOf 1 oW w I (.slice va args.length ac) args):Calls prog 6 #[.agg #[v],n,m,.slice va args.length ac] w fun c w'=>(∃au cs,c=.returned (.agg cs.toArray)/\lh w' (fun b=>I b\/w.heap.size<=b) au cs/\(au.s.status=0\/(au.p=p/\wD au)))/\Ext w w':=by
 obtain⟨bg,bn,rfl,-,dG⟩:=hp.form;obtain⟨j,J⟩:=SS ((w.alloc (.cells #[.slice bg p.length bn] 25)).alloc (.cells #[(),(),(),Tc,(),(),(),Tc,Tc] 41));have V:Ext w j:=by rw[J];exact kx
 have A:hZ j w 25 #[.slice bg p.length bn]:=by rw[J];exact(hZ.new _ _ _).ext kx
 have U:hZ j (w+1) 41 #[(),(),(),Tc,(),(),(),Tc,Tc]:=by rw[J];exact hZ.newAt _ _ Zl
 have bS:j.heap.size=w+2:=by rw[J];simp
 obtain⟨-,e0,-⟩:=A.ca;have bC:=fun b e=>Tx (hI b e) V.size;have aZ:=Zy (Rv j I p (hp.ext ja.stays V) bC true 0 n m args va ac (bH.ext oW.stays V));have aU:Zz (qM p true 0 n m args=Kt\/(kQ p=true/\Ad p (qM p true 0 n m args))):=Zy (by
  rcases Jh (p:=p) (k:=0) (n:=n) (m:=m) (args:=args)with d|⟨d,h2⟩
  . exact .inl (d true)
  . exact .inr ⟨d,(h2 true).2⟩)
 obtain⟨a,hs⟩:∃a,qM p true 0 n m args=a:=⟨_,rfl⟩;rw[hs]at aZ aU;clear hs;have⟨cZ,bV,aQ,aR,ay,HI,HP⟩:=qA J V A U bS hI hp;clear J V A U bS bC hp bH hI;go_enter func6,ntmps6;go_upto_region 1 with(fail);rw[<-cZ.o];go_wp2_with fail;refine aZ.mono ?_;rintro c K ⟨⟨cv,rfl,hv⟩,ah⟩;obtain⟨E,B,F,C,G,D,rfl,-⟩:=hv.form;obtain⟨L,bR,ai,s⟩:=nu K #[.int .i64 a.status,.slice E a.frames.length B,.slice F a.heap.length C,.slice G a.outs.length D,.int .i64 a.back.kind,.int .i64 a.back.n] 39;obtain⟨-,k0,k1,k2,k3,k4,k5,-⟩:=s.ca;have cz:=Zy (kg.stays _ _ _ _ _ _ (Ext.same ai) (fun _ d=>d) hv.Aw);have T:Zz (j.heap.size<=K/\(K:Nat)<L):=Zy ⟨ah.size,s.lt⟩;have⟨aa,q,aS,df⟩:=jU (ah.trans ai) (bV.trans (ah.trans ai)) s bR;clear hv bR s ah ai;go_upto_region 2 with(fail);rw[<-df.o];by_cases H:a.status=0
 . have dx:=Uq.2 H;have h:=aR.ext aa;obtain⟨q0,q1,q2,q3,q4,q5,q6,q7,q8,-⟩:=h.fz;obtain⟨fz,m0,m1,m2,m3,m4,m5,m6,m7,m8,-⟩:=h.ca;have av:=Zy h;clear h H;go_wp2_with fail;obtain⟨w9,aM,aF,u⟩:=OJ av () () () Tc () () () Tc Tc;rw[<-aM];have aA:Ext w w9:=q.own u fun b c=>Zm
   refine Cv (jE Ah rfl (w+1) rfl [(),(),(),Tc,(),(),(),Tc,Tc] (hH.l7 aF) rfl) rfl ?_;exact⟨⟨⟨[],⟨[],[]⟩,Kt⟩,_,rfl,⟨_,_,_,_,rfl,SliceOf.nil _ _ _ _,SliceOf.nil _ _ _ _,SliceOf.nil _ _ _ _,BS⟩,.inl rfl⟩,aA⟩
 . have dx:((a.status:Int)==0)=false:=by simpa using H
   have hR:kQ p=true/\Ad p a:=by
    rcases aU.o with d|d
    . exact absurd (by rw[d];rfl) H
    . exact d
   have⟨Q,dC⟩:=jf hR H;obtain⟨-,u0,-⟩:=(aQ.ext aa).ca;have bW:=Zy (qh L I _ p (HP.ext ja.stays q) fun b e=>Tx (HI b e) q.size);clear hR H e0;go_wp2_with fail;refine bW.mono ?_;rintro c w4 ⟨bq,dm⟩;rcases dm with⟨e,-⟩|⟨-,l,rfl,hL,hO⟩
   . rw[Q.o.1]at e;cases e
   have P:Zz (L<=l.O/\l.O<l.A/\l.A<l.D/\l.D<l.L):=Zy ⟨hO,hL.ord⟩;have⟨bX,ae⟩:=jf (AO w4 l p hL) bq;clear bq hL hO u0;go_wp2_with fail;refine bX.mono ?_;rintro c x ⟨i,rfl,bP,bO,rfl,bu,aB⟩;obtain⟨g,ak⟩:∃g:Rs,g=⟨x,(),(),⟨[],[]⟩⟩:=⟨_,rfl⟩;have S:Zz (g.w=x):=Zy (by rw[ak]);have bD:kS g.w i g.ve g.vp g.b:=by rw[ak];exact aB
   have bE:kK i g x:=by rw[ak];exact aB.begin
   have W:=ae.trans bu;obtain⟨-,t0,t1,t2,-⟩:=(aS.ext W).ca;have⟨y,aW,N,aV,ax⟩:=ni bD bE W bP bO;have aX:Zz (∀az,kK i g az->Same (· <i.l.O) x az):=Zy fun az d=>by have:=d.same y;rwa[S.o]at this
   have⟨aY,aT⟩:=jf (kg.stays _ _ _ _ _ _ (Ext.same W) (fun _ d=>d) cz) (aS.ext W);clear bP bO bu aB ak bD bE W k0 k1 k2 k3 k4 k5;have hh:(0<a.heap.length)=(0<a.heap.length):=rfl;by_cases k:0<a.heap.length;focus
    have bM:=eq_true k
    have bN:(a.heap=[])=False:=VB fun c=>by rw[c]at k;simp at k
    clear k
    go_wp2_with fail
    refine(rA i g x aW 0 n).mono ?_
    rintro c o ⟨rfl,bF⟩
    have R:=Zy bF
    clear bF
    go_upto_region 7 with(fail)
   rotate_left;focus
    have bN:a.heap=[]:=by cases d:a.heap with|nil=>rfl|cons _ _=>rw[d]at k;simp at k
    have bM:=VB k
    clear k
    obtain⟨o,aK⟩:∃o,o=x:=⟨_,rfl⟩
    go_upto_region 7 with(fail)
    have R:Zz (kK i g o):=Zy (by rw[aK];exact aW)
    rw[<-aK]
    clear aK bM bN
   all_goals
    have aD:hZ o K 39 #[.int .i64 a.status,.slice E a.frames.length B,.slice F a.heap.length C,.slice G a.outs.length D,.int .i64 a.back.kind,.int .i64 a.back.n]:=R.blk y (by rw[S.o];exact aT);obtain⟨-,k0,k1,k2,k3,k4,k5,-⟩:=aD.ca;have dB:=Zy aD;clear aD;by_cases Z:a.status=1;focus
     have dw:=Uq.2 Z
     have dn:=Vs.2 (Q.2.goes.1 Z)
     obtain⟨fr,aG⟩:=get_some dn
     have dz:kg x (fun b=>b<L.heap.size) a _:=kg.stays _ _ _ _ _ _ (fun _ _ _ _ d=>d) (fun b e=>SY e.2 T.o) aY.o
     have dA:kg o (fun b=>b<L.heap.size) a _:=kg.stays _ _ _ _ _ _ (fun b aN aO e hc=>aX.o _ R b aN aO (SX P.o) hc) (fun _ d=>d) dz
     obtain⟨vf,vh,vo,c,bL,-,-⟩:=dA
     cases c
     obtain⟨bf,dH,cf,ea,di,⟨vl,vs,rfl,-,-⟩,-,aj⟩:=bL.get aG
     have j0:=aj 0 _ rfl
     have j1:=aj 1 _ rfl
     have j2:=aj 2 _ rfl
     simp only[Ua,U3]at j0 j1 j2
     have jz:=jc j0
     rw[ea]at k1
     have bK:=(jD.1 (Q.2.good.frames fr (RA aG))).1
     have bT:=Zy (zG i g o R fr.of (by rw[aV.o];exact bK))
     clear Z aG bL aj di bK ea
     go_wp2_with fail
     refine bT.mono ?_
     rintro c f ⟨rfl,bG⟩
     have z:=Zy bG
     clear bG j0 j1 j2 jz
     go_upto_region 9 with(fail)
    rotate_left;focus
     have dw:((a.status:Int)==1)=false:=by simpa using Z
     clear Z
     obtain⟨f,aL⟩:∃f,f=o:=⟨_,rfl⟩
     go_upto_region 9 with(fail)
     have z:Zz (kK i g f):=Zy (by rw[aL];exact R)
     rw[<-aL]
     clear aL
   all_goals
    have Y:=z.1;rw[S.o]at Y;have bz:=(q.trans N).own Y fun b c=>by
     have:=P.o;have:=ax.o;have:=ae.size;have:=q.size;rcases y.o.BH c with c|c<;>omega
    obtain⟨vE,vP,t,aC⟩:=z.at_;have bY:Zz (nJ p t):=Zy (by have:=aC.ok;rwa[aV.o]at this);have bJ:hZ f K 39 #[.int .i64 a.status,.slice E a.frames.length B,.slice F a.heap.length C,.slice G a.outs.length D,.int .i64 a.back.kind,.int .i64 a.back.n]:=z.blk y (by rw[S.o];exact aT);obtain⟨dD,dE,dF,HT⟩:=ll f;have bI:=(aQ.ext (aa.trans N)).kp Y fun c=>by
     have:=P.o;have:=ax.o;have:=ae.size;have:=q.size;have:=ay.o;have:=T.o;rcases y.o.BH c with c|c<;>omega
    have h:=(aR.ext (aa.trans N)).kp Y fun c=>by
     have:=P.o;have:=ax.o;have:=ae.size;have:=q.size;have:=ay.o;have:=T.o;rcases y.o.BH c with c|c<;>omega
    have bQ:kg f (fun b=>j.heap.size<=b/\b<K.heap.size) a [.int .i64 a.status,.slice E a.frames.length B,.slice F a.heap.length C,.slice G a.outs.length D,.int .i64 a.back.kind,.int .i64 a.back.n]:=kg.stays _ _ _ _ _ _ (fun b aN aO e hc=>aX.o _ z b aN aO (SY P.o T.o) hc) (fun _ d=>d) aY.o;obtain⟨-,r0,-⟩:=hZ.lC fun aP=>bI.ext (HT.jv aP);obtain⟨-,i0,i1,i2,i3,i4,i5,-⟩:=hZ.lC fun aP=>bJ.ext (HT.jv aP);have⟨ag,af,bZ,av,cB⟩:=ni HT bz aC h bQ;clear HT Y bz aC bJ bI h bQ k0 k1 k2 k3 k4 k5;refine jW ag 6 [([0,2,4],1),([],3)] [5] ?_ ?_
    . exact jg
    refine lJ ?_;intro K2 X;go_wp2_with fail;refine(zN _ I p (HP.ext ja.stays (af.trans jg)) fun b e=>Tx (HI b e) (af.trans ((Kp.refl _ f).drew:Ext f _)).size).mono ?_;rintro c wa ⟨⟨v1,rfl,aH⟩,bA⟩;obtain⟨A,n1,rfl,-,-⟩:=aH.form;have⟨r,cu⟩:=jf (((Kp.refl _ f).drew:Ext f _).trans bA) aH;clear bA aH;go_wp2_with fail;refine kk ag X r ?_;clear X K2;refine kN rfl fun K2 X=>?_;go_wp2_with fail;refine(IM wa i vE vP t (bZ.ext r)).mono ?_;rintro c wb ⟨⟨v2,v3,rfl,aI,aJ⟩,bB⟩;obtain⟨U,n2,rfl,-,-⟩:=aI.form;obtain⟨s,n3,rfl,-,-⟩:=aJ.form;have⟨O,cK,cO⟩:=jB bB aI aJ;clear bB aI aJ;go_wp2_with fail;refine kk ag X (r.trans O) ?_;clear X K2;have h:=av.ext (r.trans O);obtain⟨q0,q1,q2,q3,q4,q5,q6,q7,q8,-⟩:=h.fz;obtain⟨fz,m0,m1,m2,m3,m4,m5,m6,m7,m8,-⟩:=h.ca;have bU:=Zy h;clear h ag r0 i0 i1 i2 i3 i4 i5;refine r9 [_] rfl fun dh hK=>?_;(repeat (go_big_quiet_step (fail)));refine qn hK ?_;clear hK dh;go_wp2_with fail;obtain⟨w9,aM,aF,u⟩:=OJ bU (.slice A p.length n1) (.slice U t.jI.length n2) (.slice s t.jq.length n3) (.int .i64 a.status) (.slice E a.frames.length B) (.slice F a.heap.length C) (.slice G a.outs.length D) (.int .i64 a.back.kind) (.int .i64 a.back.n);rw[<-aM];have aA:Ext w w9:=((af.trans r).trans O).own u fun b c=>Zm
    refine Cv (jE Ah rfl (w+1) rfl [.slice A p.length n1,.slice U t.jI.length n2,.slice s t.jq.length n3,.int .i64 a.status,.slice E a.frames.length B,.slice F a.heap.length C,.slice G a.outs.length D,.int .i64 a.back.kind,.int .i64 a.back.n] (hH.l7 aF) rfl) rfl ?_;have z0:=ay.o;have z2:=T.o;have z7:=af.size;have za:=r.size;have z5:=N.size;have zc:L.heap.size<=f:=TL N.size (by have:=z.1.size;rwa[S.o]at this);refine⟨⟨⟨p,t,a⟩,_,rfl,⟨_,_,_,_,rfl,?_,?_,?_,?_⟩,.inr ⟨rfl,⟨Q.1,wm.2 Q.2,bY⟩⟩⟩,aA⟩
    . refine cu.keep ja.stays (Kp.same (O.any.trans u) fun b e c=>?_) fun b e=>e.imp id fun d=>?_
      . rcases e with d|d
        . have:=HI.o b d;omega
        . have:f.heap.size<=b:=d;omega
      . have:f.heap.size<=b:=d;omega
    . exact cK.keep nG.stays (Kp.same u fun b e c=>by have:wa.heap.size<=b:=e;omega) fun b e=>.inr (by have:wa.heap.size<=b:=e;omega)
    . exact cO.keep lq.stays (Kp.same u fun b e c=>by have:wa.heap.size<=b:=e;omega) fun b e=>.inr (by have:wa.heap.size<=b:=e;omega)
    . exact kg.stays _ _ _ _ _ _ (Kp.same ((r.trans O).any.trans u) fun b e c=>Zm) (fun b e=>.inr Zm) cB.o
theorem KH(w:World)(I:Nat->Prop){v:Value}(p:iZ)(d:SliceOf 2 ja w I v p)(hI:∀b,I b->b<w.heap.size):Calls prog 162 #[.agg #[v]] w fun f r=>f=.returned (.bool (kQ p))/\Ext w r:=by
 obtain⟨n,o,rfl,-,-⟩:=d.form;obtain⟨s,h,c,e⟩:=nu w #[.slice n p.length o] 25;have l:=Zy (qh s I _ p (d.ext ja.stays c) fun b a=>Tx (hI b a) c.size);obtain⟨-,t,-⟩:=e.ca;have⟨m,j⟩:=jf h c;clear h c d hI e;go_enter func162,ntmps162;go_upto_region 1 with(fail);rw[<-m.o];go_wp2_with fail;refine l.mono ?_;rintro f x ⟨g,q⟩;have k:=Zy (j.trans g);clear g;rcases q with⟨a,rfl⟩|⟨a,u,rfl,-,-⟩
 all_goals
  have i:=Zy a;clear a;go_wp2;go_ret;exact⟨hQ i.symm,k⟩
theorem Rw(w:World){I:Nat->Prop}{v:Value}(p:iZ)(l:SliceOf 2 ja w I v p)(hI:∀a,I a->a<w.heap.size)(V:kQ p=true)(s:St){cs:List Value}(m:kg w I s cs):Calls prog 68 #[.agg #[v],.agg cs.toArray] w fun e X=>e=.returned (.bool (CO p s))/\Ext w X:=by
 obtain⟨o,t,rfl,-,-⟩:=l.form;have E:=m;obtain⟨z,u,A,x,B,y,rfl,-⟩:=E.form;clear E;obtain⟨b,d⟩:=SS ((w.alloc (.cells #[.slice o p.length t] 25)).alloc (.cells #[s.status,.slice z s.frames.length u,.slice A s.heap.length x,.slice B s.outs.length y,s.back.kind,s.back.n] 39));have f:Ext w b:=by rw[d];exact kx
 have q:hZ b w 25 #[.slice o p.length t]:=by rw[d];exact(hZ.new _ _ _).ext kx
 have r:hZ b (w+1) 39 #[s.status,.slice z s.frames.length u,.slice A s.heap.length x,.slice B s.outs.length y,s.back.kind,s.back.n]:=by rw[d];exact hZ.new' _ _ Zl
 have F:b.heap.size=w+2:=by rw[d];simp
 have O:=Zy (qh b I _ p (l.ext ja.stays f) fun a c=>Tx (hI a c) f.size);obtain⟨-,T,-⟩:=q.ca;have⟨S,J,G,N,Q,n⟩:=nE d f r hI m F;clear d f l hI q r m F;go_enter func68,ntmps68;go_upto_region 1 with(fail);rw[<-S.o];go_wp2_with fail;refine O.mono ?_;rintro e Y ⟨k,U⟩;rcases U with⟨c,-⟩|⟨-,W,rfl,C,D⟩
 . rw[V]at c;cases c
 have j:=J.trans k;obtain⟨-,Z,r1,r2,r3,r4,r5,-⟩:=(G.ext k).ca;have⟨R,K,P⟩:=jB (DY Y W p C s (kg.stays _ _ _ _ _ _ (Ext.same j) (fun a c=>SY (N.o a c) n.o) Q.o)) j D;clear k j C D T;go_wp2_with fail;refine R.mono ?_;rintro e w2 ⟨rfl,i⟩;have L:=Zy (K.own i.kp fun a e=>S9 P.o n.o i.at_.ord);obtain⟨g,h⟩:∃g,g=CO p s:=⟨_,rfl⟩;rw[<-h];have H:=Zy h;clear i h;cases g
 all_goals
  go_wp2;go_ret;exact⟨hQ H,L⟩
def Gb(w:World)(J I:Nat->Prop)(base g0 n cap:Nat)(css:List (List Value))(k:Nat)(vo va:Value)(xo:List Class)(xa:List M.Ask)(e:Ending)(w':World):Prop:=
 e=.returned (.tuple #[])/\(∃J' vo' va' xo' xa',(∀b,J' b->J b\/I b\/w.heap.size<=b)/\xo'.length<=xo.length+1/\xa'.length<=xa.length+1/\lU w' J' base g0 n cap (css.set k [vo',va']) k vo' va' xo' xa')/\
  Kp (fun b=>b=g0\/vo.ownBlock=some b\/va.ownBlock=some b) w w'
section
variable {w:World} {J I:Nat->Prop} {base g0 n cap k:Nat} {css:List (List Value)} {vo va:Value} {xo:List M.Class} {xa:List M.Ask}
theorem M5(b:lU w J base g0 n cap css k vo va xo xa)(hl:xo.length<=1000/\xa.length<=1000)(c:ByteArray):Calls prog 271 #[.agg #[c],some (g0,k*2)] w (Gb w J I base g0 n cap css k vo va xo xa):=
 (KA w b hl.2 c).mono fun _ _ ⟨a,⟨d,e,_,h2,h3⟩,hk⟩=>⟨a,⟨J,vo,d,xo,e,fun _ b=>.inl b,UC _,Uw h2,h3⟩,hk.weak fun _ _ a=>a.imp id .inr⟩
theorem M7(b:lU w J base g0 n cap css k vo va xo xa)(hl:xo.length<=1000/\xa.length<=1000)(c:ByteArray):Calls prog 266 #[.agg #[c],some (g0,k*2)] w (Gb w J I base g0 n cap css k vo va xo xa):=
 (KC w b hl.1 c).mono fun _ _ ⟨a,⟨d,e,_,h2,h3⟩,hk⟩=>⟨a,⟨J,d,va,e,xa,fun _ b=>.inl b,Uw h2,UC _,h3⟩,hk.weak fun _ _ a=>a.imp id .inl⟩
theorem O6(b:lU w J base g0 n cap css k vo va xo xa)(hl:xo.length<=1000/\xa.length<=1000)(d:ByteArray)(c:Int):Calls prog 270 #[.agg #[d,c],some (g0,k*2)] w (Gb w J I base g0 n cap css k vo va xo xa):=
 (QD w b hl.2 d c).mono fun _ _ ⟨a,⟨e,f,h2,h3⟩,hk⟩=>⟨a,⟨J,vo,e,xo,f,fun _ b=>.inl b,UC _,h2,h3⟩,hk.weak fun _ _ a=>a.imp id .inr⟩
theorem M6(c:lU w J base g0 n cap css k vo va xo xa)(hl:xo.length<=1000/\xa.length<=1000)(hI:∀b,I b->b<base)(x:Class){cs:List Value}(d:jh w I x cs):Calls prog 265 #[.agg cs.toArray,some (g0,k*2)] w (Gb w J I base g0 n cap css k vo va xo xa):=
 (O3 w c hl.1 I hI x cs d).mono fun _ _ ⟨a,⟨J',e,f,hj,h2,h3⟩,hk⟩=>⟨a,⟨J',e,va,f,xa,hj,h2,UC _,h3⟩,hk.weak fun _ _ a=>a.imp id .inl⟩
end
theorem M.xV(a:kQ p=true):1<=p.length/\p.length<=3/\∀b∈p,b.owns.length<=1000/\b.asks.length<=1000:=by
 unfold kQ at a;simp only[Ty,Tq,TY]at a;refine⟨a.1.1,a.1.2,fun b d=>?_⟩;have c:=a.2 b d;unfold lF at c;simp only[Ty,Tq]at c;omega
theorem Mf(w:World)(I:Nat->Prop)(hI:∀a,I a->a<w.heap.size){v:Value}(p:iZ)(hp:SliceOf 2 ja w I v p)(aR:kQ p=true)(x:Ev){cs:List Value}(E:EvL w I x cs):Calls prog 109 #[.agg #[v],.agg cs.toArray] w fun c w'=>((∃k N O,c=.returned (.tuple #[.agg #[.slice N k.length O],.bool true])/\kQ k=true/\SliceOf 2 ja w' (fun a=>I a\/w.heap.size<=a) (.slice N k.length O) k)\/c=.returned (.tuple #[.agg #[()],.bool false]))/\Ext w w':=by
 have bE:=E;obtain⟨A,G,B,H,rfl,aO⟩:=E;obtain⟨N,O,rfl,-,-⟩:=hp.form;obtain⟨aV,af,e,t,cls⟩:=x;simp only at aO;obtain⟨l,D⟩:=SS (((w.alloc (.cells #[.slice N p.length O] 25)).alloc (.cells #[aV,af,e,t,cls.name,cls.jl,.slice A cls.fields.length G,.slice B cls.methods.length H] 49)).alloc (.cells #[()] 25));have aj:Ext w l:=by rw[D];exact kx
 have b1:hZ l w 25 #[.slice N p.length O]:=by rw[D];exact(hZ.new _ _ _).ext kx
 have b2:hZ l (w+1) 49 #[aV,af,e,t,cls.name,cls.jl,.slice A cls.fields.length G,.slice B cls.methods.length H]:=by rw[D];exact(hZ.new' _ _ Zl:hZ ((w.alloc (.cells #[.slice N p.length O] 25)).alloc _) (w+1) _ _).ext kx
 have b3:hZ l (w+2) 25 #[()]:=by rw[D];exact hZ.new' _ _ Zl
 have bF:l.heap.size=w+3:=by rw[D];simp
 have bI:=Zy (K3 l I ⟨aV,af,e,t,cls⟩ (EvL.stays _ _ _ _ _ _ (Ext.same aj) (fun _ d=>d) bE));obtain⟨-,e0,u,e2,Y,e4,e5,e6,e7,-⟩:=b2.ca;have⟨bQ,ah,aX,aB,z,W,HI,HP,bJ⟩:=sV D aj b1 b2 b3 bF hI hp aO;have⟨K,bO⟩:=jf (M.xV aR) aR;have bG:∀{b:World} (_:Ext l b),∃o,o=b.setCell ⟨w+2,0,none⟩ ()/\hH o (w+2) 0 [()]/\Ext w o:=fun{b} hE=>by
  refine⟨_,rfl,hH.l7 (t:=25) (cs:=#[()]) (by simpa using(b3.ext hE).jy 0 ()),?_⟩;exact(aj.trans hE).own (nH:Kp (·=w+2) b _) fun a c=>Zm
 have NX:Zz (∀{b:World} (_:Ext l b),∃o,o=b.setCell ⟨w+2,0,none⟩ ()/\hH o (w+2) 0 [()]/\Ext w o):=Zy bG;clear D aj b1 b2 b3 bF hI hp aO aR bE bG;go_enter func109,ntmps109;go_upto_region 1 with(fail);rw[<-bQ.o];go_wp2_with fail;refine bI.mono ?_;rintro c w1 ⟨av,q⟩;have aY:=Zy q;clear e0 u e2 Y e4 e5 e6 e7;rcases av with rfl|⟨hk,av⟩
 . obtain⟨q0,-⟩:=(z.ext q).fz;obtain⟨mz,m0,-⟩:=(z.ext q).ca;clear q;go_wp2_with fail;obtain⟨b,hW,m,Z⟩:=NX.o aY;rw[<-hW];refine Cv (iY pR rfl (w+2) rfl [()] m rfl) rfl ?_;exact⟨.inr rfl,Z⟩
 obtain⟨n,rfl⟩:∃n:Nat,af=n:=⟨af.toNat,by have:=hk.1;simp at this;omega⟩;obtain⟨T0,u0,rfl,bS⟩:∃L ag,c=.returned (.iface L ag)/\Zz ((L=311/\ag=.agg #[cls.name,cls.jl,.slice A cls.fields.length G,.slice B cls.methods.length H])\/(L=313/\ag=.agg #[e,t])\/(L=315/\ag=.agg #[e])\/(L=316/\ag=.agg #[e])):=by
  rcases av with rfl|rfl|rfl|rfl
  . exact⟨_,_,rfl,Zy (.inl ⟨rfl,rfl⟩)⟩
  . exact⟨_,_,rfl,Zy (.inr (.inl ⟨rfl,rfl⟩))⟩
  . exact⟨_,_,rfl,Zy (.inr (.inr (.inl ⟨rfl,rfl⟩)))⟩
  . exact⟨_,_,rfl,Zy (.inr (.inr (.inr ⟨rfl,rfl⟩)))⟩
 have bf:=Zy (KH w1 I p (HP.ext ja.stays (ah.trans q)) fun a g=>S9 (HI.o a g) q.size W.o);rw[bO.o]at bf;obtain⟨z1,p0,-⟩:=(aX.ext q).ca;obtain⟨z2,e0,u,e2,Y,e4,e5,e6,e7,-⟩:=(aB.ext q).ca;clear q av hk;go_wp2_with fail;refine bf.mono ?_;rintro c J ⟨rfl,bq⟩;have i:=Zy (aY.trans bq);obtain⟨cB,bZ,-⟩:=(aX.ext i).ca;obtain⟨cK,-,f1,-⟩:=(aB.ext i).ca;clear bq z1 p0 z2 e0 u e2 Y e4 e5 e6 e7;by_cases bU:p.length<=n
 . have bV:(p.length:Int)<=(n:Int):=Zm
   obtain⟨q0,-⟩:=(z.ext i).fz;obtain⟨mz,m0,-⟩:=(z.ext i).ca;clear bU;go_wp2_with fail;obtain⟨b,hW,m,Z⟩:=NX.o i;rw[<-hW];refine Cv (iY pR rfl (w+2) rfl [()] m rfl) rfl ?_;exact⟨.inr rfl,Z⟩
 have bV:¬(p.length:Int)<=(n:Int):=Zm
 have dh:(n:Int)<(p.length:Int):=Zm
 have aJ:∀a,I a->a<J.heap.size:=fun a g=>S9 (HI.o a g) i.size W.o
 have⟨bK,bM⟩:=jf (Dj J I _ p (HP.ext ja.stays (ah.trans i)) aJ) aJ;clear aJ;go_wp2_with fail;refine bK.mono ?_;rintro c P ⟨⟨v3,bn,rfl,r⟩,bu⟩;obtain⟨f,h,rfl⟩:∃f h,v3=.slice (some ⟨f,0,none⟩) p.length h:=by
  rcases r.own.2 with⟨u,e2⟩|⟨g',cp,cZ,u,-⟩
  . obtain⟨a',c',Y⟩:=jA r.own;rw[Y]at u;have:=(Value.slice.inj u).2.1;have:=K.1;omega
  . exact⟨g',cp,u⟩
 obtain⟨s,bD,aI,b4⟩:=nu P #[.slice (some ⟨f,0,none⟩) p.length h] 25;have aN:qW s (fun a=>I a\/J.heap.size+3<=a) (J+3) (.slice (some ⟨f,0,none⟩) p.length h) bn p:=r.keep aI fun a d=>d.elim;obtain⟨x,E⟩:=get_some (show n<p.length by omega);obtain⟨vo,va,m,aM⟩:=aN.at_ E;have aD:=Zy (i.trans (bu.trans aI));have ax:∀a,(a=f\/vo.ownBlock=some a\/va.ownBlock=some a)->J.heap.size+3<=a/\a<P.heap.size:=fun a g=>by
  have j0:=TU (Value.slice (some ⟨f,0,none⟩) p.length h) (RA (mI r.len.2 n _ m 0 vo rfl));have j1:=TU (Value.slice (some ⟨f,0,none⟩) p.length h) (RA (mI r.len.2 n _ m 1 va rfl));rcases g with rfl|c|c
  . exact r.lt (.slice (some ⟨a,0,none⟩) p.length h) List.mem_cons_self a rfl
  . exact r.lt vo j0 a c
  . exact r.lt va j1 a c
 obtain⟨L,df,di,HT⟩:=qC.ex (fun o=>Kp (fun a=>a=f\/vo.ownBlock=some a\/va.ownBlock=some a) s o) _ Kp.rr;obtain⟨-,r0,-⟩:=hZ.lC fun aW=>b4.kp (HT.jv aW) fun c=>SX (ax _ c)
 obtain⟨-,-,q1,-⟩:=hZ.lC fun aW=>(aB.ext aD).kp (HT.jv aW) fun c=>S9 (ax _ c) i.size W.o
 have⟨aH,U⟩:=jf ax HT;have C:Ext s s.drew:=jg;have bA:jh s.drew I cls [cls.name,cls.jl,.slice A cls.fields.length G,.slice B cls.methods.length H]:=jh.stays _ _ _ _ _ _ (Ext.same ((ah.trans aD).trans C)) (fun _ d=>d) bJ;have aa:=aM.ext C;have ae:x.owns.length<=1000/\x.asks.length<=1000:=K.2.2 x (RA E);have⟨T,Q,V,S,bR,aC,bP,HX,HC⟩:=sV (M6 aa ae (fun a g=>SX (bM.o a g)) cls bA) (O6 (I:=I) aa ae e t) (M7 (I:=I) aa ae e) (M5 (I:=I) aa ae e) bD b4 aN E m;have cO:=Zy aM;have bY:(P:Nat)<s:=b4.lt;clear bD aI b4 aN E m aM r bu HT C bA aa ae cB bZ cK f1 bY ax;go_upto_region 5 with(fail);rw[<-bR.o];rcases bS.o with⟨rfl,rfl⟩|⟨rfl,rfl⟩|⟨rfl,rfl⟩|⟨rfl,rfl⟩;focus
  have R:=T
  have ay:∀b:World,(method 271 311 (.agg #[cls.name,cls.jl,.slice A cls.fields.length G,.slice B cls.methods.length H]) "loop.example/lodgekeeper/impl.apply").run prog b=.ok (265,.agg #[cls.name,cls.jl,.slice A cls.fields.length G,.slice B cls.methods.length H]) b:=fun b=>by kernel_rfl
  have az:∀(j:Nat) (b:World),(nilAhead (j+1) 311 (.agg #[cls.name,cls.jl,.slice A cls.fields.length G,.slice B cls.methods.length H]) "loop.example/lodgekeeper/impl.apply").run prog b=.ok (some false) b:=fun j b=>by kernel_rfl
  clear T Q V S
 rotate_left;focus
  have R:=Q
  have ay:∀b:World,(method 271 313 (.agg #[e,t]) "loop.example/lodgekeeper/impl.apply").run prog b=.ok (270,.agg #[e,t]) b:=fun b=>by kernel_rfl
  have az:∀(j:Nat) (b:World),(nilAhead (j+1) 313 (.agg #[e,t]) "loop.example/lodgekeeper/impl.apply").run prog b=.ok (some false) b:=fun j b=>by kernel_rfl
  clear T Q V S
 rotate_left;focus
  have R:=V
  have ay:∀b:World,(method 271 315 (.agg #[e]) "loop.example/lodgekeeper/impl.apply").run prog b=.ok (266,.agg #[e]) b:=fun b=>by kernel_rfl
  have az:∀(j:Nat) (b:World),(nilAhead (j+1) 315 (.agg #[e]) "loop.example/lodgekeeper/impl.apply").run prog b=.ok (some false) b:=fun j b=>by kernel_rfl
  clear T Q V S
 rotate_left;focus
  have R:=S
  have ay:∀b:World,(method 271 316 (.agg #[e]) "loop.example/lodgekeeper/impl.apply").run prog b=.ok (271,.agg #[e]) b:=fun b=>by kernel_rfl
  have az:∀(j:Nat) (b:World),(nilAhead (j+1) 316 (.agg #[e]) "loop.example/lodgekeeper/impl.apply").run prog b=.ok (some false) b:=fun j b=>by kernel_rfl
  clear T Q V S
 rotate_left
 all_goals
  refine jW U 10 [([0,1,2,3,4,5],6),([],7),([8],9)] [] ?_ ?_
  . exact jg
  refine lJ ?_;intro X y;go_wp2_with fail;refine kk U y jg ?_;clear y X;refine kN rfl fun X y=>?_;go_wp2_with fail;refine kk U y jg ?_;clear y X;refine lJ ?_;intro X y;go_wp2_with fail;refine R.mono ?_;rintro c w6 ⟨rfl,⟨J',dn,dm,cz,cu,hj,bW,bX,h6⟩,aL⟩;have C:Ext s s.drew:=jg;have bz:qW s.drew (fun a=>I a\/J.heap.size+3<=a) (J+3) (.slice (some ⟨f,0,none⟩) p.length h) bn p:=bP.keep C fun a d=>d.elim;have aU:=bz.turned HX HC aL h6 (fun a g=>by
   rcases hj a g with d|d|d
   . exact .inl d.1
   . exact .inl (.inl d)
   . right;have:=aC.lt;have:=(aH f (.inl rfl));simp at d;omega) (SX K.o.2.1) K.o.2.2 (SX ((K.o.2.2 x (RA HX.o)).1)) (SX ((K.o.2.2 x (RA HX.o)).2))
  obtain⟨k,aS⟩:∃k,k=p.set n ⟨cz,cu⟩:=⟨_,rfl⟩;have bB:p.length=k.length:=by rw[aS,Ux]
  rw[<-aS]at aU;have aK:=C.any.trans aL;have⟨bg,aG,ai⟩:=jB (aU.inside (fun _ _ _ _ d=>ja.inside d) Zn) aK bB;clear C bz aU aS bB hj bW bX h6 aL ay az R;go_wp2_with fail;refine kk U y aK ?_;clear y X;clear U r0 q1 aK;refine tH rfl ?_;have aQ:¬(P.heap.size=f\/vo.ownBlock=some P.heap.size\/va.ownBlock=some P.heap.size):=fun c=>SX (aH.o _ c)
  have bN:=Zy aQ;obtain⟨-,r0,-⟩:=(aC.kp aG aQ).ca;have aT:=bg.o;rw[ai.o]at aT;have aZ:=Zy (KH w6 _ k aT fun a g=>g.2);rw[<-ai.o]at aZ;clear aT;clear aQ;go_wp2_with fail;refine aZ.mono ?_;rintro c w7 ⟨rfl,au⟩;have ak:Ext l w7:=(aD.own aG fun a c=>SY (aH.o _ c) i.size).trans au;have aF:=Zy ak;have bL:=Zy au;obtain⟨-,n0,-⟩:=((aC.kp aG bN).ext au).ca;obtain⟨q0,-⟩:=(z.ext ak).fz;obtain⟨mz,m0,-⟩:=(z.ext ak).ca;obtain⟨aA,hB⟩:∃aA,aA=kQ k:=⟨_,rfl⟩;rw[<-hB];have bH:=Zy hB;clear au ak hB r0;cases aA
  . go_wp2_with fail;obtain⟨b,hW,m,Z⟩:=NX.o aF;rw[<-hW];refine Cv (iY pR rfl (w+2) rfl [()] m rfl) rfl ?_;exact⟨.inr rfl,Z⟩
  . go_wp2_with fail;have aP:Kp (·=w+2) w7 (w7.setCell ⟨w+2,0,none⟩ (.slice (some ⟨f,0,none⟩) p.length h)):=nH;have bT:hZ (w7.setCell ⟨w+2,0,none⟩ (.slice (some ⟨f,0,none⟩) p.length h)) (w+2) 25 #[.slice (some ⟨f,0,none⟩) p.length h]:=by simpa using(z.o.ext aF.o).jy 0 (.slice (some ⟨f,0,none⟩) p.length h)
    refine Cv (iY pR rfl (w+2) rfl [.slice (some ⟨f,0,none⟩) p.length h] (hH.l7 bT) rfl) rfl ?_;have bC:=(bg.ext ja.stays bL).keep ja.stays (J:=fun a=>I a\/w.heap.size<=a) (Kp.same aP fun a g c=>by
     have:=W.o;have:=i.size;rcases g.1 with(d|d)|d
     . have:=HI.o a d;omega
     . omega
     . omega) fun a g=>by
     have:=W.o;have:=i.size;rcases g.1 with(d|d)|d
     . exact .inl d
     . right;omega
     . right;omega
    rw[ai.o]at bC |-;exact⟨.inl ⟨k,_,_,rfl,bH.symm,bC⟩,(ah.trans aF).own (by rw[ai.o]at aP;exact aP) fun a c=>Zm⟩
theorem QE(w:World)(I:Nat->Prop)(hI:∀b,I b->b<w.heap.size){v:Value}(p:iZ)(k:SliceOf 2 ja w I v p)(W:kQ p=true){F G:Value}(b:Book)(j:SliceOf 4 nG w I F b.jI)(l:SliceOf 3 lq w I G b.jq)(a:nJ p b):Calls prog 108 #[.agg #[v],.agg #[F,G]] w fun f w'=>f=.returned (.bool true)/\Ext w w':=by
 obtain⟨o,u,rfl,-,-⟩:=k.form;obtain⟨q,x,rfl,-,-⟩:=j.form;obtain⟨r,y,rfl,-,-⟩:=l.form;obtain⟨c,d⟩:=SS ((w.alloc (.cells #[.slice o p.length u] 25)).alloc (.cells #[.slice q b.jI.length x,.slice r b.jq.length y] 33));have g:Ext w c:=by rw[d];exact kx
 have s:hZ c w 25 #[.slice o p.length u]:=by rw[d];exact(hZ.new _ _ _).ext kx
 have t:hZ c (w+1) 33 #[.slice q b.jI.length x,.slice r b.jq.length y]:=by rw[d];exact hZ.new' _ _ Zl
 have E:c.heap.size=w+2:=by rw[d];simp
 have Q:=Zy (qh c I _ p (k.ext ja.stays g) fun b a=>Tx (hI b a) g.size);obtain⟨-,U,-⟩:=s.ca;have⟨T,N,J,m,L,S,H,n⟩:=wL d g t hI j l a E;clear d g k hI s t j l E a;go_enter func108,ntmps108;go_upto_region 1 with(fail);rw[<-T.o];go_wp2_with fail;refine Q.mono ?_;rintro f w1 ⟨i,V⟩;rcases V with⟨a,-⟩|⟨-,X,rfl,h,B⟩
 . rw[W]at a;cases a
 have e:=N.trans i;obtain⟨-,Y,Z,-⟩:=(J.ext i).ca;have C:=yZ w1 X p h I (fun z D=>⟨SY (m.o z D) e.size,S9 (m.o z D) n.o h.ord⟩) b (L.o.ext nG.stays e) (S.o.ext lq.stays e) H.o;have⟨K,P,R⟩:=jB C e (Tn B h.ord);clear i e h B C U;go_wp2_with fail;refine K.mono ?_;rintro f w4 ⟨aa,ae,af,-,-,-,rfl,A,-⟩;have O:=Zy (P.own A fun b f=>SY R.o n.o);clear A Y Z;go_wp2;go_ret;exact⟨rfl,O⟩
theorem FD(w:World)(I:Nat->Prop)(hI:∀b,I b->b<w.heap.size){v:Value}(p:iZ)(G:SliceOf 2 ja w I v p)(aK:kQ p=true){ay:Value}(q:iZ)(J:SliceOf 2 ja w I ay q)(aL:kQ q=true){ve vq:Value} (b:Book) (F:SliceOf 4 nG w I ve b.jI) (H:SliceOf 3 lq w I vq b.jq) (c:nJ p b):Calls prog 11 #[.agg #[v],.agg #[ay],.agg #[ve,vq]] w fun e w'=>((e=.returned (.bool true)/\stays p q b)\/(e=.returned (.bool false)/\¬stays p q b))/\Ext w w':=by
 obtain⟨z,A,rfl,-,-⟩:=G.form;obtain⟨aa,ae,rfl,-,-⟩:=J.form;obtain⟨W,c1,rfl,-,-⟩:=F.form;obtain⟨X,c2,rfl,-,-⟩:=H.form;obtain⟨a,f⟩:=SS (((w.alloc (.cells #[.slice z p.length A] 25)).alloc (.cells #[.slice aa q.length ae] 25)).alloc (.cells #[.slice W b.jI.length c1,.slice X b.jq.length c2] 33));have g:Ext w a:=by rw[f];exact kx
 have Y:hZ a w 25 #[.slice z p.length A]:=by rw[f];exact(hZ.new _ _ _).ext kx
 have Z:hZ a (w+1) 25 #[.slice aa q.length ae]:=by rw[f];exact(hZ.new' _ _ Zl:hZ ((w.alloc (.cells #[.slice z p.length A] 25)).alloc _) (w+1) _ _).ext kx
 have b2:hZ a (w+2) 33 #[.slice W b.jI.length c1,.slice X b.jq.length c2]:=by rw[f];exact hZ.new' _ _ Zl
 have ax:a.heap.size=w+3:=by rw[f];simp
 obtain⟨aP,aO,aQ,o⟩:=ll a;obtain⟨-,e0,-⟩:=hZ.lC fun K=>Y.ext (o.jv K);obtain⟨-,e1,-⟩:=hZ.lC fun K=>Z.ext (o.jv K);have r:=Zy o;have aB:=fun h (i:Ext a h)=>Zy (qh h I _ p (G.ext ja.stays (g.trans i)) fun b c=>Tx (hI b c) (g.trans i).size);have aC:=fun h (i:Ext a h)=>Zy (qh h I _ q (J.ext ja.stays (g.trans i)) fun b c=>Tx (hI b c) (g.trans i).size);have⟨aG,P,N,R,O,V,L,aH⟩:=wL f g b2 hI F H c ax;clear f g G hI Y Z b2 F J H ax c o;go_enter func11,ntmps11;go_upto_region 1 with(fail);rw[<-aG.o];refine jW r 5 [([0,2],1),([],3)] [4] ?_ ?_
 . exact jg
 refine lJ ?_;intro y j;go_wp2_with fail;refine(aB a.drew jg).o.mono ?_;rintro e w1 ⟨ag,k⟩;rcases k with⟨c,-⟩|⟨-,d,rfl,hL,hO⟩
 . rw[aK]at c;cases c
 have⟨u,n,U⟩:=jB (((Kp.refl _ a).drew:Ext a _).trans ag) hL hO;clear ag hL hO;go_wp2_with fail;refine kk r j u ?_;clear j y;refine kN rfl fun y j=>?_;go_wp2_with fail;refine(aC w1 u).o.mono ?_;rintro e w2 ⟨B,k⟩;rcases k with⟨c,-⟩|⟨-,l2,rfl,ai,ak⟩
 . rw[aL]at c;cases c
 have⟨m,T,S,aD⟩:=jU (u.trans B) (n.ext B) ai (Tx n.lt ak);clear B ai ak;go_wp2_with fail;refine kk r j m ?_;clear j y;clear r e0 e1;refine r9 [_] rfl fun aI hK=>?_;(repeat (go_big_quiet_step (fail)));refine qn hK ?_;clear hK aI;have s:=P.trans m;have av:=yZ w2 d p T I (fun af hg=>⟨SY (R.o af hg) s.size,by have:=R.o af hg;have:=aH.o;have:=n.ord;have:=U.o;simp at this;omega⟩) b (O.o.ext nG.stays s) (V.o.ext lq.stays s) L.o;have az:=Zy av;obtain⟨-,r0,r1,-⟩:=(N.ext m).ca;clear s av;go_wp2_with fail;refine az.mono ?_;rintro e w3 ⟨aS,aT,aU,aM,aN,-,rfl,D,au⟩;have aJ:a.heap.size<=d.O/\d.O<d.A/\d.A<d.D/\d.D<d.L:=⟨by have:=U.o;simpa using this,n.o.ord⟩;have C:=m.own D fun b e=>Zm
 have E:=au.kr;rw[aM,aN]at E;have aj:ji w3 l2 q:=by
  obtain⟨aR,hm,-⟩:=T.laid;have:=S.ord;have:=aD.o;exact S.beside D hm ⟨Zm,Zm,Zm,Zm⟩
 have t:=P.trans C;have aF:=Zy (Ik w3 d l2 p q E aj I b (O.ext nG.stays t) (V.ext lq.stays t) L);obtain⟨-,s0,s1,-⟩:=(N.ext C).ca;have aA:=Zy t;clear D au aJ C E aj t r0 r1;go_wp2_with fail;refine aF.mono ?_;rintro e w4 ⟨k,ah⟩;have Q:=Zy (aA.trans ah);clear ah s0 s1;rcases k with⟨rfl,l⟩|⟨rfl,l⟩
 . have x:=Zy l;clear l;go_wp2;go_ret;exact⟨.inl ⟨rfl,x⟩,Q⟩
 . have x:=Zy l;clear l;go_wp2;go_ret;exact⟨.inr ⟨rfl,x⟩,Q⟩
def Ca(p:iZ)(b:Book)(w':World)(J:Nat->Prop)(a:Option Addr)(n c:Nat)(tb:Bool):Prop:=
 tb=true->∃p',n=p'.length/\kQ p'=true/\stays p p' b/\SliceOf 2 ja w' J (.slice a n c) p'
theorem M3 (w : World) (I : Nat -> Prop) (hI : ∀ b, I b -> b < w.heap.size) {v: Value} (p : iZ) (X : SliceOf 2 ja w I v p) (ah : kQ p = true) {ve vq: Value} (b : Book) (W : SliceOf 4 nG w I ve b.jI) (Y : SliceOf 3 lq w I vq b.jq) (c : nJ p b)(x:Ev) {cs:List Value} (hx:EvL w I x cs):Calls prog 67 #[.agg #[v],.agg #[ve,vq],.agg cs.toArray] w fun h H=>(∃o aM q tb,h=.returned (.tuple #[.agg #[.slice o aM q],.bool tb])/\Ca p b H (fun b=>I b\/w.heap.size<=b) o aM q tb)/\Ext w H:=by
 obtain⟨o,q,rfl,-,-⟩:=X.form;obtain⟨N,Q,rfl,-,-⟩:=W.form;obtain⟨O,R,rfl,-,-⟩:=Y.form;have aK:=hx;obtain⟨a3,m3,a4,m4,rfl,-⟩:=hx;obtain⟨e,r⟩:=SS ((((w.alloc (.cells #[.slice o p.length q] 25)).alloc (.cells #[.slice N b.jI.length Q,.slice O b.jq.length R] 33)).alloc (.cells #[x.kind,x.keeper,x.name,x.dst,x.cls.name,x.cls.jl,.slice a3 x.cls.fields.length m3,.slice a4 x.cls.methods.length m4] 49)).alloc (.cells #[()] 25));have y:Ext w e:=by rw[r];exact kx
 have b0:hZ e w 25 #[.slice o p.length q]:=by rw[r];exact(hZ.new _ _ _).ext kx
 have b1:hZ e (w+1) 33 #[.slice N b.jI.length Q,.slice O b.jq.length R]:=by rw[r];exact(hZ.new' _ _ Zl:hZ ((w.alloc (.cells #[.slice o p.length q] 25)).alloc _) (w+1) _ _).ext kx
 have b2:hZ e (w+2) 49 #[x.kind,x.keeper,x.name,x.dst,x.cls.name,x.cls.jl,.slice a3 x.cls.fields.length m3,.slice a4 x.cls.methods.length m4]:=by rw[r];exact(hZ.new' _ _ Zl:hZ (((w.alloc (.cells #[.slice o p.length q] 25)).alloc (.cells #[.slice N b.jI.length Q,.slice O b.jq.length R] 33)).alloc _) (w+2) _ _).ext kx
 have b3:hZ e (w+3) 25 #[()]:=by rw[r];exact hZ.new' _ _ Zl
 have aL:e.heap.size=w+4:=by rw[r];simp
 have aB:∀b,I b->b<e.heap.size:=fun b c=>Tx (hI b c) y.size;have aQ:=Zy (QE e I aB p (X.ext ja.stays y) ah b (W.ext nG.stays y) (Y.ext lq.stays y) c);obtain⟨-,S,-⟩:=b0.ca;obtain⟨-,f0,f1,-⟩:=b1.ca;have az:∀{f:World} (_:Ext e f) (m:Value),hH (f.setCell ⟨w+3,0,none⟩ m) (w+3) 0 [m]/\Ext w (f.setCell ⟨w+3,0,none⟩ m):=fun{f} C m=>by
  refine⟨hH.l7 (t:=25) (cs:=#[m]) (by simpa using(b3.ext C).jy 0 m),?_⟩;exact(y.trans C).own (nH:Kp (·=w+3) f _) fun b h=>Zm
 have k:Zz (∀{f:World} (_:Ext e f) (m:Value),hH (f.setCell ⟨w+3,0,none⟩ m) (w+3) 0 [m]/\Ext w (f.setCell ⟨w+3,0,none⟩ m)):=Zy az;have⟨aW,L,J,aN,aO,l,Z,HE,aR⟩:=sV r y b0 b1 b2 b3 hI W Y;have⟨HP,HB⟩:=jf X c;have HX:=Zy aK;have ax:=Zy aL;clear r y X hI b0 b1 b2 b3 W Y aL c aK aB az;go_enter func67,ntmps67;go_upto_region 1 with(fail);rw[<-aW.o];go_wp2_with fail;refine aQ.mono ?_;rintro h w1 ⟨rfl,D⟩;have T:=L.trans D;have aS:=Zy (Mf w1 I (fun b c=>Tx (Z b c) T.size) p (HP.ext ja.stays T) ah x (EvL.stays _ _ _ _ _ _ (Ext.same T) (fun _ a=>a) HX));obtain⟨-,ay,-⟩:=(J.ext D).ca;obtain⟨-,g0,g1,g2,g3,g4,g5,g6,g7,-⟩:=(aO.ext D).ca;have ak:=Zy D;clear T D S f0 f1;go_wp2_with fail;refine aS.mono ?_;rintro h w2 ⟨af,ae⟩;have au:=Zy (ak.trans ae);clear ay g0 g1 g2 g3 g4 g5 g6 g7;have aA:=fun f (C:Ext e f)=>zN f I p (HP.ext ja.stays (L.trans C)) fun b c=>Tx (Z b c) (L.trans C).size;have K:Zz (∀f,Ext e f->Calls prog 22 #[.agg #[.slice o p.length q]] f fun h H=>(∃B,h=.returned (.agg #[B])/\SliceOf 2 ja H (fun b=>I b\/f.heap.size<=b) B p)/\Ext f H):=Zy aA;clear aA;rcases af with⟨A,a5,c5,rfl,aG,aJ⟩|rfl
 . obtain⟨n,E,z,P⟩:=nu w2 #[.slice a5 A.length c5] 25;have⟨aa,g,aj,aT,av,aY⟩:=nE E (au.trans z) P (aJ.ext ja.stays z) aG z;clear E z P aJ ae aG;go_upto_region 4 with(fail);rw[<-aa.o];obtain⟨-,S,-⟩:=(J.ext g).ca;obtain⟨-,f0,f1,-⟩:=(aN.ext g).ca;obtain⟨-,k0,-⟩:=aj.ca;by_cases ag:200<=b.jI.length;rotate_left;by_cases aF:200<=b.jq.length;rotate_left
   . have aD:¬(200:Int)<=(b.jI.length:Int):=Zm
     have aX:¬(200:Int)<=(b.jq.length:Int):=Zm
     have U:=L.trans g;have aH:SliceOf 2 ja n (fun b=>(I b\/e.heap.size<=b)/\b<n.heap.size) (.slice o p.length q) p:=((HP.ext ja.stays U).inside (fun _ _ _ _ a=>ja.inside a) Zn).keep ja.stays (fun _ _ _ _ a=>a) fun b c=>⟨.inl c.1,c.2⟩;have aC:SliceOf 4 nG n (fun b=>(I b\/e.heap.size<=b)/\b<n.heap.size) (.slice N b.jI.length Q) b.jI:=((HE.ext nG.stays U).inside (fun _ _ _ _ a=>a) Zn).keep nG.stays (fun _ _ _ _ a=>a) fun b c=>⟨.inl c.1,c.2⟩;have aI:SliceOf 3 lq n (fun b=>(I b\/e.heap.size<=b)/\b<n.heap.size) (.slice O b.jq.length R) b.jq:=((aR.ext lq.stays U).inside (fun _ _ _ _ a=>a) Zn).keep lq.stays (fun _ _ _ _ a=>a) fun b c=>⟨.inl c.1,c.2⟩;have ai:SliceOf 2 ja n (fun b=>(I b\/e.heap.size<=b)/\b<n.heap.size) (.slice a5 A.length c5) A:=(aT.inside (fun _ _ _ _ a=>ja.inside a) Zn).keep ja.stays (fun _ _ _ _ a=>a) fun b c=>⟨c.1.imp id fun a=>SX ak.size,c.2⟩;have⟨aV,aU⟩:=jf (FD n _ (fun b c=>c.2) p aH ah A ai av b aC aI HB) ai;clear ag aF U aH aC aI ai;go_wp2_with fail;refine aV.mono ?_;rintro h w4 ⟨af,V⟩;have⟨s,aP⟩:=jf (g.trans V) V;obtain⟨q0,-⟩:=(l.ext s).fz;obtain⟨G,F,-⟩:=(l.ext s).ca;obtain⟨-,ay,-⟩:=(J.ext s).ca;obtain⟨-,aZ,-⟩:=(aj.ext V).ca;clear V S f0 f1 k0;rcases af with⟨rfl,hs⟩|⟨rfl,-⟩
     . have HS:=Zy hs;clear hs;go_wp2_with fail;refine Cv (iY pR rfl (w+3) rfl [.slice a5 A.length c5] (k s _).1 rfl) rfl ?_;refine⟨⟨_,_,_,true,rfl,fun _=>⟨A,rfl,av,HS,?_⟩⟩,(k s _).2⟩;exact((aU.ext ja.stays aP).keep ja.stays (Kp.same (nH:Kp (·=w+3) w4 _) fun b c h=>by
        have:=ax.o;rcases c.1 with a|a
        . have:=Z.o b a;omega
        . omega) fun b c=>c.1.imp id fun a=>SX ax.o)
     . clear q0 G F;go_wp2_with fail;refine(K _ s).mono ?_;rintro h w5 ⟨⟨B,rfl,j⟩,i⟩;obtain⟨t,u,rfl,-,-⟩:=j.form;have d:=Zy ((s).trans i);obtain⟨q0,-⟩:=(l.ext d).fz;obtain⟨G,F,-⟩:=(l.ext d).ca;clear i j;go_wp2_with fail;refine Cv (iY pR rfl (w+3) rfl [.slice t p.length u] (k d _).1 rfl) rfl ?_;exact⟨⟨_,_,_,false,rfl,fun a=>by cases a⟩,(k.o d.o _).2⟩
   . have aD:(200:Int)<=(b.jI.length:Int):=Zm
     clear ag;go_wp2_with fail;refine(K _ g).mono ?_;rintro h w5 ⟨⟨B,rfl,j⟩,i⟩;obtain⟨t,u,rfl,-,-⟩:=j.form;have d:=Zy ((g).trans i);obtain⟨q0,-⟩:=(l.ext d).fz;obtain⟨G,F,-⟩:=(l.ext d).ca;clear i j;go_wp2_with fail;refine Cv (iY pR rfl (w+3) rfl [.slice t p.length u] (k d _).1 rfl) rfl ?_;exact⟨⟨_,_,_,false,rfl,fun a=>by cases a⟩,(k.o d.o _).2⟩
   . have aX:(200:Int)<=(b.jq.length:Int):=Zm
     have aD:¬(200:Int)<=(b.jI.length:Int):=Zm
     clear ag aF;go_wp2_with fail;refine(K _ g).mono ?_;rintro h w5 ⟨⟨B,rfl,j⟩,i⟩;obtain⟨t,u,rfl,-,-⟩:=j.form;have d:=Zy ((g).trans i);obtain⟨q0,-⟩:=(l.ext d).fz;obtain⟨G,F,-⟩:=(l.ext d).ca;clear i j;go_wp2_with fail;refine Cv (iY pR rfl (w+3) rfl [.slice t p.length u] (k d _).1 rfl) rfl ?_;exact⟨⟨_,_,_,false,rfl,fun a=>by cases a⟩,(k.o d.o _).2⟩
 . obtain⟨n,E,z,P⟩:=nu w2 #[()] 25;have⟨aa,g⟩:=jf E (au.trans z);obtain⟨-,S,-⟩:=(J.ext g).ca;clear E z P ae;go_upto_region 4 with(fail);rw[<-aa.o];go_wp2_with fail;refine(K _ g).mono ?_;rintro h w5 ⟨⟨B,rfl,j⟩,i⟩;obtain⟨t,u,rfl,-,-⟩:=j.form;have d:=Zy ((g).trans i);obtain⟨q0,-⟩:=(l.ext d).fz;obtain⟨G,F,-⟩:=(l.ext d).ca;clear i j;go_wp2_with fail;refine Cv (iY pR rfl (w+3) rfl [.slice t p.length u] (k d _).1 rfl) rfl ?_;exact⟨⟨_,_,_,false,rfl,fun a=>by cases a⟩,(k.o d.o _).2⟩
theorem Ca.kp{g:Book}{i: World}{J f: Nat->Prop}{a:Option Addr}{n: Nat}{h:Bool}(e:Ca p g w J a n c h)(s:Kp D w i)(q:∀b,J b->b<w.heap.size->¬D b)(r:∀b,J b->b<w.heap.size->f b):Ca p g i f a n c h:=fun j=>by
 obtain⟨t,k,l,m,o⟩:=e j;exact⟨t,k,l,m,(o.inside (fun _ _ _ _ e=>ja.inside e) Zn).keep ja.stays (Kp.same s fun b d=>q b d.1 d.2) fun b d=>r b d.1 d.2⟩
theorem Kk(w:World)(I:Nat->Prop)(r:Nat)(x:RW)(cs:List Value)(hI:∀a,I a->a<w.heap.size/\a≠r)(d:hZ w r 162 cs.toArray)(b:Ae w I x cs)(hx:wD x)(y:Ev){cy:List Value}(hy:EvL w I y cy):Calls prog 27 #[some r,.agg cy.toArray] w fun k D=>(∃L aA n,k=.returned (.bool n)/\L.s=x.s/\L.b=x.b/\stays x.p L.p x.b/\wD L/\hZ D r 162 aA.toArray/\Ae D (fun a=>I a\/w.heap.size<=a) L aA)/\Kp (·=r) w D:=by
 obtain⟨vp,ve,vq,cv,rfl,Z,X,hq,hs⟩:=b;obtain⟨f1,d1,f2,d2,f3,d3,rfl,-⟩:=hs.form;obtain⟨Q,R,rfl,-,bu⟩:=Z.form;obtain⟨a2,c2,rfl,-,bq⟩:=X.form;obtain⟨a3,c3,rfl,-,bA⟩:=hq.form;have aM:=hy;obtain⟨a4,m4,a5,m5,rfl,-⟩:=hy;obtain⟨e,aK,s,b0⟩:=nu w #[y.kind,y.keeper,y.name,y.dst,y.cls.name,y.cls.jl,.slice a4 y.cls.fields.length m4,.slice a5 y.cls.methods.length m5] 49;have au:Zz (∀W,Ext e W->Calls prog 67 #[.agg #[.slice Q x.p.length R],.agg #[.slice a2 x.b.jI.length c2,.slice a3 x.b.jq.length c3],.agg #[y.kind,y.keeper,y.name,y.dst,y.cls.name,y.cls.jl,.slice a4 y.cls.fields.length m4,.slice a5 y.cls.methods.length m5]] W fun k D=>(∃Q aN R n,k=.returned (.tuple #[.agg #[.slice Q aN R],.bool n])/\Ca x.p x.b D (fun a=>I a\/W.heap.size<=a) Q aN R n)/\Ext W D):=Zy fun W G=>
  M3 W I (fun a d=>Tx (hI a d).1 (s.trans G).size) x.p (Z.ext ja.stays (s.trans G)) hx.kr x.b (X.ext nG.stays (s.trans G)) (hq.ext lq.stays (s.trans G)) hx.book y (EvL.stays _ _ _ _ _ _ (Ext.same (s.trans G)) (fun _ b=>b) aM)
 have aF:=d.lt;have ai:=d.ext s;obtain⟨aX,aZ,bg,p⟩:=ll e;obtain⟨-,r0,r1,r2,-⟩:=hZ.lC fun z=>ai.ext (p.jv z);obtain⟨-,g0,g1,g2,g3,g4,g5,g6,g7,-⟩:=hZ.lC fun z=>b0.ext (p.jv z);have bz:=ai.lt;have⟨f,HP,HE,HQ,O,N,F,HB,aQ⟩:=sV p Z X hq hs hI hx d aF;have⟨aU,o⟩:=jf aK s;have aV:=Zy b0.lt;clear Z X hq hs hI hx d aK s b0 ai p aM aF;go_enter func27,ntmps27;go_upto_region 1 with(fail);rw[<-aU.o];refine qp f 15 (.two [0,1,2,3,4,5,6,7,8] 9 13 (.one [10,11,12] 13 (.one [] 14 (.fin []))) (.one [] 9 (.one [10,11,12] 14 (.fin [])))) ?_ ?_
 . exact jg
 refine two [_,_,_,_,_,_,_,_,_] rfl rfl rfl fun aW hK=>?_;(repeat (go_big_quiet_step (fail)));((refine F5 hK (fun h c=>?_) fun h c=>?_)<;>clear hK aW);focus
  go_wp2_with fail
  refine(au e.drew jg).mono ?_
  rintro k w5 ⟨⟨l,v,m,n,rfl,J⟩,B⟩
  have H:Ext e w5:=((Kp.refl _ e).drew:Ext e _).trans B
  have av:=Zy H
  go_wp2_with fail
  refine kk f c H ?_;clear c h
  refine Bi ?_;intro h c
  go_wp2_with fail
  refine kk f c (av.alloc _) ?_;clear c h
  refine jX rfl fun h c=>?_
  obtain⟨t,aL,ah,b6⟩:=nu w5 #[()] 25
  obtain⟨j,q⟩:∃j,j=w5.heap.size:=⟨_,rfl⟩
  have ae:Zz (Ca x.p x.b t (fun a=>(I a\/e.heap.size<=a)/\a≠j) l v m n):=Zy (J.kp ah (fun _ _ _ b=>b) fun a d hl=>⟨d.imp id fun b=>by simpa using b,Zm⟩)
  have A:Zz (hZ t j 25 #[()]):=Zy (by rw[q];exact b6)
  have ax:=Zy (H.trans ah)
  have ay:Zz (e.heap.size<=j):=Zy (by rw[q];exact H.size)
  rw[<-aL,<-q]
  clear aL ah b6 q J B H av
 rotate_left;focus
  go_wp2_with fail
  refine kk f c ((Kp.refl _ e).drew.alloc _) ?_;clear c h
  refine jX rfl fun h c=>?_
  go_wp2_with fail
  refine(au _ (((Kp.refl _ e).drew.alloc _:Ext e _))).mono ?_
  rintro k t ⟨⟨l,v,m,n,rfl,J⟩,B⟩
  have ag:Ext e t:=((Kp.refl _ e).drew.alloc _:Ext e _).trans B
  have ax:=Zy ag
  go_wp2_with fail
  refine kk f c ag ?_;clear c h
  refine Bi ?_;intro h c
  obtain⟨j,q⟩:∃j,j=e.heap.size:=⟨_,rfl⟩
  have ae:Zz (Ca x.p x.b t (fun a=>(I a\/e.heap.size<=a)/\a≠j) l v m n):=Zy (J.kp (Kp.refl (fun _=>False) _) (fun _ _ _ b=>b) fun a d hl=>by
   rcases d with b|b
   . exact⟨.inl b,S9 ((N a b).1) aV.o o.size⟩
   . simp at b;exact⟨.inr Zm,Zm⟩)
  have A:Zz (hZ t j 25 #[()]):=Zy (by rw[q];exact(hZ.new' (W:=e.drew) _ _ Zl).ext B)
  have ay:Zz (e.heap.size<=j):=Zy (by rw[q];exact T9 _)
  simp only[World.size_drew,<-q]
  clear q J B ag
 all_goals
  obtain⟨aY,-⟩:=A.ca;obtain⟨q0,-⟩:=A.fz;obtain⟨-,q1,-⟩:=A.ca;clear r0 r1 r2 g0 g1 g2 g3 g4 g5 g6 g7;go_wp2_with fail;obtain⟨g,aa⟩:=SS (t.setCell ⟨j,0,none⟩ (.slice l v m));have Y:Kp (·=j) t g:=by rw[aa];exact nH
  have aj:hZ g j 25 #[.slice l v m]:=by rw[aa];simpa using A.o.jy 0 (.slice l v m)
  have T:Ext e g:=ax.own Y fun a k=>SX ay.o
  have aD:Ca x.p x.b g (fun a=>(I a\/e.heap.size<=a)/\a<g.heap.size) l v m n:=ae.kp Y (fun a b _=>b.2) fun a b hl=>⟨b.1,Tx hl Y.size⟩;rw[<-aa];refine kk f c T ?_;clear c h;clear f Y q0 q1 aY aa A ae;refine kL ?_;have⟨E,aS⟩:=jf T aD;have V:=HB.ext (o.trans T);obtain⟨aX,aZ,bg,p⟩:=ll g;obtain⟨-,-,-,-,r3,r4,r5,r6,r7,r8,-⟩:=hZ.lC fun z=>V.ext (p.jv z);obtain⟨-,s0,-⟩:=hZ.lC fun z=>aj.ext (p.jv z);have⟨f,aR,aO⟩:=jB p V aj;have bn:=V.lt;clear T aD V p aj;go_upto_region 2 with(fail);cases n
  . refine jW f 11 [([0,1,2,3,4,5,6,7],8)] [9,10] ?_ ?_
    . exact jg
    refine lJ ?_;intro h c;go_wp2_with fail;refine kk f c jg ?_;clear c h;refine rC ?_;clear f r3 r4 r5 r6 r7 r8 s0;go_wp2;go_ret;have i:=(o.trans E).trans ((Kp.refl _ g).drew:Ext g _);exact⟨⟨x,_,false,rfl,rfl,rfl,stays.refl F.book,F,HB.ext i,_,_,_,_,rfl,(HP.ext ja.stays i).keep ja.stays (fun _ _ _ _ b=>b) fun _=>.inl,(HE.ext nG.stays i).keep nG.stays (fun _ _ _ _ b=>b) fun _=>.inl,(HQ.ext lq.stays i).keep lq.stays (fun _ _ _ _ b=>b) fun _=>.inl,kg.stays _ _ _ _ _ _ (Ext.same i) (fun _=>.inl) O⟩,i.any⟩
  . obtain⟨C,rfl,aH,aJ,aI⟩:=aS.o rfl;have⟨P,az⟩:=jf (Tn aH aJ) aI;refine jW f 11 [([0,1,2,3,4,5,6,7],8)] [9,10] ?_ ?_
    . exact jg
    refine lJ ?_;intro h c;have S:Ext g g.drew:=jg;have aT:=Zy (Rw g.drew C ((az.ext ja.stays S).keep ja.stays (J:=fun a=>a<g.drew.heap.size) (fun _ _ _ _ b=>b) fun a b=>by have:=b.2;simpa using this) (fun a d=>d) P.o.1 x.s (kg.stays _ _ _ _ _ _ (Ext.same ((o.o.trans E.o).trans S)) (fun a d=>Tx (N.o a d).1 ((o.o.trans E.o).trans S).size) O.o));clear aH aJ aI S;go_wp2_with fail;refine aT.mono ?_;rintro k w8 ⟨rfl,aB⟩;have u:=Zy (((Kp.refl _ g).drew:Ext g _).trans aB);obtain⟨af,hV⟩:∃af,af=CO C x.s:=⟨_,rfl⟩;have HV:=Zy hV;rw[<-hV];clear aB hV;cases af
    . go_wp2_with fail;refine kk f c u ?_;clear c h;refine rC ?_;clear f r3 r4 r5 r6 r7 r8 s0;go_wp2;go_ret;have i:=(o.trans E).trans u;exact⟨⟨x,_,false,rfl,rfl,rfl,stays.refl F.book,F,HB.ext i,_,_,_,_,rfl,(HP.ext ja.stays i).keep ja.stays (fun _ _ _ _ b=>b) fun _=>.inl,(HE.ext nG.stays i).keep nG.stays (fun _ _ _ _ b=>b) fun _=>.inl,(HQ.ext lq.stays i).keep lq.stays (fun _ _ _ _ b=>b) fun _=>.inl,kg.stays _ _ _ _ _ _ (Ext.same i) (fun _=>.inl) O⟩,i.any⟩
    . go_wp2_with fail;refine kk f c u ?_;clear c h;refine rC ?_;clear f r3 r4 r5 r6 r7 r8 s0;have U:=aR.ext u;obtain⟨-,-,n2,-⟩:=U.fz;obtain⟨nz,-,-,o2,-⟩:=U.ca;obtain⟨-,k0,-⟩:=(aO.ext u).ca;have aP:=Zy U;clear U;go_wp2_with fail;obtain⟨K,ak⟩:=SS (w8.setCell (r,2) (.slice l C.length m));have aG:Kp (·=r) w8 K:=by rw[ak];exact nH
      have bf:hZ K r 162 #[.slice a2 x.b.jI.length c2,.slice a3 x.b.jq.length c3,.slice l C.length m,x.s.status,.slice f1 x.s.frames.length d1,.slice f2 x.s.heap.length d2,.slice f3 x.s.outs.length d3,x.s.back.kind,x.s.back.n]:=by rw[ak];simpa using aP.o.jy 2 (.slice l C.length m)
      rw[<-ak];go_ret;have i:=(o.trans E).trans u;have aC:=i.any.trans aG;have sm:Same I w K:=Kp.same aC fun a d k=>(N a d).2 k;refine⟨⟨⟨C,x.b,x.s⟩,[_,_,_,_,_,_,_,_,_],true,rfl,rfl,rfl,P.2,⟨P.1,HV.symm,F.book.turn P.2⟩,bf,_,_,_,[_,_,_,_,_,_],rfl,?_,HE.keep nG.stays sm fun _=>.inl,HQ.keep lq.stays sm fun _=>.inl,kg.stays _ _ _ _ _ _ sm (fun _=>.inl) O⟩,aC⟩;exact(az.ext ja.stays u).keep ja.stays (Kp.same aG fun a d k=>by
       rcases d.1 with b|b
       . exact(N a b).2 k
       . have:=aQ.o;have:=o.size;omega) fun a d=>d.1.imp id fun b=>SX o.o.size
theorem I1(w:World)(I:Nat->Prop)(hI:∀a,I a->a<w.heap.size)(x:RW){cs:List Value}(c:lh w I x cs)(X:wD x)(y:Ev){cy:List Value}(hy:EvL w I y cy):Calls prog 8 #[.agg cs.toArray,.agg cy.toArray] w fun e w'=>(∃p aa tb,e=.returned (.tuple #[.agg aa.toArray,.bool tb])/\p.s=x.s/\p.b=x.b/\stays x.p p.p x.b/\wD p/\lh w' (fun a=>I a\/w.heap.size<=a) p aa)/\Ext w w':=by
 have h':=c;obtain⟨vp,ve,vq,cv,rfl,m,l,n,o⟩:=c;obtain⟨R,O,S,P,T,Q,rfl,-⟩:=o.form;obtain⟨F,K,rfl,-,aV⟩:=m.form;obtain⟨G,L,rfl,-,aU⟩:=l.form;obtain⟨H,N,rfl,-,aW⟩:=n.form;have av:=hy;obtain⟨a4,Y,a5,Z,rfl,-⟩:=hy;obtain⟨f,g⟩:=SS (((w.alloc (.cells #[.slice F x.p.length K,.slice G x.b.jI.length L,.slice H x.b.jq.length N,x.s.status,.slice R x.s.frames.length O,.slice S x.s.heap.length P,.slice T x.s.outs.length Q,x.s.back.kind,x.s.back.n] 41)).alloc (.cells #[y.kind,y.keeper,y.name,y.dst,y.cls.name,y.cls.jl,.slice a4 y.cls.fields.length Y,.slice a5 y.cls.methods.length Z] 49)).alloc (.cells #[(),(),(),Tc,(),(),(),Tc,Tc] 41));have z:Ext w f:=by rw[g];exact kx
 have J:hZ f w 41 #[.slice F x.p.length K,.slice G x.b.jI.length L,.slice H x.b.jq.length N,x.s.status,.slice R x.s.frames.length O,.slice S x.s.heap.length P,.slice T x.s.outs.length Q,x.s.back.kind,x.s.back.n]:=by rw[g];exact(hZ.new _ _ _).ext kx
 have i:hZ f (w+1) 49 #[y.kind,y.keeper,y.name,y.dst,y.cls.name,y.cls.jl,.slice a4 y.cls.fields.length Y,.slice a5 y.cls.methods.length Z]:=by rw[g];exact(hZ.new' _ _ Zl:hZ ((w.alloc (.cells #[.slice F x.p.length K,.slice G x.b.jI.length L,.slice H x.b.jq.length N,x.s.status,.slice R x.s.frames.length O,.slice S x.s.heap.length P,.slice T x.s.outs.length Q,x.s.back.kind,x.s.back.n] 41)).alloc _) (w+1) _ _).ext kx
 have j:hZ f (w+2) 41 #[(),(),(),Tc,(),(),(),Tc,Tc]:=by rw[g];exact hZ.new' _ _ Zl
 have aB:f.heap.size=w+3:=by rw[g];simp
 obtain⟨-,e0,e1,e2,e3,e4,e5,e6,e7,e8,-⟩:=J.ca;have U:=lh.stays _ _ _ _ _ _ (Ext.same z) (fun _ c=>c) h';have⟨aI,aL,D,aC,aD,aF,s,H0,r⟩:=sV (Ox f I (fun a d=>Tx (hI a d) z.size) x U X) g z J i j aB U hI;have HX:=Zy X;have HY:=Zy av;clear g z J i j aB U m l n o h' hI X av;go_enter func8,ntmps8;go_upto_region 1 with(fail);rw[<-aL.o];go_wp2_with fail;refine aI.mono ?_;rintro e w1 ⟨rfl,k⟩;have af:=lh.stays _ _ _ _ _ _ (Ext.same k) (fun _ c=>c) H0;have⟨aM,h⟩:=jf (Jj w1 I (fun a d=>S9 (r.o a d) k.size s.o) x af (Bc.1 HX.o.vm).2.1) k;obtain⟨-,s0,s1,s2,s3,s4,s5,s6,s7,s8,-⟩:=(aC.ext k).ca;clear e0 e1 e2 e3 e4 e5 e6 e7 e8 k af;go_wp2_with fail;refine aM.mono ?_;rintro e w2 ⟨⟨C,aO,rfl,hB,ah,ak⟩,V⟩;have A:=h.trans V;have aK:=Zy (Kk w2 (fun a=>(I a\/(w1.heap.size<=a/\a≠C))/\a<w2.heap.size) C x aO (fun a d=>⟨d.2,fun e=>by
  rcases d.1 with c|c
  . have:=r.o a c;have:=h.size;have:=s.o;omega
  . exact c.2 e⟩) ah ak.inside HX y (EvL.stays _ _ _ _ _ _ (Ext.same (D.trans A)) (fun a d=>⟨.inl d,SY (r.o a d) ((D.trans A).size)⟩) HY.o))
 have⟨HB,q⟩:=jf hB V;obtain⟨-,g0,t,u,v,g4,g5,g6,g7,-⟩:=(aD.ext A).ca;clear hB V ah ak s0 s1 s2 s3 s4 s5 s6 s7 s8 A;go_wp2_with fail;refine aK.mono ?_;rintro e w3 ⟨⟨b,aP,tb,rfl,aA,ax,az,ay,ai,au⟩,ag⟩;have⟨aJ,E,aN⟩:=jB (Ga w3 C b aP ai au) ag (Tn aA (Tn ax (Tn az ay)));clear aA ax az ay ai au ag g0 t u v g4 g5 g6 g7;go_wp2_with fail;refine aJ.mono ?_;rintro e w7 ⟨⟨aT,rfl,h7⟩,W⟩;have ae:=h7;obtain⟨vp,ve,vq,cv,rfl,m,l,n,o⟩:=h7;obtain⟨t,k4,u,k5,v,k6,rfl,-⟩:=o.form;obtain⟨b0,k0,rfl,-,-⟩:=m.form;obtain⟨i,k2,rfl,-,-⟩:=l.form;obtain⟨j,k3,rfl,-,-⟩:=n.form;have z0:=s.o;have z1:=h.size;have z2:=q.size;have z3:=E.size;have z4:=HB.o;have B:=((((aF.ext h).ext q).kp E Zm).ext W);obtain⟨q0,q1,q2,q3,q4,q5,q6,q7,q8,-⟩:=B.fz;obtain⟨fz,m0,m1,m2,m3,Y,Z,m6,m7,m8,-⟩:=B.ca;have⟨aG,aH⟩:=jf B W;have H7:=Zy ae;clear B W ae m l n o z0 z1 z2 z3 z4;go_wp2_with fail;obtain⟨w9,aS,aR,aj⟩:=OJ aG (.slice b0 b.p.length k0) (.slice i b.b.jI.length k2) (.slice j b.b.jq.length k3) b.s.status (.slice t b.s.frames.length k4) (.slice u b.s.heap.length k5) (.slice v b.s.outs.length k6) b.s.back.kind b.s.back.n;rw[<-aS];have z0:=s.o;have z1:=h.size;have z2:=q.size;have z4:=HB.o;have aQ:Ext w w9:=(((((D.trans h).trans q).own E fun a e=>Zm).trans aH.o).own aj fun a e=>Zm);refine Cv (iY Ah rfl (w+2) rfl [.slice b0 b.p.length k0,.slice i b.b.jI.length k2,.slice j b.b.jq.length k3,b.s.status,.slice t b.s.frames.length k4,.slice u b.s.heap.length k5,.slice v b.s.outs.length k6,b.s.back.kind,b.s.back.n] (hH.l7 aR) rfl) rfl ?_;obtain⟨y1,y2,y3,y4⟩:=aN.o;refine⟨⟨b,_,tb,rfl,y1,y2,y3,y4,lh.stays _ _ _ _ _ _ (Kp.same aj fun a d e=>?_) (fun a d=>?_) H7⟩,aQ⟩
 . subst e;rcases d with⟨c|⟨c,-⟩,-⟩|c
   . have:=r.o _ c;omega
   . omega
   . omega
 . rcases d with⟨c|⟨c,-⟩,-⟩|c
   . exact .inl c
   . right;omega
   . right;omega
namespace M
end M
theorem PE(w:World){I J:Nat->Prop}{va x:Value}(a b:List Int)(u:SliceOf 1 oW w I va a)(v:SliceOf 1 oW w J x b):Calls prog 33 #[va,x] w fun f B=>f=.returned (.bool (decide (a=b)))/\Ext w B:=by
 obtain⟨E,K,rfl,-,S⟩:=u.form;obtain⟨F,L,rfl,-,T⟩:=v.form;by_cases g:a.length=b.length;rotate_left
 . have y:((a.length:Int) !=b.length)=true:=TI.2 Zm;have e:Zz (decide (a=b)=false):=Zy (SL fun f=>g (by rw[f]));clear g;go_enter func33,ntmps33;go_wp2;go_ret;exact⟨hQ e.symm,kx⟩
 have y:((a.length:Int) !=b.length)=false:=by simp[g]
 have q:=Zy g;clear g;go_enter func33,ntmps33;go_wp2;go_loopw [5] (fun p wr=>∃c:Nat,c<=a.length/\p=.int .i64 c/\Ext w wr/\Zz (a.take c=b.take c)) (fun p _=>a.length - (intOf p).toNat)
 case atStart=>exact⟨0,SV _,rfl,Kp.rr,Zy Zl⟩
 case round =>
  obtain⟨c,U,rfl,d,r⟩:=hrel;by_cases z:c<a.length
  . have A:c<b.length:=SX q.o
    obtain⟨C,n⟩:=om a c z;obtain⟨D,o⟩:=om b c A;obtain⟨G,X,M,rfl,-,rfl,-,l⟩:=(u.ext oW.stays d).get n;obtain⟨H,Y,N,rfl,-,rfl,-,m⟩:=(v.ext oW.stays d).get o;rw[V5]at l m;have P:=fun k=>((Kp.refl _ wr).drewN k:Ext wr _).je l.one;have Q:=fun k=>((Kp.refl _ wr).drewN k:Ext wr _).je m.one;have⟨s,t,h⟩:=jB n o d;have V:(c:Int)<a.length:=Zm
    have W:(c:Int)<b.length:=Zm
    clear n o l m d;by_cases j:C=D
    . subst j;go_wp2_with fail;go_quiet (fail);go_wp2_with fail;refine⟨⟨c+1,Zm,by go_num,h.o.trans kx,Zy ?_⟩,by simp[intOf];omega⟩;rw[TQ,TQ,r.o,s.o,t.o]
    . have O:=TI.2 j;have e:Zz (decide (a=b)=false):=Zy (SL fun f=>j (by
       have i:=s.o;rw[f,t.o]at i;cases i;rfl))
      clear j;go_wp2_with fail;go_quiet (fail);go_wp2;go_ret;exact⟨hQ e.symm,h.trans kx⟩
  . have e:Zz (decide (a=b)=true):=Zy (Tz (by
     have i:=r.o;have R:=q.o;rwa[TV Zm,TV Zm]at i))
    have h:=Zy d;clear d;go_wp2;go_ret;exact⟨hQ e.symm,h⟩
end Go.Proofs.YtlhgbjbkjalfjaaGreat
