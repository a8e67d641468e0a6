/- Walks. -/
import Derived.Test.YtlhlnddgfcmfkaaGreatRsCoreH
import Derived.Test.YtlhlnddgfcmfkaaGreatRsCoreLzd
set_option maxRecDepth 100000
set_option maxHeartbeats 4000000
set_option linter.all false
namespace Go.Proofs.YtlhlnddgfcmfkaaGreat
open Go Go.RowKit Tryz M
theorem Kp.own'{D D':Nat->Prop}{w a b:World}(d:Kp D w a)(e:Kp D' a b)(h:∀c,D' c->D c\/w.heap.size<=c):Kp D w b:=
 ⟨e.os.trans d.os,e.tape.trans d.tape,e.output.trans d.output,RP d.size e.size,
  fun c f g=>(e.block c (Nv f d.size) (fun i=>(h c i).elim g fun j=>absurd j (Nat.not_le.2 f))).trans (d.block c f g)⟩
theorem yG{w:World}{I:Nat->Prop}:jQ w I pG [.int .i64 4,(),(),(),.int .i64 0,.int .i64 0]:=
 ⟨_,_,_,rfl,SliceOf.nil _ _ _ _,SliceOf.nil _ _ _ _,SliceOf.nil _ _ _ _⟩
theorem M.Good.empty{p:hZ}:M.Good p ⟨1,[],[],[],lQ⟩:=⟨by simp[oV],by simp,by simp,by simp,by simp,by simp[ko,lQ]⟩
theorem Hd{w:World}{l:jh}{p:hZ}(x:jg w l p)(lk:Bool)(dZ:Zz (lk=true->xC))(k:Int)(n m:ByteArray)(args:List Int)(va:Option Addr)(ac:Nat)(aM:SliceOf 1 oQ w (· <l.O) (.slice va args.length ac) args)(dw:args.all nQ=true):Calls prog 42 #[some l.L,.bool lk,k,n,m,.slice va args.length ac] w fun b w'=>(∃F,b=.returned (.agg F.toArray)/\jQ w' (fun a=>w.heap.size<=a) (M.start p lk k n m args) F)/\Kp (·=l.D) w w':=by
 obtain⟨w1,aX,aF,bM⟩:=nu w #[.int .i64 0,(),(),(),.int .i64 0,.int .i64 0] 39;have fM:(w1:Nat)=w+1:=by rw[aX];simp
 have fB:=x.Ev;have fC:=x.lt;have fI:=x.ord;obtain⟨ax,hF⟩:∃ax,find p k n=ax:=⟨_,rfl⟩;obtain⟨⟨r,s⟩,cd⟩:=ax;have aQ:=ng w1 l p (x.ext aF) k n;rw[hF]at aQ
 have g : Zz (M.start p lk k n m args = if cd = 1 /\ kg p ⟨r, s⟩ = true then
     (if(call p k n m).2=1/\pF (M.method p (call p k n m).1) args=true then
      end_ (enter p lk (call p k n m).1 (⟨2,0⟩::args.map mF) ⟨1,[],[fresh p ⟨r,s⟩],[],lQ⟩).1 (enter p lk (call p k n m).1 (⟨2,0⟩::args.map mF) ⟨1,[],[fresh p ⟨r,s⟩],[],lQ⟩).2
     else pG)else pG):=Zy (by unfold M.start;rw[hF])
 have dh:args.length<=4294967296:=by obtain⟨_,_,b,_,h4⟩:=aM.form;exact h4
 have⟨bD,bI,dG,eu,bu,dW⟩:=nZ ((LC.refl x).ext aF) aQ bM aX aM dw;clear x aF bM aX hF aQ aM dw;go_enter func42,ntmps42;go_wp2_with fail;rw[<-eu.o];refine bI.mono ?_;rintro b w2 ⟨rfl,Q⟩;have fT:=Q.size;obtain⟨w3,aY,aH,O⟩:=nu w2 #[r,s] 63;have fU:(w3:Nat)=w2+1:=by rw[aY];simp
 have c:=dG.ext Q;have⟨K,aB,bE,bz,bA,eF⟩:=nZ c (bD.kp.trans Q.any) (bD.ext (Q.trans aH)) (c.ext aH) O aY;clear Q aH O aY bI;by_cases ai:cd=1;rotate_left
 . have fG:=RS.2 ai;replace g:Zz (M.start p lk k n m args=pG):=Zy (by rw[g.o,RX (fun b=>ai b.1)]);clear ai;obtain⟨yz,y0,y1,y2,y3,y4,y5,-⟩:=c.ca;obtain⟨f0,f1,f2,f3,f4,f5,-⟩:=c.fz;clear c;go_wp2_with fail;obtain⟨d,i⟩:=Ry ((((((w2.setCell w (.int .i64 4)).setCell (w,1) ()).setCell (w,2) ()).setCell (w,3) ()).setCell (w,4) (.int .i64 0)).setCell (w,5) (.int .i64 0));have A:Kp (·=w) w2 d:=by rw[i];exact Kp.oL (D:=(·=w)) rfl _ _ _ _ _ _
   have z:hV d w 39 #[.int .i64 4,(),(),(),.int .i64 0,.int .i64 0]:=by rw[i];exact K.oL _ _ _ _ _ _
   rw[<-i];refine DV (jw lG rfl w rfl [.int .i64 4,(),(),(),.int .i64 0,.int .i64 0] (hH.lV (z.ext (jr _))) rfl) rfl ?_;rw[g.o];exact⟨⟨_,rfl,yG⟩,(aB.own A (fun a b=>Zm)).alloc _⟩
 subst ai;clear c;replace g:=Zy g.o;go_wp2_with fail;rw[<-eF.o];refine(mJ bE.at_ ⟨r,s⟩).mono ?_;rintro b w4 ⟨rfl,bU,T⟩;have⟨Y,W,bB⟩:=jy (bE.step bU T) (bz.kp T Zm) (bA.kp T Zm);have fV:=T.size;clear bU T bA bz;cases U:kg p ⟨r,s⟩
 . replace g:Zz (M.start p lk k n m args=pG):=Zy (by rw[g.o,RX (fun b=>by rw[U]at b;cases b.2)]);clear U;have c:=W.o;obtain⟨yz,y0,y1,y2,y3,y4,y5,-⟩:=c.ca;obtain⟨f0,f1,f2,f3,f4,f5,-⟩:=c.fz;clear c;go_wp2_with fail;obtain⟨d,i⟩:=Ry ((((((w4.setCell w (.int .i64 4)).setCell (w,1) ()).setCell (w,2) ()).setCell (w,3) ()).setCell (w,4) (.int .i64 0)).setCell (w,5) (.int .i64 0));have A:Kp (·=w) w4 d:=by rw[i];exact Kp.oL (D:=(·=w)) rfl _ _ _ _ _ _
   have z:hV d w 39 #[.int .i64 4,(),(),(),.int .i64 0,.int .i64 0]:=by rw[i];exact W.oL _ _ _ _ _ _
   rw[<-i];refine DV (jw lG rfl w rfl [.int .i64 4,(),(),(),.int .i64 0,.int .i64 0] (hH.lV z) rfl) rfl ?_;rw[g.o];exact⟨⟨_,rfl,yG⟩,Y.kp.own A (fun a b=>Zm)⟩
 have dJ:=Zy U;obtain⟨G,R⟩:∃G,call p k n m=G:=⟨_,rfl⟩;obtain⟨⟨⟨C,D⟩,E⟩,c2⟩:=G;have ah:=uw w4 l p Y.at_ k n m;rw[R]at ah;simp only[zt]at ah;have df:c2=1->ky p ⟨⟨C,D⟩,E⟩=true:=fun h1=>by
  have h1:(call p k n m).2=1:=by rw[R];exact h1
  obtain⟨rr,dA⟩:=qM h1;rw[R]at dA;exact qy dA
 have⟨bJ,bF⟩:=je df ah;replace g:=Zy (g.trans (RV (by simp[U])));rw[R]at g;clear U R ah df;go_wp2_with fail;refine bF.mono ?_;rintro b V ⟨⟨ev,rfl,aP⟩,bV,H⟩;obtain⟨w6,aZ,af,P⟩:=nu V #[C,D,E] 65;have gm:(w6:Nat)=V+1:=by rw[aZ];simp
 have fZ:=H.size;have c:=W.kp H Zm;have⟨K,aB,L,ay,bC,X,eG⟩:=qh c (Y.kp.trans H) ((Y.step bV H).ext af) (c.ext af) ((bB.kp H Zm).ext af) P aZ;clear bV H af P aZ bF W bB;rcases aP.weak with⟨rfl,rfl⟩|⟨I,eb,rfl⟩;rotate_left
 . replace g:Zz (M.start p lk k n m args=pG):=Zy (by rw[g.o,RX (fun b=>I b.1)]);clear I aP;obtain⟨yz,y0,y1,y2,y3,y4,y5,-⟩:=c.ca;obtain⟨f0,f1,f2,f3,f4,f5,-⟩:=c.fz;clear c;go_wp2_with fail;obtain⟨d,i⟩:=Ry ((((((V.setCell w (.int .i64 4)).setCell (w,1) ()).setCell (w,2) ()).setCell (w,3) ()).setCell (w,4) (.int .i64 0)).setCell (w,5) (.int .i64 0));have A:Kp (·=w) V d:=by rw[i];exact Kp.oL (D:=(·=w)) rfl _ _ _ _ _ _
   have z:hV d w 39 #[.int .i64 4,(),(),(),.int .i64 0,.int .i64 0]:=by rw[i];exact K.oL _ _ _ _ _ _
   rw[<-i];refine DV (jw lG rfl w rfl [.int .i64 4,(),(),(),.int .i64 0,.int .i64 0] (hH.lV (z.ext (jr _))) rfl) rfl ?_;rw[g.o];exact⟨⟨_,rfl,yG⟩,(aB.own A (fun a b=>Zm)).alloc _⟩
 clear aP c;have t:=bJ.o rfl;obtain⟨mt,f⟩:∃mt,M.method p ⟨⟨C,D⟩,E⟩=mt:=⟨_,rfl⟩;have aS:JH mt:=by rw[<-f];exact tu (nD L.at_.ok t).1
 have aU:=lq w6 l p L.at_ ⟨⟨C,D⟩,E⟩ t;rw[f]at aU;have fE:=aS.GJ;have⟨fu,dV,HM,HX⟩:=jV aS aU f t;clear f aU t bJ aS;go_wp2_with fail;rw[<-eG.o];refine dV.mono ?_;rintro b w7 ⟨⟨F,aT,rfl⟩,bQ⟩;have dB:=D7 w7 (· <l.O) F mt aT args va ac dh;obtain⟨t2,rfl⟩:=nI aT;have⟨N,bH⟩:=je dB bQ;clear dB bQ aT;simp only[mg]at N |-;go_wp2_with fail;refine N.mono ?_;rintro b j ⟨rfl,bR⟩;have v:=Zy (bH.trans bR);have gp:=v.size;clear bR N bH;cases B:pF mt args
 . replace g:Zz (M.start p lk k n m args=pG):=Zy (by
    rw[g.o,RX];rintro⟨_,b⟩;simp only[HM.o,B]at b;cases b)
   clear B;have c:=ay.ext v;obtain⟨yz,y0,y1,y2,y3,y4,y5,-⟩:=c.ca;obtain⟨f0,f1,f2,f3,f4,f5,-⟩:=c.fz;have K:=Zy c;clear c;go_wp2_with fail;obtain⟨d,i⟩:=Ry ((((((j.setCell w (.int .i64 4)).setCell (w,1) ()).setCell (w,2) ()).setCell (w,3) ()).setCell (w,4) (.int .i64 0)).setCell (w,5) (.int .i64 0));have A:Kp (·=w) j d:=by rw[i];exact Kp.oL (D:=(·=w)) rfl _ _ _ _ _ _
   have z:hV d w 39 #[.int .i64 4,(),(),(),.int .i64 0,.int .i64 0]:=by rw[i];exact K.oL _ _ _ _ _ _
   rw[<-i];refine DV (jw lG rfl w rfl [.int .i64 4,(),(),(),.int .i64 0,.int .i64 0] (hH.lV z) rfl) rfl ?_;rw[g.o];exact⟨⟨_,rfl,yG⟩,(L.ext v).kp.own A (fun a b=>Zm)⟩
 replace g:=Zy (g.trans (RV (by simp[HM.o,B])));have di:mt.args.length=args.length:=by
  unfold pF at B;simp only[Sc,Tm]at B;exact B.1
 have dU:=Zy di;have fD:args.length<=3:=Zm
 clear B di dh;have O:=bC.ext v;obtain⟨rz,r0,r1,-⟩:=O.ca;obtain⟨d,i,aI,bN⟩:=nu j #[some l.L,.bool lk,.int .i64 1,(),(),(),.int .i64 0,.int .i64 0] 85;have gq:d.heap.size=j+1:=by rw[i];simp
 obtain⟨bg,ag⟩:∃eZ,ji d l p eZ j j lk ⟨1,[],[],[],lQ,(),(),()⟩:=
  ji.start (L.at_.ext (v.trans aI)) Zm (rD.nil _ _) rfl (R5 _) bN (Rt _ _ _ _) (fun a e=>by cases e) M.Good.empty
 have cz:Calls prog 99 #[some j,.agg #[r,s]] d (jY d l p bg j j lk (.agg #[.int .i64 2,.int .i64 0]) ⟨1,[],[fresh p ⟨r,s⟩],[],lQ⟩):=
  BL d l p bg j j lk ag ⟨r,s⟩ dJ Zl
 have dn:∀a,a<j.heap.size->a≠l.D->¬MO l bg a:=fun a e hd f=>by
  rcases f with f|f
  . exact hd f
  . have:=(ag.dom a f).1;omega
 have⟨aC,dL,dK,az,eH⟩:=mr dn (fun a e=>(ag.dom a e).1) cz aI i;clear O aI bN i ag cz dn;go_wp2_with fail;rw[<-eH.o];refine dK.mono ?_;rintro b o ⟨rfl,S,dC,aD,eP,bW,cB⟩;clear r0 r1 rz;have fO:=S.size;have bK:=Zy (((L.ext v).kp.trans az.any).own' S (fun a e=>by
  rcases e with e|e
  . exact .inl e
  . right;have:=dL.o a e;omega))
 have dF:Zz (SliceOf 1 oQ o (· <l.O) (.slice va args.length ac) args):=Zy (bu.keep oQ.stays (bK.same fun a e b=>Zm) fun _ x=>x);have dH:Zz (hV o w 39 #[.int .i64 0,(),(),(),.int .i64 0,.int .i64 0]):=Zy ((ay.ext (v.trans az)).kp S (aC _ Zm Zm));have dI:Zz (hV o V 65 #[C,D,E]):=Zy ((X.ext (v.trans az)).kp S (aC _ Zm Zm));have⟨aa,aA⟩:=je bW cB;obtain⟨au,aj⟩:=Ry (o.alloc (.cells #[.int .i64 2,.int .i64 0] 37));have bP:Ext o au:=by rw[aj];exact kx
 have u:au.ownsRow o 37 2 (.slice (some ⟨o,0,none⟩) 1 1) 1 (jW ⟨2,0⟩):=by
  rw[aj];exact Ty (size:=2) o #[.int .i64 2,.int .i64 0] 1 (R5 _) (by unfold maxLen;omega) rfl
 have⟨dM,dY,eB⟩:=jy bP u aj;clear S eP bW cB bP u aj aC bu ay X bC;go_wp2_with fail;rw[<-eB.o];go_loopw [66,18] (fun bf vv wr=>∃q:Nat,q<=args.length/\bf=.int .i64 q/\Ext o wr/\wr.ownsRow o 37 2 vv (q+1) ((Val.mk 2 0::(args.take q).map mF).flatMap jW)) (fun bf _ _=>args.length - (intOf bf).toNat)
 case atStart=>exact⟨0,R4 _,rfl,dM,by simpa using dY.o⟩
 case round=>
  obtain⟨q,hq,rfl,y,u⟩:=hrel;obtain⟨vb,vc,rfl,eX,fK,fJ⟩:=jS u Zm;have gu:=y.size;by_cases eT:q<args.length
  . obtain⟨J,t⟩:=nW args q eT;obtain⟨a,gy,F,rfl,hI,rfl,-,I⟩:=(dF.ext oQ.stays y).get t;rw[SC]at I;have g0:=I.one;have gz:=iY g0;have⟨HX,Z,ed⟩:=jy t y u;clear t I y u;go_wp2_with fail;refine(CE J).mono ?_;rintro b bn ⟨rfl,aG⟩;have bG:=Zy aG;have eY:=aG.size;clear aG;go_wp2_with (at_builtin;refine uS rJ _ rfl _ _ rfl o _ (q+1) _ rfl (iZ (D:=fun _=>False) ed (bG.alloc _) fun _ _ _ J=>J) bn 1 (jW (mF J)) rfl rfl ?c1 ?c2 ?c3 ?c4 ?_)
    case c1=>exact hH.ny _ _ rfl
    case c2=>exact wH _
    case c3=>omega
    case c4=>simp;omega
    intro v' w' dx hK g1 fA eU aR fH;subst eU;have dX:=Zy dx;have dR:=Zy hK;clear dx hK;go_wp2_with fail;refine⟨⟨q+1,Zm,by go_num,(Z.o.trans (bG.o.alloc _)).own dR.o (fun a b=>by cases b;exact eX),?_⟩,by simp[intOf];omega⟩;have:=dX.o;rw[RL,HX.o];simpa using this
  . have aV:q=args.length:=Zm
    have hM:=aa.ext y;have aR:aD.os.length=1:=by
     have:=congrArg (fun fq=>fq.heap.length) aA;simpa [Gh.st]using this
    have cZ:aD.status=1:=by have:=congrArg St.status aA;exact this
    have aW:(Val.mk 2 0::args.map mF).length=q+1:=by simp;omega
    have dz:wr.ownsRow o 37 2 (vb,q+1,vc) (Val.mk 2 0::args.map mF).length ((Val.mk 2 0::args.map mF).flatMap jW):=by
     rw[aW];rw[aV,RH]at u;rw[aV];exact u
    have aO:=zq wr l p dC j j lk dZ aD hM cZ ⟨⟨C,D⟩,E⟩ HX o _ (Val.mk 2 0::args.map mF) dz (fun a e f=>by
        have fF:a=vb:=by cases e;rfl
        rcases f with f|f
        . omega
        . have:=(aa.dom _ f).2;omega) (fun gB hv=>by
        rw[aR];rcases List.mem_cons.1 hv with rfl|hv
        . exact Aq _ Zm Zm
        . obtain⟨J,t,rfl⟩:=List.mem_map.1 hv;exact pg _ (Tj.1 dW J t)) (by rw[aW,HM.o,dU.o];omega)
    rw[aA.o]at aO;have P:=dI.ext y;obtain⟨rz,r0,r1,r2,-⟩:=P.ca;have⟨dO,Z,fw⟩:=jy aO y hM;clear aO y hM u dz P aW aR cZ aV;go_wp2_with fail;refine dO.mono ?_;rintro b bn ⟨rfl,aJ,fe,eO,cu,bX,cK⟩;have aN:=Hh bn l p fe j j lk eO bX (enter p lk ⟨⟨C,D⟩,E⟩ (Val.mk 2 0::args.map mF) ⟨1,[],[fresh p ⟨r,s⟩],[],lQ⟩).1;rw[cK]at aN;have⟨dN,dQ,dE⟩:=jy aN aJ cu;have eY:=aJ.size;clear aN aJ cu bX cK r0 r1 r2 rz;go_wp2_with fail;refine dN.mono ?_;rintro b bq ⟨rfl,aK,fo,h,eQ,bY,cO⟩;have N:=Zy (Dy bq l p fo j j lk h bY);have fP:=aK.size;have bT:=dQ.mo aK dE;have⟨bL,dP⟩:=je bT cO;clear aK eQ bY cO bT;go_wp2_with fail;refine N.mono ?_;rintro b dD ⟨⟨F,rfl,hS⟩,ae⟩;have HS:=Zy hS;obtain⟨a1,c1,a2,c2,a3,c3,rfl,-,-,-⟩:=hS.form;have dm:∀a,a<j.heap.size->a≠l.D->¬MO l dC a:=fun a e hd f=>by
     rcases f with f|f
     . exact hd f
     . have:=(aa.dom a f).1;omega
    have c:=((dH.ext Z).kp bL (dm _ Zm Zm)).ext ae;have fQ:=ae.size;obtain⟨av,ak⟩:=Ry ((((((dD.setCell w h.st.status).setCell (w,1) (.slice a1 h.st.frames.length c1)).setCell (w,2) (.slice a2 h.st.heap.length c2)).setCell (w,3) (.slice a3 h.st.outs.length c3)).setCell (w,4) h.st.back.kind).setCell (w,5) h.st.back.n);have aL:Kp (·=w) dD av:=by rw[ak];exact Kp.oL (D:=(·=w)) rfl _ _ _ _ _ _
    have bO:hV av w 39 #[h.st.status,.slice a1 h.st.frames.length c1,.slice a2 h.st.heap.length c2,.slice a3 h.st.outs.length c3,h.st.back.kind,h.st.back.n]:=by rw[ak];exact c.oL _ _ _ _ _ _
    have bS:=((bK.trans Z.any).own' (bL.trans ae.any) (fun a e=>by
     rcases e with e|e
     . exact .inl e
     . right;have:=(aa.dom a e).1;omega)).own aL (fun a b=>Zm)
    have bZ:=jQ.stays _ _ _ (fun a=>w.heap.size<=a) _ _ (aL.same fun a (e:bq.heap.size<=a) b=>Zm) (fun a (e:bq.heap.size<=a)=>Zm) HS.o;obtain⟨yz,y0,y1,y2,y3,y4,y5,-⟩:=c.ca;obtain⟨f0,f1,f2,f3,f4,f5,-⟩:=c.fz;have⟨dS,ek,X,eD⟩:=jV bS bZ bO ak;clear c ak aL bO bS bZ hS ae dm;go_wp2_with fail;rw[<-eD.o];refine DV (jw lG rfl w rfl [h.st.status,.slice a1 h.st.frames.length c1,.slice a2 h.st.heap.length c2,.slice a3 h.st.outs.length c3,h.st.back.kind,h.st.back.n] (hH.lV X) rfl) rfl ?_;rw[g.o];have hs:=ek.o;rw[dP.o]at hs |-;exact⟨⟨_,rfl,hs⟩,dS⟩
theorem vC{w:World}{I:Nat->Prop}:jQ w I EK [.int .i64 0,(),(),(),.int .i64 0,.int .i64 0]:=
 ⟨_,_,_,rfl,SliceOf.nil _ _ _ _,SliceOf.nil _ _ _ _,SliceOf.nil _ _ _ _⟩
theorem OX(w:World)(I:Nat->Prop)(v:Value)(p:hZ)(hp:SliceOf 2 jc w I v p)(hI:∀d,I d->d<w.heap.size)(lk:Bool)(aG:Zz (lk=true->xC))(k:Int)(n m:ByteArray)(args:List Int)(Z:Option Addr)(T:Nat)(af:SliceOf 1 oQ w I (.slice Z args.length T) args):Calls prog 15 #[.agg #[v],.bool lk,k,n,m,.slice Z args.length T] w fun g w'=>(∃U,g=.returned (.agg U.toArray)/\jQ w' (fun d=>w.heap.size<=d) (qD p lk k n m args) U)/\Ext w w':=by
 obtain⟨aj,au,rfl,hn,aO⟩:=hp.form;obtain⟨t,G⟩:=Ry ((w.alloc (.cells #[.slice aj p.length au] 25)).alloc (.cells #[.int .i64 0,(),(),(),.int .i64 0,.int .i64 0] 39));have aa:Ext w t:=by rw[G];exact kx
 have ak:hV t (w+1) 39 #[.int .i64 0,(),(),(),.int .i64 0,.int .i64 0]:=by rw[G];exact hV.newAt _ _ Zl
 have aS:t.heap.size=w+2:=by rw[G];simp
 have az:=vR t I (.slice aj p.length au) p (hp.ext jc.stays aa) (fun d E=>Z0 (hI d E));have aQ:args.length<=4294967296:=by obtain⟨_,_,g,_,h4⟩:=af.form;exact h4
 have a:Zz (qD p lk k n m args=if kU p&&has p k&&jC n&&jC m&&args.all nQ then M.start p lk k n m args else EK):=Zy rfl;have⟨ai,aD,aC,aK,aA,HI⟩:=nZ az aa ak G af hI;clear aa ak G az hp af hI;go_enter func15,ntmps15;go_wp2_with fail;rw[<-aK.o];refine ai.mono ?_;rintro g i ⟨V,aL⟩;have b:=aC.ext V;have⟨o,q⟩:=je b (aD.trans V);have aT:=V.size;clear V ai;rcases aL with⟨F,rfl⟩|⟨F,aN,rfl,hL,aP⟩
 . replace a:Zz (qD p lk k n m args=EK):=Zy (by rw[a.o,F];rfl);clear F;obtain⟨R,K,L,N,O,P,Q,-⟩:=b.ca;obtain⟨x,y,z,A,B,C,-⟩:=b.fz;clear b;go_wp2_with fail;obtain⟨c,f⟩:=Ry ((((((i.setCell ⟨w+1,0,none⟩ (.int .i64 0)).setCell ⟨w+1,1,none⟩ ()).setCell ⟨w+1,2,none⟩ ()).setCell ⟨w+1,3,none⟩ ()).setCell ⟨w+1,4,none⟩ (.int .i64 0)).setCell ⟨w+1,5,none⟩ (.int .i64 0));have l:Kp (·=w+1) i c:=by rw[f];exact Kp.oL (D:=(·=w+1)) rfl _ _ _ _ _ _
   have j:hV c (w+1) 39 #[.int .i64 0,(),(),(),.int .i64 0,.int .i64 0]:=by rw[f];exact o.oL _ _ _ _ _ _
   rw[<-f];refine DV (jw lG rfl (w+1) rfl [.int .i64 0,(),(),(),.int .i64 0,.int .i64 0] (hH.lV j) rfl) rfl ?_;rw[a.o];exact⟨⟨_,rfl,vC⟩,q.own l (fun d g=>Zm)⟩
 have aR:=hL.ord;have HL:=Zy hL;replace a:Zz (qD p lk k n m args=if has p k&&jC n&&jC m&&args.all nQ then M.start p lk k n m args else EK):=Zy (by rw[a.o,F];rfl);clear hL F;go_wp2_with fail;refine(oK HL k).mono ?_;rintro g w1 ⟨rfl,rfl⟩;cases h:has p k
 . replace a:Zz (qD p lk k n m args=EK):=Zy (by rw[a.o,h];rfl);clear h;obtain⟨R,K,L,N,O,P,Q,-⟩:=b.ca;obtain⟨x,y,z,A,B,C,-⟩:=b.fz;clear b;go_wp2_with fail;obtain⟨c,f⟩:=Ry ((((((i.setCell ⟨w+1,0,none⟩ (.int .i64 0)).setCell ⟨w+1,1,none⟩ ()).setCell ⟨w+1,2,none⟩ ()).setCell ⟨w+1,3,none⟩ ()).setCell ⟨w+1,4,none⟩ (.int .i64 0)).setCell ⟨w+1,5,none⟩ (.int .i64 0));have l:Kp (·=w+1) i c:=by rw[f];exact Kp.oL (D:=(·=w+1)) rfl _ _ _ _ _ _
   have j:hV c (w+1) 39 #[.int .i64 0,(),(),(),.int .i64 0,.int .i64 0]:=by rw[f];exact o.oL _ _ _ _ _ _
   rw[<-f];refine DV (jw lG rfl (w+1) rfl [.int .i64 0,(),(),(),.int .i64 0,.int .i64 0] (hH.lV j) rfl) rfl ?_;rw[a.o];exact⟨⟨_,rfl,vC⟩,q.own l (fun d g=>Zm)⟩
 replace a:Zz (qD p lk k n m args=if jC n&&jC m&&args.all nQ then M.start p lk k n m args else EK):=Zy (by rw[a.o,h];rfl);clear h;go_wp2_with fail;refine(mE n _).mono ?_;rintro g w1 ⟨rfl,rfl⟩;cases h:jC n
 . replace a:Zz (qD p lk k n m args=EK):=Zy (by rw[a.o,h];rfl);clear h;obtain⟨R,K,L,N,O,P,Q,-⟩:=b.ca;obtain⟨x,y,z,A,B,C,-⟩:=b.fz;clear b;go_wp2_with fail;obtain⟨c,f⟩:=Ry ((((((i.setCell ⟨w+1,0,none⟩ (.int .i64 0)).setCell ⟨w+1,1,none⟩ ()).setCell ⟨w+1,2,none⟩ ()).setCell ⟨w+1,3,none⟩ ()).setCell ⟨w+1,4,none⟩ (.int .i64 0)).setCell ⟨w+1,5,none⟩ (.int .i64 0));have l:Kp (·=w+1) i c:=by rw[f];exact Kp.oL (D:=(·=w+1)) rfl _ _ _ _ _ _
   have j:hV c (w+1) 39 #[.int .i64 0,(),(),(),.int .i64 0,.int .i64 0]:=by rw[f];exact o.oL _ _ _ _ _ _
   rw[<-f];refine DV (jw lG rfl (w+1) rfl [.int .i64 0,(),(),(),.int .i64 0,.int .i64 0] (hH.lV j) rfl) rfl ?_;rw[a.o];exact⟨⟨_,rfl,vC⟩,q.own l (fun d g=>Zm)⟩
 replace a:Zz (qD p lk k n m args=if jC m&&args.all nQ then M.start p lk k n m args else EK):=Zy (by rw[a.o,h];rfl);clear h;go_wp2_with fail;refine(mE m _).mono ?_;rintro g w1 ⟨rfl,rfl⟩;cases h:jC m
 . replace a:Zz (qD p lk k n m args=EK):=Zy (by rw[a.o,h];rfl);clear h;obtain⟨R,K,L,N,O,P,Q,-⟩:=b.ca;obtain⟨x,y,z,A,B,C,-⟩:=b.fz;clear b;go_wp2_with fail;obtain⟨c,f⟩:=Ry ((((((i.setCell ⟨w+1,0,none⟩ (.int .i64 0)).setCell ⟨w+1,1,none⟩ ()).setCell ⟨w+1,2,none⟩ ()).setCell ⟨w+1,3,none⟩ ()).setCell ⟨w+1,4,none⟩ (.int .i64 0)).setCell ⟨w+1,5,none⟩ (.int .i64 0));have l:Kp (·=w+1) i c:=by rw[f];exact Kp.oL (D:=(·=w+1)) rfl _ _ _ _ _ _
   have j:hV c (w+1) 39 #[.int .i64 0,(),(),(),.int .i64 0,.int .i64 0]:=by rw[f];exact o.oL _ _ _ _ _ _
   rw[<-f];refine DV (jw lG rfl (w+1) rfl [.int .i64 0,(),(),(),.int .i64 0,.int .i64 0] (hH.lV j) rfl) rfl ?_;rw[a.o];exact⟨⟨_,rfl,vC⟩,q.own l (fun d g=>Zm)⟩
 replace a:Zz (qD p lk k n m args=if args.all nQ then M.start p lk k n m args else EK):=Zy (by rw[a.o,h];rfl);clear h b;have ah:Zz (SliceOf 1 oQ i (· <aN.O) (.slice Z args.length T) args):=Zy (aA.keep oQ.stays (Ext.same q) fun d E=>Z0 (HI.o d E));go_wp2_with fail;go_loopw [39] (fun ag wr=>∃r:Nat,r<=args.length/\ag=.int .i64 r/\Ext i wr/\Zz ((args.take r).all nQ=true)) (fun ag _=>args.length - (intOf ag).toNat)
 case atStart=>exact⟨0,R4 _,rfl,Kp.rr,Zy Zl⟩
 case round =>
  obtain⟨r,hq,rfl,s,HQ⟩:=hrel;have u:=Zy s;have aV:=s.size;have b:=o.ext s;replace o:=Zy b;by_cases aM:r<args.length
  . obtain⟨J,hx⟩:=nW args r aM;obtain⟨d,aW,U,rfl,hI,rfl,-,hc⟩:=(ah.ext oQ.stays s).get hx;rw[SC]at hc;have g0:=hc.one;have gz:=iY g0;have HX:=Zy hx;clear hx hc s;go_wp2_with fail;refine(Gc J _).mono ?_;rintro g w4 ⟨rfl,rfl⟩;cases X:(decide (-9999<=J)&&decide (J<=9999))
    . replace a:Zz (qD p lk k n m args=EK):=Zy (by rw[a.o,rG HX.o (show nQ J=false from X)];rfl);clear X g0;obtain⟨R,K,L,N,O,P,Q,-⟩:=b.ca;obtain⟨x,y,z,A,B,C,-⟩:=b.fz;clear b;go_wp2_with fail;obtain⟨c,f⟩:=Ry ((((((wr.setCell ⟨w+1,0,none⟩ (.int .i64 0)).setCell ⟨w+1,1,none⟩ ()).setCell ⟨w+1,2,none⟩ ()).setCell ⟨w+1,3,none⟩ ()).setCell ⟨w+1,4,none⟩ (.int .i64 0)).setCell ⟨w+1,5,none⟩ (.int .i64 0));have l:Kp (·=w+1) wr c:=by rw[f];exact Kp.oL (D:=(·=w+1)) rfl _ _ _ _ _ _
      have j:hV c (w+1) 39 #[.int .i64 0,(),(),(),.int .i64 0,.int .i64 0]:=by rw[f];exact o.oL _ _ _ _ _ _
      rw[<-f];refine DV (jw lG rfl (w+1) rfl [.int .i64 0,(),(),(),.int .i64 0,.int .i64 0] (hH.lV j) rfl) rfl ?_;rw[a.o];exact⟨⟨_,rfl,vC⟩,(q.trans u).own l (fun d g=>Zm)⟩
    . have S:Zz (nQ J=true):=Zy X;clear X b;go_wp2_with fail;exact⟨⟨r+1,Zm,by go_num,u.o,Zy (all_succ HQ.o HX.o S.o)⟩,by simp[intOf];omega⟩
  . have S:=Zy (pU HQ Zm);replace a:Zz (qD p lk k n m args=M.start p lk k n m args):=Zy (by rw[a.o,S.o];rfl);clear s b;go_wp2_with fail;refine(Hd (HL.ext u) lk aG k n m args Z T (ah.ext oQ.stays u) S).mono ?_;rintro g w4 ⟨⟨U,rfl,D⟩,W⟩;rw[<-a.o]at D;obtain⟨e,hs⟩:∃e,qD p lk k n m args=e:=⟨_,rfl⟩;rw[hs]at D;have⟨aI,HS⟩:=je hs D;obtain⟨a1,c1,a2,c2,a3,c3,rfl,-,-,-⟩:=D.form;have b:=o.kp W Zm;have aU:=W.size;obtain⟨H,Y⟩:=Ry ((((((w4.setCell ⟨w+1,0,none⟩ (.int .i64 e.status)).setCell ⟨w+1,1,none⟩ (.slice a1 e.frames.length c1)).setCell ⟨w+1,2,none⟩ (.slice a2 e.heap.length c2)).setCell ⟨w+1,3,none⟩ (.slice a3 e.outs.length c3)).setCell ⟨w+1,4,none⟩ (.int .i64 e.back.kind)).setCell ⟨w+1,5,none⟩ (.int .i64 e.back.n));have ae:Kp (·=w+1) w4 H:=by rw[Y];exact Kp.oL (D:=(·=w+1)) rfl _ _ _ _ _ _
    have av:hV H (w+1) 39 #[.int .i64 e.status,.slice a1 e.frames.length c1,.slice a2 e.heap.length c2,.slice a3 e.outs.length c3,.int .i64 e.back.kind,.int .i64 e.back.n]:=by rw[Y];exact b.oL _ _ _ _ _ _
    have ax:Ext w H:=((q.trans u).own W (fun d g=>Zm)).own ae (fun d g=>Zm);have ay:=jQ.stays _ _ _ (fun d=>w.heap.size<=d) _ _ (ae.same fun d (E:wr.heap.size<=d) g=>Zm) (fun d (E:wr.heap.size<=d)=>Zm) HS.o;obtain⟨R,K,L,N,O,P,Q,-⟩:=b.ca;obtain⟨x,y,z,A,B,C,-⟩:=b.fz;have⟨aF,aH,aB,aJ⟩:=jV ax ay av Y;clear b Y ae av ax ay D W hs;go_wp2_with fail;rw[<-aJ.o];refine DV (jw lG rfl (w+1) rfl [.int .i64 e.status,.slice a1 e.frames.length c1,.slice a2 e.heap.length c2,.slice a3 e.outs.length c3,.int .i64 e.back.kind,.int .i64 e.back.n] (hH.lV aB) rfl) rfl ?_;rw[aI.o];exact⟨⟨_,rfl,aH⟩,aF⟩
theorem M.Bp{p:hZ}{lk:Bool}{s:St}(a:s.status≠1)(f:Nat):steps p lk f s=s:=by
 cases f with
 |zero=>rfl
 |succ f=>unfold steps;rw[RX a]
theorem OY(w:World)(I:Nat->Prop)(v:Value)(p:hZ)(hp:SliceOf 2 jc w I v p)(hI:∀a,I a->a<w.heap.size)(lk:Bool)(bH:Zz (lk=true->xC))(s:St)(cs:List Value)(hs:jQ w I s cs)(c:Int):Calls prog 9 #[.agg #[v],.bool lk,.agg cs.toArray,c] w fun f w'=>(∃aR,f=.returned (.agg aR.toArray)/\jQ w' (fun a=>w.heap.size<=a) (yh p lk s c) aR)/\Ext w w':=by
 obtain⟨ag,az,rfl,hn,cB⟩:=hp.form;obtain⟨Q,T,R,U,S,V,rfl,-,-,-⟩:=hs.form;obtain⟨x,B⟩:=Ry (((w.alloc (.cells #[.slice ag p.length az] 25)).alloc (.cells #[s.status,.slice Q s.frames.length T,.slice R s.heap.length U,.slice S s.outs.length V,s.back.kind,s.back.n] 39)).alloc (.cells #[.int .i64 0,(),(),(),.int .i64 0,.int .i64 0] 39));have aC:Ext w x:=by rw[B];exact kx
 have b8:hV x (w+2) 39 #[.int .i64 0,(),(),(),.int .i64 0,.int .i64 0]:=by rw[B];exact hV.newAt _ _ Zl
 have b6:hV x (w+1) 39 #[s.status,.slice Q s.frames.length T,.slice R s.heap.length U,.slice S s.outs.length V,s.back.kind,s.back.n]:=by rw[B];exact hV.ext (w:=(w.alloc (.cells #[.slice ag p.length az] 25)).alloc (.cells #[s.status,.slice Q s.frames.length T,.slice R s.heap.length U,.slice S s.outs.length V,s.back.kind,s.back.n] 39)) (hV.newAt _ _ Zl) (jr _)
 have cZ:x.heap.size=w+3:=by rw[B];simp
 have bf:=vR x I (.slice ag p.length az) p (hp.ext jc.stays aC) (fun a i=>Z0 (hI a i));have h:Zz (yh p lk s c=if decide (c<=400)&&kU p&&Cq p s then steps p lk c.toNat s else EK):=Zy rfl;have⟨aN,bC,bB,bz,bQ,HS,HI⟩:=qh bf aC b8 b6 B hs hI;clear aC b8 b6 B bf hp hs hI;go_enter func9,ntmps9;go_wp2_with fail;rw[<-bQ.o];refine aN.mono ?_;rintro f y ⟨G,L⟩;have b:=bB.ext G;have⟨l,bD,D⟩:=jy b G (bC.trans G);have df:=G.size;clear G aN;by_cases A:400<c
 . replace h:Zz (yh p lk s c=EK):=Zy (by rw[h.o,R7 Zm];rfl);have bX:=R6 A;clear A;rcases L with⟨n,rfl⟩|⟨n,o,rfl,J,bY⟩
   . clear n;obtain⟨yz,y0,y1,y2,y3,y4,y5,-⟩:=b.ca;obtain⟨W,X,Y,Z,f4,f5,-⟩:=b.fz;clear b;go_wp2_with fail;obtain⟨e,j⟩:=Ry ((((((y.setCell ⟨w+2,0,none⟩ (.int .i64 0)).setCell ⟨w+2,1,none⟩ ()).setCell ⟨w+2,2,none⟩ ()).setCell ⟨w+2,3,none⟩ ()).setCell ⟨w+2,4,none⟩ (.int .i64 0)).setCell ⟨w+2,5,none⟩ (.int .i64 0));have t:Kp (·=w+2) y e:=by rw[j];exact Kp.oL (D:=(·=w+2)) rfl _ _ _ _ _ _
     have r:hV e (w+2) 39 #[.int .i64 0,(),(),(),.int .i64 0,.int .i64 0]:=by rw[j];exact l.oL _ _ _ _ _ _
     rw[<-j];refine DV (jw lG rfl (w+2) rfl [.int .i64 0,(),(),(),.int .i64 0,.int .i64 0] (hH.lV r) rfl) rfl ?_;rw[h.o];exact⟨⟨_,rfl,vC⟩,D.own t (fun a f=>Zm)⟩
   . clear n J;obtain⟨yz,y0,y1,y2,y3,y4,y5,-⟩:=b.ca;obtain⟨W,X,Y,Z,f4,f5,-⟩:=b.fz;clear b;go_wp2_with fail;obtain⟨e,j⟩:=Ry ((((((y.setCell ⟨w+2,0,none⟩ (.int .i64 0)).setCell ⟨w+2,1,none⟩ ()).setCell ⟨w+2,2,none⟩ ()).setCell ⟨w+2,3,none⟩ ()).setCell ⟨w+2,4,none⟩ (.int .i64 0)).setCell ⟨w+2,5,none⟩ (.int .i64 0));have t:Kp (·=w+2) y e:=by rw[j];exact Kp.oL (D:=(·=w+2)) rfl _ _ _ _ _ _
     have r:hV e (w+2) 39 #[.int .i64 0,(),(),(),.int .i64 0,.int .i64 0]:=by rw[j];exact l.oL _ _ _ _ _ _
     rw[<-j];refine DV (jw lG rfl (w+2) rfl [.int .i64 0,(),(),(),.int .i64 0,.int .i64 0] (hH.lV r) rfl) rfl ?_;rw[h.o];exact⟨⟨_,rfl,vC⟩,D.own t (fun a f=>Zm)⟩
 have bX:=R7 A;rcases L with⟨n,rfl⟩|⟨n,o,rfl,J,bY⟩
 . replace h:Zz (yh p lk s c=EK):=Zy (by rw[h.o,n,SK];rfl);clear n A;obtain⟨yz,y0,y1,y2,y3,y4,y5,-⟩:=b.ca;obtain⟨W,X,Y,Z,f4,f5,-⟩:=b.fz;clear b;go_wp2_with fail;obtain⟨e,j⟩:=Ry ((((((y.setCell ⟨w+2,0,none⟩ (.int .i64 0)).setCell ⟨w+2,1,none⟩ ()).setCell ⟨w+2,2,none⟩ ()).setCell ⟨w+2,3,none⟩ ()).setCell ⟨w+2,4,none⟩ (.int .i64 0)).setCell ⟨w+2,5,none⟩ (.int .i64 0));have t:Kp (·=w+2) y e:=by rw[j];exact Kp.oL (D:=(·=w+2)) rfl _ _ _ _ _ _
   have r:hV e (w+2) 39 #[.int .i64 0,(),(),(),.int .i64 0,.int .i64 0]:=by rw[j];exact l.oL _ _ _ _ _ _
   rw[<-j];refine DV (jw lG rfl (w+2) rfl [.int .i64 0,(),(),(),.int .i64 0,.int .i64 0] (hH.lV r) rfl) rfl ?_;rw[h.o];exact⟨⟨_,rfl,vC⟩,D.own t (fun a f=>Zm)⟩
 have cK:=J.ord;have HL:=Zy J;replace h:Zz (yh p lk s c=if Cq p s then steps p lk c.toNat s else EK):=Zy (by rw[h.o,R6 Zm,n];rfl);have ak:=bz.ext bD;have aO:Zz (jQ y (· <o.O) s [s.status,.slice Q s.frames.length T,.slice R s.heap.length U,.slice S s.outs.length V,s.back.kind,s.back.n]):=Zy (jQ.stays _ _ _ _ _ _ (Ext.same D) (fun a i=>Z0 (HI.o a i)) HS.o);have⟨bA,HF⟩:=je ak A;obtain⟨xz,x0,x1,x2,x3,x4,x5,-⟩:=ak.ca;clear J n ak A b;go_wp2_with fail;refine(Dr _ _ _ HL s aO).mono ?_;rintro f q ⟨rfl,aB⟩;have C:=Zy aB;have dh:=aB.kp.size;clear aB x0 x1 x2 x3 x4 x5 xz;have b:=l.kp C.kp Zm;replace l:=Zy b;have aK:Zz (Ext w q):=Zy (D.own C.kp (fun a f=>Zm));cases N:Cq p s
 . replace h:Zz (yh p lk s c=EK):=Zy (by rw[h.o,N];rfl);clear N;obtain⟨yz,y0,y1,y2,y3,y4,y5,-⟩:=b.ca;obtain⟨W,X,Y,Z,f4,f5,-⟩:=b.fz;clear b;go_wp2_with fail;obtain⟨e,j⟩:=Ry ((((((q.setCell ⟨w+2,0,none⟩ (.int .i64 0)).setCell ⟨w+2,1,none⟩ ()).setCell ⟨w+2,2,none⟩ ()).setCell ⟨w+2,3,none⟩ ()).setCell ⟨w+2,4,none⟩ (.int .i64 0)).setCell ⟨w+2,5,none⟩ (.int .i64 0));have t:Kp (·=w+2) q e:=by rw[j];exact Kp.oL (D:=(·=w+2)) rfl _ _ _ _ _ _
   have r:hV e (w+2) 39 #[.int .i64 0,(),(),(),.int .i64 0,.int .i64 0]:=by rw[j];exact l.oL _ _ _ _ _ _
   rw[<-j];refine DV (jw lG rfl (w+2) rfl [.int .i64 0,(),(),(),.int .i64 0,.int .i64 0] (hH.lV r) rfl) rfl ?_;rw[h.o];exact⟨⟨_,rfl,vC⟩,aK.own t (fun a f=>Zm)⟩
 replace h:Zz (yh p lk s c=steps p lk c.toNat s):=Zy (by rw[h.o,N];rfl);have aQ:=bA.kp C.kp Zm;obtain⟨xz,x0,x1,x2,x3,x4,x5,-⟩:=aQ.ca;have aP:=Zy N;clear N aQ b;go_wp2_with fail;refine(BU _ _ _ C.at_ lk s (jQ.stays _ _ _ _ _ _ (C.same Zm) (fun _ aA=>aA) aO) aP).mono ?_;rintro f w5 ⟨⟨mb,bZ,bR,rfl,m,hg⟩,aD⟩;have⟨HM,HG,aL⟩:=jy m hg aD;have di:=aD.size;clear m hg aD x0 x1 x2 x3 x4 x5 xz;go_wp2_with fail;go_loopw [11] (fun aI wr=>∃(k:Nat) (O:Own) (g:Gh),aI=.int .i64 k/\Ext w wr/\Kp (fun a=>q.heap.size<=a\/a=o.D) w5 wr/\ji wr o p O q mb lk g/\zI p g.st/\steps p lk c.toNat s=steps p lk (c.toNat - k) g.st) (fun aI _=>c.toNat - (intOf aI).toNat)
 case atStart=>exact⟨0,bZ,bR,rfl,aK.trans aL,Kp.rr,HM,by rw[HG.o];exact vT.1 aP,by rw[HG.o];rfl⟩
 case round =>
  obtain⟨k,O,g,rfl,hE,H,m,hR,ae⟩:=hrel;have⟨HE,bG,aM,HR,bL⟩:=mr hE H m hR ae;obtain⟨ez,-,-,e2,-⟩:=m.blk.ca;have dn:=H.size;by_cases aG:(k:Int)<c/\g.status=1
  . obtain⟨hq,u⟩:=aG;have bg:=R6 hq;have e3:=Tp.2 u;obtain⟨aJ,au,L⟩:∃aJ au,g.cs=aJ++[au]:=by
     have aZ:g.cs≠[]:=fun f=>by
      have:=hR.goes.1 u;simp[Gh.st,f]at this
     exact⟨g.cs.dropLast,g.cs.getLast aZ,(SV aZ).symm⟩
    have bn:=Fb wr o p O q mb lk bH g m aJ au L u;have⟨bM,HQ,bI⟩:=jy bn hq u;have cO:IntKind.i64.wrap ((k:Int)+1)=k+1:=RQ _ (Z0 HF.o);clear hE H m hR ae L bn u;go_wp2_with fail;refine bM.mono ?_;rintro f w6 ⟨rfl,aT,cu,g6,bS,aV,aY⟩;have E:=Zy (RJ aT (RJ aV aY));have hd:∀a,MO o O a->q.heap.size<=a\/a=o.D:=fun a i=>by
     rcases i with i|i
     . exact .inr i
     . exact .inl (aM.dom a i).1
    have HD:=Zy hd;clear aT bS aV aY hd e2 ez;go_wp2_with fail;refine⟨⟨k+1,cu,g6,by go_num,HE.own E.1 (fun a i=>by rcases HD.o a i with aA|aA<;>omega),bG.o.trans (E.o.1.weak fun a _ i=>HD.o a i),E.o.2.1,?_,?_⟩,by simp[intOf];omega⟩
    . rw[E.o.2.2];exact Fs aM.ku.ok HR lk
    . rw[E.o.2.2,bL.o];have e1:c.toNat - k=(c.toNat - (k+1))+1:=Zm
      rw[e1];show(if g.st.status=1 then _ else _)=_
      rw[RV (show g.st.status=1 from bI.o)]
  . have aX:steps p lk c.toNat s=g.st:=by
     rw[ae];by_cases u:g.status=1
     . have:c.toNat - k=0:=Zm
       rw[this];rfl
     . exact Bp u _
    have bE:=Zy aX;have bq:=Dy wr o p O q mb lk g m;have bN:=Zy bq;have b:=(l.ext aL).kp H (fun f=>Zm);replace l:=Zy b;have bg:∃z,decide ((k:Int)<c)=z:=⟨_,rfl⟩;obtain⟨z,bU⟩:=bg;have e3:∃F,((g.status:Int)==1)=F:=⟨_,rfl⟩;obtain⟨F,bV⟩:=e3;have bT:(z&&F)=false:=by
     rw[<-bU,<-bV];cases hx:decide ((k:Int)<c)
     . rfl
     . have h1:=Sq hx;have h2:¬g.status=1:=fun f=>aG ⟨h1,f⟩;simp[h2]
    have cz:=l;clear aG hE H m hR ae aX bq b;have dw:True:=trivial;have bW:(z=false)\/(z=true/\F=false):=by cases z<;>cases F<;>simp_all
    clear bT;rcases bW with rfl|⟨rfl,rfl⟩
    all_goals
     go_wp2_with fail;refine bN.mono ?_;rintro f w6 ⟨⟨cs,rfl,K⟩,aa⟩;rw[<-bE.o,<-h.o]at K;obtain⟨d,aH⟩:∃d,yh p lk s c=d:=⟨_,rfl⟩;rw[aH]at K;have⟨bJ,bO⟩:=je aH K;obtain⟨ah,av,ai,ax,aj,ay,rfl,-,-,-⟩:=K.form;have b:=l.ext aa;have dm:=aa.size;obtain⟨P,af⟩:=Ry ((((((w6.setCell ⟨w+2,0,none⟩ (.int .i64 d.status)).setCell ⟨w+2,1,none⟩ (.slice ah d.frames.length av)).setCell ⟨w+2,2,none⟩ (.slice ai d.heap.length ax)).setCell ⟨w+2,3,none⟩ (.slice aj d.outs.length ay)).setCell ⟨w+2,4,none⟩ (.int .i64 d.back.kind)).setCell ⟨w+2,5,none⟩ (.int .i64 d.back.n));have aF:Kp (·=w+2) w6 P:=by rw[af];exact Kp.oL (D:=(·=w+2)) rfl _ _ _ _ _ _
     have aS:hV P (w+2) 39 #[.int .i64 d.status,.slice ah d.frames.length av,.slice ai d.heap.length ax,.slice aj d.outs.length ay,.int .i64 d.back.kind,.int .i64 d.back.n]:=by rw[af];exact b.oL _ _ _ _ _ _
     have aU:Ext w P:=(HE.trans aa).own aF (fun a f=>Zm);have aW:=jQ.stays _ _ _ (fun a=>w.heap.size<=a) _ _ (aF.same fun a (i:wr.heap.size<=a) f=>Zm) (fun a (i:wr.heap.size<=a)=>Zm) bO.o;obtain⟨yz,y0,y1,y2,y3,y4,y5,-⟩:=b.ca;obtain⟨W,X,Y,Z,f4,f5,-⟩:=b.fz;have⟨bF,bK,bu,bP⟩:=jV aU aW aS af;clear b af aF aS aU aW K aa aH;go_wp2_with fail;rw[<-bP.o];refine DV (jw lG rfl (w+2) rfl [.int .i64 d.status,.slice ah d.frames.length av,.slice ai d.heap.length ax,.slice aj d.outs.length ay,.int .i64 d.back.kind,.int .i64 d.back.n] (hH.lV bu) rfl) rfl ?_;rw[bJ.o];exact⟨⟨_,rfl,bK⟩,bF⟩
theorem Gj:xC:=fun e c d a f b=>Hc e c d a f b
theorem Qw(w:World)(I:Nat->Prop){v:Value}(p:hZ)(h:SliceOf 2 jc w I v p)(hI:∀a,I a->a<w.heap.size)(lk:Bool)(k:Int)(n m:ByteArray)(args:List Int)(c:Option Addr)(b:Nat)(g:SliceOf 1 oQ w I (.slice c args.length b) args):Calls prog 15 #[.agg #[v],.bool lk,k,n,m,.slice c args.length b] w fun f e=>(∃d,f=.returned (.agg d.toArray)/\jQ e (fun a=>w.heap.size<=a) (qD p lk k n m args) d)/\Ext w e:=OX w I v p h hI lk (Zy fun _=>Gj) k n m args c b g
theorem Qx{w:World}(I:Nat->Prop){v:Value}(p:hZ)(f:SliceOf 2 jc w I v p)(hI:∀a,I a->a<w.heap.size)(lk:Bool)(s:St){cs:List Value}(g:jQ w I s cs){b:Int}:Calls prog 9 #[.agg #[v],.bool lk,.agg cs.toArray,b] w fun e d=>(∃c,e=.returned (.agg c.toArray)/\jQ d (fun a=>w.heap.size<=a) (yh p lk s b) c)/\Ext w d:=OY w I v p f hI lk (Zy fun _=>Gj) s cs g b
theorem kT.far{w e:World}{r:Rc}{h i:Value}{b:Book}{g:Own}{f:Nat}(d:kT w r h i b)(l:Kp (MO r.l g) w e)(j:jg e r.l r.p)(k:∀c,g c≠none->f<=c)(o:w<=f):kT e r h i b:=
 d.kp l j fun c m n a=>by
  rcases a with a|a
  . have:=d.hB;have:=d.ku.ord;omega
  . have:=k c a;omega
theorem ji.far{w n f:World}{p:hZ}{k:Own}{j:Nat}{lk:Bool}{g:Gh}{r:Rc}{l m:Value}{b:Book}{a:Nat}(d:ji w r.l p k a j lk g)(i:Kp (RD r l m) w f)(o:jg f r.l p)(h:kT n r l m b)(q:n<=a):ji f r.l p k a j lk g:=
 d.keep i (mV.refl _ _) (d.zi i.size) o (fun g e c=>Z4 ((d.dom g e).1) (h.Nw c)) fun g e c=>h.deep e c
theorem JA(w:World)(I:Nat->Prop)(e:Nat)(x:RW)(cs:List Value)(hI:∀a,I a->a<w.heap.size/\a≠e)(c:hV w e 165 cs.toArray)(j:CO w I x cs)(hx:J3 x):Calls prog 25 #[some e] w fun b w'=>b=.returned (.tuple #[])/\(∃x' aK,x'.p=x.p/\x'.s=M.step x.p true x.s/\rC x.p x'.b/\hV w' e 165 aK.toArray/\CO w' (fun a=>I a\/w.heap.size<=a) x' aK)/\Kp (·=e) w w':=by
 obtain⟨vp,ve,vq,cv,rfl,Z,he,hq,hs⟩:=j;obtain⟨f1,d1,f2,d2,f3,d3,rfl,-⟩:=hs.form;obtain⟨bJ,bK,rfl,-,fE⟩:=Z.form;obtain⟨a2,c2,rfl,-,fD⟩:=he.form;obtain⟨a3,c3,rfl,-,fF⟩:=hq.form;have⟨HP,HE,HQ,HS,S,U,F⟩:=qh Z he hq hs hI hx c;obtain⟨bz,e0,e1,e2,e3,e4,e5,e6,e7,e8,-⟩:=c.ca;have aR:=vR w I _ x.p Z fun a c=>(hI a c).1;have dN:=Zy aR;by_cases L:x.s.status=1
 . have eU:(x.s.status !=1)=false:=by rw[L];rfl
   have ah:=Zy L;clear Z he hq hs hI hx c aR L;go_enter func25,ntmps25;go_wp2_with fail;refine dN.mono ?_;rintro b w1 ⟨H,X⟩;rcases X with⟨c,-⟩|⟨-,y,rfl,hL,hO⟩
   . rw[U.o.ku]at c;cases c
   have bQ:w<=y.O/\y.O<y.A/\y.A<y.D/\y.D<y.L:=⟨hO,hL.ord⟩;obtain⟨fA,eB,eD,-⟩:=(F.ext H).ca;have G:=Zy bQ;have bL:=Fh w1 y x.p hL I (fun f n=>⟨Nv (S f n).1 H.size,Z0 ((S f n).1)⟩) x.b (HE.o.ext xg.stays H) (HQ.o.ext rX.stays H) U.o.book;have⟨dD,af⟩:=je bL H;clear bL H e0 e1 e2 hL hO bQ;go_wp2_with fail;refine dD.mono ?_;rintro b o ⟨g,dn,dw,rfl,bn,cB,rfl,k,aS⟩;have aL:=(F.ext af).kp k (Z0 G.o);obtain⟨fB,-,-,-,g3,g4,g5,d,g7,g8,-⟩:=aL.ca;have df:Same I w o:=fun a fH fJ c hc=>k.lW (af.jb hc) (Z4 ((S a c).1) G.o);have aQ:=aS.ku;rw[bn]at aQ;have bP:=BU o g.l x.p aQ true x.s (jQ.stays _ _ _ _ _ _ df (fun a c=>Z4 ((S a c).1) G.o) HS.o) U.o.vm;have⟨dO,dI,aD,eZ,T,dR⟩:=nZ bP k aS aL bn cB;clear bP k aS aL bn cB df aQ eB eD e3 e4 e5 e6 e7 e8;go_wp2_with fail;refine dO.mono ?_;rintro b w3 ⟨⟨P,dm,f,rfl,J,n⟩,bM⟩;have cO:f.status=1:=by have:=congrArg St.status n;rw[ah.o]at this;exact this
   obtain⟨q0,i,X⟩:∃q0 i,f.cs=q0++[i]:=by
    have Y:f.cs≠[]:=fun b=>by
     have:=(vT.1 U.vm).goes.1 ah;rw[<-n]at this;simp[Gh.st,b]at this
    exact⟨f.cs.dropLast,f.cs.getLast Y,(SV Y).symm⟩
   obtain⟨va,vc,dh⟩:=J.calls.form;have m3:=J.blk.c 3 (.slice va f.cs.length vc) (by rw[<-dh];rfl);have mz:=J.blk.lt;have bS:=kV w3 g.l x.p dm o P true f J q0 i X;have⟨aI,HM,HG,dF,ae,dS⟩:=nZ bS J n bM X cO;clear bS J n bM X cO dh g3 g4 g5 d g7 g8;go_wp2_with fail;refine aI.mono ?_;rintro b z ⟨rfl,aN⟩;have W:=HM.ext aN;have u:=W.at_ ae;have eQ:=W.mi ae;have aZ:=W.C9 ae;obtain⟨Q,hn⟩:∃Q:Nat,i.f.pc=Q:=⟨i.f.pc.toNat,by simp[kZ]at aZ;omega⟩;have eP:Q<(M.method x.p i.f.of).code.length:=by simp[kZ]at aZ;omega
   obtain⟨⟨op,ia,nm,bD⟩,hi⟩:=nW (M.method x.p i.f.of).code Q eP;have cz:=u.blk.lt;obtain⟨bq,fI,cs,ea,eG,rfl,-,bW⟩:=(jd.code u.ml).get hi;obtain⟨g0,g1,g2,g3⟩:=bW.four;have gz:=iY g0;obtain⟨ek,eF,eT,m⟩:=kY z;have d9:=fun l=>(u.blk.ext (m.jm l)).c 9 (.slice i.t.a2 (M.method x.p i.f.of).code.length i.t.c2) rfl;have eu:=fun l=>(u.blk.ext (m.jm l)).c 11 Q (by rw[<-hn];rfl);have y0:=fun l=>(m.jm l).jb g0;have y1:=fun l=>(m.jm l).jb g1;have y2:=fun l=>(m.jm l).jb g2;have y3:=fun l=>(m.jm l).jb g3;rw[ea]at d9;have⟨t,bF,dG⟩:=jy m W aN;have dQ:=Zy u.role;have fG:(Q:Int)<(M.method x.p i.f.of).code.length:=Zm
   have dL:Zz (o.heap.size<=i.cb/\i.cb<z):=Zy ⟨u.low,u.blk.lt⟩;clear W u eQ aZ bW ea eG m g0 g1 g2 g3 aN m3 mz;go_wp2_with fail;refine kD t 12 [([0,1,2,3,4,5,6,7,8,9,10],11)] [] ?_ ?_
   . exact jf
   refine lS ?_;intro V k;go_wp2_with fail;refine kk t k ((Kp.refl _ z).drew.alloc _:Ext z _) ?_;clear k V;obtain⟨w5,ax⟩:=Ry ((z.alloc (.cells #[op,ia,nm,bD] 149)).drew);have aO:Ext z w5:=by rw[ax];exact((Kp.refl _ z).alloc _).drew
   have b5:hV w5 z 149 #[op,ia,nm,bD]:=by rw[ax];exact(hV.newAt _ _ rfl).ext jf
   have⟨bH,dA,dZ,dW⟩:=jV aO b5 ax (Fb w5 g.l x.p dm o P true (Zy fun _=>Gj) f (bF.ext aO) q0 i ae dS);clear aO b5 ax t d9 eu y0 y1 y2 y3;refine kC ?_;go_wp2_with fail;rw[<-dZ.o];refine dW.mono ?_;rintro b w6 ⟨rfl,aj,az,d,bT,ak,bY⟩;have aP:=((dF.trans dG).trans bH).any.trans aj;have aT:kT w6 g dn dw x.b:=aD.far aP (by rw[T.o];exact ak.ku) (fun f n=>(HM.dom f n).1) (R5 _);obtain⟨kq,cu⟩:=ak.xI i.cb q0.length ((bT _ (Nv dL.2 bH.size)).trans dQ);have aX:=dA.kp aj (bF.fresh (R5 _));obtain⟨h,D⟩:∃h:Rs,h=⟨w6,dn,dw,x.b⟩:=⟨_,rfl⟩;have aW:kK g h w6:=by rw[D];exact aT.begin
   have aV:kT h.w g h.ve h.vp h.b:=by rw[D];exact aT
   have cK:∀f,RD g h.ve h.vp f->f<o.heap.size:=fun f n=>by rw[D]at n;exact aD.Nw n
   obtain⟨ek,eF,eT,m⟩:=rA.ex (fun W'=>kK g h W') _ aW;obtain⟨-,i0,N,O,i3,-⟩:=hV.lL fun l=>(m.jm l).blk aV (by rw[D];exact aX);have⟨t,fo,dJ,bI,dH,aG,fw,fu,dK⟩:=vL m aj aP ak bY aW aV cK cu;have aF:Zz (kT o g h.ve h.vp h.b):=Zy (by rw[D];exact aD);have aH:Zz (h.w=w6):=Zy (by rw[D]);have fe:=Zy aX;clear m aj aP ak bY aW aV cK cu bT aT D aX;go_upto_region 8 with(fail);refine kD t 5 [([0,1,3],2),([],4)] [] ?_ ?_
   . exact aG.ext jf
   refine lS ?_;intro V k;go_wp2_with fail;refine(mQ kq ((Kp.refl (fun _=>False) w6).drew.jb dK)).mono ?_;rintro b wx ⟨rfl,rfl⟩;go_wp2_with fail;refine kk t k (aG.ext jf) ?_;clear k V;refine lF rfl fun V k=>?_;go_wp2_with fail;refine(DX g h (aG.ext jf) kq ⟨op,ia,nm,bD⟩).mono ?_;rintro b s ⟨rfl,bR⟩;have A:=Zy bR;clear bR;go_wp2_with fail;refine kk t k A ?_;clear k V;clear t i0 N O i3;refine wG rfl ?_;have v:=A.1;rw[aH.o]at v;have C:ji s g.l x.p az o P true d:=bI.far v (by have:=A.ku;rwa[T.o]at this) aF.o (R5 _);obtain⟨eX,eY,di⟩:=C.calls.form;have m3:=C.blk.c 3 (.slice eX d.cs.length eY) (by rw[<-di];rfl);have mz:=C.blk.lt;have⟨aa,fq⟩:=je C v;clear v di;by_cases K:f.cs.length<d.cs.length;focus
    obtain⟨q1,c1,aY⟩:∃q1 c1,d.cs=q1++[c1]:=by
     have Y:d.cs≠[]:=fun b=>by rw[b]at K;simp at K
     exact⟨d.cs.dropLast,d.cs.getLast Y,(SV Y).symm⟩
    have eO:=eq_true K
    have⟨aI,bG⟩:=je (kV s g.l x.p az o P true d C q1 c1 aY) aY
    clear aY C K
    go_wp2_with fail
    refine aI.mono ?_
    rintro b w8 ⟨rfl,q⟩
    have bV:=(aa.ext q).at_ bG
    have bX:=(jA.1 ((aa.ext q).C9 bG)).1
    obtain⟨-,t0,t1,t2,-⟩:=bV.blk.ca
    have⟨ag,dx⟩:=je q (zb g h w8 (A.ext q) c1.f.of (by rw[T.o];exact bX))
    have dM:Zz (∀B,kK g h B->ji B g.l x.p az o P true d):=Zy fun B r=>bI.far (by have:=r.1;rwa[aH.o]at this) (by have:=r.ku;rwa[T.o]at this) aF.o (R5 _)
    clear bV bX q m3 mz
    go_wp2_with fail
    refine dx.mono ?_
    rintro b s ⟨rfl,r⟩
    have⟨A,aa⟩:=je r (dM s r)
    clear r t0 t1 t2
    go_upto_region 11 with(fail)
   rotate_left;focus
    have eO:=Tq K
    clear K C
    go_upto_region 11 with(fail)
    clear m3 mz
   all_goals
    have fC:=F.lt;have ai:Ext w o:=af.own dI fun a b=>Z0 G.o
    have bN:=ai.own dJ fun a b=>by
     have:=G.o;have:=ai.size;rcases b with b|b
     . omega
     . have:=(HM.dom a b).1;omega
    have v:=A.1;rw[aH.o]at v;have bO:=bN.own v fun a b=>by
     have:=G.o;have:=dR.o;have:=af.size;rcases aF.o.Be b with b|b<;>omega
    obtain⟨vE,vP,p,aU⟩:=A.at_;have dE:=Zy (Hw s g vE vP p aU);have dP:Zz (rC x.p p):=Zy (by have:=aU.ok;rwa[T.o]at this);have aB:=Zy bO;have ed:=Zy ai.size;clear aU ai bN v bO;go_wp2_with fail;refine dE.mono ?_;rintro b w8 ⟨⟨v1,v2,rfl,bA,bB⟩,q⟩;obtain⟨N,j1,rfl,-,-⟩:=bA.form;obtain⟨O,j2,rfl,-,-⟩:=bB.form;have av:=F.ext (aB.trans q);obtain⟨n0,n1,-⟩:=av.fz;obtain⟨nz,o0,o1,-⟩:=av.ca;have⟨dB,ag,dX,dY⟩:=jV av q bA bB;clear av q bA bB;go_upto_region 12 with(fail);obtain⟨E,ay⟩:=Ry ((w8.setCell e (.slice N p.jR.length j1)).setCell (e,1) (.slice O p.jH.length j2));have bg:Kp (·=e) w8 E:=by rw[ay];exact((Kp.refl (·=e) w8).setCell (p:=⟨e,0,none⟩) (fun _=>rfl) _).setCell (p:=⟨e,1,none⟩) (fun _=>rfl) _
    have bU:hV E e 165 #[.slice N p.jR.length j1,.slice O p.jH.length j2,.slice bJ x.p.length bK,x.s.status,.slice f1 x.s.frames.length d1,.slice f2 x.s.heap.length d2,.slice f3 x.s.outs.length d3,x.s.back.kind,x.s.back.n]:=by rw[ay];have j:=(dB.jk 0 (.slice N p.jR.length j1)).jk 1 (.slice O p.jH.length j2);simpa using j
    rw[<-ay];have⟨dV,dC,aC⟩:=jy (BN E g.l x.p az o P true d ((aa.run.ext ag).kp bg fun a c b=>Z0 ed.o)) bU bg;clear ay bU bg n0 n1 nz o0 o1;go_wp2_with fail;refine dV.mono ?_;rintro b bE ⟨⟨aK,rfl,bu⟩,aM⟩;have cZ:=bu;obtain⟨k1,l1,k2,l2,k3,l3,rfl,-⟩:=bu.form;have au:=dC.ext aM;obtain⟨-,-,-,n3,n4,n5,n6,n7,n8,-⟩:=au.fz;obtain⟨nz,-,-,-,o3,o4,o5,o6,o7,o8,-⟩:=au.ca;have⟨dz,aA,dU⟩:=jy au aM cZ;clear au aM bu cZ;go_wp2_with fail;obtain⟨R,bC⟩:=Ry ((((((bE.setCell (e,3) d.st.status).setCell (e,4) (.slice k1 d.st.frames.length l1)).setCell (e,5) (.slice k2 d.st.heap.length l2)).setCell (e,6) (.slice k3 d.st.outs.length l3)).setCell (e,7) d.st.back.kind).setCell (e,8) d.st.back.n);have bf:Kp (·=e) bE R:=by rw[bC];exact(((((((Kp.refl (·=e) bE).setCell (p:=⟨e,3,none⟩) (fun _=>rfl) _).setCell (p:=⟨e,4,none⟩) (fun _=>rfl) _).setCell (p:=⟨e,5,none⟩) (fun _=>rfl) _).setCell (p:=⟨e,6,none⟩) (fun _=>rfl) _).setCell (p:=⟨e,7,none⟩) (fun _=>rfl) _).setCell (p:=⟨e,8,none⟩) (fun _=>rfl) _)
    have eH:hV R e 165 #[.slice N p.jR.length j1,.slice O p.jH.length j2,.slice bJ x.p.length bK,d.st.status,.slice k1 d.st.frames.length l1,.slice k2 d.st.heap.length l2,.slice k3 d.st.outs.length l3,d.st.back.kind,d.st.back.n]:=by rw[bC];have j:=((((((dz.jk 3 d.st.status).jk 4 (.slice k1 d.st.frames.length l1)).jk 5 (.slice k2 d.st.heap.length l2)).jk 6 (.slice k3 d.st.outs.length l3)).jk 7 d.st.back.kind).jk 8 d.st.back.n);simpa using j
    rw[<-bC];refine RA ?_;have hK:=(((aB.trans ag).any.trans aC).trans aA.any).trans bf;have z1:=aB.size;have z2:=ag.size;have z3:=aC.size;have z4:=aA.size;have zB:=F.lt;have sm:∀(aJ:Nat->Prop) {B:World},Kp (·=e) B R->(∀a,aJ a->a≠e)->Same aJ B R:=fun aJ B j hJ=>Kp.same j fun a c b=>hJ a c b;have bZ:=(aC.trans aA.any).trans bf;refine⟨rfl,⟨⟨x.p,p,d.st⟩,[_,_,_,_,_,_,_,_,_],rfl,?_,dP,eH,_,_,_,[_,_,_,_,_,_],rfl,?_,?_,?_,?_⟩,hK⟩
    . rw[dH.o,HG.o]
    . exact HP.keep jc.stays (sm _ hK fun a c=>(S a c).2) fun a c=>.inl c
    . exact dX.keep xg.stays (sm _ bZ fun a c b=>by subst b;have:s.heap.size<=a:=c;omega) fun a c=>.inr (by have:s.heap.size<=a:=c;omega)
    . exact dY.keep rX.stays (sm _ bZ fun a c b=>by subst b;have:s.heap.size<=a:=c;omega) fun a c=>.inr (by have:s.heap.size<=a:=c;omega)
    . exact jQ.stays _ _ _ _ _ _ (sm _ bf fun a c b=>by subst b;have:E.heap.size<=a:=c;omega) (fun a c=>.inr (by have:E.heap.size<=a:=c;omega)) dU.o
 . have eU:(x.s.status !=1)=true:=by simpa using L
   have r:M.step x.p true x.s=x.s:=by unfold M.step;rw[RX L]
   have ah:=Zy r;clear Z he hq hs hI hx c aR L r;go_enter func25,ntmps25;go_wp2_with fail;refine RA ?_;exact⟨rfl,⟨x,_,rfl,ah.symm,U.book,F,_,_,_,_,rfl,HP.keep jc.stays (fun _ _ _ _ j=>j) fun _=>.inl,HE.keep xg.stays (fun _ _ _ _ j=>j) fun _=>.inl,HQ.keep rX.stays (fun _ _ _ _ j=>j) fun _=>.inl,jQ.stays _ _ _ _ _ _ (fun _ _ _ _ j=>j) (fun _=>.inl) HS⟩,Kp.rr⟩
theorem jQ.inside{w:World}{I:Nat->Prop}{s:St}{cs:List Value}(a:jQ w I s cs):jQ w (fun b=>b<w.heap.size) s cs:=by
 obtain⟨g,q,t,c,m,n,o⟩:=a;have p:∀b,I b/\b<w.heap.size->b<w.heap.size:=fun b a=>a.2;have f:∀{l:Type} {i:Nat} {d:l6 l} (h:jL d) {j:Value} {k:List l},SliceOf i d w (fun b=>I b/\b<w.heap.size) j k->SliceOf i d w (fun b=>b<w.heap.size) j k:=fun h _ _ a=>a.keep h (fun _ _ _ _ a=>a) p;refine⟨g,q,t,c,f Ci.stays (m.inside (fun w I v cs a=>?_) Zm),f xh.stays (n.inside (fun w I v cs a=>?_) Zm),f oQ.stays (o.inside (fun _ _ _ _ a=>a) Zm)⟩
 . obtain⟨r,u,c,e,b⟩:=a;exact⟨r,u,c,e.inside (fun _ _ _ _ a=>a) Zm,b.inside (fun _ _ _ _ a=>a) Zm⟩
 . obtain⟨g,c,e⟩:=a;exact⟨g,c,e.inside (fun _ _ _ _ a=>a) Zm⟩
theorem QV{w:World}:Calls prog 6 #[] w fun b d=>b=.returned (.bool true)/\d=w:=by
 have c:jC ⟨#[97]⟩=true:=by decide+kernel
 have a:=Zy (mE ⟨#[97]⟩ w);rw[c]at a;go_enter func6,ntmps6;go_wp2_with fail;refine a.mono ?_;rintro b e ⟨rfl,rfl⟩;go_wp2_with fail;go_ret;exact⟨rfl,rfl⟩
theorem FX(w:World){I J:Nat->Prop}{u v:Value}(l:List Val)(f:SliceOf 2 mP w I u l)(g:SliceOf 2 mP w J v l):Calls prog 28 #[u,v] w fun F K=>F=.returned (.bool true)/\Ext w K:=by
 obtain⟨O,Q,rfl,-,X⟩:=f.form;obtain⟨P,R,rfl,-,-⟩:=g.form;have⟨y,z⟩:=je f g;clear f g;go_enter func28,ntmps28;go_wp2_with fail;go_loopw [5] (fun k wr=>∃t:Nat,t<=l.length/\k=.int .i64 t/\Ext w wr) (fun k _=>l.length - (intOf k).toNat)
 case atStart=>exact⟨0,R4 _,rfl,Kp.rr⟩
 case round=>
  obtain⟨a,W,rfl,b⟩:=hrel;have m:=Zy b;by_cases q:a<l.length
  . have E:(a:Int)<l.length:=Zm
    have U:(0:Int)<=a:=Zm
    obtain⟨⟨e,x⟩,j⟩:∃L,l[a]?=some L:=⟨l[a]'q,Rz q⟩;obtain⟨C,G,S,rfl,-,rfl,-,h⟩:=y.get j;obtain⟨D,H,T,rfl,-,rfl,-,i⟩:=z.get j;have n:w.cell? (C,G+a*2)=some (.int .i64 e):=by simpa using h 0 e rfl
    have o:=h 1 x rfl;have r:w.cell? (D,H+a*2)=some (.int .i64 e):=by simpa using i 0 e rfl
    have s:=i 1 x rfl;obtain⟨N,V,Y,d⟩:=kY wr;have Z:=fun c=>(b.trans (d.jm c)).jb n;have x1:=fun c=>(b.trans (d.jm c)).jb o;have y0:=fun c=>(b.trans (d.jm c)).jb r;have y1:=fun c=>(b.trans (d.jm c)).jb s;have A:=Zy d;clear d h i j n o r s b;go_upto_region 6 with(fail);refine kD A 9 [] [0,1,2,3,4,5,6,7,8] ?_ ?_
    . exact jf
    refine BR [_,_,_,_,_,_,_,_,_] rfl rfl fun B p=>?_;(repeat (go_big_quiet_step (fail)));refine qn p ?_;clear p B;go_wp2_with fail;go_round
    case rel=>exact⟨a+1,Zm,by go_num,m.o.trans jf⟩
    case measure=>simp[intOf];omega
  . have E:¬(a:Int)<l.length:=Zm
    clear b;go_wp2_with fail;go_ret;exact⟨rfl,m⟩
end Go.Proofs.YtlhlnddgfcmfkaaGreat
