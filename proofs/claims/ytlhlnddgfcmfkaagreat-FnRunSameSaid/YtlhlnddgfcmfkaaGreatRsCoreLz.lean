/- Walks. -/
import Derived.Test.YtlhlnddgfcmfkaaGreatRsCoreH
import Derived.Test.YtlhlnddgfcmfkaaGreatRsCoreLy
set_option maxRecDepth 100000
set_option maxHeartbeats 4000000
set_option linter.all false
namespace Go.Proofs.YtlhlnddgfcmfkaaGreat
open Go Go.RowKit Tryz M
theorem One.frame:One Ci:=fun _ _ _ _ b i a=>by obtain⟨j,k,rfl,c,d⟩:=b;obtain⟨e,g,rfl,-⟩:=c.form;obtain⟨f,h,rfl,-⟩:=d.form;simp at a;rcases a with rfl|rfl|rfl|rfl|rfl|rfl<;>rfl
theorem One.int:One oQ:=fun _ _ _ _ b c a=>by subst b;simp at a;subst a;rfl
theorem One.val:One mP:=fun _ _ _ _ b c a=>by subst b;simp[jW]at a;rcases a with rfl|rfl<;>rfl
theorem Ci.inside{w:World}{I:Nat->Prop}{x:Fr}{cs:List Value}(a:Ci w I x cs):Ci w (fun b=>I b/\b<w) x cs:=by
 obtain⟨e,f,d,c,b⟩:=a;exact⟨e,f,d,c.inside (fun _ _ _ _ a=>a) Zn,b.inside (fun _ _ _ _ a=>a) Zn⟩
theorem xS{D:Nat->Prop}{w b:World}(d:Kp (fun a=>(Value.slice none 0 0).ownBlock=some a) w b):Kp D w b:=d.weak fun a _ c=>by cases c
theorem IW{w:World}(I:Nat->Prop){cs:List Value}{s:St}(hs:jQ w I s cs)(hh:s.heap.length<=12):Calls prog 65 #[.agg cs.toArray] w fun c w'=>(∃bC,c=.returned (.agg bC.toArray)/\jQ w' (fun a=>w.heap.size<=a) s bC)/\Ext w w':=by
 obtain⟨vf,vh,vo,rfl,hf,hp,ho⟩:=hs;obtain⟨a1,c1,rfl,-,dV⟩:=hf.form;obtain⟨a2,c2,rfl,-,fA⟩:=hp.form;obtain⟨a3,c3,rfl,-,eu⟩:=ho.form;obtain⟨r,X⟩:=Ry ((w.alloc (.cells #[.int .i64 s.status,.slice a1 s.frames.length c1,.slice a2 s.heap.length c2,.slice a3 s.outs.length c3,.int .i64 s.back.kind,.int .i64 s.back.n] 39)).alloc (.cells #[.int .i64 0,(),(),(),.int .i64 0,.int .i64 0] 39));have bE:Ext w r:=by rw[X];exact kx
 have b1:hV r w 39 #[.int .i64 s.status,.slice a1 s.frames.length c1,.slice a2 s.heap.length c2,.slice a3 s.outs.length c3,.int .i64 s.back.kind,.int .i64 s.back.n]:=by rw[X];exact(hV.new _ _ _).ext kx
 have b2:hV r (w+1) 39 #[.int .i64 0,(),(),(),.int .i64 0,.int .i64 0]:=by rw[X];exact hV.newAt _ _ Zl
 have bZ:r.heap.size=w+2:=by rw[X];simp
 obtain⟨-,-,e1,-⟩:=b1.ca;have f1:=b1.frozen 1;have p:=b1.lt;have⟨dM,eX,cB,cu⟩:=jV X bZ (b2.kp (D:=(·=w)) ((Kp.refl (·=w) r).setCell (p:=⟨w,1,none⟩) (fun _=>rfl) ()) Zm) (b1.jk 1 ());have dn:Zz (Ext w (r.setCell (w,1) ())):=Zy (bE.own ((Kp.refl (·=w) r).setCell (p:=⟨w,1,none⟩) (fun _=>rfl) _) fun k c=>Zm);have⟨HF,HP,HO⟩:=jy hf hp ho;clear X bZ b1 b2 bE hf hp ho;go_enter func65,ntmps65;go_upto_region 1 with(fail);rw[<-dM.o];go_wp2_with fail;clear e1 f1 p;go_loopw [11] (fun aX wr=>∃(d:Nat) (T:List (List Value)) (aA:Value),d<=s.frames.length/\aX=.int .i64 d/\nU 68 6 Ci wr (fun a=>w.heap.size+2<=a/\a<wr.heap.size/\aA.ownBlock≠some a) (w+2) aA T (s.frames.take d)/\hV wr (w+1) 39 #[.int .i64 0,(),(),(),.int .i64 0,.int .i64 0]/\hV wr w 39 #[.int .i64 s.status,aA,.slice a2 s.heap.length c2,.slice a3 s.outs.length c3,.int .i64 s.back.kind,.int .i64 s.back.n]/\Ext w wr) (fun aX _=>s.frames.length - (intOf aX).toNat)
 case atStart=>exact⟨0,[],(),R4 _,rfl,⟨Rt _ _ _ _,by simp,trivial⟩,cB.o,cu.o,dn.o⟩
 case round=>
  obtain⟨d,bD,aA,hq,rfl,F,q,G,hE⟩:=hrel;have⟨HM,A,S,HE⟩:=jV F q G hE;by_cases ek:d<s.frames.length
  . have aS:(s.frames.take d).length=d:=by rw[Su];omega
    have bf:=Zy aS;obtain⟨n,o,bV⟩:=jB F.own;rw[aS]at bV;subst bV;obtain⟨b,hx⟩:=get_some ek;obtain⟨a,eT,cs,rfl,dR,⟨vl,vs,rfl,hl,hs⟩,-,K⟩:=(HF.o.ext Ci.stays hE).get hx;obtain⟨p1,p2,rfl,-,dW⟩:=hl.form;obtain⟨p3,p4,rfl,-,eF⟩:=hs.form;obtain⟨fq,dY,bS,bJ⟩:=hl.cells One.val Zn;obtain⟨fw,ed,bU,bM⟩:=hs.cells One.val Zn;have j0:=K 0 _ rfl;have j1:=K 1 _ rfl;have j2:=K 2 _ rfl;have j3:=K 3 _ rfl;have j4:=K 4 _ rfl;have j5:=K 5 _ rfl;simp only[Sb]at j0;have jz:=iY j0;obtain⟨P,bY,C,b5⟩:=nu wr #[.int .i64 b.of.of.keeper,.string b.of.of.name,.int .i64 b.of.at_,.int .i64 b.pc,.slice p1 b.locals.length p2,.slice p3 b.stack.length p4] 68;obtain⟨kz,-,-,-,-,k4,-⟩:=b5.ca;have⟨dN,t,aa,dx,dz,dG,dI,HX⟩:=xJ bY C b5 (bJ.ext C) bM bS bU hx;clear F q G hE hl hs K hx dR bY C b5 bJ bM bS bU aS;go_upto_region 6 with(fail);rw[<-dN.o];clear j0 j1 j2 j3 j4 j5 jz;go_wp2_with (at_builtin;refine jJ rJ _ rfl _ _ rfl P _ 0 [] rfl (Rt _ _ _ _) _ _ _ _ rfl dx.o Zm (R5 _) ?_);intro v6 j h6 V;have D:Ext P j:=xS V;obtain⟨Q,R,rfl⟩:=jB h6;have au:=aa.o.ext D;obtain⟨lz,-,-,-,-,l4,-⟩:=au.ca;have f4:=au.frozen 4;have⟨dJ,ag,dh⟩:=jy h6 D au;clear h6 V D au kz k4;go_upto_region 7 with(fail);obtain⟨l,ax⟩:=Ry (j.setCell (wr,4) (.slice Q b.locals.length R));have N:Kp (·=wr) j l:=by rw[ax];exact(Kp.refl (·=wr) j).setCell (p:=⟨wr,4,none⟩) (fun _=>rfl) _
    have v:hV l wr 68 #[.int .i64 b.of.of.keeper,.string b.of.of.name,.int .i64 b.of.at_,.int .i64 b.pc,.slice Q b.locals.length R,.slice p3 b.stack.length p4]:=by rw[ax];exact dh.o.jk 4 _
    rw[<-ax];have eG:(wr:Nat)<P:=aa.o.lt;have E:=((t.o.trans ag.o).own N fun a c=>Zm);have bW:=iZ dJ.o N fun U L f=>Zm
    obtain⟨kz,-,-,-,-,-,k5,-⟩:=v.ca;have bN:=dz.o.ext E;have⟨ah,aH,aC,aZ⟩:=jV E bW v N;clear ax N v E bW lz l4 f4;go_wp2_with (at_builtin;refine jJ rJ _ rfl _ _ rfl l _ 0 [] rfl (Rt _ _ _ _) _ _ _ _ rfl bN Zm (R5 _) ?_);intro v8 m h8 O;have aK:Ext l m:=xS O;obtain⟨Z,y8,rfl⟩:=jB h8;have x:=aC.o.ext aK;obtain⟨lz,-,-,-,-,-,l5,-⟩:=x.ca;have f5:=x.frozen 5;have⟨aY,dK,ai⟩:=jy x h8 aK;clear h8 O aK x bN kz k5;go_upto_region 8 with(fail);obtain⟨e,y⟩:=Ry (m.setCell (wr,5) (.slice Z b.stack.length y8));have af:Kp (·=wr) m e:=by rw[y];exact(Kp.refl (·=wr) m).setCell (p:=⟨wr,5,none⟩) (fun _=>rfl) _
    have aQ:hV e wr 68 #[.int .i64 b.of.of.keeper,.string b.of.of.name,.int .i64 b.of.at_,.int .i64 b.pc,.slice Q b.locals.length R,.slice Z b.stack.length y8]:=by rw[y];exact aY.o.jk 5 _
    rw[<-y];have eH:=ag.o.size;have eO:=aZ.o.size;have eP:=ai.o.size;have eQ:=af.size;have u:=(ah.o.trans ai.o).own af fun a c=>Zm
    have bX:=iZ dK.o af fun U L f=>Zm
    have bP:=iZ aH.o ((ai.o.any (D:=(·=wr))).trans af) fun U L f=>Zm
    have aO:=HM.o.ext Ci.stays u;obtain⟨kz,-,-,k2,-⟩:=(S.o.ext u).ca;have g1:=(S.o.ext u).frozen 1;obtain⟨-,r0,r1,r2,r3,r4,r5,-⟩:=aQ.ca;have⟨aD,dL,dD,bg,eU⟩:=mr u bX bP aO aQ;have bA:Zz (wr.heap.size<e):=Zy Zm;have aU:=aO.own;rw[bf.o]at aU;have dF:=Zy aU;have H:=S.o.ext u;obtain⟨kz,-,k1,-⟩:=H.ca;have ae:=Zy fun a c=>HM.o.own.lt a c;clear aO bX bP u aQ y af aU eG eH eO eP eQ k2 l5 f5 lz g1 H;have dX:d+1<=4294967296:=Zm
    have dU:w.heap.size+2<=(e.alloc (.cells #[.int .i64 b.of.of.keeper,.string b.of.of.name,.int .i64 b.of.at_,.int .i64 b.pc,.slice Q b.locals.length R,.slice Z b.stack.length y8] 68)).heap.size:=by have:=bA.o;have:=A.o.lt;simp;omega
    go_wp2_with (at_builtin;refine jo CX rfl _ _ rfl (w+2) (.slice n d o) d bD.flatten rfl (iZ (D:=fun _=>False) dF.o ((Kp.refl _ e).alloc _) fun _ _ _ b=>b) e 1 [.int .i64 b.of.of.keeper,.string b.of.of.name,.int .i64 b.of.at_,.int .i64 b.pc,.slice Q b.locals.length R,.slice Z b.stack.length y8] rfl rfl (hH.ny _ _ rfl) Zt dX dU ?_);intro h B aB bG aN bO;have aM:=((Kp.refl _ e).alloc _:Ext e _).any.trans aN;have n1:¬(Value.slice n d o).ownBlock=some w.heap.size:=fun c=>Z0 (ae.o _ c)
    have H:=(S.o.ext aD.o).kp aM n1;obtain⟨bz,-,d1,-⟩:=H.ca;have f1:=H.frozen 1;have cO:=Zy H;have⟨aG,bn,dA⟩:=jy aM bG bO;have dO:Zz (e.heap.size<aB):=Zy (by have:=aN.size;simp at this;omega);clear H aM bG aN bO r0 r1 r2 r3 r4 r5 k1;go_upto_region 9 with(fail);obtain⟨i,hW⟩:=Ry (aB.setCell (w,1) (h,d+1,B));have W:Kp (·=w) aB i:=by rw[hW];exact(Kp.refl (·=w) aB).setCell (p:=⟨w,1,none⟩) (fun _=>rfl) _
    have bI:hV i w 39 #[.int .i64 s.status,(h,d+1,B),.slice a2 s.heap.length c2,.slice a3 s.outs.length c3,.int .i64 s.back.kind,.int .i64 s.back.n]:=by rw[hW];exact cO.o.jk 1 _
    rw[<-hW];have z1:=A.o.lt;have z2:=aa.o.lt;have z3:=ag.o.size;have z4:=aZ.o.size;have z5:=ai.o.size;have z6:=W.size;have z8:=dO.o;have z9:=bA.o;have zW:=bn.o.lt h rfl;have z7:(h<wr/\(Value.slice n d o).ownBlock=some h)\/e.heap.size<h:=by
     rcases dA.o with g|g
     . exact .inl ⟨(ae.o _ g).2,g⟩
     . right;omega
    have aW:∀(J:Nat->Prop),(∀a,J a->w.heap.size<a/\¬(Value.slice n d o).ownBlock=some a)->Same J e i:=fun J hJ a az fD f hc=>
     W.lW (aG.o.lW hc (hJ a f).2) (fun c=>Z0 ((hJ a f).1))
    have aR:∀a,(Value.slice (some ⟨h,0,none⟩) (d+1) B).ownBlock=some a->h=a:=fun a c=>by simpa [Value.ownBlock]using c
    have aV:∀{vv:Value} {xs:List Val} {T:List (List Value)} {lo:Nat},wr<lo->e.ownsRow lo 37 2 vv xs.length T.flatten->(∀aI∈T,aI.length=2)->jX mP wr I xs T->xs.length<=4294967296->SliceOf 2 mP i (fun a=>w.heap.size+2<=a/\a<i.heap.size/\(Value.slice (some ⟨h,0,none⟩) (d+1) B).ownBlock≠some a) vv xs:=fun{vv xs T lo} h1 h2 h3 h4 h5=>by
     refine(SliceOf.owned (I:=fun a=>lo<=a/\a<e.heap.size) h2 h3 Zn (h4.free fun _ _ _ _ _ _ g=>g) (fun a h1 h2=>⟨h1,h2⟩) h5).keep mP.stays (aW _ fun a f=>⟨Zm,fun c=>Z0 (ae.o _ c)⟩) fun a f=>⟨Zm,Zm,fun c=>?_⟩;have:=aR a c;omega
    have bQ:Ci i (fun a=>w.heap.size+2<=a/\a<i.heap.size/\(Value.slice (some ⟨h,0,none⟩) (d+1) B).ownBlock≠some a) b [.int .i64 b.of.of.keeper,.string b.of.of.name,.int .i64 b.of.at_,.int .i64 b.pc,.slice Q b.locals.length R,.slice Z b.stack.length y8]:=
     ⟨_,_,rfl,aV z2 dD.o dY dG.o dW,aV Zm dL.o ed dI.o eF⟩
    have bH:nU 68 6 Ci i (fun a=>w.heap.size+2<=a/\a<i.heap.size/\(Value.slice (some ⟨h,0,none⟩) (d+1) B).ownBlock≠some a) (w+2) (h,d+1,B) (bD++[[.int .i64 b.of.of.keeper,.string b.of.of.name,.int .i64 b.of.at_,.int .i64 b.pc,.slice Q b.locals.length R,.slice Z b.stack.length y8]]) (s.frames.take (d+1)):=by
     rw[<-Ej HX.o];refine⟨?_,fun aI hc=>(SF.1 hc).elim (bg.o.len aI) fun g=>by simp at g;rw[g];rfl,(bg.o.all.keep Ci.stays (aW _ fun a f=>⟨Zm,f.2.2⟩) fun a f=>⟨f.1,Zm,fun c=>?_⟩).snoc bQ⟩
     . have:=iZ bn.o W (fun U L _ c=>by cases L;omega);rw[Sl,bf.o,List.flatten_append];simpa using this
     . have:=aR a c;subst this;rcases z7 with g|g
       . exact f.2.2 g.2
       . omega
    have⟨cK,dm,df,dw⟩:=jV bH bI (((A.o.ext aD.o).kp aG.o fun c=>Z0 (ae.o _ c)).kp W Zm) ((((HE.o.trans aD.o).own aG.o fun a c=>Z0 (ae.o _ c))).own W fun a c=>Zm);clear bH bQ aV aR aW bI W hW z1 z2 z3 z4 z5 z6 z7 z8 z9 zW bz d1 f1 n1;go_wp2_with fail;exact⟨⟨d+1,_,_,Zm,by go_num,cK.o,df.o,dm.o,dw.o⟩,by simp[intOf];omega⟩
  . obtain rfl:d=s.frames.length:=Zm
    rw[RH]at F;obtain⟨n,o,rfl⟩:=jB F.own;have HM:=Zy F;obtain⟨bz,k0,k1,k2,k3,k4,k5,-⟩:=G.ca;have h:=G.frozen 2;have z1:=G.lt;have⟨HE,S,A⟩:=jy hE G q;clear F G q hE;go_wp2_with fail;refine(yA _ _ (HP.o.ext xh.stays HE.o) hh).mono ?_;rintro c P ⟨⟨v5,fC,z,rfl,aT,hO⟩,C⟩;obtain⟨Y,y5,rfl⟩:=jB hO.row.row;have ak:=S.o.ext C;obtain⟨cz,-,-,bB,aJ,-⟩:=ak.ca;have dP:=ak.frozen 2;have⟨aa,t,bu,bq⟩:=jV ak C aT hO;have bR:z.length=s.heap.length:=by rw[<-aT];simp
    have dE:=Zy bR;clear ak C aT hO bR k0 k1 k2 k3 k4 k5 h;obtain⟨fu,dZ,bT,bK⟩:=HO.o.cells One.int Zn;go_upto_region 11 with(fail);obtain⟨j,av⟩:=Ry (P.setCell (w,2) (.slice Y z.length y5));have V:Kp (·=w) P j:=by rw[av];exact(Kp.refl (·=w) P).setCell (p:=⟨w,2,none⟩) (fun _=>rfl) _
    have aP:hV j w 39 #[.int .i64 s.status,.slice n s.frames.length o,.slice Y z.length y5,.slice a3 s.outs.length c3,.int .i64 s.back.kind,.int .i64 s.back.n]:=by rw[av];exact aa.o.jk 2 _
    rw[<-av];have D:=(HE.o.trans t.o).own V fun a c=>Zm
    have bL:=bK.ext D;obtain⟨cz,-,-,-,aJ,-⟩:=aP.ca;have⟨di,ag,aF,dH⟩:=jV aP D V bT;clear av V aP D bB dP bT bK;go_wp2_with (at_builtin;refine jJ zO _ rfl _ _ rfl j _ 0 [] rfl (Rt _ _ _ _) _ _ _ _ rfl bL Zm (R5 _) ?_);intro v7 l h7 N;have E:Ext j l:=xS N;obtain⟨x7,y7,rfl⟩:=jB h7;have v:=di.o.ext E;have f3:=v.frozen 3;obtain⟨bz,-,-,-,eZ,-⟩:=v.ca;have⟨aC,aH,ah⟩:=jy v h7 E;clear h7 N E v bL cz aJ;go_upto_region 12 with(fail);obtain⟨m,ay⟩:=Ry (l.setCell (w,3) (.slice x7 s.outs.length y7));have O:Kp (·=w) l m:=by rw[ay];exact(Kp.refl (·=w) l).setCell (p:=⟨w,3,none⟩) (fun _=>rfl) _
    have x:hV m w 39 #[.int .i64 s.status,.slice n s.frames.length o,.slice Y z.length y5,.slice x7 s.outs.length y7,.int .i64 s.back.kind,.int .i64 s.back.n]:=by rw[ay];exact aC.o.jk 3 _
    rw[<-ay];have z1:=t.o.size;have z2:=aF.o.size;have z3:=ah.o.size;have z4:=O.size;have z5:=A.o.lt;have aL:=(aF.o.trans ah.o.any).trans O;have q:=(A.o.ext t.o).kp aL Zm;obtain⟨-,c0,eY,bB,aJ,fe,fo,-⟩:=x.ca;obtain⟨bz,d0,d1,d2,d3,d4,d5,-⟩:=q.ca;have p:=q.frozen;have f0:=p 0;have f1:=p 1;have f2:=p 2;have f3:=p 3;have f4:=p 4;have f5:=p 5;have aY:=Zy x;have cZ:=Zy q;have⟨dC,dB⟩:=je O aL;clear ay O x q p z1 z2 z3 z4 z5 aL;go_wp2_with fail;obtain⟨e,y⟩:=Ry ((((((m.setCell ⟨w+1,0,none⟩ (.int .i64 s.status)).setCell ⟨w+1,1,none⟩ (.slice n s.frames.length o)).setCell ⟨w+1,2,none⟩ (.slice Y z.length y5)).setCell ⟨w+1,3,none⟩ (.slice x7 s.outs.length y7)).setCell ⟨w+1,4,none⟩ (.int .i64 s.back.kind)).setCell ⟨w+1,5,none⟩ (.int .i64 s.back.n));have bF:Kp (·=w+1) m e:=by rw[y];exact Kp.oL (D:=(·=w+1)) rfl _ _ _ _ _ _
    have dQ:hV e (w+1) 39 #[.int .i64 s.status,.slice n s.frames.length o,.slice Y z.length y5,.slice x7 s.outs.length y7,.int .i64 s.back.kind,.int .i64 s.back.n]:=by rw[y];exact cZ.o.oL _ _ _ _ _ _
    rw[<-y];have z1:=t.o.size;have z2:=aF.o.size;have z5:=A.o.lt;have aj:=(dB.o.weak (D':=fun a=>a=w.heap.size\/a=w.heap.size+1) fun _ _=>.inl).trans (bF.weak fun _ _=>.inr);have dS:=(dC.o.weak (D':=fun a=>a=w.heap.size\/a=w.heap.size+1) fun _ _=>.inl).trans (bF.weak fun _ _=>.inr);have fE:=aj.size;have u:=(HE.o.trans t.o).own aj fun a c=>Zm
    have eB:=bq.o.kp aj fun a f c=>Z0 ((bq.o.dom a f).1)
    have eD:∀az∈z,az.o.fields.length<=4294967296:=fun az ho=>by
     have hm:az.o∈s.heap:=by rw[<-bu.o];exact Sd ho
     obtain⟨fB,hj⟩:=List.mem_iff_getElem?.1 hm;obtain⟨a,eT,cs,-,-,⟨vf,-,hf⟩,-,-⟩:=HP.o.get (k:=3) hj;obtain⟨_,_,-,-,g⟩:=hf.form;exact g
    refine DV (jw lG rfl (w+1) rfl [.int .i64 s.status,.slice n s.frames.length o,.slice Y z.length y5,.slice x7 s.outs.length y7,.int .i64 s.back.kind,.int .i64 s.back.n] (hH.lV dQ) rfl) rfl ?_;refine⟨⟨_,rfl,_,_,_,rfl,?_,?_,?_⟩,u⟩
    . exact(HM.o.keep (J:=fun a=>w.heap.size<=a) Ci.stays ((t.o.any).trans aj) (fun U L c=>Z0 ((HM.o.own.lt U L).1)) (fun a f c=>Zm) fun a f=>Zm).slice Zn (fun a f _=>Zm) dV
    . rw[<-bu.o];exact eB.slice (fun a g _=>Zm) (by rw[dE.o];omega) eD
    . exact SliceOf.owned (iZ aH.o dS fun U L f=>Zm) dZ Zn (dH.o.free fun _ _ _ _ _ _ g=>g) (fun a h1 _=>Zm) eu
end Go.Proofs.YtlhlnddgfcmfkaaGreat
