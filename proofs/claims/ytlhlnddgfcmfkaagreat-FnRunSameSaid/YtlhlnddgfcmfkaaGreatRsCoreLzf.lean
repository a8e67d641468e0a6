/- Walks. -/
import Derived.Test.YtlhlnddgfcmfkaaGreatRsCoreH
import Derived.Test.YtlhlnddgfcmfkaaGreatRsCoreLze
set_option maxRecDepth 100000
set_option maxHeartbeats 4000000
set_option linter.all false
namespace Go.Proofs.YtlhlnddgfcmfkaaGreat
open Go Go.RowKit Tryz M
theorem CO.inside{w:World}{I:Nat->Prop}{x:RW}{cs:List Value}(a:CO w I x cs):CO w (fun b=>I b/\b<w) x cs:=by
 obtain⟨j,i,k,c,d,e,f,g,h⟩:=a;exact⟨j,i,k,c,d,e.inside (fun _ _ _ _ a=>jc.inside a) Zn,f.inside (fun _ _ _ _ a=>a) Zn,g.inside (fun _ _ _ _ a=>a) Zn,h.zY⟩
theorem Nz(w:World){I:Nat->Prop}(hI:∀b,I b->b<w.heap.size)(x:RW){cs:List Value}(c:rY w I x cs)(S:J3 x):Calls prog 7 #[.agg cs.toArray] w fun d w'=>(∃H aa,d=.returned (.agg aa.toArray)/\H.p=x.p/\H.s=M.step x.p true x.s/\J3 H/\rY w' (fun b=>I b\/w.heap.size<=b) H aa)/\Ext w w':=by
 have h':=c;obtain⟨vp,ve,vq,cv,rfl,m,l,n,o⟩:=c;obtain⟨f1,d1,f2,d2,f3,d3,rfl,-⟩:=o.form;obtain⟨V,Y,rfl,-,aT⟩:=m.form;obtain⟨W,Z,rfl,-,aS⟩:=l.form;obtain⟨X,c3,rfl,-,aU⟩:=n.form;obtain⟨g,h⟩:=Ry ((w.alloc (.cells #[.slice V x.p.length Y,.slice W x.b.jR.length Z,.slice X x.b.jH.length c3,x.s.status,.slice f1 x.s.frames.length d1,.slice f2 x.s.heap.length d2,.slice f3 x.s.outs.length d3,x.s.back.kind,x.s.back.n] 41)).alloc (.cells #[(),(),(),.int .i64 0,(),(),(),.int .i64 0,.int .i64 0] 41));have z:Ext w g:=by rw[h];exact kx
 have O:hV g w 41 #[.slice V x.p.length Y,.slice W x.b.jR.length Z,.slice X x.b.jH.length c3,x.s.status,.slice f1 x.s.frames.length d1,.slice f2 x.s.heap.length d2,.slice f3 x.s.outs.length d3,x.s.back.kind,x.s.back.n]:=by rw[h];exact(hV.new _ _ _).ext kx
 have f:hV g (w+1) 41 #[(),(),(),.int .i64 0,(),(),(),.int .i64 0,.int .i64 0]:=by rw[h];exact hV.newAt _ _ Zl
 have aB:g.heap.size=w+2:=by rw[h];simp
 obtain⟨-,e0,e1,e2,e3,e4,e5,e6,e7,e8,-⟩:=O.ca;have P:=rY.stays _ _ _ _ _ _ (Ext.same z) (fun _ c=>c) h';have au:=Qp g I (fun b e=>Nv (hI b e) z.size) x P S;have⟨aI,aL,aG,aC,aD,r,H0,L,j⟩:=vL au h z O f aB P hI S;clear h z O f aB P au m l n o h' hI S;go_enter func7,ntmps7;go_upto_region 1 with(fail);rw[<-aL.o];go_wp2_with fail;refine aI.mono ?_;rintro d w1 ⟨rfl,k⟩;have ag:=rY.stays _ _ _ _ _ _ (Ext.same k) (fun _ c=>c) H0;have⟨aM,i⟩:=je (NR w1 I (fun b e=>Z5 (L.o b e) k.size r.o) x ag (Im.1 j.o.vm).2.1) k;obtain⟨-,s0,s1,s2,s3,s4,s5,s6,s7,s8,-⟩:=(aC.ext k).ca;clear e0 e1 e2 e3 e4 e5 e6 e7 e8 k ag;go_wp2_with fail;refine aM.mono ?_;rintro d w2 ⟨⟨K,aN,rfl,hB,ai,av⟩,af⟩;have aK:=Zy (JA w2 (fun b=>(I b\/(w1.heap.size<=b/\b≠K))/\b<w2.heap.size) K x aN (fun b e=>⟨e.2,fun d=>by
  rcases e.1 with c|c
  . have:=L.o b c;have:=i.size;have:=r.o;omega
  . exact c.2 d⟩) ai av.inside j)
 have⟨U,q⟩:=je hB af;clear hB af ai av s0 s1 s2 s3 s4 s5 s6 s7 s8;go_wp2_with fail;refine aK.mono ?_;rintro d w3 ⟨rfl,⟨a,aO,az,aA,ay,aj,ax⟩,ah⟩;have⟨aJ,N,HY⟩:=jy (Ls w3 K a aO aj ax) ah (RJ az (RJ aA ay));clear az aA ay aj ax ah;go_wp2_with fail;refine aJ.mono ?_;rintro d T ⟨⟨aR,rfl,h7⟩,Q⟩;have ae:=h7;obtain⟨vp,ve,vq,cv,rfl,m,l,n,o⟩:=h7;obtain⟨u,E,v,F,y,G,rfl,-⟩:=o.form;obtain⟨s,B,rfl,-,-⟩:=m.form;obtain⟨f,C,rfl,-,-⟩:=l.form;obtain⟨t,D,rfl,-,-⟩:=n.form;have z0:=r.o;have z1:=i.size;have z2:=q.size;have z3:=N.size;have z4:=U.o;have A:=((((aD.ext i).ext q).kp N Zm).ext Q);obtain⟨q0,q1,q2,q3,q4,q5,q6,q7,q8,-⟩:=A.fz;obtain⟨fz,m0,m1,m2,m3,m4,m5,m6,m7,m8,-⟩:=A.ca;have⟨aF,aH⟩:=je A Q;have H7:=Zy ae;clear A Q ae m l n o z0 z1 z2 z3 z4;go_wp2_with fail;obtain⟨p,R⟩:=Ry (((((((((T.setCell ⟨w+1,0,none⟩ (.slice s a.p.length B)).setCell ⟨w+1,1,none⟩ (.slice f a.b.jR.length C)).setCell ⟨w+1,2,none⟩ (.slice t a.b.jH.length D)).setCell ⟨w+1,3,none⟩ a.s.status).setCell ⟨w+1,4,none⟩ (.slice u a.s.frames.length E)).setCell ⟨w+1,5,none⟩ (.slice v a.s.heap.length F)).setCell ⟨w+1,6,none⟩ (.slice y a.s.outs.length G)).setCell ⟨w+1,7,none⟩ a.s.back.kind).setCell ⟨w+1,8,none⟩ a.s.back.n);have ak:Kp (·=w+1) T p:=by rw[R];exact((((((((((Kp.refl (·=w+1) T).setCell (p:=⟨w+1,0,none⟩) (fun _=>rfl) _).setCell (p:=⟨w+1,1,none⟩) (fun _=>rfl) _).setCell (p:=⟨w+1,2,none⟩) (fun _=>rfl) _).setCell (p:=⟨w+1,3,none⟩) (fun _=>rfl) _).setCell (p:=⟨w+1,4,none⟩) (fun _=>rfl) _).setCell (p:=⟨w+1,5,none⟩) (fun _=>rfl) _).setCell (p:=⟨w+1,6,none⟩) (fun _=>rfl) _).setCell (p:=⟨w+1,7,none⟩) (fun _=>rfl) _).setCell (p:=⟨w+1,8,none⟩) (fun _=>rfl) _)
 have aQ:hV p (w+1) 41 #[.slice s a.p.length B,.slice f a.b.jR.length C,.slice t a.b.jH.length D,a.s.status,.slice u a.s.frames.length E,.slice v a.s.heap.length F,.slice y a.s.outs.length G,a.s.back.kind,a.s.back.n]:=by rw[R];have c:=(((((((((aF.jk 0 (.slice s a.p.length B)).jk 1 (.slice f a.b.jR.length C)).jk 2 (.slice t a.b.jH.length D)).jk 3 a.s.status).jk 4 (.slice u a.s.frames.length E)).jk 5 (.slice v a.s.heap.length F)).jk 6 (.slice y a.s.outs.length G)).jk 7 a.s.back.kind).jk 8 a.s.back.n);simpa using c
 rw[<-R];have z0:=r.o;have z1:=i.size;have z2:=q.size;have z4:=U.o;have aP:Ext w p:=(((((aG.trans i).trans q).own N fun b d=>Zm).trans aH.o).own ak fun b d=>Zm);refine DV (jw Cs rfl (w+1) rfl [.slice s a.p.length B,.slice f a.b.jR.length C,.slice t a.b.jH.length D,a.s.status,.slice u a.s.frames.length E,.slice v a.s.heap.length F,.slice y a.s.outs.length G,a.s.back.kind,a.s.back.n] (hH.lV aQ) rfl) rfl ?_;obtain⟨J,y2,y3⟩:=HY.o;refine⟨⟨a,_,rfl,J,y2,⟨by rw[J];exact j.ku,by rw[J,y2];exact vT.2 (Fs j.ku (vT.1 j.vm) true),by rw[J];exact y3⟩,rY.stays _ _ _ _ _ _ (Kp.same ak fun b e d=>?_) (fun b e=>?_) H7⟩,aP⟩
 . subst d;rcases e with⟨c|⟨c,-⟩,-⟩|c
   . have:=L.o _ c;omega
   . omega
   . omega
 . rcases e with⟨c|⟨c,-⟩,-⟩|c
   . exact .inl c
   . right;omega
   . right;omega
theorem OT(w:World)(I:Nat->Prop)(hI:∀b,I b->b<w.heap.size){v:Value}(p:hZ)(hp:SliceOf 2 jc w I v p)(n m:ByteArray)(args:List Int)(va:Option Addr)(ac:Nat)(bI:SliceOf 1 oQ w I (.slice va args.length ac) args):Calls prog 5 #[.agg #[v],n,m,.slice va args.length ac] w fun d w'=>(∃ax cs,d=.returned (.agg cs.toArray)/\rY w' (fun b=>I b\/w.heap.size<=b) ax cs/\(ax.s.status=0\/(ax.p=p/\J3 ax)))/\Ext w w':=by
 obtain⟨bn,bq,rfl,-,dH⟩:=hp.form;obtain⟨o,O⟩:=Ry ((w.alloc (.cells #[.slice bn p.length bq] 25)).alloc (.cells #[(),(),(),.int .i64 0,(),(),(),.int .i64 0,.int .i64 0] 41));have X:Ext w o:=by rw[O];exact kx
 have r:hV o w 25 #[.slice bn p.length bq]:=by rw[O];exact(hV.new _ _ _).ext kx
 have F:hV o (w+1) 41 #[(),(),(),.int .i64 0,(),(),(),.int .i64 0,.int .i64 0]:=by rw[O];exact hV.newAt _ _ Zl
 have bT:o.heap.size=w+2:=by rw[O];simp
 obtain⟨-,e0,-⟩:=r.ca;have bD:=fun b e=>Nv (hI b e) X.size;have bg:=Zy (Qw o I p (hp.ext jc.stays X) bD true 0 n m args va ac (bI.ext oQ.stays X));have aV:Zz (qD p true 0 n m args=EK\/(kU p=true/\zI p (qD p true 0 n m args))):=Zy (by
  rcases Il (p:=p) (k:=0) (n:=n) (m:=m) (args:=args)with c|⟨c,h2⟩
  . exact .inl (c true)
  . exact .inr ⟨c,(h2 true).2⟩)
 obtain⟨a,hs⟩:∃a,qD p true 0 n m args=a:=⟨_,rfl⟩;rw[hs]at bg aV;clear hs;have⟨df,bW,aR,aS,aA,HI,HP⟩:=qh O X r F bT hI hp;clear O X r F bT bD hp bI hI;go_enter func5,ntmps5;go_upto_region 1 with(fail);rw[<-df.o];go_wp2_with fail;refine bg.mono ?_;rintro d P ⟨⟨cv,rfl,hv⟩,aj⟩;obtain⟨x,s,y,t,z,u,rfl,-⟩:=hv.form;obtain⟨q,bS,ak,k⟩:=nu P #[.int .i64 a.status,.slice x a.frames.length s,.slice y a.heap.length t,.slice z a.outs.length u,.int .i64 a.back.kind,.int .i64 a.back.n] 39;obtain⟨-,k0,k1,k2,k3,k4,k5,-⟩:=k.ca;have cB:=Zy (jQ.stays _ _ _ _ _ _ (Ext.same ak) (fun _ c=>c) hv.zY);have W:Zz (o.heap.size<=P/\(P:Nat)<q):=Zy ⟨aj.size,k.lt⟩;have⟨af,D,aT,dh⟩:=jV (aj.trans ak) (bW.trans (aj.trans ak)) k bS;clear hv bS k aj ak;go_upto_region 2 with(fail);rw[<-dh.o];by_cases N:a.status=0
 . have dz:=Tp.2 N;have h:=aS.ext af;obtain⟨q0,q1,q2,q3,q4,q5,q6,q7,q8,-⟩:=h.fz;obtain⟨fz,m0,m1,m2,m3,m4,m5,m6,m7,m8,-⟩:=h.ca;have ay:=Zy h;clear h N;go_wp2_with fail;obtain⟨j,H⟩:=Ry (((((((((q.setCell ⟨w+1,0,none⟩ ()).setCell ⟨w+1,1,none⟩ ()).setCell ⟨w+1,2,none⟩ ()).setCell ⟨w+1,3,none⟩ (.int .i64 0)).setCell ⟨w+1,4,none⟩ ()).setCell ⟨w+1,5,none⟩ ()).setCell ⟨w+1,6,none⟩ ()).setCell ⟨w+1,7,none⟩ (.int .i64 0)).setCell ⟨w+1,8,none⟩ (.int .i64 0));have G:Kp (·=w+1) q j:=by rw[H];exact((((((((((Kp.refl (·=w+1) q).setCell (p:=⟨w+1,0,none⟩) (fun _=>rfl) _).setCell (p:=⟨w+1,1,none⟩) (fun _=>rfl) _).setCell (p:=⟨w+1,2,none⟩) (fun _=>rfl) _).setCell (p:=⟨w+1,3,none⟩) (fun _=>rfl) _).setCell (p:=⟨w+1,4,none⟩) (fun _=>rfl) _).setCell (p:=⟨w+1,5,none⟩) (fun _=>rfl) _).setCell (p:=⟨w+1,6,none⟩) (fun _=>rfl) _).setCell (p:=⟨w+1,7,none⟩) (fun _=>rfl) _).setCell (p:=⟨w+1,8,none⟩) (fun _=>rfl) _)
   have aH:hV j (w+1) 41 #[(),(),(),.int .i64 0,(),(),(),.int .i64 0,.int .i64 0]:=by rw[H];have c:=(((((((((ay.jk 0 ()).jk 1 ()).jk 2 ()).jk 3 (.int .i64 0)).jk 4 ()).jk 5 ()).jk 6 ()).jk 7 (.int .i64 0)).jk 8 (.int .i64 0));simpa using c
   rw[<-H];have aC:Ext w j:=D.own G fun b d=>Zm
   refine DV (jw Cs rfl (w+1) rfl [(),(),(),.int .i64 0,(),(),(),.int .i64 0,.int .i64 0] (hH.lV aH) rfl) rfl ?_;exact⟨⟨⟨[],⟨[],[]⟩,EK⟩,_,rfl,⟨_,_,_,_,rfl,SliceOf.nil _ _ _ _,SliceOf.nil _ _ _ _,SliceOf.nil _ _ _ _,vC⟩,.inl rfl⟩,aC⟩
 . have dz:((a.status:Int)==0)=false:=by simpa using N
   have hR:kU p=true/\zI p a:=by
    rcases aV.o with c|c
    . exact absurd (by rw[c];rfl) N
    . exact c
   have⟨T,dD⟩:=je hR N;obtain⟨-,u0,-⟩:=(aR.ext af).ca;have bX:=Zy (vR q I _ p (HP.ext jc.stays D) fun b e=>Nv (HI b e) D.size);clear hR N e0;go_wp2_with fail;refine bX.mono ?_;rintro d w4 ⟨bu,dn⟩;rcases dn with⟨e,-⟩|⟨-,B,rfl,hL,hO⟩
   . rw[T.o.1]at e;cases e
   have S:Zz (q<=B.O/\B.O<B.A/\B.A<B.D/\B.D<B.L):=Zy ⟨hO,hL.ord⟩;have⟨bY,ag⟩:=je (Ae w4 B p hL) bu;clear bu hL hO u0;go_wp2_with fail;refine bY.mono ?_;rintro d J ⟨l,rfl,bQ,bP,rfl,bz,aD⟩;obtain⟨g,av⟩:∃g:Rs,g=⟨J,(),(),⟨[],[]⟩⟩:=⟨_,rfl⟩;have V:Zz (g.w=J):=Zy (by rw[av]);have bE:kT g.w l g.ve g.vp g.b:=by rw[av];exact aD
   have bF:kK l g J:=by rw[av];exact aD.begin
   have Y:=ag.trans bz;obtain⟨-,t0,t1,t2,-⟩:=(aT.ext Y).ca;have⟨K,aX,Q,aW,az⟩:=mr bE bF Y bQ bP;have aY:Zz (∀aB,kK l g aB->Same (· <l.l.O) J aB):=Zy fun aB c=>by have:=c.same K;rwa[V.o]at this
   have⟨aZ,aU⟩:=je (jQ.stays _ _ _ _ _ _ (Ext.same Y) (fun _ c=>c) cB) (aT.ext Y);clear bQ bP bz aD av bE bF Y k0 k1 k2 k3 k4 k5;have hh:(0<a.heap.length)=(0<a.heap.length):=rfl;by_cases A:0<a.heap.length;focus
    have bN:=eq_true A
    have bO:(a.heap=[])=False:=Tq fun d=>by rw[d]at A;simp at A
    clear A
    go_wp2_with fail
    refine(q9 l g J aX 0 n).mono ?_
    rintro d C ⟨rfl,bG⟩
    have U:=Zy bG
    clear bG
    go_upto_region 7 with(fail)
   rotate_left;focus
    have bO:a.heap=[]:=by cases c:a.heap with|nil=>rfl|cons _ _=>rw[c]at A;simp at A
    have bN:=Tq A
    clear A
    obtain⟨C,aM⟩:∃C,C=J:=⟨_,rfl⟩
    go_upto_region 7 with(fail)
    have U:Zz (kK l g C):=Zy (by rw[aM];exact aX)
    rw[<-aM]
    clear aM bN bO
   all_goals
    have aG:hV C P 39 #[.int .i64 a.status,.slice x a.frames.length s,.slice y a.heap.length t,.slice z a.outs.length u,.int .i64 a.back.kind,.int .i64 a.back.n]:=U.blk K (by rw[V.o];exact aU);obtain⟨-,k0,k1,k2,k3,k4,k5,-⟩:=aG.ca;have dC:=Zy aG;clear aG;by_cases ae:a.status=1;focus
     have dx:=Tp.2 ae
     have dw:=List.length_pos_iff.2 (T.2.goes.1 ae)
     obtain⟨fr,aI⟩:=get_some dw
     have dA:jQ J (fun b=>b<q.heap.size) a _:=jQ.stays _ _ _ _ _ _ (fun _ _ _ _ c=>c) (fun b e=>Z4 e.2 W.o) aZ.o
     have dB:jQ C (fun b=>b<q.heap.size) a _:=jQ.stays _ _ _ _ _ _ (fun b aO aP e hc=>aY.o _ U b aO aP (Z0 S.o) hc) (fun _ c=>c) dA
     obtain⟨vf,vh,vo,d,bM,-,-⟩:=dB
     cases d
     obtain⟨bf,dI,cf,ea,dm,⟨vl,vs,rfl,-,-⟩,-,au⟩:=bM.get aI
     have j0:=au 0 _ rfl
     have j1:=au 1 _ rfl
     have j2:=au 2 _ rfl
     simp only[Sj,Sb]at j0 j1 j2
     have jz:=iY j0
     rw[ea]at k1
     have bL:=(jA.1 (T.2.good.frames fr (R3 aI))).1
     have bU:=Zy (zb l g C U fr.of (by rw[aW.o];exact bL))
     clear ae aI bM au dm bL ea
     go_wp2_with fail
     refine bU.mono ?_
     rintro d f ⟨rfl,bH⟩
     have L:=Zy bH
     clear bH j0 j1 j2 jz
     go_upto_region 9 with(fail)
    rotate_left;focus
     have dx:((a.status:Int)==1)=false:=by simpa using ae
     clear ae
     obtain⟨f,aN⟩:∃f,f=C:=⟨_,rfl⟩
     go_upto_region 9 with(fail)
     have L:Zz (kK l g f):=Zy (by rw[aN];exact U)
     rw[<-aN]
     clear aN
   all_goals
    have aa:=L.1;rw[V.o]at aa;have bA:=(D.trans Q).own aa fun b d=>by
     have:=S.o;have:=az.o;have:=ag.size;have:=D.size;rcases K.o.Be d with d|d<;>omega
    obtain⟨vE,vP,i,aF⟩:=L.at_;have bZ:Zz (rC p i):=Zy (by have:=aF.ok;rwa[aW.o]at this);have bK:hV f P 39 #[.int .i64 a.status,.slice x a.frames.length s,.slice y a.heap.length t,.slice z a.outs.length u,.int .i64 a.back.kind,.int .i64 a.back.n]:=L.blk K (by rw[V.o];exact aU);obtain⟨dE,dF,dG,HT⟩:=kY f;have bJ:=(aR.ext (af.trans Q)).kp aa fun d=>by
     have:=S.o;have:=az.o;have:=ag.size;have:=D.size;have:=aA.o;have:=W.o;rcases K.o.Be d with d|d<;>omega
    have h:=(aS.ext (af.trans Q)).kp aa fun d=>by
     have:=S.o;have:=az.o;have:=ag.size;have:=D.size;have:=aA.o;have:=W.o;rcases K.o.Be d with d|d<;>omega
    have bR:jQ f (fun b=>o.heap.size<=b/\b<P.heap.size) a [.int .i64 a.status,.slice x a.frames.length s,.slice y a.heap.length t,.slice z a.outs.length u,.int .i64 a.back.kind,.int .i64 a.back.n]:=jQ.stays _ _ _ _ _ _ (fun b aO aP e hc=>aY.o _ L b aO aP (Z4 S.o W.o) hc) (fun _ c=>c) aZ.o;obtain⟨-,r0,-⟩:=hV.lL fun aQ=>bJ.ext (HT.jm aQ);obtain⟨-,i0,i1,i2,i3,i4,i5,-⟩:=hV.lL fun aQ=>bK.ext (HT.jm aQ);have⟨ai,ah,cu,ay,cK⟩:=mr HT bA aF h bR;clear HT aa bA aF bK bJ h bR k0 k1 k2 k3 k4 k5;refine kD ai 6 [([0,2,4],1),([],3)] [5] ?_ ?_
    . exact jf
    refine lS ?_;intro K2 Z;go_wp2_with fail;refine(EN I p (HP.ext jc.stays (ah.trans jf)) fun b e=>Nv (HI b e) (ah.trans ((Kp.refl _ f).drew:Ext f _)).size).mono ?_;rintro d wa ⟨⟨v1,rfl,aJ⟩,bB⟩;obtain⟨r,n1,rfl,-,-⟩:=aJ.form;have⟨E,cz⟩:=je (((Kp.refl _ f).drew:Ext f _).trans bB) aJ;clear bB aJ;go_wp2_with fail;refine kk ai Z E ?_;clear Z K2;refine lF rfl fun K2 Z=>?_;go_wp2_with fail;refine(Hw wa l vE vP i (cu.ext E)).mono ?_;rintro d wb ⟨⟨v2,v3,rfl,aK,aL⟩,bC⟩;obtain⟨F,n2,rfl,-,-⟩:=aK.form;obtain⟨k,n3,rfl,-,-⟩:=aL.form;have⟨R,cO,cZ⟩:=jy bC aK aL;clear bC aK aL;go_wp2_with fail;refine kk ai Z (E.trans R) ?_;clear Z K2;have h:=ay.ext (E.trans R);obtain⟨q0,q1,q2,q3,q4,q5,q6,q7,q8,-⟩:=h.fz;obtain⟨fz,m0,m1,m2,m3,m4,m5,m6,m7,m8,-⟩:=h.ca;have bV:=Zy h;clear h ai r0 i0 i1 i2 i3 i4 i5;refine sP [_] rfl fun di hK=>?_;(repeat (go_big_quiet_step (fail)));refine qn hK ?_;clear hK di;go_wp2_with fail;obtain⟨j,H⟩:=Ry (((((((((wb.setCell ⟨w+1,0,none⟩ (.slice r p.length n1)).setCell ⟨w+1,1,none⟩ (.slice F i.jR.length n2)).setCell ⟨w+1,2,none⟩ (.slice k i.jH.length n3)).setCell ⟨w+1,3,none⟩ (.int .i64 a.status)).setCell ⟨w+1,4,none⟩ (.slice x a.frames.length s)).setCell ⟨w+1,5,none⟩ (.slice y a.heap.length t)).setCell ⟨w+1,6,none⟩ (.slice z a.outs.length u)).setCell ⟨w+1,7,none⟩ (.int .i64 a.back.kind)).setCell ⟨w+1,8,none⟩ (.int .i64 a.back.n));have G:Kp (·=w+1) wb j:=by rw[H];exact((((((((((Kp.refl (·=w+1) wb).setCell (p:=⟨w+1,0,none⟩) (fun _=>rfl) _).setCell (p:=⟨w+1,1,none⟩) (fun _=>rfl) _).setCell (p:=⟨w+1,2,none⟩) (fun _=>rfl) _).setCell (p:=⟨w+1,3,none⟩) (fun _=>rfl) _).setCell (p:=⟨w+1,4,none⟩) (fun _=>rfl) _).setCell (p:=⟨w+1,5,none⟩) (fun _=>rfl) _).setCell (p:=⟨w+1,6,none⟩) (fun _=>rfl) _).setCell (p:=⟨w+1,7,none⟩) (fun _=>rfl) _).setCell (p:=⟨w+1,8,none⟩) (fun _=>rfl) _)
    have aH:hV j (w+1) 41 #[.slice r p.length n1,.slice F i.jR.length n2,.slice k i.jH.length n3,.int .i64 a.status,.slice x a.frames.length s,.slice y a.heap.length t,.slice z a.outs.length u,.int .i64 a.back.kind,.int .i64 a.back.n]:=by rw[H];have c:=(((((((((bV.jk 0 (.slice r p.length n1)).jk 1 (.slice F i.jR.length n2)).jk 2 (.slice k i.jH.length n3)).jk 3 (.int .i64 a.status)).jk 4 (.slice x a.frames.length s)).jk 5 (.slice y a.heap.length t)).jk 6 (.slice z a.outs.length u)).jk 7 (.int .i64 a.back.kind)).jk 8 (.int .i64 a.back.n));simpa using c
    rw[<-H];have aC:Ext w j:=((ah.trans E).trans R).own G fun b d=>Zm
    refine DV (jw Cs rfl (w+1) rfl [.slice r p.length n1,.slice F i.jR.length n2,.slice k i.jH.length n3,.int .i64 a.status,.slice x a.frames.length s,.slice y a.heap.length t,.slice z a.outs.length u,.int .i64 a.back.kind,.int .i64 a.back.n] (hH.lV aH) rfl) rfl ?_;have z0:=aA.o;have z2:=W.o;have z7:=ah.size;have za:=E.size;have z5:=Q.size;have zc:q.heap.size<=f:=RP Q.size (by have:=L.1.size;rwa[V.o]at this);refine⟨⟨⟨p,i,a⟩,_,rfl,⟨_,_,_,_,rfl,?_,?_,?_,?_⟩,.inr ⟨rfl,⟨T.1,vT.2 T.2,bZ⟩⟩⟩,aC⟩
    . refine cz.keep jc.stays (Kp.same (R.any.trans G) fun b e d=>?_) fun b e=>e.imp id fun c=>?_
      . rcases e with c|c
        . have:=HI.o b c;omega
        . have:f.heap.size<=b:=c;omega
      . have:f.heap.size<=b:=c;omega
    . exact cO.keep xg.stays (Kp.same G fun b e d=>by have:wa.heap.size<=b:=e;omega) fun b e=>.inr (by have:wa.heap.size<=b:=e;omega)
    . exact cZ.keep rX.stays (Kp.same G fun b e d=>by have:wa.heap.size<=b:=e;omega) fun b e=>.inr (by have:wa.heap.size<=b:=e;omega)
    . exact jQ.stays _ _ _ _ _ _ (Kp.same ((E.trans R).any.trans G) fun b e d=>Zm) (fun b e=>.inr Zm) cK.o
end Go.Proofs.YtlhlnddgfcmfkaaGreat
