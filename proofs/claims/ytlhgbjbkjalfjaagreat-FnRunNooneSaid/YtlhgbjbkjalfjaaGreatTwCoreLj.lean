/- Walks. -/
import Derived.Test.YtlhgbjbkjalfjaaGreatTwCoreLg
import Derived.Deep.CutBlock
import Derived.Test.YtlhgbjbkjalfjaaGreatTwCoreLh
set_option maxRecDepth 100000
set_option maxHeartbeats 4000000
set_option linter.all false
namespace Go.Proofs.YtlhgbjbkjalfjaaGreat
open Go Go.RowKit Tryz M
theorem J6(w:World)(I:Nat->Prop)(hI:∀c,I c->c<w.heap.size)(x:Class){cs:List Value}(j:jh w I x cs){v:Value}(words:List ByteArray)(i:SliceOf 1 kV w I v words)(m:Nat)(e:m<=1000000)(h:∀y∈words,y.size<=m)(b:0<words.length)(line:ByteArray)(n:Nat)(f:n<=1000)(g:rJ n x)(t:line.size<=4000000000):Calls prog 134 #[.agg cs.toArray,v,line] w fun s r=>Bj (n+1) (fun c=>I c\/w.heap.size<=c) r s/\Ext w r:=by
 obtain⟨l,k⟩:∃l,words[0]?=some l:=⟨words[0]'b,Ou b⟩;cases d:(l.toList==[102,105,101,108,100])
 . cases o:(l.toList==[109,101,116,104,111,100])
   . cases q:x.methods.length with
     |zero=>exact Fv w I hI x cs j v words i m e h b line n f g (fun p a=>by rw[k]at a;cases a;exact⟨d,o⟩) q
     |succ u=>exact Fu w I hI x cs j v words i m e h b line n f g (fun p a=>by rw[k]at a;cases a;exact⟨d,o⟩) t u q
   . exact CJ w I hI x cs j v words i m e h b line n f g (fun p a=>by rw[k]at a;cases a;exact⟨d,o⟩)
 . exact Et w I hI x cs j v words i m e h b line n f g (fun p a=>by rw[k]at a;cases a;exact d)
theorem qY:Elem 23 145 2:=kP (z:=.agg #[(),()]) (bytes:=48) underlying23 Zo rfl Zn Zn
theorem K9:Elem 143 150 2:=kP (z:=.agg #["",Tc]) (bytes:=24) underlying143 Zo rfl Zn Zn
theorem qN:yH 25 1:=⟨_,underlying25,by kernel_rfl⟩
structure SmallK(n:Nat)(k:mD):Prop where
 owns:k.owns.length<=n
 asks:k.asks.length<=n
 inner:∀c∈k.owns,rJ n c
structure tu(n:Nat)(p:iZ):Prop where
 len:p.length<=n
 inner:∀k∈p,SmallK n k
theorem SmallK.more{n:Nat}{k:mD}(a:SmallK n k):SmallK (n+1) k:=⟨Uw a.owns,Uw a.asks,fun b c=>(a.inner b c).more⟩
theorem tu.more{n:Nat}{p:iZ}(a:tu n p):tu (n+1) p:=⟨Uw a.len,fun c b=>(a.inner c b).more⟩
def Qf(x0:ByteArray)(q q':mD):Prop:=(q.owns≠[]->q'.owns≠[])/\((x0.toList==[99,108,97,115,115])=true->q'.owns≠[])
def Ku(line:ByteArray)(p p':iZ):Prop:=((line.toList==[107,101,101,112,101,114])=true->p'=p++[⟨[],[]⟩])/\
 ((line.toList==[107,101,101,112,101,114])=false->∀j q x0,p.length=j+1->p[j]?=some q->(M.words line)[0]?=some x0->p'.length=j+1/\∃q',p'[j]?=some q'/\Qf x0 q q')/\((line.toList==[107,101,101,112,101,114])=false->p≠[])
def Ho(p0:iZ)(line:ByteArray)(n:Nat)(J:Nat->Prop)(w':World)(e:Ending):Prop:=∃p v b,e=.returned (.tuple #[.agg #[v],.bool b])/\SliceOf 2 ja w' J v p/\tu n p/\(b=true->Ku line p0 p)
theorem AA{w wc:World}{I:Nat->Prop}{p0:iZ}{line:ByteArray}(hI:∀b,I b->b<w.heap.size){n:Nat}(p:iZ)(i:tu n p){v:Value}(g:Ext w wc)(j:SliceOf 2 ja wc (fun b=>I b\/w.heap.size+2<=b) v p)(b:Bool)(d:Value)(h:b=true->Ku line p0 p):Ho p0 line n (fun b=>I b\/w.heap.size<=b) (wc.setCell ⟨w+1,0,none⟩ d) (.returned (.tuple #[.agg #[v],.bool b]))/\Ext w (wc.setCell ⟨w+1,0,none⟩ d):=by
 have e:Kp (·=w+1) wc (wc.setCell ⟨w+1,0,none⟩ d):=nH;exact⟨⟨p,v,b,rfl,j.keep ja.stays (e.same fun b c f=>c.elim (fun a=>SX (hI b a)) (fun a=>Zm)) fun b c=>c.imp id (fun a=>Zm),i,h⟩,g.own e fun b f=>Zm⟩
theorem Eu(w:World)(I:Nat->Prop)(hI:∀a,I a->a<w.heap.size)(v:Value)(p:iZ)(y:SliceOf 2 ja w I v p)(line:ByteArray)(hl:line.size<=1000000)(n:Nat)(hn:n<=1000)(V:tu n p)(U:(line.toList==[107,101,101,112,101,114])=true):Calls prog 81 #[.agg #[v],line] w fun s Y=>Ho p line (n+1) (fun a=>I a\/w.heap.size<=a) Y s/\Ext w Y:=by
 obtain⟨g,h,rfl,aC,aD⟩:=y.form;obtain⟨f,e⟩:=SS ((w.alloc (.cells #[.slice g p.length h] 25)).alloc (.cells #[()] 25));have L:Ext w f:=by rw[e];exact kx
 have H:hZ f w.heap.size 25 #[.slice g p.length h]:=by rw[e];exact(hZ.new _ _ _).ext kx
 have J:hZ f (w.heap.size+1) 25 #[()]:=by rw[e];exact hZ.BF _ _ Zl
 have W:f.heap.size=w.heap.size+2:=by rw[e];simp
 have⟨av,ax,HP,D,o,aa,ae,aj⟩:=wL e W y hI V H J L;clear e W y hI V H J L;go_enter func81,ntmps81;go_upto_region 1 with(fail);rw[<-av.o];go_wp2_with fail;refine(A9 line _ Zm).mono ?_;rintro s d ⟨⟨vw,rfl,hv⟩,i⟩;have q:=aa.o.ext i;have⟨A,af,B⟩:=jB q (ae.o.ext i) (aj.o.trans i);have ay:Zz (w.heap.size+2<=d.heap.size):=Zy (by have:=i.size;have:=ax.o;omega);have au:=Zy (HP.o.ext ja.stays B.o);obtain⟨dz,r,-⟩:=q.ca;obtain⟨K,Q,R,S⟩:=SliceOf.cells One.keep Zn au.o;have⟨ag,ah,ak⟩:=jB Q R S;have aF:p.length<=4000:=by have:=o.o.len;omega
 have HJ:Zz ((∀a,I a->a≠w.heap.size)/\p.length+1<=4294967296):=Zy ⟨fun a c=>by have:=D.o a c;omega,by omega⟩;have HY:Zz (ja d I (⟨[],[]⟩:mD) [(),()]):=Zy ⟨_,_,rfl,SliceOf.nil _ _ _ _,SliceOf.nil _ _ _ _⟩;have F:Zz ((d.alloc (.cells #[] 145)).ownsRow d.heap.size 145 2 (.slice (some ⟨d.heap.size,0,none⟩) 0 0) 0 []):=Zy (kG d _ _ _ (T9 _) rfl);clear Q R S q i hv;go_upto_region 4 with(fail);go_cut [] (fun wx=>BU 2 ja d wx I w.heap.size 25 #[.slice g p.length h] 0 (p++[(⟨[],[]⟩:mD)]))
 case first=>
  have d1:=r;go_wp2_with (first
   |(refine jK qY _ rfl (.tmp 23) (.tmp 25) rfl d.heap.size (.slice (some ⟨d.heap.size,0,none⟩) 0 0) 0 [] rfl F.o g p.length h K.flatten rfl (ak.o.ext (jw _)) Zm Zl ?_;intro v9 j u P;rw[Tm,TW]at u;have O:=(jw _:Ext d _).own P (fun a c=>(F.o.lt a c).1);have E:=Zy u;have C:=Zy O;have z:Zz (Ext j (j.alloc (.cells #[(),()] 145))):=Zy (jw _);have ai:Zz (hH (j.alloc (.cells #[(),()] 145)) j.heap.size 0 [(),()]):=Zy (hH.nL _ _ rfl);clear u O P r d1)
   |(refine jo qY rfl (.tmp 26) (.tmp 28) rfl d.heap.size v9 p.length K.flatten rfl (jb (D:=fun _=>False) E.o z.o fun _ _ _ b=>b) j.heap.size 1 [(),()] rfl rfl ai.o Zt Zm (by have:=C.o.size;simp;omega) ?_;intro g7 c7 w7 aA az _;have N:=(C.o.trans z.o).own az (fun a c=>(E.o.lt a c).1);have x:=A.o.ext N;have aG:=x.c 0 (.slice g p.length h) rfl;have uf:=x.frozen 0;have uz:=x.lt))
  go_meet;exact oL ja.stays Zm aA ag.o ah.o HY.o rfl N HJ.o A.o 0
 obtain⟨v',k,c,t⟩:=hcut;obtain⟨G,X,rfl,-,-⟩:=k.form;obtain⟨l,T⟩:∃l,(p++[(⟨[],[]⟩:mD)]).length=l:=⟨_,rfl⟩;rw[T]at k c;clear T;have c:hZ wc w.heap.size 25 #[.slice G l X]:=c;have⟨m,Z⟩:=jf (af.o.kp t Zm) (fun a v0=>AA (p0:=p) (line:=line) D.o (n:=n+1) (p++[(⟨[],[]⟩:mD)]) ⟨by simpa using o.o.len,fun aB hk=>(TZ.1 hk).elim (fun b=>(o.o.inner aB b).more) (fun b=>by simp only[U7]at b;subst b;exact⟨by simp,by simp,by simp⟩)⟩ (B.o.own t (fun a s=>by omega)) (k.keep ja.stays (fun _ _ _ _ b=>b) (fun a c=>c.imp id (fun b=>by have:=ay.o;omega))) a v0 (fun _=>⟨fun _=>rfl,(fun b=>by rw[U]at b;cases b),(fun b=>by rw[U]at b;cases b)⟩));obtain⟨ez,e0,-⟩:=c.ca;clear k c t r dz;obtain⟨gz,g0,-⟩:=m.o.ca;have k0:=m.o.frozen 0;go_wp2_with fail;refine Cv (iY qN rfl (w.heap.size+1) rfl [.slice G l X] (hH.l7 (m.o.jy 0 _)) rfl) rfl ?_;exact Z.o _ _
theorem G8(w:World)(I:Nat->Prop)(hI:∀a,I a->a<w.heap.size)(v:Value)(p:iZ)(j:SliceOf 2 ja w I v p)(line:ByteArray)(hl:line.size<=1000000)(n:Nat)(W:n<=1000)(r:tu n p)(X:(line.toList==[107,101,101,112,101,114])=false)(h0:p.length=0):Calls prog 81 #[.agg #[v],line] w fun o t=>Ho p line (n+1) (fun a=>I a\/w.heap.size<=a) t o/\Ext w t:=by
 have T:((p.length:Int)==0)=true:=by simp[h0]
 clear h0;obtain⟨f,h,rfl,U,V⟩:=j.form;obtain⟨c,b⟩:=SS ((w.alloc (.cells #[.slice f p.length h] 25)).alloc (.cells #[()] 25));have q:Ext w c:=by rw[b];exact kx
 have l:hZ c w 25 #[.slice f p.length h]:=by rw[b];exact(hZ.new _ _ _).ext kx
 have m:hZ c (w+1) 25 #[()]:=by rw[b];exact hZ.BF _ _ Zl
 have s:c.heap.size=w+2:=by rw[b];simp
 have⟨F,G,C,B,E,x,y,A⟩:=wL b s j hI r l m q;clear b s j hI r l m q;go_enter func81,ntmps81;go_upto_region 1 with(fail);rw[<-F.o];go_wp2_with fail;refine(A9 line _ Zm).mono ?_;rintro o L ⟨⟨Z,rfl,J⟩,d⟩;have g:=x.ext d;have⟨N,z,k⟩:=jB g (y.ext d) (A.trans d);have O:Zz ((w:Nat)+2<=(L:Nat)):=Zy (SY d.size G.o);have D:=Zy (C.ext ja.stays k);obtain⟨Q,P,-⟩:=g.ca;have e:=z;have u:=Zy (fun a K=>AA (p0:=p) (line:=line) B (n:=n+1) p E.more k (D.keep ja.stays (fun _ _ _ _ i=>i) (fun a H=>.inl H)) a K);clear g d J;obtain⟨S,R,-⟩:=e.ca;have Y:=e.frozen 0;go_wp2_with fail;refine Cv (iY qN rfl (w+1) rfl [.slice f p.length h] (hH.l7 (e.jy 0 _)) rfl) rfl ?_;exact u _ _ (fun i=>by cases i)
theorem J7(w:World)(I:Nat->Prop)(hI:∀a,I a->a<w.heap.size)(v:Value)(p:iZ)(hp:SliceOf 2 ja w I v p)(line:ByteArray)(hl:line.size<=1000000)(n:Nat)(hn:n<=1000)(aT:tu n p)(hq:(line.toList==[107,101,101,112,101,114])=false)(j:Nat)(hj:p.length=j+1):Calls prog 81 #[.agg #[v],line] w fun k w'=>Ho p line (n+1) (fun a=>I a\/w.heap.size<=a) w' k/\Ext w w':=by
 have fC:((p.length:Int)==0)=false:=SF.2 Zm;obtain⟨e,bJ⟩:∃e,p[j]?=some e:=⟨p[j]'Zm,Ou Zm⟩;have fU:p.length<=4000:=SX aT.len
 have fO:j<=4000:=Zm
 have fV:((p.length:Nat):Int) - 1=(j:Int):=Zm
 have fZ:IntKind.i64.wrap (((p.length:Nat):Int) - 1)=(j:Int):=by rw[TK _ Zm];omega
 have fK:(0:Int)<=(j:Int):=Zm
 have fM:(j:Int)<p.length:=Zm
 have⟨aF,bQ,D⟩:=jB hj bJ (aT.inner e (RA bJ));clear hj bJ;obtain⟨bT,u,rfl,fE,fF⟩:=hp.form;obtain⟨w0,aD⟩:=SS ((w.alloc (.cells #[.slice bT p.length u] 25)).alloc (.cells #[()] 25));have bV:Ext w w0:=by rw[aD];exact kx
 have b2:hZ w0 w 25 #[.slice bT p.length u]:=by rw[aD];exact(hZ.new _ _ _).ext kx
 have b4:hZ w0 (w+1) 25 #[()]:=by rw[aD];exact hZ.BF _ _ Zl
 have dx:w0.heap.size=w+2:=by rw[aD];simp
 have⟨dX,bS,HP,HI,bn,dC,dE,dK⟩:=wL aD dx hp hI aT b2 b4 bV;clear aD dx hp hI aT b2 b4 bV;go_enter func81,ntmps81;go_upto_region 1 with(fail);rw[<-dX.o];go_wp2_with fail;refine(A9 line _ Zm).mono ?_;rintro k h ⟨⟨vw,rfl,hv⟩,aI⟩;have bC:=dC.ext aI;have⟨dD,dF,bO⟩:=jB bC (dE.ext aI) (dK.trans aI);have Y:Zz ((w:Nat)+2<=(h:Nat)):=Zy (SY aI.size bS.o);have bg:=Zy (HP.ext ja.stays bO);obtain⟨dz,d0,-⟩:=bC.ca;obtain⟨bq,oq,ks,rfl,-,eF,-,cu⟩:=bg.get bQ;obtain⟨vo,va,rfl,hO,E⟩:=eF;obtain⟨oa,oc,rfl,-,-⟩:=hO.form;obtain⟨aa,ac,rfl,-,-⟩:=E.form;obtain⟨s0,s1⟩:=cu.two;obtain⟨w2,aU⟩:=SS (h.alloc (.cells #[.slice oa e.owns.length oc,.slice aa e.asks.length ac] 145));have af:Ext h w2:=by rw[aU];exact Zx
 have b8:hZ w2 h 145 #[.slice oa e.owns.length oc,.slice aa e.asks.length ac]:=by rw[aU];exact hZ.new _ _ _
 have aQ:∀a,I a->(fun a=>(I a\/w.heap.size+2<=a)/\a≠h.heap.size) a:=fun a c=>⟨.inl c,SY (HI.o a c) Y.o⟩;obtain⟨l,eU,rfl,-,-⟩:=hv.form;obtain⟨x0,aV⟩:∃x0,(M.words line)[0]?=some x0:=by
  obtain⟨C,gu,k⟩:=M.Ab line;exact⟨C,by rw[k];rfl⟩
 have dZ:=Zy aV;obtain⟨bw,ow,rfl,gw⟩:=kV.at_ hv aV;simp only[U3]at gw;have aH:=af.je gw;have bA:Zz (SliceOf 1 kV w2 (fun a=>(I a\/w.heap.size+2<=a)/\a≠h.heap.size) (.slice (some ⟨bw,ow,none⟩) (M.words line).length eU) (M.words line)):=Zy (hv.keep kV.stays (Ext.same af) (fun a c=>⟨.inr (SX bS.o),Zm⟩));have⟨aN,aX⟩:=jf (hO.keep jh.stays (Ext.same af) aQ) (E.keep mQ.stays (Ext.same af) aQ);have dm:∀dA∈M.words line,dA.size<=line.size:=fun dA hu=>M.Ji hu;have dn:=(Tw.1 aV).1;have⟨bu,dY⟩:=jf dm dn;have cO:=bg.take (i:=j) (SX aF.o);have⟨dR,bz,aZ,bM,bN,bP⟩:=nE (cO.keep ja.stays (Ext.same af) aQ) (show(p.take j).length=j by have:=aF.o;rw[Tj];omega) b8 (dD.o.ext af) (dF.o.ext af) (bO.o.trans af);have Z:=Zy b8.lt;have bR:=Zy aU;obtain⟨ez,e0,e1,-⟩:=b8.ca;have wz:=jc aH;have fT:e.owns.length<=4000:=SX D.owns
 have fD:e.asks.length<=4000:=SX D.asks
 have F:Zz ((∀a,(fun a=>(I a\/w.heap.size+2<=a)/\a≠h.heap.size) a->a≠h.heap.size)):=Zy (fun a c=>c.2);clear bC aI hv aU af b8 aQ aV dm dn cu hO E cO gw;go_upto_region 10 with(fail);rw[<-bR.o];go_upto_block 0 with(fail);go_cut [9] (fun s9 wx=>(∃a,s9=.bool a)/\∃q' P R S G H J,ja wx (fun a=>(I a\/w.heap.size+2<=a)/\a≠h.heap.size) q' [.slice P R S,.slice G H J]/\SmallK (n+1) q'/\Qf x0 e q'/\hZ wx h 145 #[.slice P R S,.slice G H J]/\Kp (·=h) w2 wx)
 case first=>
  clear s0 s1 d0 dz;cases h1:(x0.toList==[97,115,107,115]);rotate_left
  . go_wp2_with fail;refine(G6 (M.words line) line.size Zm bA bu).mono ?_;rintro k W ⟨⟨V,k1,ok,rfl,-⟩,ai⟩;obtain⟨d,z⟩:=SS (W.alloc (.cells #[V,k1] 150));have ag:Ext W d:=by rw[z];exact Zx
    have b9:hZ d W 150 #[V,k1]:=by rw[z];exact hZ.new _ _ _
    have q:=ai.trans ag;have⟨bf,aY⟩:=jf (aN.ext jh.stays q) (aX.ext mQ.stays q);have X:=aZ.ext q;have⟨t,T⟩:=jf X q;obtain⟨eB,aK,ay,aJ⟩:=SliceOf.cells One.ask Zn aY;have⟨au,av,ax⟩:=jB aK ay aJ;have F:Zz ((∀a,(fun a=>(I a\/w.heap.size+2<=a)/\a≠h.heap.size) a->a≠h.heap.size)/\e.asks.length+1<=4294967296):=Zy ⟨F,Zm⟩;have HY:Zz (mQ d (fun a=>(I a\/w.heap.size+2<=a)/\a≠h.heap.size) (⟨V,k1⟩:M.Ask) [V,k1]):=Zy (rfl);have⟨bB,aG⟩:=jf (hH.l7 b9) z;obtain⟨pz,p0,-⟩:=X.ca;clear ai ag q z aK ay aJ b9 X e0 e1 ez aH wz;go_upto_region 18 with(fail);rw[<-aG.o];go_cut [9] (fun s9 wx=>(∃a,s9=.bool a)/\wx=d)
    case first=>
     by_cases bH:e.owns.length=0
     . have eG:((e.owns.length:Int)==0)=true:=by simp[bH]
       clear bH;cases ok
       . go_wp2;go_meet;exact⟨⟨_,rfl⟩,rfl⟩
       . go_wp2;go_meet;exact⟨⟨_,rfl⟩,rfl⟩
     . have eG:((e.owns.length:Int)==0)=false:=SF.2 Zm;clear bH;cases ok
       . go_wp2;go_meet;exact⟨⟨_,rfl⟩,rfl⟩
       . go_wp2;go_meet;exact⟨⟨_,rfl⟩,rfl⟩
    obtain⟨⟨gp,rfl⟩,ah⟩:=hcut;rw[ah];clear ah p0 pz;go_upto_region 19 with(fail);refine KV [83,84,85,86,87,88,89,90] 1 K9 Af t rfl bB ax Zm ?_;intro eT g9 c9 wr o A;have m:=t.ext o;obtain⟨zX,-,vX,-⟩:=m.ca;have fX:=m.frozen 1;have E:=oL (R:=mQ) mQ.stays Zm A au av HY rfl o F t 1;clear A m;go_wp2;go_meet;obtain⟨v',y,c,L⟩:=E;obtain⟨a6,m6,rfl,-,-⟩:=y.form;replace y:=y.keep (J:=(fun a=>(I a\/w.heap.size+2<=a)/\a≠h.heap.size)) mQ.stays (fun _ _ _ _ b=>b) (fun a c=>c.elim id (fun b=>⟨.inr (S9 T.size Z.o Y.o),SY T.o.size Z.o⟩));exact⟨⟨_,rfl⟩,⟨e.owns,(e.asks++[(⟨V,k1⟩:M.Ask)])⟩,_,_,_,_,_,_,⟨_,_,rfl,bf.keep jh.stays (L.same F.1) (fun _ b=>b),y⟩,⟨D.more.owns,by simpa using D.o.asks,D.o.more.inner⟩,⟨fun b=>b,fun b=>by rw[Uq]at b h1;rw[b]at h1;cases h1⟩,c,T.o.any.trans L⟩
  cases h2:(x0.toList==[99,108,97,115,115]);rotate_left
  . go_wp2_with fail;refine(Fq (M.words line) line.size bA bu).mono ?_;rintro k W ⟨⟨V,s1,ok,rfl,-,-⟩,ai⟩;obtain⟨d,z⟩:=SS (W.alloc (.cells #[V,s1,(),()] 47));have ag:Ext W d:=by rw[z];exact Zx
    have b9:hZ d W 47 #[V,s1,(),()]:=by rw[z];exact hZ.new _ _ _
    have q:=ai.trans ag;have⟨bf,aY⟩:=jf (aN.ext jh.stays q) (aX.ext mQ.stays q);have X:=aZ.ext q;have⟨t,T⟩:=jf X q;obtain⟨eB,aK,ay,aJ⟩:=SliceOf.cells One.cls Zn bf;have⟨au,av,ax⟩:=jB aK ay aJ;have F:Zz ((∀a,(fun a=>(I a\/w.heap.size+2<=a)/\a≠h.heap.size) a->a≠h.heap.size)/\e.owns.length+1<=4294967296):=Zy ⟨F,Zm⟩;have HY:Zz (jh d (fun a=>(I a\/w.heap.size+2<=a)/\a≠h.heap.size) (⟨V,s1,[],[]⟩:Class) [V,s1,(),()]):=Zy (⟨_,_,rfl,SliceOf.nil _ _ _ _,SliceOf.nil _ _ _ _⟩);have⟨bB,aG⟩:=jf (hH.l7 b9) z;clear ai ag q z aK ay aJ b9 X e0 e1 ez aH wz;go_upto_region 23 with(fail);rw[<-aG.o];refine KV [99,100,101,102,103,104,105,106] 0 uE uo t rfl bB ax Zm ?_;intro eT g9 c9 wr o A;have m:=t.ext o;obtain⟨zX,vX,-⟩:=m.ca;have fX:=m.frozen 0;have E:=oL (R:=jh) jh.stays Zm A au av HY rfl o F t 0;clear A m;go_wp2;go_meet;obtain⟨v',y,c,L⟩:=E;obtain⟨a6,m6,rfl,-,-⟩:=y.form;replace y:=y.keep (J:=(fun a=>(I a\/w.heap.size+2<=a)/\a≠h.heap.size)) jh.stays (fun _ _ _ _ b=>b) (fun a c=>c.elim id (fun b=>⟨.inr (S9 T.size Z.o Y.o),SY T.o.size Z.o⟩));exact⟨⟨_,rfl⟩,⟨(e.owns++[(⟨V,s1,[],[]⟩:Class)]),e.asks⟩,_,_,_,_,_,_,⟨_,_,rfl,y,aY.keep mQ.stays (L.same F.1) (fun _ b=>b)⟩,⟨by simpa using D.o.owns,D.o.more.asks,fun u hc=>(TZ.1 hc).elim (D.o.more.inner u) (fun b=>by simp only[U7]at b;subst b;exact⟨by simp,by simp,by simp⟩)⟩,⟨fun _=>by simp,fun _=>by simp⟩,c,T.any.trans L⟩
  by_cases bI:e.owns.length=0
  . have eO:((e.owns.length:Int)==0)=true:=by simp[bI]
    have ak:=bN;have aW:=Zy (fun a v0=>AA (p0:=p) (line:=line) HI (n:=n+1) p bn.more bP ((bg.ext ja.stays (by have:=bR.o;rw[this];exact jw _)).keep ja.stays (fun _ _ _ _ b=>b) (fun a c=>.inl c)) a v0);obtain⟨dz,d0,-⟩:=bM.ca;clear bI;obtain⟨gz,g0,-⟩:=ak.ca;have k0:=ak.frozen 0;go_wp2_with fail;refine Cv (iY qN rfl (w+1) rfl [.slice (some ⟨bq,oq,none⟩) p.length u] (hH.l7 (ak.jy 0 _)) rfl) rfl ?_;exact aW _ _ (fun b=>by cases b)
  . have eO:((e.owns.length:Int)==0)=false:=SF.2 Zm;obtain⟨i,hi⟩:∃i,e.owns.length=i+1:=⟨e.owns.length - 1,Zm⟩;obtain⟨aj,hx⟩:∃aj,e.owns[i]?=some aj:=⟨e.owns[i]'Zm,Ou Zm⟩;have fI:((e.owns.length:Nat):Int) - 1=(i:Int):=Zm
    have fJ:IntKind.i64.wrap (((e.owns.length:Nat):Int) - 1)=(i:Int):=by rw[TK _ Zm];omega
    have fG:(0:Int)<=(i:Int):=Zm
    have fH:(i:Int)<e.owns.length:=Zm
    obtain⟨bx,ox,cs,rfl,-,bF,-,cz⟩:=aN.get hx;obtain⟨xa,xb,xc,xd,rfl⟩:=bF.form;obtain⟨t0,t1,t2,t3⟩:=cz.four;have⟨dJ,dV⟩:=jf bF (D.inner aj (RA hx));have dO:Zz (e.owns≠[]):=Zy (fun k=>by rw[k]at hi;simp at hi);have fP:=D.owns;clear bI hi hx bF cz;go_wp2_with fail;refine(J6 w2 (fun a=>(fun a=>(I a\/w.heap.size+2<=a)/\a≠h.heap.size) a/\a<w2.heap.size) (fun _ b=>b.2) aj (jh.inside dJ) (M.words line) (bA.inside (fun _ _ _ _ b=>b) Zm) line.size Zm bu dY line n hn dV Zm).mono ?_;rintro k W ⟨⟨C,fw,ok,rfl,hy,di⟩,ai⟩;obtain⟨ya,yb,yc,yd,rfl⟩:=hy.form;obtain⟨d,z⟩:=SS (W.alloc (.cells #[C.name,C.jl,.slice ya C.fields.length yb,.slice yc C.methods.length yd] 47));have ag:Ext W d:=by rw[z];exact Zx
    have bU:hZ d W 47 #[C.name,C.jl,.slice ya C.fields.length yb,.slice yc C.methods.length yd]:=by rw[z];exact hZ.new _ _ _
    have q:=ai.trans ag;have X:=aZ.ext q;have dw:=jh.stays _ _ _ _ _ _ (Ext.same ag) (fun a c=>c.elim (fun b=>b.1) (fun b=>⟨.inr (SY Z.o Y.o),SX Z.o⟩)) hy;have⟨ed,dS,dH,T,aG,dW⟩:=nE (jh.inside dw) (ja.inside ⟨_,_,rfl,aN.ext jh.stays q,aX.ext mQ.stays q⟩) X q z di;obtain⟨vz,v0,v1,-⟩:=X.ca;obtain⟨fo,eX,eY,eZ,fe,-⟩:=bU.ca;clear ai ag q bU X hy dw z e0 e1 ez aH wz t0 t1 t2 t3 di;go_upto_region 15 with(fail);rw[<-aG.o];go_wp2_with fail;refine(Mw d (fun a=>(fun a=>(I a\/w.heap.size+2<=a)/\a≠h.heap.size) a/\a<d.heap.size) (fun _ b=>b.2) e dS C ed dO Zm).mono ?_;rintro k w6 ⟨⟨gm,rfl,eH⟩,bG⟩;obtain⟨gH,gG,rfl,aS,bE⟩:=eH;obtain⟨l1,l2,rfl,-,-⟩:=aS.form;obtain⟨l3,l4,rfl,-,-⟩:=bE.form;obtain⟨ln,aC⟩:∃ln,(e.owns.dropLast++[C]).length=ln:=⟨_,rfl⟩;rw[aC]at aS;simp only[aC];have aO:=dH.ext bG;have dI:=Zy aO;obtain⟨uz,gy,gB,-⟩:=aO.ca;obtain⟨gD,gF,-⟩:=aO.fz;have⟨dQ,dB,dL⟩:=jB aS bE (T.trans bG);clear aO aS bE bG v0 v1 vz eX eY eZ fe fo aC;go_wp2;go_meet;have hP:Kp (·=h) w6 ((w6.setCell h (.slice l1 ln l2)).setCell (h,1) (.slice l3 e.asks.length l4)):=Kp.Em (D:=(·=h)) rfl _ _;have aR:∀a,(((fun a=>(I a\/w.heap.size+2<=a)/\a≠h.heap.size) a/\a<d.heap.size)\/d.heap.size<=a)->(fun a=>(I a\/w.heap.size+2<=a)/\a≠h.heap.size) a:=fun a c=>c.elim (fun b=>b.1) (fun b=>⟨.inr (S9 T.size Z.o Y.o),SY T.o.size Z.o⟩);have ay:∀u∈e.owns.dropLast++[C],rJ (n+1) u:=fun u hc=>(TZ.1 hc).elim (fun b=>D.more.inner u (List.dropLast_subset _ b)) (fun b=>by simp only[U7]at b;subst b;exact dW);exact⟨⟨_,rfl⟩,⟨e.owns.dropLast++[C],e.asks⟩,_,_,_,_,_,_,⟨_,_,rfl,dQ.keep jh.stays (hP.same fun a c=>(aR a c).2) aR,dB.keep mQ.stays (hP.same fun a c=>(aR a c).2) aR⟩,⟨by have:=D.owns;simp;omega,D.o.more.asks,ay⟩,⟨fun _=>by simp,fun b=>by rw[h2]at b;cases b⟩,hZ.Em dI.o _ _,dL.o.any.trans hP⟩
 obtain⟨⟨gq,rfl⟩,q',P,R,S,G,H,J,cZ,dh,cK,bX,aB⟩:=hcut;have dN:=Zy cK;obtain⟨d,rfl⟩:∃d,d=wc:=⟨_,rfl⟩;have bW:=dR.keep ja.stays (aB.same fun a c=>c.2) (J:=(fun a=>I a\/w.heap.size+2<=a)) (fun a c=>c.1);obtain⟨az,bY,bZ,cB⟩:=SliceOf.cells One.keep Zn bW;have bD:=bM.kp aB (SX Y.o);have⟨au,av,ax,t,dG,dM⟩:=nE bY bZ cB bD (bN.kp aB (SX Y.o)) (bP.o.own aB (fun a k=>SX Y.o));replace F:Zz ((∀a,(fun a=>I a\/w.heap.size+2<=a) a->a≠w.heap.size)/\(p.take j).length+1<=4294967296):=Zy ⟨fun a c=>c.elim (fun b=>SX (HI.o a b)) (fun b=>Zm),SX bz.o⟩;have HY:=Zy (ja.stays _ _ _ _ _ _ (fun _ _ _ _ b=>b) (fun a c=>c.1) cZ);have dU:=Zy dh;have ek:=Zy aB.size;obtain⟨fu,fA,fQ,HT⟩:=ll d;have r0:=fun bK=>(bD.ext (HT.jv bK)).c 0 (.slice (some ⟨bq,oq,none⟩) p.length u) rfl;obtain⟨-,y0,y1,-⟩:=hZ.lC fun bK=>(bX.ext (HT.jv bK));have r:=Zy HT;clear bW bY bZ cB bD cZ dh cK bX aB HT d0 dz e0 e1 ez aH wz s0 s1;go_upto_region 24 with(fail);go_cut [] (fun wx=>BU 2 ja d wx (fun a=>I a\/w.heap.size+2<=a) w 25 #[.slice (some ⟨bq,oq,none⟩) p.length u] 0 (p.take j++[q']))
 case first =>
  refine qp r 10 (.two [1,2,3,4,5,7] 0 8 (.two [] 6 8 (.one [] 8 (.one [] 9 (.fin []))) (.one [] 6 (.one [] 9 (.fin [])))) (.one [] 0 (.one [] 6 (.one [] 9 (.fin []))))) ?_ ?_
  . exact jg
  refine two [_,_,_,_,_,_] rfl rfl rfl fun eu L=>?_;(repeat (go_big_quiet_step (fail)));((refine F5 L (fun g f=>?_) fun g f=>?_)<;>clear L eu)
  . have aA:Ext d d.drew:=jg;generalize d.drew=wd at aA |-;go_wp2_with fail;obtain⟨l,N⟩:∃ww,ww=wd.alloc (.cells #[] 145):=⟨_,rfl⟩;have ae:Ext d l:=aA.trans (by rw[N];exact jw _);have Q:l.ownsRow d 145 2 (.slice (some ⟨wd,0,none⟩) 0 0) 0 []:=by rw[N];exact kG wd _ _ _ aA.size rfl
    have bL:Zz ((l:Nat)=wd+1):=Zy (by rw[N];simp);rw[<-N];clear N;refine kk r f ae ?_;clear f g;refine Fw rfl rfl (fun g f=>?_) fun g f=>?_
    . skip;refine jK qY _ rfl (.tmp 107) (.tmp 112) rfl d (.slice (some ⟨wd,0,none⟩) 0 0) 0 [] rfl Q (some ⟨bq,oq,none⟩) j u az.flatten rfl (ax.ext ae) Zm ae.size ?_;intro v9 B s eQ;rw[Tm,TW]at s;have K:=ae.own eQ (fun a c=>(Q.lt a c).1);change g _ _;refine kk r f K ?_;clear f g;refine jX rfl fun g f=>?_;go_wp2_with fail;obtain⟨wc,ah⟩:∃ww,ww=B.alloc (.cells #[.slice P R S,.slice G H J] 145):=⟨_,rfl⟩;have U:Ext d wc:=K.trans (by rw[ah];exact jw _);have eD:Ext B wc:=by rw[ah];exact jw _
      have x:hH wc B 0 [.slice P R S,.slice G H J]:=by rw[ah];exact hH.nL _ _ rfl
      have gI:Zz ((wc:Nat)=B+1):=Zy (by rw[ah];simp);rw[<-ah];clear ah;refine kk r f U ?_;clear f g;have s:=jb (D:=fun _=>False) s eD fun _ _ _ aj=>aj;refine jX rfl fun g f=>?_;refine jo qY rfl (.tmp 113) (.tmp 115) rfl d v9 j az.flatten rfl s B 1 [.slice P R S,.slice G H J] rfl rfl x Zt Zm U.size ?_;intro g9 c9 wf A aM _;have o:=U.own aM (fun a c=>(s.lt a c).1);change g _ _;refine kk r f o ?_;clear f g;refine kL ?_;have m:=t.ext o;obtain⟨zX,vX,-⟩:=m.ca;have fX:=m.frozen 0;have E:=oL (R:=ja) ja.stays Zm A au av HY rfl o F t 0;clear x Q s A r m;go_wp2;go_meet;exact E
    . skip;go_wp2_with fail;obtain⟨B,O⟩:∃ww,ww=l.alloc (.cells #[.slice P R S,.slice G H J] 145):=⟨_,rfl⟩;have K:Ext d B:=ae.trans (by rw[O];exact jw _);have aP:Ext l B:=by rw[O];exact jw _
      have x:hH B l 0 [.slice P R S,.slice G H J]:=by rw[O];exact hH.nL _ _ rfl
      have fq:Zz ((B:Nat)=l+1):=Zy (by rw[O];simp);rw[<-O];clear O;refine kk r f K ?_;clear f g;have Q:=jb (D:=fun _=>False) Q aP fun _ _ _ aj=>aj;refine jX rfl fun g f=>?_;refine jK qY _ rfl (.tmp 107) (.tmp 112) rfl d (.slice (some ⟨wd,0,none⟩) 0 0) 0 [] rfl Q (some ⟨bq,oq,none⟩) j u az.flatten rfl (ax.ext K) Zm K.size ?_;intro v9 wc s aL;rw[Tm,TW]at s;have U:=K.own aL (fun a c=>(Q.lt a c).1);have x:=x.kp aL (fun k=>by simp[Value.ownBlock]at k;have:=bL.o;omega);change g _ _;refine kk r f U ?_;clear f g;refine jX rfl fun g f=>?_;refine jo qY rfl (.tmp 113) (.tmp 115) rfl d v9 j az.flatten rfl s l 1 [.slice P R S,.slice G H J] rfl rfl x Zt Zm U.size ?_;intro g9 c9 wf A aM _;have o:=U.own aM (fun a c=>(s.lt a c).1);change g _ _;refine kk r f o ?_;clear f g;refine kL ?_;have m:=t.ext o;obtain⟨zX,vX,-⟩:=m.ca;have fX:=m.frozen 0;have E:=oL (R:=ja) ja.stays Zm A au av HY rfl o F t 0;clear x Q s A r m;go_wp2;go_meet;exact E
  . have aA:Ext d d.drew:=jg;generalize d.drew=wd at aA |-;go_wp2_with fail;obtain⟨l,N⟩:∃ww,ww=wd.alloc (.cells #[.slice P R S,.slice G H J] 145):=⟨_,rfl⟩;have ae:Ext d l:=aA.trans (by rw[N];exact jw _);have fB:Ext wd l:=by rw[N];exact jw _
    have x:hH l wd 0 [.slice P R S,.slice G H J]:=by rw[N];exact hH.nL _ _ rfl
    have bL:Zz ((l:Nat)=wd+1):=Zy (by rw[N];simp);rw[<-N];clear N;refine kk r f ae ?_;clear f g;refine jX rfl fun g f=>?_;go_wp2_with fail;obtain⟨B,O⟩:∃ww,ww=l.alloc (.cells #[] 145):=⟨_,rfl⟩;have aP:Ext l B:=by rw[O];exact jw _
    have K:=ae.trans aP;have Q:B.ownsRow d 145 2 (.slice (some ⟨l,0,none⟩) 0 0) 0 []:=by rw[O];exact kG l _ _ _ ae.size rfl
    have fq:Zz ((B:Nat)=l+1):=Zy (by rw[O];simp);rw[<-O];clear O;refine kk r f K ?_;clear f g;have x:=x.ext aP;refine jX rfl fun g f=>?_;refine jK qY _ rfl (.tmp 107) (.tmp 112) rfl d (.slice (some ⟨l,0,none⟩) 0 0) 0 [] rfl Q (some ⟨bq,oq,none⟩) j u az.flatten rfl (ax.ext K) Zm K.size ?_;intro v9 wc s aL;rw[Tm,TW]at s;have U:=K.own aL (fun a c=>(Q.lt a c).1);have x:=x.kp aL (fun k=>by simp[Value.ownBlock]at k;have:=bL.o;omega);change g _ _;refine kk r f U ?_;clear f g;refine jX rfl fun g f=>?_;refine jo qY rfl (.tmp 113) (.tmp 115) rfl d v9 j az.flatten rfl s wd 1 [.slice P R S,.slice G H J] rfl rfl x Zt Zm U.size ?_;intro g9 c9 wf A aM _;have o:=U.own aM (fun a c=>(s.lt a c).1);change g _ _;refine kk r f o ?_;clear f g;refine kL ?_;have m:=t.ext o;obtain⟨zX,vX,-⟩:=m.ca;have fX:=m.frozen 0;have E:=oL (R:=ja) ja.stays Zm A au av HY rfl o F t 0;clear x Q s A r m;go_wp2;go_meet;exact E
 obtain⟨v',y,c,L⟩:=hcut;obtain⟨a6,m6,rfl,-,-⟩:=y.form;obtain⟨ln,aC⟩:∃ln,(p.take j++[q']).length=ln:=⟨_,rfl⟩;rw[aC]at y c;clear aC;have c:hZ wc w 25 #[.slice a6 ln m6]:=c;have ak:=Zy (dG.kp L Zm);have df:tu (n+1) (p.take j++[q']):=⟨by have:=bz.o;have:=bn.len;have:=aF.o;simp;omega,fun eP hk=>(TZ.1 hk).elim (fun b=>(bn.o.inner eP (Uv b)).more) (fun b=>by simp only[U7]at b;subst b;exact dU)⟩;have dP:Zz ((line.toList==[107,101,101,112,101,114])=false->p≠[]):=Zy (fun _ k=>by have:=aF.o;rw[k]at this;cases this);have aW:=Zy (fun a v0=>AA (p0:=p) (line:=line) HI (n:=n+1) _ df (dM.own L (fun a k=>Zm)) (y.keep ja.stays (fun _ _ _ _ b=>b) (fun a c=>c.elim id (fun b=>.inr (S9 ek.o Z.o Y.o)))) a v0 (fun _=>⟨(fun b=>by rw[hq]at b;cases b),fun _ j2 q2 y0 e1 e2 e3=>by
  have:=aF.o;obtain rfl:j2=j:=Zm
  obtain rfl:q2=e:=by have:=bQ.o;rw[this]at e2;injection e2 with k;exact k.symm
  obtain rfl:y0=x0:=by have:=dZ.o;rw[this]at e3;injection e3 with k;exact k.symm
  have ht:=bz.o;exact⟨by simp[ht],q',by rw[TS Zm,ht,Wi];rfl,dN⟩,dP⟩))
 obtain⟨ez,e0,-⟩:=c.ca;clear y c L df r r0 y0 y1;obtain⟨gz,g0,-⟩:=ak.ca;have k0:=ak.frozen 0;go_wp2_with fail;refine Cv (iY qN rfl (w+1) rfl [.slice a6 ln m6] (hH.l7 (ak.jy 0 _)) rfl) rfl ?_;exact aW _ _
theorem F7{w:World}{I:Nat->Prop}(hI:∀a,I a->a<w.heap.size){v:Value}(p:iZ)(d:SliceOf 2 ja w I v p)(line:ByteArray)(hl:line.size<=1000000)(n:Nat)(c:n<=1000)(e:tu n p):Calls prog 81 #[.agg #[v],line] w fun h g=>Ho p line (n+1) (fun a=>I a\/w.heap.size<=a) g h/\Ext w g:=by
 cases b:(line.toList==[107,101,101,112,101,114])
 . cases f:p.length with
   |zero=>exact G8 w I hI v p d line hl n c e b f
   |succ i=>exact J7 w I hI v p d line hl n c e b i f
 . exact Eu w I hI v p d line hl n c e b
def KQ(v:Value):Bool:=match v with
 | .string s=>decide (s.size<=20)
 |_=>false
def Qn(v:Value):Bool:=match v with
 | .int .i64 n=>decide (-10000<=n)&&decide (n<=10000)
 |_=>false
theorem qP{w:World}{b k:Nat}{t:TypeId}{cs:Array Value}(f:hZ w b t cs)(g:k<cs.size)(e:cs.toList.all KQ=true):∃c:ByteArray,w.cell? (b,k)=some (.string c)/\c.size<=20:=by
 have d:=f.cell k;rw[Vx g]at d;have a:=TY.1 e cs[k] Zl;unfold KQ at a;split at a
 . rename_i c h;exact⟨c,by rw[d,h],by simpa using a⟩
 . cases a
theorem uT{w:World}{b k:Nat}{t:TypeId}{cs:Array Value}(f:hZ w b t cs)(g:k<cs.size)(e:cs.toList.all Qn=true):∃c:Int,w.cell? (b,k)=some (.int .i64 c)/\ -10000<=c/\c<=10000:=by
 have d:=f.cell k;rw[Vx g]at d;have a:=TY.1 e cs[k] Zl;unfold Qn at a;split at a
 . rename_i i h;simp at a;exact⟨i,by rw[d,h],a.1,a.2⟩
 . cases a
namespace M
def blocks:List (List ByteArray):=[
 [⟨#[99,108,97,115,115,32,116,111,112,32,45]⟩,⟨#[102,105,101,108,100,32,118,32,35]⟩,⟨#[109,101,116,104,111,100,32,103,101,116,32,49,32,49,32,35]⟩,⟨#[116,97,107,101,32,48]⟩,⟨#[103,101,116,32,116,111,112,32,118]⟩,⟨#[114,101,116]⟩,⟨#[109,101,116,104,111,100,32,98,117,109,112,32,50,32,51,32,35,32,35]⟩,⟨#[116,97,107,101,32,48]⟩,⟨#[116,97,107,101,32,48]⟩,⟨#[103,101,116,32,116,111,112,32,118]⟩,⟨#[116,97,107,101,32,49]⟩,⟨#[97,100,100]⟩,⟨#[115,101,116,32,116,111,112,32,118]⟩,⟨#[116,97,107,101,32,48]⟩,⟨#[103,101,116,32,116,111,112,32,118]⟩,⟨#[114,101,116]⟩],
 [⟨#[99,108,97,115,115,32,99,101,108,108,32,116,111,112]⟩,⟨#[102,105,101,108,100,32,110,101,120,116,32,116,111,112]⟩,⟨#[109,101,116,104,111,100,32,103,101,116,32,49,32,50,32,35]⟩,⟨#[102,114,97,109,101,32,55,32,99,101,108,108,32,47]⟩,⟨#[116,97,107,101,32,48]⟩,⟨#[103,101,116,32,99,101,108,108,32,110,101,120,116]⟩,⟨#[110,105,108,32,55]⟩,⟨#[116,97,107,101,32,48]⟩,⟨#[103,101,116,32,99,101,108,108,32,110,101,120,116]⟩,⟨#[99,97,108,108,32,116,111,112,32,103,101,116]⟩,⟨#[114,101,116]⟩,⟨#[110,117,109,32,45,49]⟩,⟨#[114,101,116]⟩,⟨#[109,101,116,104,111,100,32,108,105,110,107,32,50,32,50,32,35,32,116,111,112]⟩,⟨#[116,97,107,101,32,48]⟩,⟨#[116,97,107,101,32,49]⟩,⟨#[115,101,116,32,99,101,108,108,32,110,101,120,116]⟩,⟨#[110,117,109,32,49]⟩,⟨#[114,101,116]⟩],
 [⟨#[99,108,97,115,115,32,109,97,105,110,32,45]⟩,⟨#[109,101,116,104,111,100,32,114,117,110,32,51,32,52,32,35,32,35]⟩,⟨#[110,101,119,32,116,111,112]⟩,⟨#[112,117,116,32,50]⟩,⟨#[116,97,107,101,32,50]⟩,⟨#[116,97,107,101,32,49]⟩,⟨#[99,97,108,108,32,116,111,112,32,98,117,109,112]⟩,⟨#[111,117,116]⟩,⟨#[116,97,107,101,32,50]⟩,⟨#[99,97,108,108,32,116,111,112,32,103,101,116]⟩,⟨#[114,101,116]⟩,⟨#[109,101,116,104,111,100,32,115,117,109,32,51,32,51,32,35,32,35]⟩,⟨#[102,114,97,109,101,32,50,32,109,97,105,110,32,35,32,35,32,47]⟩,⟨#[102,114,97,109,101,32,49,51,32,109,97,105,110,32,35,32,35,32,47]⟩,⟨#[110,117,109,32,48]⟩,⟨#[112,117,116,32,50]⟩,⟨#[116,97,107,101,32,49]⟩,⟨#[122,101,114,111,32,49,51]⟩,⟨#[116,97,107,101,32,50]⟩,⟨#[116,97,107,101,32,49]⟩,⟨#[97,100,100]⟩,⟨#[112,117,116,32,50]⟩,⟨#[116,97,107,101,32,49]⟩,⟨#[110,117,109,32,45,49]⟩,⟨#[97,100,100]⟩,⟨#[112,117,116,32,49]⟩,⟨#[103,111,32,50]⟩,⟨#[116,97,107,101,32,50]⟩,⟨#[114,101,116]⟩],
 [⟨#[99,108,97,115,115,32,109,97,105,110,32,45]⟩,⟨#[109,101,116,104,111,100,32,114,117,110,32,52,32,51,32,35,32,35]⟩,⟨#[110,101,119,32,99,101,108,108]⟩,⟨#[112,117,116,32,50]⟩,⟨#[110,101,119,32,116,111,112]⟩,⟨#[112,117,116,32,51]⟩,⟨#[116,97,107,101,32,51]⟩,⟨#[116,97,107,101,32,49]⟩,⟨#[99,97,108,108,32,116,111,112,32,98,117,109,112]⟩,⟨#[111,117,116]⟩,⟨#[116,97,107,101,32,50]⟩,⟨#[116,97,107,101,32,51]⟩,⟨#[99,97,108,108,32,99,101,108,108,32,108,105,110,107]⟩,⟨#[111,117,116]⟩,⟨#[116,97,107,101,32,50]⟩,⟨#[99,97,108,108,32,116,111,112,32,103,101,116]⟩,⟨#[114,101,116]⟩,⟨#[109,101,116,104,111,100,32,99,97,115,116,32,50,32,50,32,35,32,35]⟩,⟨#[110,101,119,32,116,111,112]⟩,⟨#[99,97,115,116,32,99,101,108,108]⟩,⟨#[99,97,108,108,32,99,101,108,108,32,103,101,116]⟩,⟨#[114,101,116]⟩],
 [⟨#[99,108,97,115,115,32,109,97,105,110,32,45]⟩,⟨#[102,105,101,108,100,32,119,32,109,97,105,110]⟩,⟨#[109,101,116,104,111,100,32,114,117,110,32,50,32,51,32,35,32,35]⟩,⟨#[102,114,97,109,101,32,55,32,109,97,105,110,32,35,32,47]⟩,⟨#[116,97,107,101,32,49]⟩,⟨#[122,101,114,111,32,55]⟩,⟨#[116,97,107,101,32,48]⟩,⟨#[116,97,107,101,32,49]⟩,⟨#[110,117,109,32,45,49]⟩,⟨#[97,100,100]⟩,⟨#[99,97,108,108,32,109,97,105,110,32,114,117,110]⟩,⟨#[116,97,107,101,32,49]⟩,⟨#[114,101,116]⟩],
 [⟨#[99,108,97,115,115,32,109,97,105,110,32,116,111,112]⟩,⟨#[109,101,116,104,111,100,32,114,117,110,32,51,32,51,32,35,32,35]⟩,⟨#[110,117,108,108]⟩,⟨#[112,117,116,32,50]⟩,⟨#[116,97,107,101,32,50]⟩,⟨#[99,97,108,108,32,99,101,108,108,32,103,101,116]⟩,⟨#[114,101,116]⟩,⟨#[109,101,116,104,111,100,32,103,101,116,32,49,32,50,32,35]⟩,⟨#[110,117,109,32,53]⟩,⟨#[114,101,116]⟩],
 [⟨#[99,108,97,115,115,32,109,97,105,110,32,45]⟩,⟨#[102,105,101,108,100,32,119,32,99,101,108,108]⟩,⟨#[109,101,116,104,111,100,32,114,117,110,32,50,32,51,32,35,32,35]⟩,⟨#[116,97,107,101,32,48]⟩,⟨#[110,101,119,32,99,101,108,108]⟩,⟨#[115,101,116,32,109,97,105,110,32,119]⟩,⟨#[116,97,107,101,32,48]⟩,⟨#[103,101,116,32,109,97,105,110,32,119]⟩,⟨#[99,97,108,108,32,116,111,112,32,103,101,116]⟩,⟨#[111,117,116]⟩,⟨#[110,117,109,32,48]⟩,⟨#[114,101,116]⟩],
 [⟨#[99,108,97,115,115,32,116,111,112,32,45]⟩,⟨#[102,105,101,108,100,32,118,32,116,111,112]⟩,⟨#[109,101,116,104,111,100,32,103,101,116,32,49,32,49,32,35]⟩,⟨#[110,117,109,32,56]⟩,⟨#[114,101,116]⟩],
 [⟨#[99,108,97,115,115,32,99,101,108,108,32,116,111,112]⟩,⟨#[109,101,116,104,111,100,32,103,101,116,32,50,32,49,32,35,32,35]⟩,⟨#[110,117,109,32,51]⟩,⟨#[114,101,116]⟩],
 [⟨#[99,108,97,115,115,32,109,97,105,110,32,45]⟩,⟨#[109,101,116,104,111,100,32,114,117,110,32,50,32,50,32,35,32,35]⟩,⟨#[116,97,107,101,32,49]⟩,⟨#[99,97,108,108,32,109,97,105,110,32,114,117,110]⟩,⟨#[114,101,116]⟩],
 [⟨#[99,108,97,115,115,32,109,97,105,110,32,45]⟩,⟨#[109,101,116,104,111,100,32,114,117,110,32,50,32,50,32,35,32,35]⟩,⟨#[116,97,107,101,32,48]⟩,⟨#[111,117,116]⟩,⟨#[110,117,109,32,49]⟩,⟨#[114,101,116]⟩]]
end M
def Ep(r:List ByteArray):Array Value:=(r.map Value.string).toArray
def xu:lZ (List ByteArray):=fun w I x cs=>∃v,cs=[v]/\SliceOf 1 kV w I v x
theorem xu.stays:jM xu:=fun _ _ _ _ _ _ b a ⟨c,e,h⟩=>⟨c,e,h.keep kV.stays b a⟩
theorem Mm{w:World}{b:Nat}{t:TypeId}{r:List ByteArray}(d:hZ w b t (Ep r)){I:Nat->Prop}(hI:I b)(hl:r.length<=4294967296):SliceOf 1 kV w I (b,r.length,r.length) r:=by
 refine⟨_,_,rfl,T9 _,hl,fun f h e=>⟨b,0,_,rfl,hI,rfl,rfl,fun c g a=>?_⟩⟩;cases c with
 |zero=>
  simp only[og]at a;simp at a;subst a;rw[V5,Tm,U3,d.cell];unfold Ep;simp[e]
 |succ c=>simp[og]at a
def yR(w:World)(l:List (List ByteArray))(t:TypeId):World:=l.foldl (fun W r=>W.alloc (.cells (Ep r) t)) w
theorem xX(t:TypeId):∀(l:List (List ByteArray)) (w:World),Ext w (yR w l t)/\(yR w l t).heap.size=w.heap.size+l.length
 |[],w=>⟨Kp.rr,rfl⟩
 |r::l,w=>by
  have a:=xX t l (w.alloc (.cells (Ep r) t));refine⟨(jw _).trans a.1,?_⟩;have:=a.2;simp at this;rw[TE];show(yR (w.alloc _) l t).heap.size=_
  rw[this];omega
theorem DI(t:TypeId):∀(l:List (List ByteArray)) (w:World) (i:Nat) (r:List ByteArray),l[i]?=some r->hZ (yR w l t) (w.heap.size+i) t (Ep r)
 |[],w,i,r,h=>by simp at h
 |x::l,w,0,r,h=>by
  simp at h;subst h;exact(hZ.new w t (Ep x)).ext (xX t l _).1
 |x::l,w,i+1,r,h=>by
  have:=DI t l (w.alloc (.cells (Ep x) t)) i r (by simpa using h);simp at this;rw[show w.heap.size+(i+1)=w.heap.size+1+i by omega];exact this
def zg(n:Nat):List (List ByteArray)->List Value
 |[]=>[]
 |r::l=>.slice (some ⟨n,0,none⟩) r.length r.length::zg (n+1) l
theorem Er:∀(l:List (List ByteArray)) (n i:Nat) (r:List ByteArray),l[i]?=some r->(zg n l)[i]?=some (.slice (some ⟨n+i,0,none⟩) r.length r.length)
 |[],_,i,r,h=>by simp at h
 |x::l,n,0,r,h=>by simp at h;subst h;rfl
 |x::l,n,i+1,r,h=>by
  have:=Er l (n+1) i r (by simpa using h);rw[zg,List.getElem?_cons_succ,this];congr 4;omega
theorem J4{w:World}{l:List (List ByteArray)}{t c:TypeId}(hl:l.length<=1000)(i:∀k∈l,k.length<=1000):SliceOf 1 xu ((yR w l t).alloc (.cells (zg w l).toArray c)) (fun g=>w<=g) (.slice (some ⟨w.heap.size+l.length,0,none⟩) l.length l.length) l:=by
 have j:=xX t l w;have h:hZ ((yR w l t).alloc (.cells (zg w l).toArray c)) (w.heap.size+l.length) c (zg w l).toArray:=hZ.BF _ _ j.2;refine⟨_,_,rfl,T9 _,Zm,fun e d b=>⟨_,0,_,rfl,Zm,⟨_,rfl,Mm (((DI t l w e d b).ext (jw _))) Zm (SX (i d (RA b)))⟩,rfl,fun f m a=>?_⟩⟩;cases f with
 |zero=>
  simp at a;subst a;rw[V5,Tm,U3,h.cell];simpa using Er l w e d b
 |succ f=>simp at a
theorem F8(w:World):Calls prog 80 #[] w fun d b=>(∃a,d=.returned a/\SliceOf 1 xu b (fun c=>w<=c) a M.blocks)/\Ext w b:=by
 go_enter func80,ntmps80;go_wp2;go_ret;refine⟨⟨_,rfl,?_⟩,kx⟩;exact J4 (l:=M.blocks) Zn Zn
def RL(e:Ending):Prop:=∃op a n m,e=.returned (.agg #[.int .i64 op,.int .i64 a,.string n,.string m])/\(-100000<=a/\a<=100000)/\n.size<=20/\m.size<=20
theorem Av{w W:World}{d k q p:Nat}{v:Value}{j:List Int}(z:oh W d v j q)(t:d<w/\(j.length≠0->∀e i g,v=.slice (some e) i g->e.block<w))(y:q<=p+10)(r:Kp (fun m=>m=d\/m=k) w W)(B:w+1<=k){f a:Int}{c b:ByteArray}(s: -100000<=a/\a<=100000)(x:c.size<=20)(u:b.size<=20):RL (.returned (.agg #[f,a,c,b]))/\(∃q,q<=p+10/\oh ((((W.setCell w f).setCell (w,1) a).setCell (w,2) c).setCell (w,3) b) d v j q)/\Kp (·=d) w ((((W.setCell w f).setCell (w,1) a).setCell (w,2) c).setCell (w,3) b):=by
 have l:Kp (·=w) W ((((W.setCell w f).setCell (w,1) a).setCell (w,2) c).setCell (w,3) b):=Kp.nI (D:=(·=w)) rfl _ _ _ _;exact⟨⟨_,_,_,_,rfl,s,x,u⟩,⟨q,y,z.turn l Zm (fun o e i g h=>SX (t.2 o e i g h))⟩,Kp.own (r.weak fun A C n=>n.elim id fun h=>Zm) l (fun A h=>Zm)⟩
theorem Ms(w:World)(l p:Nat)(v:Value)(B:List Int)(n:Int)(a:oh w l v B p)(hp:p<=800000)(hn:n<=1000000)(di: -1000000<=n):Calls prog 85 #[some l,.int .i64 n] w fun C w'=>RL C/\(∃ag,ag<=p+10/\oh w' l v B ag)/\Kp (·=l) w w':=by
 have bP:=a.below;obtain⟨w1,bg⟩:=SS (w.alloc (.cells #[Tc,Tc, "", ""] 140));have bq:Ext w w1:=by rw[bg];exact kx
 have bB:Zz (hZ w1 w 140 #[Tc,Tc, "", ""]):=Zy (by rw[bg];exact hZ.new _ _ _);have⟨bF,cu,r,bX⟩:=jU (jQ w1 l p v B 15 (a.ext bq) Zm Zm) bg bP bq;clear a bg bP bq;go_enter func85,ntmps85;go_wp2_with fail;rw[<-cu.o];refine bF.mono ?_;rintro C e ⟨⟨k,rfl,hk⟩,bK,aY⟩;have cZ:k<15:=Zm
 obtain⟨w3,aR⟩:=SS ((e.alloc (.cells #[.int .i64 (1+k),Tc, "", ""] 140)).alloc (.cells #[.string ⟨#[116,111,112]⟩,.string ⟨#[99,101,108,108]⟩,.string ⟨#[109,97,105,110]⟩,.string ⟨#[110,111,110,101]⟩] 9));have aX:Ext e w3:=by rw[aR];exact kx
 have b5:hZ w3 e 140 #[.int .i64 (1+k),Tc, "", ""]:=by rw[aR];exact(hZ.new _ _ _).ext kx
 have bl:hZ w3 (e+1) 9 #[.string ⟨#[116,111,112]⟩,.string ⟨#[99,101,108,108]⟩,.string ⟨#[109,97,105,110]⟩,.string ⟨#[110,111,110,101]⟩]:=by rw[aR];exact hZ.BF _ _ Zl
 have bO:(w:Nat)+1<=(e:Nat):=SY bB.lt aY.size
 have bJ:l≠e/\(B.length≠0->∀ad bA bn,v=.slice (some ad) bA bn->ad.block≠e):=⟨SX r.1,fun h0 ad bA bn C=>SX (r.o.2 h0 ad bA bn C)⟩;have⟨bG,bY,bW,bD,d,t,bU,cB⟩:=wL (jQ w3 l (p+1) v B 4 (bK.ext aX) Zm Zm) ((bX.any.trans aY).trans aX.any) b5 bl bJ bO ((bB.kp aY (SX r.1)).ext aX) aR;clear bK aY aX b5 bl bO bJ aR hk bF;go_wp2_with fail;rw[<-cB.o];refine bG.mono ?_;rintro C E ⟨⟨bT,rfl,hj⟩,bL,aP⟩;obtain⟨nm,bR,aQ⟩:=qP (k:=bT) (bD.kp aP (SY r.1 t.o)) Zr Zn;have cO:bT<4:=Zm
 have K:=Zy bL;have bu:=bW.kp aP (SX d.1);have⟨J,S,O⟩:=jB bu (bY.trans aP) (bU.kp aP (SX r.1));have dh:=jc bR;obtain⟨cz,c0,-⟩:=bu.ca;clear bL aP bu hj bG bD;go_upto_block 0 with(fail);clear bR dh cO;go_cut [] (fun wx=>∃ag op av n k,ag<=p+3/\oh wx l v B ag/\hZ wx e 140 #[.int .i64 op,.int .i64 av,.string n,.string k]/\(-100000<=av/\av<=100000)/\n.size<=20/\k.size<=20/\Kp (fun ay=>ay=l\/ay=e) w wx/\hZ wx w 140 #[Tc,Tc, "", ""])
 case first=>
  have df:k=0\/k=1\/k=2\/k=3\/k=4\/k=5\/k=6\/k=7\/k=8\/k=9\/k=10\/k=11\/k=12\/k=13\/k=14:=Zm
  have b:=J.o;obtain⟨-,-,c1,c2,c3,-⟩:=b.ca;obtain⟨-,f1,f2,f3,-⟩:=b.fz;clear b cZ;rcases df with rfl|rfl|rfl|rfl|rfl|rfl|rfl|rfl|rfl|rfl|rfl|rfl|rfl|rfl|rfl
  . obtain⟨s,i⟩:∃z,z=E.alloc (.cells #[Tc,.int .i64 1,.int .i64 (-1),.int .i64 7,.int .i64 9999,.int .i64 (-9999)] 3):=⟨_,rfl⟩;have g:Ext E s:=by rw[i];exact jw _
    have x:hZ s E 3 #[Tc,.int .i64 1,.int .i64 (-1),.int .i64 7,.int .i64 9999,.int .i64 (-9999)]:=by rw[i];exact hZ.new _ _ _
    have⟨u,Q,aC,R,T,V,U⟩:=qA (jQ s l (p+1+1) v B 6 (K.ext g) Zm Zm) x (O.ext g) (J.ext g) (S.trans g.any) (K.below.1) i;clear g x i;go_wp2_with fail;rw[<-U.o];refine u.mono ?_;rintro C q ⟨⟨h,rfl,j⟩,o,f⟩;obtain⟨m,X,af⟩:=uT (k:=h) (Q.kp f (SX V.o)) Zr Zn;have F:=Zy (aC.kp f (SX r.1));have b:=R.kp f (SX d.1);have ae:h<6:=Zm
    have⟨G,I,H⟩:=jB b o (T.trans f);obtain⟨L,-,A,-⟩:=b.ca;have M:=b.frozen 1;have uz:=jc X;clear b o f j u;go_wp2;go_meet;have c:Kp (·=e) q (q.setCell (e,1) m):=nH;exact⟨_,_,_,_,_,Zm,I.o.turn c d.o.1 d.o.2,G.o.jy 1 _,Zm,by decide,by decide,(H.o.weak fun _ _ a=>.inl a).trans (c.weak fun _ _ a=>.inr a),F.o.kp c (SX t.o)⟩
  . go_wp2_with fail;refine(jQ E l (p+1+1) v B 3 K Zm Zm).mono ?_;rintro C q ⟨⟨h,rfl,j⟩,o,f⟩;have ae:h<3:=Zm
    have F:=Zy (O.kp f (SX r.1));have b:=J.kp f (SX d.1);have⟨G,I,H⟩:=jB b o (S.trans f);obtain⟨L,-,A,-⟩:=b.ca;have M:=b.frozen 1;clear b o f j;go_wp2;go_meet;have c:Kp (·=e) q (q.setCell (e,1) h):=nH;exact⟨_,_,_,_,_,Zm,I.o.turn c d.o.1 d.o.2,G.o.jy 1 _,Zm,by decide,by decide,(H.o.weak fun _ _ a=>.inl a).trans (c.weak fun _ _ a=>.inr a),F.o.kp c (SX t.o)⟩
  . go_wp2_with fail;refine(jQ E l (p+1+1) v B 3 K Zm Zm).mono ?_;rintro C q ⟨⟨h,rfl,j⟩,o,f⟩;have ae:h<3:=Zm
    have F:=Zy (O.kp f (SX r.1));have b:=J.kp f (SX d.1);have⟨G,I,H⟩:=jB b o (S.trans f);obtain⟨L,-,A,-⟩:=b.ca;have M:=b.frozen 1;clear b o f j;go_wp2;go_meet;have c:Kp (·=e) q (q.setCell (e,1) h):=nH;exact⟨_,_,_,_,_,Zm,I.o.turn c d.o.1 d.o.2,G.o.jy 1 _,Zm,by decide,by decide,(H.o.weak fun _ _ a=>.inl a).trans (c.weak fun _ _ a=>.inr a),F.o.kp c (SX t.o)⟩
  . go_wp2;go_meet;exact⟨_,_,_,_,_,Zm,K.o,J.o,Zm,by decide,by decide,S.o.weak (fun _ _ a=>.inl a),O.o⟩
  . go_wp2;go_meet;exact⟨_,_,_,_,_,Zm,K.o,J.o,Zm,by decide,by decide,S.o.weak (fun _ _ a=>.inl a),O.o⟩
  . go_wp2;go_meet;have c:Kp (·=e) E (E.setCell (e,2) nm):=nH;exact⟨_,_,_,_,_,Zm,K.o.turn c d.o.1 d.o.2,J.o.jy 2 _,Zm,aQ,by decide,(S.o.weak fun _ _ a=>.inl a).trans (c.weak fun _ _ a=>.inr a),O.o.kp c (SX t.o)⟩
  . obtain⟨Y,aa⟩:∃z,z=E.setCell (e,2) nm:=⟨_,rfl⟩;have Z:Kp (·=e) E Y:=by rw[aa];exact nH
    have b6:=J.jy 2 nm;rw[<-aa]at b6;have⟨aD,az⟩:=jf b6 (K.turn Z d.1 d.2);have aH:Zz (Kp (fun ay=>ay=l\/ay=e) w Y):=Zy ((S.weak fun _ _ a=>.inl a).trans (Z.weak fun _ _ a=>.inr a));have⟨aM,aO⟩:=jf (O.kp Z (SX t.o)) aa;clear Z b6 aa;obtain⟨s,i,g,x⟩:=nu Y #[.string ⟨#[118]⟩,.string ⟨#[110,101,120,116]⟩,.string ⟨#[119]⟩] 9;have⟨u,Q,aC,R,T,V,U⟩:=qA (jQ s l (p+1+1) v B 3 (az.ext g) Zm Zm) x (aM.ext g) (aD.ext g) (aH.trans g.any) (az.below.1) i;clear g x i;go_upto_region 19 with(fail);rw[<-aO.o];go_wp2_with fail;rw[<-U.o];refine u.mono ?_;rintro C q ⟨⟨h,rfl,j⟩,o,f⟩;obtain⟨m,X,af⟩:=qP (k:=h) (Q.kp f (SX V.o)) Zr Zn;have F:=Zy (aC.kp f (SX r.1));have b:=R.kp f (SX d.1);have ae:h<3:=Zm
    have⟨G,I,H⟩:=jB b o (T.trans (f.weak fun _ _ a=>.inl a));obtain⟨L,-,-,-,A,-⟩:=b.ca;have M:=b.frozen 3;have uz:=jc X;clear b o f j u;go_wp2;go_meet;have c:Kp (·=e) q (q.setCell (e,3) m):=nH;exact⟨_,_,_,_,_,Zm,I.o.turn c d.o.1 d.o.2,G.o.jy 3 _,Zm,aQ,af,H.o.trans (c.weak fun _ _ a=>.inr a),F.o.kp c (SX t.o)⟩
  . obtain⟨Y,aa⟩:∃z,z=E.setCell (e,2) nm:=⟨_,rfl⟩;have Z:Kp (·=e) E Y:=by rw[aa];exact nH
    have b6:=J.jy 2 nm;rw[<-aa]at b6;have⟨aD,az⟩:=jf b6 (K.turn Z d.1 d.2);have aH:Zz (Kp (fun ay=>ay=l\/ay=e) w Y):=Zy ((S.weak fun _ _ a=>.inl a).trans (Z.weak fun _ _ a=>.inr a));have⟨aM,aO⟩:=jf (O.kp Z (SX t.o)) aa;clear Z b6 aa;obtain⟨s,i,g,x⟩:=nu Y #[.string ⟨#[118]⟩,.string ⟨#[110,101,120,116]⟩,.string ⟨#[119]⟩] 9;have⟨u,Q,aC,R,T,V,U⟩:=qA (jQ s l (p+1+1) v B 3 (az.ext g) Zm Zm) x (aM.ext g) (aD.ext g) (aH.trans g.any) (az.below.1) i;clear g x i;go_upto_region 19 with(fail);rw[<-aO.o];go_wp2_with fail;rw[<-U.o];refine u.mono ?_;rintro C q ⟨⟨h,rfl,j⟩,o,f⟩;obtain⟨m,X,af⟩:=qP (k:=h) (Q.kp f (SX V.o)) Zr Zn;have F:=Zy (aC.kp f (SX r.1));have b:=R.kp f (SX d.1);have ae:h<3:=Zm
    have⟨G,I,H⟩:=jB b o (T.trans (f.weak fun _ _ a=>.inl a));obtain⟨L,-,-,-,A,-⟩:=b.ca;have M:=b.frozen 3;have uz:=jc X;clear b o f j u;go_wp2;go_meet;have c:Kp (·=e) q (q.setCell (e,3) m):=nH;exact⟨_,_,_,_,_,Zm,I.o.turn c d.o.1 d.o.2,G.o.jy 3 _,Zm,aQ,af,H.o.trans (c.weak fun _ _ a=>.inr a),F.o.kp c (SX t.o)⟩
  . obtain⟨Y,aa⟩:∃z,z=E.setCell (e,2) nm:=⟨_,rfl⟩;have Z:Kp (·=e) E Y:=by rw[aa];exact nH
    have b6:=J.jy 2 nm;rw[<-aa]at b6;have⟨aD,az⟩:=jf b6 (K.turn Z d.1 d.2);have aH:Zz (Kp (fun ay=>ay=l\/ay=e) w Y):=Zy ((S.weak fun _ _ a=>.inl a).trans (Z.weak fun _ _ a=>.inr a));have⟨aM,aO⟩:=jf (O.kp Z (SX t.o)) aa;clear Z b6 aa;obtain⟨s,i,g,x⟩:=nu Y #[.string ⟨#[103,101,116]⟩,.string ⟨#[98,117,109,112]⟩,.string ⟨#[108,105,110,107]⟩,.string ⟨#[114,117,110]⟩,.string ⟨#[120]⟩] 9;have⟨u,Q,aC,R,T,V,U⟩:=qA (jQ s l (p+1+1) v B 5 (az.ext g) Zm Zm) x (aM.ext g) (aD.ext g) (aH.trans g.any) (az.below.1) i;clear g x i;go_upto_region 22 with(fail);rw[<-aO.o];go_wp2_with fail;rw[<-U.o];refine u.mono ?_;rintro C q ⟨⟨h,rfl,j⟩,o,f⟩;obtain⟨m,X,af⟩:=qP (k:=h) (Q.kp f (SX V.o)) Zr Zn;have F:=Zy (aC.kp f (SX r.1));have b:=R.kp f (SX d.1);have ae:h<5:=Zm
    have⟨G,I,H⟩:=jB b o (T.trans (f.weak fun _ _ a=>.inl a));obtain⟨L,-,-,-,A,-⟩:=b.ca;have M:=b.frozen 3;have uz:=jc X;clear b o f j u;go_wp2;go_meet;have c:Kp (·=e) q (q.setCell (e,3) m):=nH;exact⟨_,_,_,_,_,Zm,I.o.turn c d.o.1 d.o.2,G.o.jy 3 _,Zm,aQ,af,H.o.trans (c.weak fun _ _ a=>.inr a),F.o.kp c (SX t.o)⟩
  . go_wp2;go_meet;exact⟨_,_,_,_,_,Zm,K.o,J.o,Zm,by decide,by decide,S.o.weak (fun _ _ a=>.inl a),O.o⟩
  . go_wp2_with fail;refine(jQ E l (p+1+1) v B 10 K Zm Zm).mono ?_;rintro C q ⟨⟨h,rfl,j⟩,o,f⟩;have ae:h<10:=Zm
    have F:=Zy (O.kp f (SX r.1));have b:=J.kp f (SX d.1);have⟨G,I,H⟩:=jB b o (S.trans f);obtain⟨L,-,A,-⟩:=b.ca;have M:=b.frozen 1;clear b o f j;go_wp2;go_meet;have c:Kp (·=e) q (q.setCell (e,1) h):=nH;exact⟨_,_,_,_,_,Zm,I.o.turn c d.o.1 d.o.2,G.o.jy 1 _,Zm,by decide,by decide,(H.o.weak fun _ _ a=>.inl a).trans (c.weak fun _ _ a=>.inr a),F.o.kp c (SX t.o)⟩
  . go_wp2_with fail;refine(jQ E l (p+1+1) v B 10 K Zm Zm).mono ?_;rintro C q ⟨⟨h,rfl,j⟩,o,f⟩;have ae:h<10:=Zm
    have F:=Zy (O.kp f (SX r.1));have b:=J.kp f (SX d.1);have⟨G,I,H⟩:=jB b o (S.trans f);obtain⟨L,-,A,-⟩:=b.ca;have M:=b.frozen 1;clear b o f j;go_wp2;go_meet;have c:Kp (·=e) q (q.setCell (e,1) h):=nH;exact⟨_,_,_,_,_,Zm,I.o.turn c d.o.1 d.o.2,G.o.jy 1 _,Zm,by decide,by decide,(H.o.weak fun _ _ a=>.inl a).trans (c.weak fun _ _ a=>.inr a),F.o.kp c (SX t.o)⟩
  . go_wp2_with fail;refine(jQ E l (p+1+1) v B 10 K Zm Zm).mono ?_;rintro C q ⟨⟨h,rfl,j⟩,o,f⟩;have ae:h<10:=Zm
    have F:=Zy (O.kp f (SX r.1));have b:=J.kp f (SX d.1);have⟨G,I,H⟩:=jB b o (S.trans f);obtain⟨L,-,A,-⟩:=b.ca;have M:=b.frozen 1;clear b o f j;go_wp2;go_meet;have c:Kp (·=e) q (q.setCell (e,1) h):=nH;exact⟨_,_,_,_,_,Zm,I.o.turn c d.o.1 d.o.2,G.o.jy 1 _,Zm,by decide,by decide,(H.o.weak fun _ _ a=>.inl a).trans (c.weak fun _ _ a=>.inr a),F.o.kp c (SX t.o)⟩
  . go_wp2;go_meet;exact⟨_,_,_,_,_,Zm,K.o,J.o,Zm,by decide,by decide,S.o.weak (fun _ _ a=>.inl a),O.o⟩
  . go_wp2;go_meet;have c:Kp (·=e) E (E.setCell (e,2) nm):=nH;exact⟨_,_,_,_,_,Zm,K.o.turn c d.o.1 d.o.2,J.o.jy 2 _,Zm,aQ,by decide,(S.o.weak fun _ _ a=>.inl a).trans (c.weak fun _ _ a=>.inr a),O.o.kp c (SX t.o)⟩
 obtain⟨ag,op,av,nn,mm,hq,hR,hb,ha,bS,bQ,hK,bI⟩:=hcut;obtain⟨Y,rfl⟩:∃Y,Y=wc:=⟨_,rfl⟩;have⟨aD,aH,az,bV,aV,aU,HA,bZ⟩:=wL hb hK hR bI bS bQ ha (J2 Y l ag v B n hR Zm Zm Zm);clear hR hb hK bI ha bS bQ c0 cz;go_wp2_with fail;refine bZ.mono ?_;rintro C w7 ⟨⟨od,rfl⟩,bM,aZ⟩;have⟨bH,bC,aN,bE⟩:=jU bM (aD.kp aZ (SX d.1)) (bV.o.kp aZ (SX r.o.1)) (aH.o.trans (aZ.weak fun _ _ a=>.inl a));clear bM aZ;cases od
 . have z0:=aN.c 0 Tc rfl;obtain⟨zz,-,z1,z2,z3,-⟩:=aN.ca;obtain⟨ah,ai,aj,ak,-⟩:=aN.fz;obtain⟨dz,d0,A,d2,d3,-⟩:=bC.ca;go_wp2_with fail;refine Cv (jE mE rfl w rfl [.int .i64 op,.int .i64 av,nn,mm] (hH.l7 (hZ.nI aN _ _ _ _)) rfl) rfl ?_;exact Av bH r Zm bE t HA aV aU
 go_wp2_with fail;refine(jQ w7 l (ag+1) v B 4 bH Zm Zm).mono ?_;rintro C w8 ⟨⟨h,rfl,j⟩,bN,bf⟩;have cK:h=0\/h=1\/h=2\/h=3:=Zm
 have⟨aA,aT,aS,aW⟩:=jU bN (bC.kp bf (SX d.1)) (aN.o.kp bf (SX r.o.1)) (bE.o.trans (bf.weak fun _ _ a=>.inl a));clear bN bf j;rcases cK with rfl|rfl|rfl|rfl
 . obtain⟨s,i⟩:∃z,z=w8.alloc (.cells #[Tc,.int .i64 16,.int .i64 (-1)] 3):=⟨_,rfl⟩;have g:Ext w8 s:=by rw[i];exact jw _
   have x:hZ s w8 3 #[Tc,.int .i64 16,.int .i64 (-1)]:=by rw[i];exact hZ.new _ _ _
   have⟨u,Q,R,T,V,U,aF⟩:=qA (jQ s l (ag+1+1) v B 3 (aA.ext g) Zm Zm) x (aT.ext g) (aW.trans g.any) (aA.below.1) i g;clear g x i;go_wp2_with fail;rw[<-U.o];refine u.mono ?_;rintro C w9 ⟨⟨h,rfl,j⟩,ax,y⟩;obtain⟨m,X,af⟩:=uT (k:=h) (Q.kp y (SX V.o)) Zr Zn;have P:=Zy ((aS.ext aF).kp y (SX r.1));have b:=R.kp y (SX d.1);have ae:h<3:=Zm
   have⟨au,aK,aI⟩:=jB b ax (T.trans (y.weak fun _ _ a=>.inl a));have M:=b.frozen 0;have L:=b.lt;have uz:=jc X;clear b ax y j u;obtain⟨dz,d0,A,d2,d3,-⟩:=au.ca;obtain⟨zz,z0,z1,z2,z3,-⟩:=P.ca;obtain⟨ah,ai,aj,ak,-⟩:=P.fz;obtain⟨wy,D⟩:∃z,z=w9.setCell e m:=⟨_,rfl⟩;have c:Kp (·=e) w9 wy:=by rw[D];exact nH
   have⟨aJ,aG,N⟩:=jB (aK.turn c d.1 d.2) (aI.trans (c.weak fun _ _ a=>.inr a)) (P.kp c (SX t.o));have W:=au.jy 0 m;rw[<-D]at W;have aB:Zz (hZ wy e 140 #[m,.int .i64 av,nn,mm]):=Zy W;have aL:=Zy D;clear c W D;go_upto_region 32 with(fail);rw[<-aL.o];clear d0 A d2 d3 dz z0 z1 z2 z3 ah ai aj ak zz M L uz;obtain⟨dz,d0,A,d2,d3,-⟩:=aB.ca;obtain⟨zz,z0,z1,z2,z3,-⟩:=N.ca;obtain⟨ah,ai,aj,ak,-⟩:=N.fz;go_wp2_with fail;refine Cv (jE mE rfl w rfl [m,.int .i64 av,nn,mm] (hH.l7 (hZ.nI N _ _ _ _)) rfl) rfl ?_;exact Av aJ r Zm aG t HA aV aU
 . obtain⟨s,i⟩:∃z,z=w8.alloc (.cells #[.int .i64 10000,.int .i64 (-1),.int .i64 16,.int .i64 6] 3):=⟨_,rfl⟩;have g:Ext w8 s:=by rw[i];exact jw _
   have x:hZ s w8 3 #[.int .i64 10000,.int .i64 (-1),.int .i64 16,.int .i64 6]:=by rw[i];exact hZ.new _ _ _
   have⟨u,Q,R,T,V,U,aF⟩:=qA (jQ s l (ag+1+1) v B 4 (aA.ext g) Zm Zm) x (aT.ext g) (aW.trans g.any) (aA.below.1) i g;clear g x i;go_wp2_with fail;rw[<-U.o];refine u.mono ?_;rintro C w9 ⟨⟨h,rfl,j⟩,ax,y⟩;obtain⟨m,X,af⟩:=uT (k:=h) (Q.kp y (SX V.o)) Zr Zn;have P:=Zy ((aS.ext aF).kp y (SX r.1));have b:=R.kp y (SX d.1);have ae:h<4:=Zm
   have⟨au,aK,aI⟩:=jB b ax (T.trans (y.weak fun _ _ a=>.inl a));have M:=b.frozen 1;have L:=b.lt;have uz:=jc X;clear b ax y j u;obtain⟨dz,d0,A,d2,d3,-⟩:=au.ca;obtain⟨zz,z0,z1,z2,z3,-⟩:=P.ca;obtain⟨ah,ai,aj,ak,-⟩:=P.fz;obtain⟨wy,D⟩:∃z,z=w9.setCell (e,1) m:=⟨_,rfl⟩;have c:Kp (·=e) w9 wy:=by rw[D];exact nH
   have⟨aJ,aG,N⟩:=jB (aK.turn c d.1 d.2) (aI.trans (c.weak fun _ _ a=>.inr a)) (P.kp c (SX t.o));have W:=au.jy 1 m;rw[<-D]at W;have aB:Zz (hZ wy e 140 #[.int .i64 op,m,nn,mm]):=Zy W;have aL:=Zy D;clear c W D;go_upto_region 32 with(fail);rw[<-aL.o];clear d0 A d2 d3 dz z0 z1 z2 z3 ah ai aj ak zz M L uz;obtain⟨dz,d0,A,d2,d3,-⟩:=aB.ca;obtain⟨zz,z0,z1,z2,z3,-⟩:=N.ca;obtain⟨ah,ai,aj,ak,-⟩:=N.fz;go_wp2_with fail;refine Cv (jE mE rfl w rfl [.int .i64 op,m,nn,mm] (hH.l7 (hZ.nI N _ _ _ _)) rfl) rfl ?_;exact Av aJ r Zm aG t Zm aV aU
 . obtain⟨s,i⟩:∃z,z=w8.alloc (.cells #["",.string ⟨#[65]⟩,.string ⟨#[116,111,112]⟩] 9):=⟨_,rfl⟩;have g:Ext w8 s:=by rw[i];exact jw _
   have x:hZ s w8 9 #["",.string ⟨#[65]⟩,.string ⟨#[116,111,112]⟩]:=by rw[i];exact hZ.new _ _ _
   have⟨u,Q,R,T,V,U,aF⟩:=qA (jQ s l (ag+1+1) v B 3 (aA.ext g) Zm Zm) x (aT.ext g) (aW.trans g.any) (aA.below.1) i g;clear g x i;go_wp2_with fail;rw[<-U.o];refine u.mono ?_;rintro C w9 ⟨⟨h,rfl,j⟩,ax,y⟩;obtain⟨m,X,af⟩:=qP (k:=h) (Q.kp y (SX V.o)) Zr Zn;have P:=Zy ((aS.ext aF).kp y (SX r.1));have b:=R.kp y (SX d.1);have ae:h<3:=Zm
   have⟨au,aK,aI⟩:=jB b ax (T.trans (y.weak fun _ _ a=>.inl a));have M:=b.frozen 2;have L:=b.lt;have uz:=jc X;clear b ax y j u;obtain⟨dz,d0,A,d2,d3,-⟩:=au.ca;obtain⟨zz,z0,z1,z2,z3,-⟩:=P.ca;obtain⟨ah,ai,aj,ak,-⟩:=P.fz;obtain⟨wy,D⟩:∃z,z=w9.setCell (e,2) m:=⟨_,rfl⟩;have c:Kp (·=e) w9 wy:=by rw[D];exact nH
   have⟨aJ,aG,N⟩:=jB (aK.turn c d.1 d.2) (aI.trans (c.weak fun _ _ a=>.inr a)) (P.kp c (SX t.o));have W:=au.jy 2 m;rw[<-D]at W;have aB:Zz (hZ wy e 140 #[.int .i64 op,.int .i64 av,m,mm]):=Zy W;have aL:=Zy D;clear c W D;go_upto_region 32 with(fail);rw[<-aL.o];clear d0 A d2 d3 dz z0 z1 z2 z3 ah ai aj ak zz M L uz;obtain⟨dz,d0,A,d2,d3,-⟩:=aB.ca;obtain⟨zz,z0,z1,z2,z3,-⟩:=N.ca;obtain⟨ah,ai,aj,ak,-⟩:=N.fz;go_wp2_with fail;refine Cv (jE mE rfl w rfl [.int .i64 op,.int .i64 av,m,mm] (hH.l7 (hZ.nI N _ _ _ _)) rfl) rfl ?_;exact Av aJ r Zm aG t HA af aU
 . obtain⟨s,i⟩:∃z,z=w8.alloc (.cells #["",.string ⟨#[65]⟩,.string ⟨#[118]⟩] 9):=⟨_,rfl⟩;have g:Ext w8 s:=by rw[i];exact jw _
   have x:hZ s w8 9 #["",.string ⟨#[65]⟩,.string ⟨#[118]⟩]:=by rw[i];exact hZ.new _ _ _
   have⟨u,Q,R,T,V,U,aF⟩:=qA (jQ s l (ag+1+1) v B 3 (aA.ext g) Zm Zm) x (aT.ext g) (aW.trans g.any) (aA.below.1) i g;clear g x i;go_wp2_with fail;rw[<-U.o];refine u.mono ?_;rintro C w9 ⟨⟨h,rfl,j⟩,ax,y⟩;obtain⟨m,X,af⟩:=qP (k:=h) (Q.kp y (SX V.o)) Zr Zn;have P:=Zy ((aS.ext aF).kp y (SX r.1));have b:=R.kp y (SX d.1);have ae:h<3:=Zm
   have⟨au,aK,aI⟩:=jB b ax (T.trans (y.weak fun _ _ a=>.inl a));have M:=b.frozen 3;have L:=b.lt;have uz:=jc X;clear b ax y j u;obtain⟨dz,d0,A,d2,d3,-⟩:=au.ca;obtain⟨zz,z0,z1,z2,z3,-⟩:=P.ca;obtain⟨ah,ai,aj,ak,-⟩:=P.fz;obtain⟨wy,D⟩:∃z,z=w9.setCell (e,3) m:=⟨_,rfl⟩;have c:Kp (·=e) w9 wy:=by rw[D];exact nH
   have⟨aJ,aG,N⟩:=jB (aK.turn c d.1 d.2) (aI.trans (c.weak fun _ _ a=>.inr a)) (P.kp c (SX t.o));have W:=au.jy 3 m;rw[<-D]at W;have aB:Zz (hZ wy e 140 #[.int .i64 op,.int .i64 av,nn,m]):=Zy W;have aL:=Zy D;clear c W D;go_upto_region 32 with(fail);rw[<-aL.o];clear d0 A d2 d3 dz z0 z1 z2 z3 ah ai aj ak zz M L uz;obtain⟨dz,d0,A,d2,d3,-⟩:=aB.ca;obtain⟨zz,z0,z1,z2,z3,-⟩:=N.ca;obtain⟨ah,ai,aj,ak,-⟩:=N.fz;go_wp2_with fail;refine Cv (jE mE rfl w rfl [.int .i64 op,.int .i64 av,nn,m] (hH.l7 (hZ.nI N _ _ _ _)) rfl) rfl ?_;exact Av aJ r Zm aG t HA aV af
def Jy(F:iZ->Prop)(w w':World)(e:Ending):Prop:=∃p v n,e=.returned (.tuple #[.agg #[v],.int .i64 n])/\SliceOf 2 ja w' (fun b=>w.heap.size<=b/\b<w'.heap.size) v p/\0<=n/\(p=[]\/F p)
theorem wR{F:iZ->Prop}{w wc:World}(p:iZ){v:Value}(g:Ext w wc)(j:SliceOf 2 ja wc (fun a=>w+1<=a) v p)(n:Int)(h:0<=n)(i:p=[]\/F p)(d:Value):Jy F w (wc.setCell w d) (.returned (.tuple #[.agg #[v],n]))/\Ext w (wc.setCell w d):=by
 have e:Kp (·=w) wc (wc.setCell w d):=nH;have k:=j.keep (J:=fun a=>w+1<=a) ja.stays (e.same fun a b f=>Zm) (fun a b=>b);have l:=k.inside (fun _ _ _ _ c=>ja.inside c) Zm;exact⟨⟨p,v,n,rfl,l.keep ja.stays (fun _ _ _ _ c=>c) (fun a b=>⟨Zm,b.2⟩),h,i⟩,g.own e fun a f=>Zm⟩
theorem A8(Q:Nat->iZ->Prop)(w:World)(I:Nat->Prop)(v:Value)(c:List ByteArray)(Y:SliceOf 1 kV w I v c)(aR:∀bI∈c,bI.size<=1000000)(aO:Q 0 [])(aQ:∀b k d r,c[b]?=some r->Q b k->Ku r k d->Q (b+1) d):Calls prog 37 #[v] w fun o w'=>Jy (Q c.length) w w' o/\Ext w w':=by
 obtain⟨bK,bL,rfl,bO,bP⟩:=Y.form;by_cases hl:400<c.length
 . have bG:(400:Int)<c.length:=Zm
   have J:=Zy (fun(m:Int) (D:0<=m) F=>wR (F:=Q c.length) (w:=w) (wc:=w.alloc (.cells #[()] 25)) [] (jw _) (SliceOf.nil _ _ _ _) m D (.inl rfl) F);clear Y;go_enter func37,ntmps37;go_wp2_with fail;refine Cv (iY qN rfl w rfl [()] (hH.nL _ _ rfl) rfl) rfl ?_;exact⟨⟨[],_,_,rfl,SliceOf.nil _ _ _ _,Zm,.inl rfl⟩,Zx⟩
 have bG:¬(400:Int)<c.length:=Zm
 obtain⟨G,N⟩:=SS ((w.alloc (.cells #[()] 25)).alloc (.cells #[()] 25));have au:Ext w G:=by rw[N];exact Zx
 have b2:hZ G w 25 #[()]:=by rw[N];exact(hZ.new _ _ _).ext Zx
 have b4:hZ G (w+1) 25 #[()]:=by rw[N];exact hZ.BF _ _ Zl
 have aT:G.heap.size=w+2:=by rw[N];simp
 have⟨bA,bB,aU,aW,aY,HV,bz,bq,aZ⟩:=sV N aT b2 b4 au (Y.ext kV.stays au) Y aR aO;have bf:=Zy aQ;clear N aT b2 b4 au Y aR aO aQ;go_enter func37,ntmps37;go_upto_region 4 with(fail);rw[<-bA.o];go_wp2;go_loopw [5] (fun ax wr=>∃(b:Nat) (k:iZ) (T:Option Addr) (P Z:Nat),b<=c.length/\ax=.int .i64 b/\hZ wr (w+1) 25 #[.slice T P Z]/\SliceOf 2 ja wr (fun h=>w+2<=h) (.slice T P Z) k/\tu b k/\Q b k/\Kp (·=w+1) G wr) (fun ax _=>c.length - (intOf ax).toNat)
 case atStart=>exact⟨0,[],_,_,_,SV _,rfl,aW,SliceOf.nil _ _ _ _,⟨by simp,by simp⟩,aZ,Kp.rr⟩
 case round =>
  obtain⟨b,k,T,P,Z,hk,rfl,f,hs,av,aP,q⟩:=hrel;have aD:=Zy aP;clear aP;have⟨HB,HS,aG,HK⟩:=jU f hs av q;have aI:Zz ((w:Nat)+2<=(wr:Nat)):=Zy (SY q.size bB.o);have⟨ah,n⟩:=jf (aY.own q fun h o=>Zm) (aU.o.kp q Zm);by_cases aN:b<c.length
  . have dk:(b:Int)<c.length:=Zm
    obtain⟨r,hx⟩:∃r,c[b]?=some r:=⟨c[b]'aN,Ou aN⟩;have aS:=bq.o r (RA hx);have aH:=Zy (fun d=>bf.o b k d r hx aD);obtain⟨bl,ol,rfl,gl⟩:=kV.at_ bz hx;have aJ:=ah.je gl;obtain⟨bJ,bN,bQ,HT⟩:=ll wr;have y0:=fun ay=>(HT.jv ay).je aJ;have y1:=fun ay=>(f.ext (HT.jv ay)).c 0 (.slice T P Z) rfl;have s:=Zy HT;obtain⟨cz,V,-⟩:=n.ca;have aj:=n.frozen 0;obtain⟨ak,W,-⟩:=f.ca;have bD:=f.frozen 0;have aC:=Zy (hs.inside (fun _ _ _ _ a=>ja.inside a) Zm);clear f hs av q HT hx gl aJ;go_upto_region 7 with(fail);go_cut [6,7] (fun s6 s7 wx=>∃U A d t j z,s6=.pointer (some ⟨U,0,none⟩)/\s7=.bool A/\hZ wx U 25 #[.slice t j z]/\SliceOf 2 ja wx (fun h=>w+2<=h) (.slice t j z) d/\tu (b+1) d/\(A=true->Q (b+1) d)/\Ext wr wx)
    case first=>
     refine qp s 11 (.two [0,1,2,3,4] 5 9 (.one [6,7,8] 9 (.one [] 10 (.fin []))) (.one [] 5 (.one [6,7,8] 10 (.fin [])))) ?_ ?_
     . exact jg
     refine two [_,_,_,_,_] rfl rfl rfl fun bC q=>?_;(repeat (go_big_quiet_step (fail)));((refine F5 q (fun l e=>?_) fun l e=>?_)<;>clear q bC)
     . have u:Ext wr wr.drew:=jg;go_wp2_with fail;refine(F7 (fun _ a=>Tx a.2 u.size) k (aC.ext ja.stays u) r aS b Zm aG).mono ?_;rintro o H ⟨⟨d,v',A,rfl,i,L,y⟩,g⟩;have S:=Zy (fun a=>aH.o d (y a));clear y;obtain⟨t,z,rfl,-,-⟩:=i.form;obtain⟨j,E⟩:∃j,List.length d=j:=⟨_,rfl⟩;rw[E]at i;simp only[E];clear E;have e4:=u.trans g;go_wp2_with fail;refine kk s e e4 ?_;clear e l;refine Bi ?_;intro l e;go_wp2_with fail;obtain⟨w5,O,K,B⟩:=nu H #[()] 25;rw[<-O];have C:=e4.trans K;have⟨aA,ai⟩:=jf C ((i.inside (fun _ _ _ _ a=>ja.inside a) Zm).ext ja.stays K);have aa:=Zy e4.size;have af:=Zy B;obtain⟨zz,z0,-⟩:=B.ca;have zf:=B.frozen 0;clear K B O i;refine kk s e aA ?_;clear e l;refine jX rfl fun l e=>?_;go_wp2_with fail;have x:Kp (·=H) w5 (w5.setCell H (.slice t j z)):=nH;have X:=aA.own x (fun h o=>SX aa.o);refine kk s e X ?_;clear e l;refine kL ?_;go_wp2;go_meet;exact⟨_,_,d,_,_,_,rfl,rfl,af.jy 0 _,ai.keep ja.stays (x.same fun h f o=>SX f.2) (fun h f=>f.1.elim (fun a=>a.1) (fun a=>SY u.size aI.o)),L,S.o,X⟩
     . have u:Ext wr wr.drew:=jg;generalize wr.drew=wd at u |-;go_wp2_with fail;obtain⟨w5,O,K,B⟩:=nu wd #[()] 25;rw[<-O];have aa:Zz ((w5:Nat)=wd+1):=Zy (by rw[O];simp);have C:=u.trans K;clear O K;refine kk s e C ?_;clear e l;refine jX rfl fun l e=>?_;go_wp2_with fail;refine(F7 (fun _ a=>Tx a.2 C.size) k (aC.ext ja.stays C) r aS b Zm aG).mono ?_;rintro o H ⟨⟨d,v',A,rfl,i,L,y⟩,g⟩;have S:=Zy (fun a=>aH.o d (y a));clear y;obtain⟨t,z,rfl,-,-⟩:=i.form;obtain⟨j,E⟩:∃j,List.length d=j:=⟨_,rfl⟩;rw[E]at i;simp only[E];clear E;have ae:=B.ext g;have⟨af,R⟩:=jf ae (C.trans g);have ai:=Zy i;have ag:=Zy u.size;obtain⟨zz,z0,-⟩:=ae.ca;have zf:=ae.frozen 0;clear B ae i g C;go_wp2_with fail;refine kk s e R ?_;clear e l;refine Bi ?_;intro l e;go_wp2_with fail;have x:Kp (·=wd) H (H.setCell wd (.slice t j z)):=nH;have X:=R.own x (fun h o=>SX ag.o);refine kk s e X ?_;clear e l;refine kL ?_;go_wp2;go_meet;exact⟨_,_,d,_,_,_,rfl,rfl,af.jy 0 _,ai.keep ja.stays (x.same fun h f o=>f.elim (fun a=>SX ag.o) (fun a=>SX aa.o)) (fun h f=>f.elim (fun a=>a.1) (fun a=>S9 aa.o ag.o aI.o)),L,S.o,X⟩
    obtain⟨U,A,d,t,j,z,rfl,rfl,aK,i,L,y,p⟩:=hcut;have S:=Zy y;clear y;have d1:=p.je V;have bE:=(n.ext p).frozen 0;have dz:=(n.ext p).lt;have d4:=p.je W;have bM:=(HB.ext p).frozen 0;have bF:=(HB.ext p).lt;obtain⟨bR,x6,-⟩:=aK.ca;have⟨aV,aX⟩:=jf (n.ext p) (HB.ext p);have bu:=Zy i;have bn:=Zy L;have aB:=Zy p;have aL:U≠w.heap.size+1\/U=w.heap.size+1:=Zm
    clear V aj cz W bD ak aK i L p s y0 y1;cases A
    . have J:=Zy (fun(m:Int) (D:0<=m) F=>wR (F:=Q c.length) (w:=w) [] (ah.trans aB) (SliceOf.nil _ _ _ _) m D (.inl rfl) F);clear aL;go_wp2_with fail;refine Cv (iY qN rfl w rfl [()] (hH.l7 (aV.jy 0 _)) rfl) rfl ?_;exact J _ Zm _
    . clear aL;go_wp2_with fail;have x:Kp (·=w+1) wc (wc.setCell ⟨w+1,0,none⟩ (.slice t j z)):=nH;go_round
      case rel=>exact⟨b+1,d,_,_,_,Zm,by go_num,aX.o.jy 0 _,bu.o.keep ja.stays (x.same fun h f o=>Zm) (fun _ a=>a),bn.o,S.o rfl,(HK.o.trans aB.o.any).trans x⟩
      case measure=>simp[intOf];omega
  . have dk:¬(b:Int)<c.length:=Zm
    have aM:b=c.length:=Zm
    have aF:=aD;rw[aM]at aF;clear aM;obtain⟨cz,V,-⟩:=n.ca;have aj:=n.frozen 0;obtain⟨ak,W,-⟩:=f.ca;clear f hs av q;obtain⟨p6,bH⟩:∃p6:Nat,p6=P:=⟨_,rfl⟩;go_wp2_with fail;refine(OB k HS).mono ?_;rintro o H ⟨⟨A,rfl⟩,g⟩;have d1:=g.je V;have bE:=(n.ext g).frozen 0;have dz:=(n.ext g).lt;have d4:=g.je W;have bF:=(HB.ext g).lt;have⟨az,R,bg⟩:=jB (n.ext g) (ah.trans g) ((HS.ext ja.stays g).keep (J:=fun h=>w+1<=h) ja.stays (fun _ _ _ _ a=>a) (fun h f=>Zm));clear g V aj cz W ak bH;cases A
    . have J:=Zy (fun(m:Int) (D:0<=m) F=>wR (F:=Q c.length) (w:=w) [] R (SliceOf.nil _ _ _ _) m D (.inl rfl) F);go_wp2_with fail;refine Cv (iY qN rfl w rfl [()] (hH.l7 (az.jy 0 _)) rfl) rfl ?_;exact J _ Zm _
    . have J:=Zy (fun(m:Int) (D:0<=m) F=>wR (F:=Q c.length) (w:=w) k R bg m D (.inr aF) F);go_wp2_with fail;refine Cv (iY qN rfl w rfl [.slice T P Z] (hH.l7 (az.jy 0 _)) rfl) rfl ?_;exact J _ Zm _
theorem yD(w:World)(I:Nat->Prop)(v:Value)(a:List ByteArray)(e:SliceOf 1 kV w I v a)(d:∀f∈a,f.size<=1000000):Calls prog 37 #[v] w fun c b=>Jy (fun _=>True) w b c/\Ext w b:=
 A8 (fun _ _=>True) w I v a e d trivial fun _ _ _ _ _ _ _=>trivial
end Go.Proofs.YtlhgbjbkjalfjaaGreat
