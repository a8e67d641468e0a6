/- Walks. -/
import Derived.Test.YtlhlnddgfcmfkaaGreatRsCoreLh
import Derived.Deep.CutBlock
set_option maxRecDepth 100000
set_option maxHeartbeats 4000000
set_option linter.all false
namespace Go.Proofs.YtlhlnddgfcmfkaaGreat
open Go Go.RowKit Tryz
theorem Jk(w:World)(I:Nat->Prop)(hI:∀c,I c->c<w.heap.size)(x:M.Class){cs:List Value}(j:jv w I x cs){v:Value}(words:List ByteArray)(i:SliceOf 1 kS w I v words)(m:Nat)(e:m<=1000000)(h:∀y∈words,y.size<=m)(b:0<words.length)(line:ByteArray)(n:Nat)(f:n<=1000)(g:rF n x)(t:line.size<=4000000000):Calls prog 139 #[.agg cs.toArray,v,line] w fun s r=>Aw (n+1) (fun c=>I c∨w.heap.size<=c) r s∧Ext w r:=by
 obtain⟨l,k⟩:∃l,words[0]?=some l:=⟨words[0]'b,List.getElem?_eq_getElem b⟩;cases d:(l.toList==[102,105,101,108,100])
 . cases o:(l.toList==[109,101,116,104,111,100])
   . cases q:x.methods.length with
     |zero=>exact EF w I hI x cs j v words i m e h b line n f g (fun p a=>by rw[k]at a;cases a;exact⟨d,o⟩) q
     |succ u=>exact EE w I hI x cs j v words i m e h b line n f g (fun p a=>by rw[k]at a;cases a;exact⟨d,o⟩) t u q
   . exact Cm w I hI x cs j v words i m e h b line n f g (fun p a=>by rw[k]at a;cases a;exact⟨d,o⟩)
 . exact D5 w I hI x cs j v words i m e h b line n f g (fun p a=>by rw[k]at a;cases a;exact d)
theorem qP:Elem 23 90 2:=kN (z:=.agg #[(),()]) (bytes:=48) underlying23 Zo rfl Zn Zn
theorem Ka:Elem 88 97 2:=kN (z:=.agg #["",.int .i64 0]) (bytes:=24) underlying88 Zo rfl Zn Zn
theorem qE:ym 25 1:=⟨_,underlying25,by kernel_rfl⟩
structure SmallK(n:Nat)(k:M.nk):Prop where
 owns:k.owns.length<=n
 asks:k.asks.length<=n
 inner:∀c∈k.owns,rF n c
structure sS(n:Nat)(p:M.hZ):Prop where
 len:p.length<=n
 inner:∀k∈p,SmallK n k
theorem SmallK.more{n:Nat}{k:M.nk}(a:SmallK n k):SmallK (n+1) k:=⟨Nat.le_succ_of_le a.owns,Nat.le_succ_of_le a.asks,fun b c=>(a.inner b c).more⟩
theorem sS.more{n:Nat}{p:M.hZ}(a:sS n p):sS (n+1) p:=⟨Nat.le_succ_of_le a.len,fun c b=>(a.inner c b).more⟩
def O7(x0:ByteArray)(q q':M.nk):Prop:=(q.owns≠[]->q'.owns≠[])∧((x0.toList==[99,108,97,115,115])=true->q'.owns≠[])
def JG(line:ByteArray)(p p':M.hZ):Prop:=((line.toList==[107,101,101,112,101,114])=true->p'=p++[⟨[],[]⟩])∧
 ((line.toList==[107,101,101,112,101,114])=false->∀j q x0,p.length=j+1->p[j]?=some q->(M.words line)[0]?=some x0->p'.length=j+1∧∃q',p'[j]?=some q'∧O7 x0 q q')∧((line.toList==[107,101,101,112,101,114])=false->p≠[])
def GH(p0:M.hZ)(line:ByteArray)(n:Nat)(J:Nat->Prop)(w':World)(e:Ending):Prop:=∃p v b,e=.returned (.tuple #[.agg #[v],.bool b])∧SliceOf 2 jc w' J v p∧sS n p∧(b=true->JG line p0 p)
theorem Ab{w wc:World}{I:Nat->Prop}{p0:M.hZ}{line:ByteArray}(hI:∀b,I b->b<w.heap.size){n:Nat}(p:M.hZ)(i:sS n p){v:Value}(g:Ext w wc)(j:SliceOf 2 jc wc (fun b=>I b∨w.heap.size+2<=b) v p)(b:Bool)(d:Value)(h:b=true->JG line p0 p):GH p0 line n (fun b=>I b∨w.heap.size<=b) (wc.setCell ⟨w+1,0,none⟩ d) (.returned (.tuple #[.agg #[v],.bool b]))∧Ext w (wc.setCell ⟨w+1,0,none⟩ d):=by
 have e:Kp (·=w+1) wc (wc.setCell ⟨w+1,0,none⟩ d):=(Kp.refl (·=w+1) wc).setCell (p:=⟨w+1,0,none⟩) (fun _=>rfl) _;exact⟨⟨p,v,b,rfl,j.keep jc.stays (e.same fun b c f=>c.elim (fun a=>by have:=hI b a;omega) (fun a=>by omega)) fun b c=>c.imp id (fun a=>by omega),i,h⟩,g.own e fun b f=>by omega⟩
theorem D6(w:World)(I:Nat->Prop)(hI:∀a,I a->a<w.heap.size)(v:Value)(p:M.hZ)(y:SliceOf 2 jc w I v p)(line:ByteArray)(hl:line.size<=1000000)(n:Nat)(hn:n<=1000)(V:sS n p)(U:(line.toList==[107,101,101,112,101,114])=true):Calls prog 92 #[.agg #[v],line] w fun s Y=>GH p line (n+1) (fun a=>I a∨w.heap.size<=a) Y s∧Ext w Y:=by
 obtain⟨g,h,rfl,aC,aD⟩:=y.form;obtain⟨f,e⟩:=Ry ((w.alloc (.cells #[.slice g p.length h] 25)).alloc (.cells #[()] 25));have L:Ext w f:=by rw[e];exact kx
 have H:hV f w.heap.size 25 #[.slice g p.length h]:=by rw[e];exact(hV.new _ _ _).ext kx
 have J:hV f (w.heap.size+1) 25 #[()]:=by rw[e];exact hV.Ba _ _ Zl
 have W:f.heap.size=w.heap.size+2:=by rw[e];simp
 have⟨av,ax,HP,D,o,aa,ae,aj⟩:=xJ e W y hI V H J L;clear e W y hI V H J L;go_enter func92,ntmps92;go_upto_region 1 with(fail);rw[<-av.o];go_wp2_with fail;refine(Ao line _ Zm).mono ?_;rintro s d ⟨⟨vw,rfl,hv⟩,i⟩;have q:=aa.o.ext i;have⟨A,af,B⟩:=jy q (ae.o.ext i) (aj.o.trans i);have ay:Zz (w.heap.size+2<=d.heap.size):=Zy (by have:=i.size;have:=ax.o;omega);have au:=Zy (HP.o.ext jc.stays B.o);obtain⟨dz,r,-⟩:=q.ca;obtain⟨K,Q,R,S⟩:=SliceOf.cells One.keep Zn au.o;have⟨ag,ah,ak⟩:=jy Q R S;have aF:p.length<=4000:=by have:=o.o.len;omega
 have HJ:Zz ((∀a,I a->a≠w.heap.size)∧p.length+1<=4294967296):=Zy ⟨fun a c=>by have:=D.o a c;omega,by omega⟩;have HY:Zz (jc d I (⟨[],[]⟩:M.nk) [(),()]):=Zy ⟨_,_,rfl,SliceOf.nil _ _ _ _,SliceOf.nil _ _ _ _⟩;have F:Zz ((d.alloc (.cells #[] 90)).ownsRow d.heap.size 90 2 (.slice (some ⟨d.heap.size,0,none⟩) 0 0) 0 []):=Zy (kG d _ _ _ (Nat.le_refl _) rfl);clear Q R S q i hv;go_upto_region 4 with(fail);go_cut [] (fun wx=>Bu 2 jc d wx I w.heap.size 25 #[.slice g p.length h] 0 (p++[(⟨[],[]⟩:M.nk)]))
 case first=>
  have d1:=r;go_wp2_with (first
   |(refine jJ qP _ rfl (.tmp 23) (.tmp 25) rfl d.heap.size (.slice (some ⟨d.heap.size,0,none⟩) 0 0) 0 [] rfl F.o g p.length h K.flatten rfl (ak.o.ext (jr _)) Zm Zl ?_;intro v9 j u P;rw[Nat.zero_add,List.nil_append]at u;have O:=(jr _:Ext d _).own P (fun a c=>(F.o.lt a c).1);have E:=Zy u;have C:=Zy O;have z:Zz (Ext j (j.alloc (.cells #[(),()] 90))):=Zy (jr _);have ai:Zz (hH (j.alloc (.cells #[(),()] 90)) j.heap.size 0 [(),()]):=Zy (hH.ny _ _ rfl);clear u O P r d1)
   |(refine jo qP rfl (.tmp 26) (.tmp 28) rfl d.heap.size v9 p.length K.flatten rfl (iZ (D:=fun _=>False) E.o z.o fun _ _ _ b=>b) j.heap.size 1 [(),()] rfl rfl ai.o Zt Zm (by have:=C.o.size;simp;omega) ?_;intro g7 c7 w7 aA az _;have N:=(C.o.trans z.o).own az (fun a c=>(E.o.lt a c).1);have x:=A.o.ext N;have aG:=x.c 0 (.slice g p.length h) rfl;have uf:=x.frozen 0;have uz:=x.lt))
  go_meet;exact oF jc.stays Zm aA ag.o ah.o HY.o rfl N HJ.o A.o 0
 obtain⟨v',k,c,t⟩:=hcut;obtain⟨G,X,rfl,-,-⟩:=k.form;obtain⟨l,T⟩:∃l,(p++[(⟨[],[]⟩:M.nk)]).length=l:=⟨_,rfl⟩;rw[T]at k c;clear T;have c:hV wc w.heap.size 25 #[.slice G l X]:=c;have⟨m,Z⟩:=je (af.o.kp t Zm) (fun a v0=>Ab (p0:=p) (line:=line) D.o (n:=n+1) (p++[(⟨[],[]⟩:M.nk)]) ⟨by simpa using o.o.len,fun aB hk=>(List.mem_append.1 hk).elim (fun b=>(o.o.inner aB b).more) (fun b=>by simp only[List.mem_singleton]at b;subst b;exact⟨by simp,by simp,by simp⟩)⟩ (B.o.own t (fun a s=>by omega)) (k.keep jc.stays (fun _ _ _ _ b=>b) (fun a c=>c.imp id (fun b=>by have:=ay.o;omega))) a v0 (fun _=>⟨fun _=>rfl,(fun b=>by rw[U]at b;cases b),(fun b=>by rw[U]at b;cases b)⟩));obtain⟨ez,e0,-⟩:=c.ca;clear k c t r dz;obtain⟨gz,g0,-⟩:=m.o.ca;have k0:=m.o.frozen 0;go_wp2_with fail;refine bodyPost_ret (ja qE rfl (w.heap.size+1) rfl [.slice G l X] (hH.lV (m.o.jk 0 _)) rfl) rfl ?_;exact Z.o _ _
theorem Gr(w:World)(I:Nat->Prop)(hI:∀a,I a->a<w.heap.size)(v:Value)(p:M.hZ)(j:SliceOf 2 jc w I v p)(line:ByteArray)(hl:line.size<=1000000)(n:Nat)(W:n<=1000)(r:sS n p)(X:(line.toList==[107,101,101,112,101,114])=false)(h0:p.length=0):Calls prog 92 #[.agg #[v],line] w fun o t=>GH p line (n+1) (fun a=>I a∨w.heap.size<=a) t o∧Ext w t:=by
 have T:((p.length:Int)==0)=true:=by simp[h0]
 clear h0;obtain⟨f,h,rfl,U,V⟩:=j.form;obtain⟨c,b⟩:=Ry ((w.alloc (.cells #[.slice f p.length h] 25)).alloc (.cells #[()] 25));have q:Ext w c:=by rw[b];exact kx
 have l:hV c w 25 #[.slice f p.length h]:=by rw[b];exact(hV.new _ _ _).ext kx
 have m:hV c (w+1) 25 #[()]:=by rw[b];exact hV.Ba _ _ Zl
 have s:c.heap.size=w+2:=by rw[b];simp
 have⟨F,G,C,B,E,x,y,A⟩:=xJ b s j hI r l m q;clear b s j hI r l m q;go_enter func92,ntmps92;go_upto_region 1 with(fail);rw[<-F.o];go_wp2_with fail;refine(Ao line _ Zm).mono ?_;rintro o L ⟨⟨Z,rfl,J⟩,d⟩;have g:=x.ext d;have⟨N,z,k⟩:=jy g (y.ext d) (A.trans d);have O:Zz ((w:Nat)+2<=(L:Nat)):=Zy (by have:=d.size;have:=G.o;omega);have D:=Zy (C.ext jc.stays k);obtain⟨Q,P,-⟩:=g.ca;have e:=z;have u:=Zy (fun a K=>Ab (p0:=p) (line:=line) B (n:=n+1) p E.more k (D.keep jc.stays (fun _ _ _ _ i=>i) (fun a H=>.inl H)) a K);clear g d J;obtain⟨S,R,-⟩:=e.ca;have Y:=e.frozen 0;go_wp2_with fail;refine bodyPost_ret (ja qE rfl (w+1) rfl [.slice f p.length h] (hH.lV (e.jk 0 _)) rfl) rfl ?_;exact u _ _ (fun i=>by cases i)
theorem Jl(w:World)(I:Nat->Prop)(hI:∀a,I a->a<w.heap.size)(v:Value)(p:M.hZ)(hp:SliceOf 2 jc w I v p)(line:ByteArray)(hl:line.size<=1000000)(n:Nat)(hn:n<=1000)(aT:sS n p)(hq:(line.toList==[107,101,101,112,101,114])=false)(j:Nat)(hj:p.length=j+1):Calls prog 92 #[.agg #[v],line] w fun k w'=>GH p line (n+1) (fun a=>I a∨w.heap.size<=a) w' k∧Ext w w':=by
 have fC:((p.length:Int)==0)=false:=beq_eq_false_iff_ne.2 Zm;obtain⟨e,bJ⟩:∃e,p[j]?=some e:=⟨p[j]'Zm,List.getElem?_eq_getElem Zm⟩;have fU:p.length<=4000:=by have:=aT.len;omega
 have fO:j<=4000:=by omega
 have fV:((p.length:Nat):Int) - 1=(j:Int):=by omega
 have fZ:IntKind.i64.wrap (((p.length:Nat):Int) - 1)=(j:Int):=by rw[IntWalk.i64_in _ Zm];omega
 have fK:(0:Int)<=(j:Int):=by omega
 have fM:(j:Int)<p.length:=by omega
 have⟨aF,bQ,D⟩:=jy hj bJ (aT.inner e (List.mem_of_getElem? bJ));clear hj bJ;obtain⟨bT,u,rfl,fE,fF⟩:=hp.form;obtain⟨w0,aD⟩:=Ry ((w.alloc (.cells #[.slice bT p.length u] 25)).alloc (.cells #[()] 25));have bV:Ext w w0:=by rw[aD];exact kx
 have b2:hV w0 w 25 #[.slice bT p.length u]:=by rw[aD];exact(hV.new _ _ _).ext kx
 have b4:hV w0 (w+1) 25 #[()]:=by rw[aD];exact hV.Ba _ _ Zl
 have dx:w0.heap.size=w+2:=by rw[aD];simp
 have⟨dX,bS,HP,HI,bn,dC,dE,dK⟩:=xJ aD dx hp hI aT b2 b4 bV;clear aD dx hp hI aT b2 b4 bV;go_enter func92,ntmps92;go_upto_region 1 with(fail);rw[<-dX.o];go_wp2_with fail;refine(Ao line _ Zm).mono ?_;rintro k h ⟨⟨vw,rfl,hv⟩,aI⟩;have bC:=dC.ext aI;have⟨dD,dF,bO⟩:=jy bC (dE.ext aI) (dK.trans aI);have Y:Zz ((w:Nat)+2<=(h:Nat)):=Zy (by have:=aI.size;have:=bS.o;omega);have bg:=Zy (HP.ext jc.stays bO);obtain⟨dz,d0,-⟩:=bC.ca;obtain⟨bq,oq,ks,rfl,-,eF,-,cu⟩:=bg.get bQ;obtain⟨vo,va,rfl,hO,E⟩:=eF;obtain⟨oa,oc,rfl,-,-⟩:=hO.form;obtain⟨aa,ac,rfl,-,-⟩:=E.form;obtain⟨s0,s1⟩:=cu.two;obtain⟨w2,aU⟩:=Ry (h.alloc (.cells #[.slice oa e.owns.length oc,.slice aa e.asks.length ac] 90));have af:Ext h w2:=by rw[aU];exact Zx
 have b8:hV w2 h 90 #[.slice oa e.owns.length oc,.slice aa e.asks.length ac]:=by rw[aU];exact hV.new _ _ _
 have aQ:∀a,I a->(fun a=>(I a∨w.heap.size+2<=a)∧a≠h.heap.size) a:=fun a c=>⟨.inl c,by have:=HI.o a c;have:=Y.o;omega⟩;obtain⟨l,eU,rfl,-,-⟩:=hv.form;obtain⟨x0,aV⟩:∃x0,(M.words line)[0]?=some x0:=by
  obtain⟨C,gu,k⟩:=M.zG line;exact⟨C,by rw[k];rfl⟩
 have dZ:=Zy aV;obtain⟨bw,ow,rfl,gw⟩:=kS.at_ hv aV;simp only[Nat.add_zero]at gw;have aH:=af.jb gw;have bA:Zz (SliceOf 1 kS w2 (fun a=>(I a∨w.heap.size+2<=a)∧a≠h.heap.size) (.slice (some ⟨bw,ow,none⟩) (M.words line).length eU) (M.words line)):=Zy (hv.keep kS.stays (Ext.same af) (fun a c=>⟨.inr (by have:=bS.o;omega),by omega⟩));have⟨aN,aX⟩:=je (hO.keep jv.stays (Ext.same af) aQ) (E.keep rW.stays (Ext.same af) aQ);have dm:∀dA∈M.words line,dA.size<=line.size:=fun dA hu=>M.Io hu;have dn:=(List.getElem?_eq_some_iff.1 aV).1;have⟨bu,dY⟩:=je dm dn;have cO:=bg.take (i:=j) (by have:=aF.o;omega);have⟨dR,bz,aZ,bM,bN,bP⟩:=nZ (cO.keep jc.stays (Ext.same af) aQ) (show(p.take j).length=j by have:=aF.o;rw[List.length_take];omega) b8 (dD.o.ext af) (dF.o.ext af) (bO.o.trans af);have Z:=Zy b8.lt;have bR:=Zy aU;obtain⟨ez,e0,e1,-⟩:=b8.ca;have wz:=iY aH;have fT:e.owns.length<=4000:=by have:=D.owns;omega
 have fD:e.asks.length<=4000:=by have:=D.asks;omega
 have F:Zz ((∀a,(fun a=>(I a∨w.heap.size+2<=a)∧a≠h.heap.size) a->a≠h.heap.size)):=Zy (fun a c=>c.2);clear bC aI hv aU af b8 aQ aV dm dn cu hO E cO gw;go_upto_region 10 with(fail);rw[<-bR.o];go_upto_block 0 with(fail);go_cut [9] (fun s9 wx=>(∃a,s9=.bool a)∧∃q' P R S G H J,jc wx (fun a=>(I a∨w.heap.size+2<=a)∧a≠h.heap.size) q' [.slice P R S,.slice G H J]∧SmallK (n+1) q'∧O7 x0 e q'∧hV wx h 90 #[.slice P R S,.slice G H J]∧Kp (·=h) w2 wx)
 case first=>
  clear s0 s1 d0 dz;cases h1:(x0.toList==[97,115,107,115]);rotate_left
  . go_wp2_with fail;refine(Gp (M.words line) line.size Zm bA bu).mono ?_;rintro k W ⟨⟨V,k1,ok,rfl,-⟩,ai⟩;obtain⟨d,z⟩:=Ry (W.alloc (.cells #[V,k1] 97));have ag:Ext W d:=by rw[z];exact Zx
    have b9:hV d W 97 #[V,k1]:=by rw[z];exact hV.new _ _ _
    have q:=ai.trans ag;have⟨bf,aY⟩:=je (aN.ext jv.stays q) (aX.ext rW.stays q);have X:=aZ.ext q;have⟨t,T⟩:=je X q;obtain⟨eB,aK,ay,aJ⟩:=SliceOf.cells One.ask Zn aY;have⟨au,av,ax⟩:=jy aK ay aJ;have F:Zz ((∀a,(fun a=>(I a∨w.heap.size+2<=a)∧a≠h.heap.size) a->a≠h.heap.size)∧e.asks.length+1<=4294967296):=Zy ⟨F,by omega⟩;have HY:Zz (rW d (fun a=>(I a∨w.heap.size+2<=a)∧a≠h.heap.size) (⟨V,k1⟩:M.Ask) [V,k1]):=Zy (rfl);have⟨bB,aG⟩:=je (hH.lV b9) z;obtain⟨pz,p0,-⟩:=X.ca;clear ai ag q z aK ay aJ b9 X e0 e1 ez aH wz;go_upto_region 18 with(fail);rw[<-aG.o];go_cut [9] (fun s9 wx=>(∃a,s9=.bool a)∧wx=d)
    case first=>
     by_cases bH:e.owns.length=0
     . have eG:((e.owns.length:Int)==0)=true:=by simp[bH]
       clear bH;cases ok
       . go_wp2_with fail;go_meet;exact⟨⟨_,rfl⟩,rfl⟩
       . go_wp2_with fail;go_meet;exact⟨⟨_,rfl⟩,rfl⟩
     . have eG:((e.owns.length:Int)==0)=false:=beq_eq_false_iff_ne.2 Zm;clear bH;cases ok
       . go_wp2_with fail;go_meet;exact⟨⟨_,rfl⟩,rfl⟩
       . go_wp2_with fail;go_meet;exact⟨⟨_,rfl⟩,rfl⟩
    obtain⟨⟨gp,rfl⟩,ah⟩:=hcut;rw[ah];clear ah p0 pz;go_upto_region 19 with(fail);refine J5 [83,84,85,86,87,88,89,90] 1 Ka zJ t rfl bB ax Zm ?_;intro eT g9 c9 wr o A;have m:=t.ext o;obtain⟨zX,-,vX,-⟩:=m.ca;have fX:=m.frozen 1;have E:=oF (R:=rW) rW.stays Zm A au av HY rfl o F t 1;clear A m;go_wp2_with fail;go_meet;obtain⟨v',y,c,L⟩:=E;obtain⟨a6,m6,rfl,-,-⟩:=y.form;replace y:=y.keep (J:=(fun a=>(I a∨w.heap.size+2<=a)∧a≠h.heap.size)) rW.stays (fun _ _ _ _ b=>b) (fun a c=>c.elim id (fun b=>⟨.inr (by have:=T.size;have:=Z.o;have:=Y.o;omega),by have:=T.o.size;have:=Z.o;omega⟩));exact⟨⟨_,rfl⟩,⟨e.owns,(e.asks++[(⟨V,k1⟩:M.Ask)])⟩,_,_,_,_,_,_,⟨_,_,rfl,bf.keep jv.stays (L.same F.1) (fun _ b=>b),y⟩,⟨D.more.owns,by simpa using D.o.asks,D.o.more.inner⟩,⟨fun b=>b,fun b=>by rw[beq_iff_eq]at b h1;rw[b]at h1;cases h1⟩,c,T.o.any.trans L⟩
  cases h2:(x0.toList==[99,108,97,115,115]);rotate_left
  . go_wp2_with fail;refine(EC (M.words line) line.size bA bu).mono ?_;rintro k W ⟨⟨V,s1,ok,rfl,-,-⟩,ai⟩;obtain⟨d,z⟩:=Ry (W.alloc (.cells #[V,s1,(),()] 95));have ag:Ext W d:=by rw[z];exact Zx
    have b9:hV d W 95 #[V,s1,(),()]:=by rw[z];exact hV.new _ _ _
    have q:=ai.trans ag;have⟨bf,aY⟩:=je (aN.ext jv.stays q) (aX.ext rW.stays q);have X:=aZ.ext q;have⟨t,T⟩:=je X q;obtain⟨eB,aK,ay,aJ⟩:=SliceOf.cells One.cls Zn bf;have⟨au,av,ax⟩:=jy aK ay aJ;have F:Zz ((∀a,(fun a=>(I a∨w.heap.size+2<=a)∧a≠h.heap.size) a->a≠h.heap.size)∧e.owns.length+1<=4294967296):=Zy ⟨F,by omega⟩;have HY:Zz (jv d (fun a=>(I a∨w.heap.size+2<=a)∧a≠h.heap.size) (⟨V,s1,[],[]⟩:M.Class) [V,s1,(),()]):=Zy (⟨_,_,rfl,SliceOf.nil _ _ _ _,SliceOf.nil _ _ _ _⟩);have⟨bB,aG⟩:=je (hH.lV b9) z;clear ai ag q z aK ay aJ b9 X e0 e1 ez aH wz;go_upto_region 23 with(fail);rw[<-aG.o];refine J5 [99,100,101,102,103,104,105,106] 0 uu tY t rfl bB ax Zm ?_;intro eT g9 c9 wr o A;have m:=t.ext o;obtain⟨zX,vX,-⟩:=m.ca;have fX:=m.frozen 0;have E:=oF (R:=jv) jv.stays Zm A au av HY rfl o F t 0;clear A m;go_wp2_with fail;go_meet;obtain⟨v',y,c,L⟩:=E;obtain⟨a6,m6,rfl,-,-⟩:=y.form;replace y:=y.keep (J:=(fun a=>(I a∨w.heap.size+2<=a)∧a≠h.heap.size)) jv.stays (fun _ _ _ _ b=>b) (fun a c=>c.elim id (fun b=>⟨.inr (by have:=T.size;have:=Z.o;have:=Y.o;omega),by have:=T.o.size;have:=Z.o;omega⟩));exact⟨⟨_,rfl⟩,⟨(e.owns++[(⟨V,s1,[],[]⟩:M.Class)]),e.asks⟩,_,_,_,_,_,_,⟨_,_,rfl,y,aY.keep rW.stays (L.same F.1) (fun _ b=>b)⟩,⟨by simpa using D.o.owns,D.o.more.asks,fun u hc=>(List.mem_append.1 hc).elim (D.o.more.inner u) (fun b=>by simp only[List.mem_singleton]at b;subst b;exact⟨by simp,by simp,by simp⟩)⟩,⟨fun _=>by simp,fun _=>by simp⟩,c,T.any.trans L⟩
  by_cases bI:e.owns.length=0
  . have eO:((e.owns.length:Int)==0)=true:=by simp[bI]
    have ak:=bN;have aW:=Zy (fun a v0=>Ab (p0:=p) (line:=line) HI (n:=n+1) p bn.more bP ((bg.ext jc.stays (by have:=bR.o;rw[this];exact jr _)).keep jc.stays (fun _ _ _ _ b=>b) (fun a c=>.inl c)) a v0);obtain⟨dz,d0,-⟩:=bM.ca;clear bI;obtain⟨gz,g0,-⟩:=ak.ca;have k0:=ak.frozen 0;go_wp2_with fail;refine bodyPost_ret (ja qE rfl (w+1) rfl [.slice (some ⟨bq,oq,none⟩) p.length u] (hH.lV (ak.jk 0 _)) rfl) rfl ?_;exact aW _ _ (fun b=>by cases b)
  . have eO:((e.owns.length:Int)==0)=false:=beq_eq_false_iff_ne.2 Zm;obtain⟨i,hi⟩:∃i,e.owns.length=i+1:=⟨e.owns.length - 1,by omega⟩;obtain⟨aj,hx⟩:∃aj,e.owns[i]?=some aj:=⟨e.owns[i]'Zm,List.getElem?_eq_getElem Zm⟩;have fI:((e.owns.length:Nat):Int) - 1=(i:Int):=by omega
    have fJ:IntKind.i64.wrap (((e.owns.length:Nat):Int) - 1)=(i:Int):=by rw[IntWalk.i64_in _ Zm];omega
    have fG:(0:Int)<=(i:Int):=by omega
    have fH:(i:Int)<e.owns.length:=by omega
    obtain⟨bx,ox,cs,rfl,-,bF,-,cz⟩:=aN.get hx;obtain⟨xa,xb,xc,xd,rfl⟩:=bF.form;obtain⟨t0,t1,t2,t3⟩:=cz.four;have⟨dJ,dV⟩:=je bF (D.inner aj (List.mem_of_getElem? hx));have dO:Zz (e.owns≠[]):=Zy (fun k=>by rw[k]at hi;simp at hi);have fP:=D.owns;clear bI hi hx bF cz;go_wp2_with fail;refine(Jk w2 (fun a=>(fun a=>(I a∨w.heap.size+2<=a)∧a≠h.heap.size) a∧a<w2.heap.size) (fun _ b=>b.2) aj (jv.inside dJ) (M.words line) (bA.inside (fun _ _ _ _ b=>b) Zm) line.size Zm bu dY line n hn dV Zm).mono ?_;rintro k W ⟨⟨C,fw,ok,rfl,hy,di⟩,ai⟩;obtain⟨ya,yb,yc,yd,rfl⟩:=hy.form;obtain⟨d,z⟩:=Ry (W.alloc (.cells #[C.name,C.jl,.slice ya C.fields.length yb,.slice yc C.methods.length yd] 95));have ag:Ext W d:=by rw[z];exact Zx
    have bU:hV d W 95 #[C.name,C.jl,.slice ya C.fields.length yb,.slice yc C.methods.length yd]:=by rw[z];exact hV.new _ _ _
    have q:=ai.trans ag;have X:=aZ.ext q;have dw:=jv.stays _ _ _ _ _ _ (Ext.same ag) (fun a c=>c.elim (fun b=>b.1) (fun b=>⟨.inr (by have:=Z.o;have:=Y.o;omega),by have:=Z.o;omega⟩)) hy;have⟨ed,dS,dH,T,aG,dW⟩:=nZ (jv.inside dw) (jc.inside ⟨_,_,rfl,aN.ext jv.stays q,aX.ext rW.stays q⟩) X q z di;obtain⟨vz,v0,v1,-⟩:=X.ca;obtain⟨fo,eX,eY,eZ,fe,-⟩:=bU.ca;clear ai ag q bU X hy dw z e0 e1 ez aH wz t0 t1 t2 t3 di;go_upto_region 15 with(fail);rw[<-aG.o];go_wp2_with fail;refine(Lh d (fun a=>(fun a=>(I a∨w.heap.size+2<=a)∧a≠h.heap.size) a∧a<d.heap.size) (fun _ b=>b.2) e dS C ed dO Zm).mono ?_;rintro k w6 ⟨⟨gm,rfl,eH⟩,bG⟩;obtain⟨gH,gG,rfl,aS,bE⟩:=eH;obtain⟨l1,l2,rfl,-,-⟩:=aS.form;obtain⟨l3,l4,rfl,-,-⟩:=bE.form;obtain⟨ln,aC⟩:∃ln,(e.owns.dropLast++[C]).length=ln:=⟨_,rfl⟩;rw[aC]at aS;simp only[aC];have aO:=dH.ext bG;have dI:=Zy aO;obtain⟨uz,gy,gB,-⟩:=aO.ca;obtain⟨gD,gF,-⟩:=aO.fz;have⟨dQ,dB,dL⟩:=jy aS bE (T.trans bG);clear aO aS bE bG v0 v1 vz eX eY eZ fe fo aC;go_wp2_with fail;go_meet;have hP:Kp (·=h) w6 ((w6.setCell h (.slice l1 ln l2)).setCell (h,1) (.slice l3 e.asks.length l4)):=Kp.DU (D:=(·=h)) rfl _ _;have aR:∀a,(((fun a=>(I a∨w.heap.size+2<=a)∧a≠h.heap.size) a∧a<d.heap.size)∨d.heap.size<=a)->(fun a=>(I a∨w.heap.size+2<=a)∧a≠h.heap.size) a:=fun a c=>c.elim (fun b=>b.1) (fun b=>⟨.inr (by have:=T.size;have:=Z.o;have:=Y.o;omega),by have:=T.o.size;have:=Z.o;omega⟩);have ay:∀u∈e.owns.dropLast++[C],rF (n+1) u:=fun u hc=>(List.mem_append.1 hc).elim (fun b=>D.more.inner u (List.dropLast_subset _ b)) (fun b=>by simp only[List.mem_singleton]at b;subst b;exact dW);exact⟨⟨_,rfl⟩,⟨e.owns.dropLast++[C],e.asks⟩,_,_,_,_,_,_,⟨_,_,rfl,dQ.keep jv.stays (hP.same fun a c=>(aR a c).2) aR,dB.keep rW.stays (hP.same fun a c=>(aR a c).2) aR⟩,⟨by have:=D.owns;simp;omega,D.o.more.asks,ay⟩,⟨fun _=>by simp,fun b=>by rw[h2]at b;cases b⟩,hV.DU dI.o _ _,dL.o.any.trans hP⟩
 obtain⟨⟨gq,rfl⟩,q',P,R,S,G,H,J,cZ,dh,cK,bX,aB⟩:=hcut;have dN:=Zy cK;obtain⟨d,rfl⟩:∃d,d=wc:=⟨_,rfl⟩;have bW:=dR.keep jc.stays (aB.same fun a c=>c.2) (J:=(fun a=>I a∨w.heap.size+2<=a)) (fun a c=>c.1);obtain⟨az,bY,bZ,cB⟩:=SliceOf.cells One.keep Zn bW;have bD:=bM.kp aB (by have:=Y.o;omega);have⟨au,av,ax,t,dG,dM⟩:=nZ bY bZ cB bD (bN.kp aB (by have:=Y.o;omega)) (bP.o.own aB (fun a k=>by have:=Y.o;omega));replace F:Zz ((∀a,(fun a=>I a∨w.heap.size+2<=a) a->a≠w.heap.size)∧(p.take j).length+1<=4294967296):=Zy ⟨fun a c=>c.elim (fun b=>by have:=HI.o a b;omega) (fun b=>by omega),by have:=bz.o;omega⟩;have HY:=Zy (jc.stays _ _ _ _ _ _ (fun _ _ _ _ b=>b) (fun a c=>c.1) cZ);have dU:=Zy dh;have ek:=Zy aB.size;obtain⟨fu,fA,fQ,HT⟩:=kY d;have r0:=fun bK=>(bD.ext (HT.jm bK)).c 0 (.slice (some ⟨bq,oq,none⟩) p.length u) rfl;obtain⟨-,y0,y1,-⟩:=hV.lL fun bK=>(bX.ext (HT.jm bK));have r:=Zy HT;clear bW bY bZ cB bD cZ dh cK bX aB HT d0 dz e0 e1 ez aH wz s0 s1;go_upto_region 24 with(fail);go_cut [] (fun wx=>Bu 2 jc d wx (fun a=>I a∨w.heap.size+2<=a) w 25 #[.slice (some ⟨bq,oq,none⟩) p.length u] 0 (p.take j++[q']))
 case first =>
  refine qA r 10 (.two [1,2,3,4,5,7] 0 8 (.two [] 6 8 (.one [] 8 (.one [] 9 (.fin []))) (.one [] 6 (.one [] 9 (.fin [])))) (.one [] 0 (.one [] 6 (.one [] 9 (.fin []))))) ?_ ?_
  . exact jf
  refine two [_,_,_,_,_,_] rfl rfl rfl fun eu L=>?_;(repeat (go_big_quiet_step (fail)));((refine Gf L (fun g f=>?_) fun g f=>?_)<;>clear L eu)
  . have aA:Ext d d.drew:=jf;generalize d.drew=wd at aA ⊢;go_wp2_with fail;obtain⟨l,N⟩:∃ww,ww=wd.alloc (.cells #[] 90):=⟨_,rfl⟩;have ae:Ext d l:=aA.trans (by rw[N];exact jr _);have Q:l.ownsRow d 90 2 (.slice (some ⟨wd,0,none⟩) 0 0) 0 []:=by rw[N];exact kG wd _ _ _ aA.size rfl
    have bL:Zz ((l:Nat)=wd+1):=Zy (by rw[N];simp);rw[<-N];clear N;refine kk r f ae ?_;clear f g;refine EG rfl rfl (fun g f=>?_) fun g f=>?_
    . skip;refine jJ qP _ rfl (.tmp 107) (.tmp 112) rfl d (.slice (some ⟨wd,0,none⟩) 0 0) 0 [] rfl Q (some ⟨bq,oq,none⟩) j u az.flatten rfl (ax.ext ae) Zm ae.size ?_;intro v9 B s eQ;rw[Nat.zero_add,List.nil_append]at s;have K:=ae.own eQ (fun a c=>(Q.lt a c).1);change g _ _;refine kk r f K ?_;clear f g;refine jZ rfl fun g f=>?_;go_wp2_with fail;obtain⟨wc,ah⟩:∃ww,ww=B.alloc (.cells #[.slice P R S,.slice G H J] 90):=⟨_,rfl⟩;have U:Ext d wc:=K.trans (by rw[ah];exact jr _);have eD:Ext B wc:=by rw[ah];exact jr _
      have x:hH wc B 0 [.slice P R S,.slice G H J]:=by rw[ah];exact hH.ny _ _ rfl
      have gI:Zz ((wc:Nat)=B+1):=Zy (by rw[ah];simp);rw[<-ah];clear ah;refine kk r f U ?_;clear f g;have s:=iZ (D:=fun _=>False) s eD fun _ _ _ aj=>aj;refine jZ rfl fun g f=>?_;refine jo qP rfl (.tmp 113) (.tmp 115) rfl d v9 j az.flatten rfl s B 1 [.slice P R S,.slice G H J] rfl rfl x Zt Zm U.size ?_;intro g9 c9 wf A aM _;have o:=U.own aM (fun a c=>(s.lt a c).1);change g _ _;refine kk r f o ?_;clear f g;refine kM ?_;have m:=t.ext o;obtain⟨zX,vX,-⟩:=m.ca;have fX:=m.frozen 0;have E:=oF (R:=jc) jc.stays Zm A au av HY rfl o F t 0;clear x Q s A r m;go_wp2_with fail;go_meet;exact E
    . skip;go_wp2_with fail;obtain⟨B,O⟩:∃ww,ww=l.alloc (.cells #[.slice P R S,.slice G H J] 90):=⟨_,rfl⟩;have K:Ext d B:=ae.trans (by rw[O];exact jr _);have aP:Ext l B:=by rw[O];exact jr _
      have x:hH B l 0 [.slice P R S,.slice G H J]:=by rw[O];exact hH.ny _ _ rfl
      have fq:Zz ((B:Nat)=l+1):=Zy (by rw[O];simp);rw[<-O];clear O;refine kk r f K ?_;clear f g;have Q:=iZ (D:=fun _=>False) Q aP fun _ _ _ aj=>aj;refine jZ rfl fun g f=>?_;refine jJ qP _ rfl (.tmp 107) (.tmp 112) rfl d (.slice (some ⟨wd,0,none⟩) 0 0) 0 [] rfl Q (some ⟨bq,oq,none⟩) j u az.flatten rfl (ax.ext K) Zm K.size ?_;intro v9 wc s aL;rw[Nat.zero_add,List.nil_append]at s;have U:=K.own aL (fun a c=>(Q.lt a c).1);have x:=x.kp aL (fun k=>by simp[Value.ownBlock]at k;have:=bL.o;omega);change g _ _;refine kk r f U ?_;clear f g;refine jZ rfl fun g f=>?_;refine jo qP rfl (.tmp 113) (.tmp 115) rfl d v9 j az.flatten rfl s l 1 [.slice P R S,.slice G H J] rfl rfl x Zt Zm U.size ?_;intro g9 c9 wf A aM _;have o:=U.own aM (fun a c=>(s.lt a c).1);change g _ _;refine kk r f o ?_;clear f g;refine kM ?_;have m:=t.ext o;obtain⟨zX,vX,-⟩:=m.ca;have fX:=m.frozen 0;have E:=oF (R:=jc) jc.stays Zm A au av HY rfl o F t 0;clear x Q s A r m;go_wp2_with fail;go_meet;exact E
  . have aA:Ext d d.drew:=jf;generalize d.drew=wd at aA ⊢;go_wp2_with fail;obtain⟨l,N⟩:∃ww,ww=wd.alloc (.cells #[.slice P R S,.slice G H J] 90):=⟨_,rfl⟩;have ae:Ext d l:=aA.trans (by rw[N];exact jr _);have fB:Ext wd l:=by rw[N];exact jr _
    have x:hH l wd 0 [.slice P R S,.slice G H J]:=by rw[N];exact hH.ny _ _ rfl
    have bL:Zz ((l:Nat)=wd+1):=Zy (by rw[N];simp);rw[<-N];clear N;refine kk r f ae ?_;clear f g;refine jZ rfl fun g f=>?_;go_wp2_with fail;obtain⟨B,O⟩:∃ww,ww=l.alloc (.cells #[] 90):=⟨_,rfl⟩;have aP:Ext l B:=by rw[O];exact jr _
    have K:=ae.trans aP;have Q:B.ownsRow d 90 2 (.slice (some ⟨l,0,none⟩) 0 0) 0 []:=by rw[O];exact kG l _ _ _ ae.size rfl
    have fq:Zz ((B:Nat)=l+1):=Zy (by rw[O];simp);rw[<-O];clear O;refine kk r f K ?_;clear f g;have x:=x.ext aP;refine jZ rfl fun g f=>?_;refine jJ qP _ rfl (.tmp 107) (.tmp 112) rfl d (.slice (some ⟨l,0,none⟩) 0 0) 0 [] rfl Q (some ⟨bq,oq,none⟩) j u az.flatten rfl (ax.ext K) Zm K.size ?_;intro v9 wc s aL;rw[Nat.zero_add,List.nil_append]at s;have U:=K.own aL (fun a c=>(Q.lt a c).1);have x:=x.kp aL (fun k=>by simp[Value.ownBlock]at k;have:=bL.o;omega);change g _ _;refine kk r f U ?_;clear f g;refine jZ rfl fun g f=>?_;refine jo qP rfl (.tmp 113) (.tmp 115) rfl d v9 j az.flatten rfl s wd 1 [.slice P R S,.slice G H J] rfl rfl x Zt Zm U.size ?_;intro g9 c9 wf A aM _;have o:=U.own aM (fun a c=>(s.lt a c).1);change g _ _;refine kk r f o ?_;clear f g;refine kM ?_;have m:=t.ext o;obtain⟨zX,vX,-⟩:=m.ca;have fX:=m.frozen 0;have E:=oF (R:=jc) jc.stays Zm A au av HY rfl o F t 0;clear x Q s A r m;go_wp2_with fail;go_meet;exact E
 obtain⟨v',y,c,L⟩:=hcut;obtain⟨a6,m6,rfl,-,-⟩:=y.form;obtain⟨ln,aC⟩:∃ln,(p.take j++[q']).length=ln:=⟨_,rfl⟩;rw[aC]at y c;clear aC;have c:hV wc w 25 #[.slice a6 ln m6]:=c;have ak:=Zy (dG.kp L Zm);have df:sS (n+1) (p.take j++[q']):=⟨by have:=bz.o;have:=bn.len;have:=aF.o;simp;omega,fun eP hk=>(List.mem_append.1 hk).elim (fun b=>(bn.o.inner eP (List.mem_of_mem_take b)).more) (fun b=>by simp only[List.mem_singleton]at b;subst b;exact dU)⟩;have dP:Zz ((line.toList==[107,101,101,112,101,114])=false->p≠[]):=Zy (fun _ k=>by have:=aF.o;rw[k]at this;cases this);have aW:=Zy (fun a v0=>Ab (p0:=p) (line:=line) HI (n:=n+1) _ df (dM.own L (fun a k=>by omega)) (y.keep jc.stays (fun _ _ _ _ b=>b) (fun a c=>c.elim id (fun b=>.inr (by have:=ek.o;have:=Z.o;have:=Y.o;omega)))) a v0 (fun _=>⟨(fun b=>by rw[hq]at b;cases b),fun _ j2 q2 y0 e1 e2 e3=>by
  have:=aF.o;obtain rfl:j2=j:=by omega
  obtain rfl:q2=e:=by have:=bQ.o;rw[this]at e2;injection e2 with k;exact k.symm
  obtain rfl:y0=x0:=by have:=dZ.o;rw[this]at e3;injection e3 with k;exact k.symm
  have ht:=bz.o;exact⟨by simp[ht],q',by rw[List.getElem?_append_right Zm,ht,Nat.sub_self];rfl,dN⟩,dP⟩))
 obtain⟨ez,e0,-⟩:=c.ca;clear y c L df r r0 y0 y1;obtain⟨gz,g0,-⟩:=ak.ca;have k0:=ak.frozen 0;go_wp2_with fail;refine bodyPost_ret (ja qE rfl (w+1) rfl [.slice a6 ln m6] (hH.lV (ak.jk 0 _)) rfl) rfl ?_;exact aW _ _
theorem Fp{w:World}{I:Nat->Prop}(hI:∀a,I a->a<w.heap.size){v:Value}(p:M.hZ)(d:SliceOf 2 jc w I v p)(line:ByteArray)(hl:line.size<=1000000)(n:Nat)(c:n<=1000)(e:sS n p):Calls prog 92 #[.agg #[v],line] w fun h g=>GH p line (n+1) (fun a=>I a∨w.heap.size<=a) g h∧Ext w g:=by
 cases b:(line.toList==[107,101,101,112,101,114])
 . cases f:p.length with
   |zero=>exact Gr w I hI v p d line hl n c e b f
   |succ i=>exact Jl w I hI v p d line hl n c e b i f
 . exact D6 w I hI v p d line hl n c e b
def JW(v:Value):Bool:=match v with
 | .string s=>decide (s.size<=20)
 |_=>false
def Pe(v:Value):Bool:=match v with
 | .int .i64 n=>decide (-10000<=n)&&decide (n<=10000)
 |_=>false
theorem qG{w:World}{b k:Nat}{t:TypeId}{cs:Array Value}(f:hV w b t cs)(g:k<cs.size)(e:cs.toList.all JW=true):∃c:ByteArray,w.cell? (b,k)=some (.string c)∧c.size<=20:=by
 have d:=f.cell k;rw[Array.getElem?_eq_getElem g]at d;have a:=List.all_eq_true.1 e cs[k] Zl;unfold JW at a;split at a
 . rename_i c h;exact⟨c,by rw[d,h],by simpa using a⟩
 . cases a
theorem uK{w:World}{b k:Nat}{t:TypeId}{cs:Array Value}(f:hV w b t cs)(g:k<cs.size)(e:cs.toList.all Pe=true):∃c:Int,w.cell? (b,k)=some (.int .i64 c)∧ -10000<=c∧c<=10000:=by
 have d:=f.cell k;rw[Array.getElem?_eq_getElem g]at d;have a:=List.all_eq_true.1 e cs[k] Zl;unfold Pe at a;split at a
 . rename_i i h;simp at a;exact⟨i,by rw[d,h],a.1,a.2⟩
 . cases a
namespace M
def blocks:List (List ByteArray):=[
 [⟨#[99,108,97,115,115,32,116,111,112,32,45]⟩,⟨#[102,105,101,108,100,32,118,32,35]⟩,⟨#[109,101,116,104,111,100,32,103,101,116,32,49,32,49,32,35]⟩,⟨#[116,97,107,101,32,48]⟩,⟨#[103,101,116,32,116,111,112,32,118]⟩,⟨#[114,101,116]⟩,⟨#[109,101,116,104,111,100,32,98,117,109,112,32,50,32,51,32,35,32,35]⟩,⟨#[116,97,107,101,32,48]⟩,⟨#[116,97,107,101,32,48]⟩,⟨#[103,101,116,32,116,111,112,32,118]⟩,⟨#[116,97,107,101,32,49]⟩,⟨#[97,100,100]⟩,⟨#[115,101,116,32,116,111,112,32,118]⟩,⟨#[116,97,107,101,32,48]⟩,⟨#[103,101,116,32,116,111,112,32,118]⟩,⟨#[114,101,116]⟩],
 [⟨#[99,108,97,115,115,32,99,101,108,108,32,116,111,112]⟩,⟨#[102,105,101,108,100,32,110,101,120,116,32,116,111,112]⟩,⟨#[109,101,116,104,111,100,32,103,101,116,32,49,32,50,32,35]⟩,⟨#[102,114,97,109,101,32,55,32,99,101,108,108,32,47]⟩,⟨#[116,97,107,101,32,48]⟩,⟨#[103,101,116,32,99,101,108,108,32,110,101,120,116]⟩,⟨#[110,105,108,32,55]⟩,⟨#[116,97,107,101,32,48]⟩,⟨#[103,101,116,32,99,101,108,108,32,110,101,120,116]⟩,⟨#[99,97,108,108,32,116,111,112,32,103,101,116]⟩,⟨#[114,101,116]⟩,⟨#[110,117,109,32,45,49]⟩,⟨#[114,101,116]⟩,⟨#[109,101,116,104,111,100,32,108,105,110,107,32,50,32,50,32,35,32,116,111,112]⟩,⟨#[116,97,107,101,32,48]⟩,⟨#[116,97,107,101,32,49]⟩,⟨#[115,101,116,32,99,101,108,108,32,110,101,120,116]⟩,⟨#[110,117,109,32,49]⟩,⟨#[114,101,116]⟩],
 [⟨#[99,108,97,115,115,32,109,97,105,110,32,45]⟩,⟨#[109,101,116,104,111,100,32,114,117,110,32,51,32,52,32,35,32,35]⟩,⟨#[110,101,119,32,116,111,112]⟩,⟨#[112,117,116,32,50]⟩,⟨#[116,97,107,101,32,50]⟩,⟨#[116,97,107,101,32,49]⟩,⟨#[99,97,108,108,32,116,111,112,32,98,117,109,112]⟩,⟨#[111,117,116]⟩,⟨#[116,97,107,101,32,50]⟩,⟨#[99,97,108,108,32,116,111,112,32,103,101,116]⟩,⟨#[114,101,116]⟩,⟨#[109,101,116,104,111,100,32,115,117,109,32,51,32,51,32,35,32,35]⟩,⟨#[102,114,97,109,101,32,50,32,109,97,105,110,32,35,32,35,32,47]⟩,⟨#[102,114,97,109,101,32,49,51,32,109,97,105,110,32,35,32,35,32,47]⟩,⟨#[110,117,109,32,48]⟩,⟨#[112,117,116,32,50]⟩,⟨#[116,97,107,101,32,49]⟩,⟨#[122,101,114,111,32,49,51]⟩,⟨#[116,97,107,101,32,50]⟩,⟨#[116,97,107,101,32,49]⟩,⟨#[97,100,100]⟩,⟨#[112,117,116,32,50]⟩,⟨#[116,97,107,101,32,49]⟩,⟨#[110,117,109,32,45,49]⟩,⟨#[97,100,100]⟩,⟨#[112,117,116,32,49]⟩,⟨#[103,111,32,50]⟩,⟨#[116,97,107,101,32,50]⟩,⟨#[114,101,116]⟩],
 [⟨#[99,108,97,115,115,32,109,97,105,110,32,45]⟩,⟨#[109,101,116,104,111,100,32,114,117,110,32,52,32,51,32,35,32,35]⟩,⟨#[110,101,119,32,99,101,108,108]⟩,⟨#[112,117,116,32,50]⟩,⟨#[110,101,119,32,116,111,112]⟩,⟨#[112,117,116,32,51]⟩,⟨#[116,97,107,101,32,51]⟩,⟨#[116,97,107,101,32,49]⟩,⟨#[99,97,108,108,32,116,111,112,32,98,117,109,112]⟩,⟨#[111,117,116]⟩,⟨#[116,97,107,101,32,50]⟩,⟨#[116,97,107,101,32,51]⟩,⟨#[99,97,108,108,32,99,101,108,108,32,108,105,110,107]⟩,⟨#[111,117,116]⟩,⟨#[116,97,107,101,32,50]⟩,⟨#[99,97,108,108,32,116,111,112,32,103,101,116]⟩,⟨#[114,101,116]⟩,⟨#[109,101,116,104,111,100,32,99,97,115,116,32,50,32,50,32,35,32,35]⟩,⟨#[110,101,119,32,116,111,112]⟩,⟨#[99,97,115,116,32,99,101,108,108]⟩,⟨#[99,97,108,108,32,99,101,108,108,32,103,101,116]⟩,⟨#[114,101,116]⟩],
 [⟨#[99,108,97,115,115,32,109,97,105,110,32,45]⟩,⟨#[102,105,101,108,100,32,119,32,109,97,105,110]⟩,⟨#[109,101,116,104,111,100,32,114,117,110,32,50,32,51,32,35,32,35]⟩,⟨#[102,114,97,109,101,32,55,32,109,97,105,110,32,35,32,47]⟩,⟨#[116,97,107,101,32,49]⟩,⟨#[122,101,114,111,32,55]⟩,⟨#[116,97,107,101,32,48]⟩,⟨#[116,97,107,101,32,49]⟩,⟨#[110,117,109,32,45,49]⟩,⟨#[97,100,100]⟩,⟨#[99,97,108,108,32,109,97,105,110,32,114,117,110]⟩,⟨#[116,97,107,101,32,49]⟩,⟨#[114,101,116]⟩],
 [⟨#[99,108,97,115,115,32,109,97,105,110,32,116,111,112]⟩,⟨#[109,101,116,104,111,100,32,114,117,110,32,51,32,51,32,35,32,35]⟩,⟨#[110,117,108,108]⟩,⟨#[112,117,116,32,50]⟩,⟨#[116,97,107,101,32,50]⟩,⟨#[99,97,108,108,32,99,101,108,108,32,103,101,116]⟩,⟨#[114,101,116]⟩,⟨#[109,101,116,104,111,100,32,103,101,116,32,49,32,50,32,35]⟩,⟨#[110,117,109,32,53]⟩,⟨#[114,101,116]⟩],
 [⟨#[99,108,97,115,115,32,109,97,105,110,32,45]⟩,⟨#[102,105,101,108,100,32,119,32,99,101,108,108]⟩,⟨#[109,101,116,104,111,100,32,114,117,110,32,50,32,51,32,35,32,35]⟩,⟨#[116,97,107,101,32,48]⟩,⟨#[110,101,119,32,99,101,108,108]⟩,⟨#[115,101,116,32,109,97,105,110,32,119]⟩,⟨#[116,97,107,101,32,48]⟩,⟨#[103,101,116,32,109,97,105,110,32,119]⟩,⟨#[99,97,108,108,32,116,111,112,32,103,101,116]⟩,⟨#[111,117,116]⟩,⟨#[110,117,109,32,48]⟩,⟨#[114,101,116]⟩],
 [⟨#[99,108,97,115,115,32,116,111,112,32,45]⟩,⟨#[102,105,101,108,100,32,118,32,116,111,112]⟩,⟨#[109,101,116,104,111,100,32,103,101,116,32,49,32,49,32,35]⟩,⟨#[110,117,109,32,56]⟩,⟨#[114,101,116]⟩],
 [⟨#[99,108,97,115,115,32,99,101,108,108,32,116,111,112]⟩,⟨#[109,101,116,104,111,100,32,103,101,116,32,50,32,49,32,35,32,35]⟩,⟨#[110,117,109,32,51]⟩,⟨#[114,101,116]⟩],
 [⟨#[99,108,97,115,115,32,109,97,105,110,32,45]⟩,⟨#[109,101,116,104,111,100,32,114,117,110,32,50,32,50,32,35,32,35]⟩,⟨#[116,97,107,101,32,49]⟩,⟨#[99,97,108,108,32,109,97,105,110,32,114,117,110]⟩,⟨#[114,101,116]⟩],
 [⟨#[99,108,97,115,115,32,109,97,105,110,32,45]⟩,⟨#[109,101,116,104,111,100,32,114,117,110,32,50,32,50,32,35,32,35]⟩,⟨#[116,97,107,101,32,48]⟩,⟨#[111,117,116]⟩,⟨#[110,117,109,32,49]⟩,⟨#[114,101,116]⟩]]
end M
def DY(r:List ByteArray):Array Value:=(r.map Value.string).toArray
def wU:l6 (List ByteArray):=fun w I x cs=>∃v,cs=[v]∧SliceOf 1 kS w I v x
theorem wU.stays:jL wU:=fun _ _ _ _ _ _ b a ⟨c,e,h⟩=>⟨c,e,h.keep kS.stays b a⟩
theorem Lb{w:World}{b:Nat}{t:TypeId}{r:List ByteArray}(d:hV w b t (DY r)){I:Nat->Prop}(hI:I b)(hl:r.length<=4294967296):SliceOf 1 kS w I (b,r.length,r.length) r:=by
 refine⟨_,_,rfl,Nat.le_refl _,hl,fun f h e=>⟨b,0,_,rfl,hI,rfl,rfl,fun c g a=>?_⟩⟩;cases c with
 |zero=>
  simp only[nR]at a;simp at a;subst a;rw[Nat.mul_one,Nat.zero_add,Nat.add_zero,d.cell];unfold DY;simp[e]
 |succ c=>simp[nR]at a
def yE(w:World)(l:List (List ByteArray))(t:TypeId):World:=l.foldl (fun W r=>W.alloc (.cells (DY r) t)) w
theorem xK(t:TypeId):∀(l:List (List ByteArray)) (w:World),Ext w (yE w l t)∧(yE w l t).heap.size=w.heap.size+l.length
 |[],w=>⟨Kp.rr,rfl⟩
 |r::l,w=>by
  have a:=xK t l (w.alloc (.cells (DY r) t));refine⟨(jr _).trans a.1,?_⟩;have:=a.2;simp at this;rw[List.length_cons];show(yE (w.alloc _) l t).heap.size=_
  rw[this];omega
theorem Dg(t:TypeId):∀(l:List (List ByteArray)) (w:World) (i:Nat) (r:List ByteArray),l[i]?=some r->hV (yE w l t) (w.heap.size+i) t (DY r)
 |[],w,i,r,h=>by simp at h
 |x::l,w,0,r,h=>by
  simp at h;subst h;exact(hV.new w t (DY x)).ext (xK t l _).1
 |x::l,w,i+1,r,h=>by
  have:=Dg t l (w.alloc (.cells (DY x) t)) i r (by simpa using h);simp at this;rw[show w.heap.size+(i+1)=w.heap.size+1+i by omega];exact this
def yO(n:Nat):List (List ByteArray)->List Value
 |[]=>[]
 |r::l=>.slice (some ⟨n,0,none⟩) r.length r.length::yO (n+1) l
theorem DZ:∀(l:List (List ByteArray)) (n i:Nat) (r:List ByteArray),l[i]?=some r->(yO n l)[i]?=some (.slice (some ⟨n+i,0,none⟩) r.length r.length)
 |[],_,i,r,h=>by simp at h
 |x::l,n,0,r,h=>by simp at h;subst h;rfl
 |x::l,n,i+1,r,h=>by
  have:=DZ l (n+1) i r (by simpa using h);rw[yO,List.getElem?_cons_succ,this];congr 4;omega
theorem Ji{w:World}{l:List (List ByteArray)}{t c:TypeId}(hl:l.length<=1000)(i:∀k∈l,k.length<=1000):SliceOf 1 wU ((yE w l t).alloc (.cells (yO w l).toArray c)) (fun g=>w<=g) (.slice (some ⟨w.heap.size+l.length,0,none⟩) l.length l.length) l:=by
 have j:=xK t l w;have h:hV ((yE w l t).alloc (.cells (yO w l).toArray c)) (w.heap.size+l.length) c (yO w l).toArray:=hV.Ba _ _ j.2;refine⟨_,_,rfl,Nat.le_refl _,by omega,fun e d b=>⟨_,0,_,rfl,by omega,⟨_,rfl,Lb (((Dg t l w e d b).ext (jr _))) Zm (by have:=i d (List.mem_of_getElem? b);omega)⟩,rfl,fun f m a=>?_⟩⟩;cases f with
 |zero=>
  simp at a;subst a;rw[Nat.mul_one,Nat.zero_add,Nat.add_zero,h.cell];simpa using DZ l w e d b
 |succ f=>simp at a
theorem Fq(w:World):Calls prog 91 #[] w fun d b=>(∃a,d=.returned a∧SliceOf 1 wU b (fun c=>w<=c) a M.blocks)∧Ext w b:=by
 go_enter func91,ntmps91;go_wp2_with fail;go_ret;refine⟨⟨_,rfl,?_⟩,kx⟩;exact Ji (l:=M.blocks) Zn Zn
def QJ(e:Ending):Prop:=∃op a n m,e=.returned (.agg #[.int .i64 op,.int .i64 a,.string n,.string m])∧(-100000<=a∧a<=100000)∧n.size<=20∧m.size<=20
theorem zV{w W:World}{d k q p:Nat}{v:Value}{j:List Int}(z:nT W d v j q)(t:d<w∧(j.length≠0->∀e i g,v=.slice (some e) i g->e.block<w))(y:q<=p+10)(r:Kp (fun m=>m=d∨m=k) w W)(B:w+1<=k){f a:Int}{c b:ByteArray}(s: -100000<=a∧a<=100000)(x:c.size<=20)(u:b.size<=20):QJ (.returned (.agg #[f,a,c,b]))∧(∃q,q<=p+10∧nT ((((W.setCell w f).setCell (w,1) a).setCell (w,2) c).setCell (w,3) b) d v j q)∧Kp (·=d) w ((((W.setCell w f).setCell (w,1) a).setCell (w,2) c).setCell (w,3) b):=by
 have l:Kp (·=w) W ((((W.setCell w f).setCell (w,1) a).setCell (w,2) c).setCell (w,3) b):=Kp.ni (D:=(·=w)) rfl _ _ _ _;exact⟨⟨_,_,_,_,rfl,s,x,u⟩,⟨q,y,z.turn l Zm (fun o e i g h=>by have:=t.2 o e i g h;omega)⟩,Kp.own (r.weak fun A C n=>n.elim id fun h=>by omega) l (fun A h=>by omega)⟩
theorem Lg(w:World)(m p:Nat)(v:Value)(C:List Int)(n:Int)(b:nT w m v C p)(hp:p<=800000)(hn:n<=1000000)(dm: -1000000<=n):Calls prog 96 #[some m,.int .i64 n] w fun D w'=>QJ D∧(∃ah,ah<=p+10∧nT w' m v C ah)∧Kp (·=m) w w':=by
 have bQ:=b.below;obtain⟨w1,bn⟩:=Ry (w.alloc (.cells #[.int .i64 0,.int .i64 0, "", ""] 149));have bu:Ext w w1:=by rw[bn];exact kx
 have bC:Zz (hV w1 w 149 #[.int .i64 0,.int .i64 0, "", ""]):=Zy (by rw[bn];exact hV.new _ _ _);have⟨bG,cB,r,bY⟩:=jV (jO w1 m p v C 15 (b.ext bu) Zm Zm) bn bQ bu;clear b bn bQ bu;go_enter func96,ntmps96;go_wp2_with fail;rw[<-cB.o];refine bG.mono ?_;rintro D a ⟨⟨k,rfl,hk⟩,bL,aZ⟩;have df:k<15:=by omega
 obtain⟨w3,aS⟩:=Ry ((a.alloc (.cells #[.int .i64 (1+k),.int .i64 0, "", ""] 149)).alloc (.cells #[.string ⟨#[116,111,112]⟩,.string ⟨#[99,101,108,108]⟩,.string ⟨#[109,97,105,110]⟩,.string ⟨#[110,111,110,101]⟩] 9));have aY:Ext a w3:=by rw[aS];exact kx
 have b5:hV w3 a 149 #[.int .i64 (1+k),.int .i64 0, "", ""]:=by rw[aS];exact(hV.new _ _ _).ext kx
 have bl:hV w3 (a+1) 9 #[.string ⟨#[116,111,112]⟩,.string ⟨#[99,101,108,108]⟩,.string ⟨#[109,97,105,110]⟩,.string ⟨#[110,111,110,101]⟩]:=by rw[aS];exact hV.Ba _ _ Zl
 have bP:(w:Nat)+1<=(a:Nat):=by have:=bC.lt;have:=aZ.size;omega
 have bK:m≠a∧(C.length≠0->∀ad bB bq,v=.slice (some ad) bB bq->ad.block≠a):=⟨by have:=r.1;omega,fun h0 ad bB bq D=>by have:=r.o.2 h0 ad bB bq D;omega⟩;have⟨bH,bZ,bX,bE,e,t,bV,cK⟩:=xJ (jO w3 m (p+1) v C 4 (bL.ext aY) Zm Zm) ((bY.any.trans aZ).trans aY.any) b5 bl bK bP ((bC.kp aZ (by have:=r.1;omega)).ext aY) aS;clear bL aZ aY b5 bl bP bK aS hk bG;go_wp2_with fail;rw[<-cK.o];refine bH.mono ?_;rintro D z ⟨⟨bU,rfl,hj⟩,bM,aQ⟩;obtain⟨nm,bS,aR⟩:=qG (k:=bU) (bE.kp aQ (by have:=r.1;have:=t.o;omega)) Zr Zn;have cZ:bU<4:=by omega
 have K:=Zy bM;have bA:=bX.kp aQ (by have:=e.1;omega);have⟨J,S,O⟩:=jy bA (bZ.trans aQ) (bV.kp aQ (by have:=r.1;omega));have di:=iY bS;obtain⟨cz,c0,-⟩:=bA.ca;clear bM aQ bA hj bH bE;go_upto_block 0 with(fail);clear bS di cZ;go_cut [] (fun wx=>∃ah op ax n k,ah<=p+3∧nT wx m v C ah∧hV wx a 149 #[.int .i64 op,.int .i64 ax,.string n,.string k]∧(-100000<=ax∧ax<=100000)∧n.size<=20∧k.size<=20∧Kp (fun az=>az=m∨az=a) w wx∧hV wx w 149 #[.int .i64 0,.int .i64 0, "", ""])
 case first=>
  have dh:k=0∨k=1∨k=2∨k=3∨k=4∨k=5∨k=6∨k=7∨k=8∨k=9∨k=10∨k=11∨k=12∨k=13∨k=14:=by omega
  have c:=J.o;obtain⟨-,-,c1,c2,c3,-⟩:=c.ca;obtain⟨-,f1,f2,f3,-⟩:=c.fz;clear c df;rcases dh with rfl|rfl|rfl|rfl|rfl|rfl|rfl|rfl|rfl|rfl|rfl|rfl|rfl|rfl|rfl
  . obtain⟨s,j⟩:∃A,A=z.alloc (.cells #[.int .i64 0,.int .i64 1,.int .i64 (-1),.int .i64 7,.int .i64 9999,.int .i64 (-9999)] 3):=⟨_,rfl⟩;have g:Ext z s:=by rw[j];exact jr _
    have x:hV s z 3 #[.int .i64 0,.int .i64 1,.int .i64 (-1),.int .i64 7,.int .i64 9999,.int .i64 (-9999)]:=by rw[j];exact hV.new _ _ _
    have⟨u,Q,aD,R,T,V,U⟩:=qh (jO s m (p+1+1) v C 6 (K.ext g) Zm Zm) x (O.ext g) (J.ext g) (S.trans g.any) (K.below.1) j;clear g x j;go_wp2_with fail;rw[<-U.o];refine u.mono ?_;rintro D i ⟨⟨h,rfl,l⟩,q,f⟩;obtain⟨o,X,ag⟩:=uK (k:=h) (Q.kp f (by have:=V.o;omega)) Zr Zn;have F:=Zy (aD.kp f (by have:=r.1;omega));have c:=R.kp f (by have:=e.1;omega);have af:h<6:=by omega
    have⟨G,I,H⟩:=jy c q (T.trans f);obtain⟨L,-,B,-⟩:=c.ca;have M:=c.frozen 1;have uz:=iY X;clear c q f l u;go_wp2_with fail;go_meet;have d:Kp (·=a) i (i.setCell (a,1) o):=(Kp.refl (·=a) i).setCell (p:=⟨a,1,none⟩) (fun _=>rfl) _;exact⟨_,_,_,_,_,by omega,I.o.turn d e.o.1 e.o.2,G.o.jk 1 _,by omega,by decide,by decide,(H.o.weak fun _ _ b=>.inl b).trans (d.weak fun _ _ b=>.inr b),F.o.kp d (by have:=t.o;omega)⟩
  . go_wp2_with fail;refine(jO z m (p+1+1) v C 3 K Zm Zm).mono ?_;rintro D i ⟨⟨h,rfl,l⟩,q,f⟩;have af:h<3:=by omega
    have F:=Zy (O.kp f (by have:=r.1;omega));have c:=J.kp f (by have:=e.1;omega);have⟨G,I,H⟩:=jy c q (S.trans f);obtain⟨L,-,B,-⟩:=c.ca;have M:=c.frozen 1;clear c q f l;go_wp2_with fail;go_meet;have d:Kp (·=a) i (i.setCell (a,1) h):=(Kp.refl (·=a) i).setCell (p:=⟨a,1,none⟩) (fun _=>rfl) _;exact⟨_,_,_,_,_,by omega,I.o.turn d e.o.1 e.o.2,G.o.jk 1 _,by omega,by decide,by decide,(H.o.weak fun _ _ b=>.inl b).trans (d.weak fun _ _ b=>.inr b),F.o.kp d (by have:=t.o;omega)⟩
  . go_wp2_with fail;refine(jO z m (p+1+1) v C 3 K Zm Zm).mono ?_;rintro D i ⟨⟨h,rfl,l⟩,q,f⟩;have af:h<3:=by omega
    have F:=Zy (O.kp f (by have:=r.1;omega));have c:=J.kp f (by have:=e.1;omega);have⟨G,I,H⟩:=jy c q (S.trans f);obtain⟨L,-,B,-⟩:=c.ca;have M:=c.frozen 1;clear c q f l;go_wp2_with fail;go_meet;have d:Kp (·=a) i (i.setCell (a,1) h):=(Kp.refl (·=a) i).setCell (p:=⟨a,1,none⟩) (fun _=>rfl) _;exact⟨_,_,_,_,_,by omega,I.o.turn d e.o.1 e.o.2,G.o.jk 1 _,by omega,by decide,by decide,(H.o.weak fun _ _ b=>.inl b).trans (d.weak fun _ _ b=>.inr b),F.o.kp d (by have:=t.o;omega)⟩
  . go_wp2_with fail;go_meet;exact⟨_,_,_,_,_,by omega,K.o,J.o,by omega,by decide,by decide,S.o.weak (fun _ _ b=>.inl b),O.o⟩
  . go_wp2_with fail;go_meet;exact⟨_,_,_,_,_,by omega,K.o,J.o,by omega,by decide,by decide,S.o.weak (fun _ _ b=>.inl b),O.o⟩
  . go_wp2_with fail;go_meet;have d:Kp (·=a) z (z.setCell (a,2) nm):=(Kp.refl (·=a) z).setCell (p:=⟨a,2,none⟩) (fun _=>rfl) _;exact⟨_,_,_,_,_,by omega,K.o.turn d e.o.1 e.o.2,J.o.jk 2 _,by omega,aR,by decide,(S.o.weak fun _ _ b=>.inl b).trans (d.weak fun _ _ b=>.inr b),O.o.kp d (by have:=t.o;omega)⟩
  . obtain⟨Y,ae⟩:∃A,A=z.setCell (a,2) nm:=⟨_,rfl⟩;have aa:Kp (·=a) z Y:=by rw[ae];exact(Kp.refl (·=a) z).setCell (p:=⟨a,2,none⟩) (fun _=>rfl) _
    have b6:=J.jk 2 nm;rw[<-ae]at b6;have⟨aF,aA⟩:=je b6 (K.turn aa e.1 e.2);have aI:Zz (Kp (fun az=>az=m∨az=a) w Y):=Zy ((S.weak fun _ _ b=>.inl b).trans (aa.weak fun _ _ b=>.inr b));have⟨aN,aP⟩:=je (O.kp aa (by have:=t.o;omega)) ae;clear aa b6 ae;obtain⟨s,j,g,x⟩:=nu Y #[.string ⟨#[118]⟩,.string ⟨#[110,101,120,116]⟩,.string ⟨#[119]⟩] 9;have⟨u,Q,aD,R,T,V,U⟩:=qh (jO s m (p+1+1) v C 3 (aA.ext g) Zm Zm) x (aN.ext g) (aF.ext g) (aI.trans g.any) (aA.below.1) j;clear g x j;go_upto_region 19 with(fail);rw[<-aP.o];go_wp2_with fail;rw[<-U.o];refine u.mono ?_;rintro D i ⟨⟨h,rfl,l⟩,q,f⟩;obtain⟨o,X,ag⟩:=qG (k:=h) (Q.kp f (by have:=V.o;omega)) Zr Zn;have F:=Zy (aD.kp f (by have:=r.1;omega));have c:=R.kp f (by have:=e.1;omega);have af:h<3:=by omega
    have⟨G,I,H⟩:=jy c q (T.trans (f.weak fun _ _ b=>.inl b));obtain⟨L,-,-,-,B,-⟩:=c.ca;have M:=c.frozen 3;have uz:=iY X;clear c q f l u;go_wp2_with fail;go_meet;have d:Kp (·=a) i (i.setCell (a,3) o):=(Kp.refl (·=a) i).setCell (p:=⟨a,3,none⟩) (fun _=>rfl) _;exact⟨_,_,_,_,_,by omega,I.o.turn d e.o.1 e.o.2,G.o.jk 3 _,by omega,aR,ag,H.o.trans (d.weak fun _ _ b=>.inr b),F.o.kp d (by have:=t.o;omega)⟩
  . obtain⟨Y,ae⟩:∃A,A=z.setCell (a,2) nm:=⟨_,rfl⟩;have aa:Kp (·=a) z Y:=by rw[ae];exact(Kp.refl (·=a) z).setCell (p:=⟨a,2,none⟩) (fun _=>rfl) _
    have b6:=J.jk 2 nm;rw[<-ae]at b6;have⟨aF,aA⟩:=je b6 (K.turn aa e.1 e.2);have aI:Zz (Kp (fun az=>az=m∨az=a) w Y):=Zy ((S.weak fun _ _ b=>.inl b).trans (aa.weak fun _ _ b=>.inr b));have⟨aN,aP⟩:=je (O.kp aa (by have:=t.o;omega)) ae;clear aa b6 ae;obtain⟨s,j,g,x⟩:=nu Y #[.string ⟨#[118]⟩,.string ⟨#[110,101,120,116]⟩,.string ⟨#[119]⟩] 9;have⟨u,Q,aD,R,T,V,U⟩:=qh (jO s m (p+1+1) v C 3 (aA.ext g) Zm Zm) x (aN.ext g) (aF.ext g) (aI.trans g.any) (aA.below.1) j;clear g x j;go_upto_region 19 with(fail);rw[<-aP.o];go_wp2_with fail;rw[<-U.o];refine u.mono ?_;rintro D i ⟨⟨h,rfl,l⟩,q,f⟩;obtain⟨o,X,ag⟩:=qG (k:=h) (Q.kp f (by have:=V.o;omega)) Zr Zn;have F:=Zy (aD.kp f (by have:=r.1;omega));have c:=R.kp f (by have:=e.1;omega);have af:h<3:=by omega
    have⟨G,I,H⟩:=jy c q (T.trans (f.weak fun _ _ b=>.inl b));obtain⟨L,-,-,-,B,-⟩:=c.ca;have M:=c.frozen 3;have uz:=iY X;clear c q f l u;go_wp2_with fail;go_meet;have d:Kp (·=a) i (i.setCell (a,3) o):=(Kp.refl (·=a) i).setCell (p:=⟨a,3,none⟩) (fun _=>rfl) _;exact⟨_,_,_,_,_,by omega,I.o.turn d e.o.1 e.o.2,G.o.jk 3 _,by omega,aR,ag,H.o.trans (d.weak fun _ _ b=>.inr b),F.o.kp d (by have:=t.o;omega)⟩
  . obtain⟨Y,ae⟩:∃A,A=z.setCell (a,2) nm:=⟨_,rfl⟩;have aa:Kp (·=a) z Y:=by rw[ae];exact(Kp.refl (·=a) z).setCell (p:=⟨a,2,none⟩) (fun _=>rfl) _
    have b6:=J.jk 2 nm;rw[<-ae]at b6;have⟨aF,aA⟩:=je b6 (K.turn aa e.1 e.2);have aI:Zz (Kp (fun az=>az=m∨az=a) w Y):=Zy ((S.weak fun _ _ b=>.inl b).trans (aa.weak fun _ _ b=>.inr b));have⟨aN,aP⟩:=je (O.kp aa (by have:=t.o;omega)) ae;clear aa b6 ae;obtain⟨s,j,g,x⟩:=nu Y #[.string ⟨#[103,101,116]⟩,.string ⟨#[98,117,109,112]⟩,.string ⟨#[108,105,110,107]⟩,.string ⟨#[114,117,110]⟩,.string ⟨#[120]⟩] 9;have⟨u,Q,aD,R,T,V,U⟩:=qh (jO s m (p+1+1) v C 5 (aA.ext g) Zm Zm) x (aN.ext g) (aF.ext g) (aI.trans g.any) (aA.below.1) j;clear g x j;go_upto_region 22 with(fail);rw[<-aP.o];go_wp2_with fail;rw[<-U.o];refine u.mono ?_;rintro D i ⟨⟨h,rfl,l⟩,q,f⟩;obtain⟨o,X,ag⟩:=qG (k:=h) (Q.kp f (by have:=V.o;omega)) Zr Zn;have F:=Zy (aD.kp f (by have:=r.1;omega));have c:=R.kp f (by have:=e.1;omega);have af:h<5:=by omega
    have⟨G,I,H⟩:=jy c q (T.trans (f.weak fun _ _ b=>.inl b));obtain⟨L,-,-,-,B,-⟩:=c.ca;have M:=c.frozen 3;have uz:=iY X;clear c q f l u;go_wp2_with fail;go_meet;have d:Kp (·=a) i (i.setCell (a,3) o):=(Kp.refl (·=a) i).setCell (p:=⟨a,3,none⟩) (fun _=>rfl) _;exact⟨_,_,_,_,_,by omega,I.o.turn d e.o.1 e.o.2,G.o.jk 3 _,by omega,aR,ag,H.o.trans (d.weak fun _ _ b=>.inr b),F.o.kp d (by have:=t.o;omega)⟩
  . go_wp2_with fail;go_meet;exact⟨_,_,_,_,_,by omega,K.o,J.o,by omega,by decide,by decide,S.o.weak (fun _ _ b=>.inl b),O.o⟩
  . go_wp2_with fail;refine(jO z m (p+1+1) v C 10 K Zm Zm).mono ?_;rintro D i ⟨⟨h,rfl,l⟩,q,f⟩;have af:h<10:=by omega
    have F:=Zy (O.kp f (by have:=r.1;omega));have c:=J.kp f (by have:=e.1;omega);have⟨G,I,H⟩:=jy c q (S.trans f);obtain⟨L,-,B,-⟩:=c.ca;have M:=c.frozen 1;clear c q f l;go_wp2_with fail;go_meet;have d:Kp (·=a) i (i.setCell (a,1) h):=(Kp.refl (·=a) i).setCell (p:=⟨a,1,none⟩) (fun _=>rfl) _;exact⟨_,_,_,_,_,by omega,I.o.turn d e.o.1 e.o.2,G.o.jk 1 _,by omega,by decide,by decide,(H.o.weak fun _ _ b=>.inl b).trans (d.weak fun _ _ b=>.inr b),F.o.kp d (by have:=t.o;omega)⟩
  . go_wp2_with fail;refine(jO z m (p+1+1) v C 10 K Zm Zm).mono ?_;rintro D i ⟨⟨h,rfl,l⟩,q,f⟩;have af:h<10:=by omega
    have F:=Zy (O.kp f (by have:=r.1;omega));have c:=J.kp f (by have:=e.1;omega);have⟨G,I,H⟩:=jy c q (S.trans f);obtain⟨L,-,B,-⟩:=c.ca;have M:=c.frozen 1;clear c q f l;go_wp2_with fail;go_meet;have d:Kp (·=a) i (i.setCell (a,1) h):=(Kp.refl (·=a) i).setCell (p:=⟨a,1,none⟩) (fun _=>rfl) _;exact⟨_,_,_,_,_,by omega,I.o.turn d e.o.1 e.o.2,G.o.jk 1 _,by omega,by decide,by decide,(H.o.weak fun _ _ b=>.inl b).trans (d.weak fun _ _ b=>.inr b),F.o.kp d (by have:=t.o;omega)⟩
  . go_wp2_with fail;refine(jO z m (p+1+1) v C 10 K Zm Zm).mono ?_;rintro D i ⟨⟨h,rfl,l⟩,q,f⟩;have af:h<10:=by omega
    have F:=Zy (O.kp f (by have:=r.1;omega));have c:=J.kp f (by have:=e.1;omega);have⟨G,I,H⟩:=jy c q (S.trans f);obtain⟨L,-,B,-⟩:=c.ca;have M:=c.frozen 1;clear c q f l;go_wp2_with fail;go_meet;have d:Kp (·=a) i (i.setCell (a,1) h):=(Kp.refl (·=a) i).setCell (p:=⟨a,1,none⟩) (fun _=>rfl) _;exact⟨_,_,_,_,_,by omega,I.o.turn d e.o.1 e.o.2,G.o.jk 1 _,by omega,by decide,by decide,(H.o.weak fun _ _ b=>.inl b).trans (d.weak fun _ _ b=>.inr b),F.o.kp d (by have:=t.o;omega)⟩
  . go_wp2_with fail;go_meet;exact⟨_,_,_,_,_,by omega,K.o,J.o,by omega,by decide,by decide,S.o.weak (fun _ _ b=>.inl b),O.o⟩
  . go_wp2_with fail;go_meet;have d:Kp (·=a) z (z.setCell (a,2) nm):=(Kp.refl (·=a) z).setCell (p:=⟨a,2,none⟩) (fun _=>rfl) _;exact⟨_,_,_,_,_,by omega,K.o.turn d e.o.1 e.o.2,J.o.jk 2 _,by omega,aR,by decide,(S.o.weak fun _ _ b=>.inl b).trans (d.weak fun _ _ b=>.inr b),O.o.kp d (by have:=t.o;omega)⟩
 obtain⟨ah,op,ax,nn,mm,hq,hR,hb,ha,bT,bR,hK,bJ⟩:=hcut;obtain⟨Y,rfl⟩:∃Y,Y=wc:=⟨_,rfl⟩;have⟨aF,aI,aA,bW,aW,aV,HA,cu⟩:=xJ hb hK hR bJ bT bR ha (Jg Y m ah v C n hR Zm Zm Zm);clear hR hb hK bJ ha bT bR c0 cz;go_wp2_with fail;refine cu.mono ?_;rintro D w7 ⟨⟨od,rfl⟩,bN,bf⟩;have⟨bI,bD,aO,bF⟩:=jV bN (aF.kp bf (by have:=e.1;omega)) (bW.o.kp bf (by have:=r.o.1;omega)) (aI.o.trans (bf.weak fun _ _ b=>.inl b));clear bN bf;cases od
 . have z0:=aO.c 0 (.int .i64 0) rfl;obtain⟨zz,-,z1,z2,z3,-⟩:=aO.ca;obtain⟨ai,aj,ak,au,-⟩:=aO.fz;obtain⟨dz,d0,B,d2,d3,-⟩:=bD.ca;go_wp2_with fail;refine bodyPost_ret (jw l9 rfl w rfl [.int .i64 op,.int .i64 ax,nn,mm] (hH.lV (hV.ni aO _ _ _ _)) rfl) rfl ?_;exact zV bI r Zm bF t HA aW aV
 go_wp2_with fail;refine(jO w7 m (ah+1) v C 4 bI Zm Zm).mono ?_;rintro D w8 ⟨⟨h,rfl,l⟩,bO,bg⟩;have cO:h=0∨h=1∨h=2∨h=3:=by omega
 have⟨aB,aU,aT,aX⟩:=jV bO (bD.kp bg (by have:=e.1;omega)) (aO.o.kp bg (by have:=r.o.1;omega)) (bF.o.trans (bg.weak fun _ _ b=>.inl b));clear bO bg l;rcases cO with rfl|rfl|rfl|rfl
 . obtain⟨s,j⟩:∃A,A=w8.alloc (.cells #[.int .i64 0,.int .i64 16,.int .i64 (-1)] 3):=⟨_,rfl⟩;have g:Ext w8 s:=by rw[j];exact jr _
   have x:hV s w8 3 #[.int .i64 0,.int .i64 16,.int .i64 (-1)]:=by rw[j];exact hV.new _ _ _
   have⟨u,Q,R,T,V,U,aG⟩:=qh (jO s m (ah+1+1) v C 3 (aB.ext g) Zm Zm) x (aU.ext g) (aX.trans g.any) (aB.below.1) j g;clear g x j;go_wp2_with fail;rw[<-U.o];refine u.mono ?_;rintro D Z ⟨⟨h,rfl,l⟩,ay,y⟩;obtain⟨o,X,ag⟩:=uK (k:=h) (Q.kp y (by have:=V.o;omega)) Zr Zn;have P:=Zy ((aT.ext aG).kp y (by have:=r.1;omega));have c:=R.kp y (by have:=e.1;omega);have af:h<3:=by omega
   have⟨av,aL,aJ⟩:=jy c ay (T.trans (y.weak fun _ _ b=>.inl b));have M:=c.frozen 0;have L:=c.lt;have uz:=iY X;clear c ay y l u;obtain⟨dz,d0,B,d2,d3,-⟩:=av.ca;obtain⟨zz,z0,z1,z2,z3,-⟩:=P.ca;obtain⟨ai,aj,ak,au,-⟩:=P.fz;obtain⟨wy,E⟩:∃A,A=Z.setCell a o:=⟨_,rfl⟩;have d:Kp (·=a) Z wy:=by rw[E];exact(Kp.refl (·=a) Z).setCell (p:=⟨a,0,none⟩) (fun _=>rfl) _
   have⟨aK,aH,N⟩:=jy (aL.turn d e.1 e.2) (aJ.trans (d.weak fun _ _ b=>.inr b)) (P.kp d (by have:=t.o;omega));have W:=av.jk 0 o;rw[<-E]at W;have aC:Zz (hV wy a 149 #[o,.int .i64 ax,nn,mm]):=Zy W;have aM:=Zy E;clear d W E;go_upto_region 32 with(fail);rw[<-aM.o];clear d0 B d2 d3 dz z0 z1 z2 z3 ai aj ak au zz M L uz;obtain⟨dz,d0,B,d2,d3,-⟩:=aC.ca;obtain⟨zz,z0,z1,z2,z3,-⟩:=N.ca;obtain⟨ai,aj,ak,au,-⟩:=N.fz;go_wp2_with fail;refine bodyPost_ret (jw l9 rfl w rfl [o,.int .i64 ax,nn,mm] (hH.lV (hV.ni N _ _ _ _)) rfl) rfl ?_;exact zV aK r Zm aH t HA aW aV
 . obtain⟨s,j⟩:∃A,A=w8.alloc (.cells #[.int .i64 10000,.int .i64 (-1),.int .i64 16,.int .i64 6] 3):=⟨_,rfl⟩;have g:Ext w8 s:=by rw[j];exact jr _
   have x:hV s w8 3 #[.int .i64 10000,.int .i64 (-1),.int .i64 16,.int .i64 6]:=by rw[j];exact hV.new _ _ _
   have⟨u,Q,R,T,V,U,aG⟩:=qh (jO s m (ah+1+1) v C 4 (aB.ext g) Zm Zm) x (aU.ext g) (aX.trans g.any) (aB.below.1) j g;clear g x j;go_wp2_with fail;rw[<-U.o];refine u.mono ?_;rintro D Z ⟨⟨h,rfl,l⟩,ay,y⟩;obtain⟨o,X,ag⟩:=uK (k:=h) (Q.kp y (by have:=V.o;omega)) Zr Zn;have P:=Zy ((aT.ext aG).kp y (by have:=r.1;omega));have c:=R.kp y (by have:=e.1;omega);have af:h<4:=by omega
   have⟨av,aL,aJ⟩:=jy c ay (T.trans (y.weak fun _ _ b=>.inl b));have M:=c.frozen 1;have L:=c.lt;have uz:=iY X;clear c ay y l u;obtain⟨dz,d0,B,d2,d3,-⟩:=av.ca;obtain⟨zz,z0,z1,z2,z3,-⟩:=P.ca;obtain⟨ai,aj,ak,au,-⟩:=P.fz;obtain⟨wy,E⟩:∃A,A=Z.setCell (a,1) o:=⟨_,rfl⟩;have d:Kp (·=a) Z wy:=by rw[E];exact(Kp.refl (·=a) Z).setCell (p:=⟨a,1,none⟩) (fun _=>rfl) _
   have⟨aK,aH,N⟩:=jy (aL.turn d e.1 e.2) (aJ.trans (d.weak fun _ _ b=>.inr b)) (P.kp d (by have:=t.o;omega));have W:=av.jk 1 o;rw[<-E]at W;have aC:Zz (hV wy a 149 #[.int .i64 op,o,nn,mm]):=Zy W;have aM:=Zy E;clear d W E;go_upto_region 32 with(fail);rw[<-aM.o];clear d0 B d2 d3 dz z0 z1 z2 z3 ai aj ak au zz M L uz;obtain⟨dz,d0,B,d2,d3,-⟩:=aC.ca;obtain⟨zz,z0,z1,z2,z3,-⟩:=N.ca;obtain⟨ai,aj,ak,au,-⟩:=N.fz;go_wp2_with fail;refine bodyPost_ret (jw l9 rfl w rfl [.int .i64 op,o,nn,mm] (hH.lV (hV.ni N _ _ _ _)) rfl) rfl ?_;exact zV aK r Zm aH t Zm aW aV
 . obtain⟨s,j⟩:∃A,A=w8.alloc (.cells #["",.string ⟨#[65]⟩,.string ⟨#[116,111,112]⟩] 9):=⟨_,rfl⟩;have g:Ext w8 s:=by rw[j];exact jr _
   have x:hV s w8 9 #["",.string ⟨#[65]⟩,.string ⟨#[116,111,112]⟩]:=by rw[j];exact hV.new _ _ _
   have⟨u,Q,R,T,V,U,aG⟩:=qh (jO s m (ah+1+1) v C 3 (aB.ext g) Zm Zm) x (aU.ext g) (aX.trans g.any) (aB.below.1) j g;clear g x j;go_wp2_with fail;rw[<-U.o];refine u.mono ?_;rintro D Z ⟨⟨h,rfl,l⟩,ay,y⟩;obtain⟨o,X,ag⟩:=qG (k:=h) (Q.kp y (by have:=V.o;omega)) Zr Zn;have P:=Zy ((aT.ext aG).kp y (by have:=r.1;omega));have c:=R.kp y (by have:=e.1;omega);have af:h<3:=by omega
   have⟨av,aL,aJ⟩:=jy c ay (T.trans (y.weak fun _ _ b=>.inl b));have M:=c.frozen 2;have L:=c.lt;have uz:=iY X;clear c ay y l u;obtain⟨dz,d0,B,d2,d3,-⟩:=av.ca;obtain⟨zz,z0,z1,z2,z3,-⟩:=P.ca;obtain⟨ai,aj,ak,au,-⟩:=P.fz;obtain⟨wy,E⟩:∃A,A=Z.setCell (a,2) o:=⟨_,rfl⟩;have d:Kp (·=a) Z wy:=by rw[E];exact(Kp.refl (·=a) Z).setCell (p:=⟨a,2,none⟩) (fun _=>rfl) _
   have⟨aK,aH,N⟩:=jy (aL.turn d e.1 e.2) (aJ.trans (d.weak fun _ _ b=>.inr b)) (P.kp d (by have:=t.o;omega));have W:=av.jk 2 o;rw[<-E]at W;have aC:Zz (hV wy a 149 #[.int .i64 op,.int .i64 ax,o,mm]):=Zy W;have aM:=Zy E;clear d W E;go_upto_region 32 with(fail);rw[<-aM.o];clear d0 B d2 d3 dz z0 z1 z2 z3 ai aj ak au zz M L uz;obtain⟨dz,d0,B,d2,d3,-⟩:=aC.ca;obtain⟨zz,z0,z1,z2,z3,-⟩:=N.ca;obtain⟨ai,aj,ak,au,-⟩:=N.fz;go_wp2_with fail;refine bodyPost_ret (jw l9 rfl w rfl [.int .i64 op,.int .i64 ax,o,mm] (hH.lV (hV.ni N _ _ _ _)) rfl) rfl ?_;exact zV aK r Zm aH t HA ag aV
 . obtain⟨s,j⟩:∃A,A=w8.alloc (.cells #["",.string ⟨#[65]⟩,.string ⟨#[118]⟩] 9):=⟨_,rfl⟩;have g:Ext w8 s:=by rw[j];exact jr _
   have x:hV s w8 9 #["",.string ⟨#[65]⟩,.string ⟨#[118]⟩]:=by rw[j];exact hV.new _ _ _
   have⟨u,Q,R,T,V,U,aG⟩:=qh (jO s m (ah+1+1) v C 3 (aB.ext g) Zm Zm) x (aU.ext g) (aX.trans g.any) (aB.below.1) j g;clear g x j;go_wp2_with fail;rw[<-U.o];refine u.mono ?_;rintro D Z ⟨⟨h,rfl,l⟩,ay,y⟩;obtain⟨o,X,ag⟩:=qG (k:=h) (Q.kp y (by have:=V.o;omega)) Zr Zn;have P:=Zy ((aT.ext aG).kp y (by have:=r.1;omega));have c:=R.kp y (by have:=e.1;omega);have af:h<3:=by omega
   have⟨av,aL,aJ⟩:=jy c ay (T.trans (y.weak fun _ _ b=>.inl b));have M:=c.frozen 3;have L:=c.lt;have uz:=iY X;clear c ay y l u;obtain⟨dz,d0,B,d2,d3,-⟩:=av.ca;obtain⟨zz,z0,z1,z2,z3,-⟩:=P.ca;obtain⟨ai,aj,ak,au,-⟩:=P.fz;obtain⟨wy,E⟩:∃A,A=Z.setCell (a,3) o:=⟨_,rfl⟩;have d:Kp (·=a) Z wy:=by rw[E];exact(Kp.refl (·=a) Z).setCell (p:=⟨a,3,none⟩) (fun _=>rfl) _
   have⟨aK,aH,N⟩:=jy (aL.turn d e.1 e.2) (aJ.trans (d.weak fun _ _ b=>.inr b)) (P.kp d (by have:=t.o;omega));have W:=av.jk 3 o;rw[<-E]at W;have aC:Zz (hV wy a 149 #[.int .i64 op,.int .i64 ax,nn,o]):=Zy W;have aM:=Zy E;clear d W E;go_upto_region 32 with(fail);rw[<-aM.o];clear d0 B d2 d3 dz z0 z1 z2 z3 ai aj ak au zz M L uz;obtain⟨dz,d0,B,d2,d3,-⟩:=aC.ca;obtain⟨zz,z0,z1,z2,z3,-⟩:=N.ca;obtain⟨ai,aj,ak,au,-⟩:=N.fz;go_wp2_with fail;refine bodyPost_ret (jw l9 rfl w rfl [.int .i64 op,.int .i64 ax,nn,o] (hH.lV (hV.ni N _ _ _ _)) rfl) rfl ?_;exact zV aK r Zm aH t HA aW ag
def nS(Z:Nat)(w:World)(base:Nat)(v:Value)(n:Nat):Prop:=∃xs:List ByteArray,w.ownsRow base 9 1 v n (xs.flatMap nR)∧∀u∈xs,u.size<=Z
def mf(Z:Nat)(w:World)(u:Value)(m:Nat):Prop:=∃ad c,∃xs:List ByteArray,u=.slice ad m c∧Flat w 1 u m (xs.flatMap nR)∧∀x∈xs,x.size<=Z
theorem nS.ext{Z:Nat}{w a:World}{base:Nat}{v:Value}{n:Nat}(b:nS Z w base v n)(e:Ext w a):nS Z a base v n:=by
 obtain⟨g,c,d⟩:=b;exact⟨g,iZ (D:=fun _=>False) c e fun _ _ _ f=>f,d⟩
theorem nS.low{Z:Nat}{w:World}{base:Nat}{v:Value}{n:Nat}(a:nS Z w base v n)(b:Nat)(d:v.ownBlock=some b):base<=b:=by
 obtain⟨f,c,e⟩:=a;exact(c.lt b d).1
theorem mf.ext{Z:Nat}{w b:World}{a:Value}{m:Nat}(f:mf Z w a m)(i:Ext w b):mf Z b a m:=by
 obtain⟨c,d,j,e,g,h⟩:=f;exact⟨c,d,j,e,g.ext i,h⟩
theorem nS.empty(Z:Nat)(W:World)(a g:Nat)(b:a<=W)(c:W=g):nS Z (W.alloc (.cells #[] 9)) a (.slice (some ⟨g,0,none⟩) 0 0) 0:=
 ⟨[],kG W _ _ _ b c,by simp⟩
theorem wN(xs:List ByteArray):xs.map Value.string=xs.flatMap nR:=Hj
theorem nS.lit{Z:Nat}{w:World}{base g n:Nat}(xs:List ByteArray)(a:hV w g 9 (xs.map Value.string).toArray)(b:base<=g)(c:xs.length=n)(h:xs.length<=1000)(d:∀e∈xs,e.size<=Z):nS Z w base (g,n,n) n:=by
 subst c;refine⟨xs,⟨by rw[nY (enc:=nR) (k:=1) (fun _=>rfl)],.inr ⟨g,xs.length,_,rfl,b,a,Nat.le_refl _,?_⟩⟩,d⟩;have f:=nY (enc:=nR) (k:=1) (fun _=>rfl) xs;refine⟨by unfold maxLen;omega,by simp,?_⟩;rw[wN];simp only[Nat.mul_one];exact List.take_of_length_le Zm
theorem mf.all{Z:Nat}{w:World}{I:Nat->Prop}{v:Value}{xs:List ByteArray}(a:SliceOf 1 kS w I v xs)(d:∀e∈xs,e.size<=Z):mf Z w v xs.length:=by
 obtain⟨b,c,rfl,-,-⟩:=a.form;exact⟨b,c,xs,rfl,SliceOf.toFlat (enc:=nR) (fun _ _ _ _ a=>a) (fun _=>rfl) yK a,d⟩
theorem mf.take{Z:Nat}{w:World}{I:Nat->Prop}{a:Option Addr}{n c:Nat}{xs:List ByteArray}(e:SliceOf 1 kS w I (.slice a n c) xs)(g:∀b∈xs,b.size<=Z){i:Nat}(d:i<=xs.length):mf Z w (.slice a i c) i:=by
 have:=mf.all (e.take d) (fun b f=>g b (List.mem_of_mem_take f));rwa[List.length_take,Nat.min_eq_left d]at this
theorem mf.lit{Z:Nat}{w:World}{g n c:Nat}(xs:List ByteArray)(f:hH w g 0 (xs.map Value.string))(i:xs.length=n)(j:∀b∈xs,b.size<=Z):mf Z w (g,n,c) n:=by
 subst i;have h:(xs.flatMap nR).length=xs.length*1:=nY (enc:=nR) (k:=1) (fun _=>rfl) _;refine⟨_,_,xs,rfl,⟨h,⟨_,_,rfl,(fun a=>by cases a),fun l a k b d=>?_⟩,oH yK _⟩,j⟩;cases a;rw[<-wN]at d;have:=f k b d;unfold Addr.add;split
 . rename_i e;rw[e]at this;exact this
 . simpa using this
theorem mf.drop{Z:Nat}{w:World}{I:Nat->Prop}{b e n c m:Nat}{xs:List ByteArray}(h:SliceOf 1 kS w I (.slice (some ⟨b,e,none⟩) n c) xs)(r:∀f∈xs,f.size<=Z)(j:Nat):mf Z w (.slice (some ⟨b,e+j,none⟩) (n - j) m) (n - j):=by
 have y:=h;obtain⟨_,_,a,-,-⟩:=h.form;cases a;have p:((xs.drop j).flatMap nR).length=(xs.drop j).length*1:=nY (enc:=nR) (k:=1) (fun _=>rfl) _;refine⟨_,_,xs.drop j,rfl,⟨by rw[p,List.length_drop],⟨_,_,rfl,(fun a=>by cases a),fun u a s f i=>?_⟩,oH yK _⟩,fun f i=>r f (List.mem_of_mem_drop i)⟩;cases a;obtain⟨l,t,A,k,g,x⟩:=flat_get (enc:=nR) (k:=1) (fun _=>rfl) _ _ _ i;rw[List.getElem?_drop]at k;obtain⟨v,z,o,d⟩:=kS.at_ h k;cases o;have q:t=0:=by
  have:=(List.getElem?_eq_some_iff.1 g).1;simp[nR]at this;omega
 subst q;simp[nR]at g;subst g;unfold Addr.add;split
 . have:j+l=j:=by omega
   rw[this]at d;exact d
 . have:e+(j+l)=e+j+s:=by omega
   rw[this]at d;simpa using d
theorem mf.none_{Z:Nat}{w:World}{c n j:Nat}{a:Addr}(f:n<=j):mf Z w (.slice (some a) (n - j) c) (n - j):=by
 rw[show n - j=0 by omega];exact⟨_,_,[],rfl,⟨rfl,⟨_,_,rfl,(fun b=>by cases b),fun e _ g h d=>by simp at d⟩,by simp⟩,by simp⟩
theorem nS.fresh{Z:Nat}{D:Nat->Prop}{b W:World}(c:Kp D b W):∃a,a=W.alloc (.cells #[] 9)∧Kp D b a∧nS Z a b (.slice (some ⟨W,0,none⟩) 0 0) 0∧Ext W a∧a.heap.size=W+1:=
 ⟨_,rfl,c.alloc _,nS.empty Z W _ _ c.size rfl,jr _,by simp⟩
theorem mf.fresh{Z:Nat}{D:Nat->Prop}{b W:World}(c:Kp D b W)(s:ByteArray)(d:s.size<=Z):∃a,a=W.alloc (.cells #[s] 9)∧Kp D b a∧hH a W 0 [s]∧Ext W a∧a.heap.size=W+1:=
 ⟨_,rfl,c.alloc _,hH.ny _ _ rfl,jr _,by simp⟩
theorem nS.kp{Z:Nat}{D:Nat->Prop}{w b:World}{base:Nat}{v:Value}{n:Nat}(d:nS Z w base v n)(h:Kp D w b)(g:∀a,D a->a<base):nS Z b base v n:=by
 obtain⟨j,e,f⟩:=d;exact⟨j,iZ e h fun c _ k i=>by have:=g c i;omega,f⟩
theorem jq{Z:Nat}(w:World){o:Array Oper}{rest:List Oper}{h:Oper}{a:Act}{Q:Exit->Act->World->Prop}(A:h.guard=none)(s x:Operand)
    (C:h.op=.call {callee:=.builtin .append,args:=#[s,x],argTypes:=#[100,100]}) {D:Nat->Prop} {f:World} {v:Value} {n:Nat} (E:nS Z w f v n) (F:a.eval s=v)
    {e:Value} {m:Nat} (b:mf Z w e m) (G:a.eval x=e) (B:n+m<=8589934592) (l:Kp D f w)
    (r:∀i d,nS Z d f i (n+m)->Kp D f d->Kp (fun c=>f<=c∧v.ownBlock=some c) w d->wpList prog o Q rest (a.put h.dst i) d):
    wpList prog o Q (h::rest) a w:=by
 obtain⟨H,j,t⟩:=E;obtain⟨p,q,I,rfl,u,y⟩:=b;refine jJ zQ w A s x C _ v n _ F j p m q _ G u B l.size fun i d z k=>r i d ⟨H++I,by simpa [List.flatMap_append]using z,fun e b=>?_⟩ (l.own k fun c g=>(j.lt c g).1) (k.weak fun c _ g=>⟨(j.lt c g).1,g⟩);rcases List.mem_append.1 b with b|b
 . exact t e b
 . exact y e b
theorem nS.o{Z:Nat}{w:World}{base:Nat}{v:Value}{n:Nat}(b:nS Z w base v n)(h:n<=100000):∃a:List ByteArray,SliceOf 1 kS w (fun d=>base<=d) v a∧a.length=n∧∀g∈a,g.size<=Z:=by
 obtain⟨a,c,e⟩:=b;have f:n=a.length:=by
  have:=c.1;rw[nY (enc:=nR) (k:=1) (fun _=>rfl)]at this;omega
 subst f;exact⟨a,SliceOf.lJ nR c rfl rfl (fun _ _=>rfl) (fun _ _=>rfl) (fun _ b _=>b) Zm,rfl,e⟩
theorem nS.put{Z:Nat}{w d:World}{D:Nat->Prop}{base g n c k:Nat}{s:ByteArray}(a:nS Z w base (g,n,c) n)(v:Kp D w d)(t:¬D g)(y:s.size<=Z)(F:k<n):nS Z (d.setCell (g,k) s) base (g,n,c) n:=by
 obtain⟨f,⟨l,m⟩,o⟩:=a;have G:n=f.length:=by
  rw[nY (enc:=nR) (k:=1) (fun _=>rfl)]at l;omega
 rcases m with⟨b,_⟩|⟨E,B,h,b,u,q,x,r,e⟩
 . cases b
 . injection b with i C j;cases i;subst j;have p:hV (d.setCell (g,k) s) g 9 (h.setIfInBounds k s):=hV.jk (hV.kp (w:=w) q v t) k _;refine⟨f.set k s,⟨by rw[nY (enc:=nR) (k:=1) (fun _=>rfl)];simp;omega,.inr ⟨g,c,_,rfl,u,p,x,r,by simpa using e.1,?_⟩⟩,fun A z=>?_⟩
   . rw[Array.toList_setIfInBounds,List.take_set,e.2,<-wN,<-wN,List.map_set]
   . rcases List.mem_or_eq_of_mem_set z with a|a
     . exact o A a
     . rw[a];exact y
theorem nS.frozen{Z:Nat}{w:World}{base g n c:Nat}(d:nS Z w base (g,n,c) n)(k:Nat):w.frozen? (g,k)=false:=by
 obtain⟨o,⟨j,e⟩,l⟩:=d;rcases e with⟨a,_⟩|⟨i,h,b,a,m,f,-⟩
 . cases a
 . cases a;exact hV.frozen (cs:=b) f k
theorem nS.form{Z:Nat}{w:World}{base:Nat}{v:Value}{n:Nat}(d:nS Z w base v n)(p:0<n)(q:n<=100000):∃a b,v=.slice (some ⟨a,0,none⟩) n b∧base<=a∧a<w.heap.size∧n<=b∧∀c,c<n->∃e:ByteArray,w.cell? ⟨a,c,none⟩=some (.string e)∧e.size<=Z:=by
 have m:=d;obtain⟨u,g,r⟩:=m;obtain⟨a,b,rfl,l,o,k⟩:=jS g p;refine⟨a,b,rfl,l,o,k,fun c t=>?_⟩;obtain⟨x,h,s,i⟩:=d.o q;obtain⟨_,_,f,j⟩:=kS.at_ h (i:=c) (List.getElem?_eq_getElem Zm);cases f;exact⟨_,by simpa using j,i _ (List.getElem_mem _)⟩
end Go.Proofs.YtlhlnddgfcmfkaaGreat
