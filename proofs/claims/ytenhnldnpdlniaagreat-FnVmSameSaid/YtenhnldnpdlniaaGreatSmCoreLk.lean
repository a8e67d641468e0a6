/- Walks. -/
import Derived.Test.YtenhnldnpdlniaaGreatSmCoreLi
import Derived.Deep.CutBlock
set_option maxRecDepth 100000
set_option maxHeartbeats 4000000
set_option linter.all false
namespace Go.Proofs.YtenhnldnpdlniaaGreat
open Go Go.RowKit Tryz M
theorem K9(w:World)(I:Nat->Prop)(hI:∀c,I c->c<w.heap.size)(x:Class){cs:List Value}(j:jT w I x cs){v:Value}(words:List ByteArray)(i:SliceOf 1 lQ w I v words)(m:Nat)(e:m<=1000000)(h:∀y∈words,y.size<=m)(b:0<words.length)(line:ByteArray)(n:Nat)(f:n<=1000)(g:sV n x)(t:line.size<=4000000000):Calls prog 131 #[.agg cs.toArray,v,line] w fun s r=>Br (n+1) (fun c=>I c\/w.heap.size<=c) r s/\Ext w r:=by
 obtain⟨l,k⟩:∃l,words[0]?=some l:=⟨words[0]'b,CU b⟩;cases d:(l.toList==[102,105,101,108,100])
 . cases o:(l.toList==[109,101,116,104,111,100])
   . cases q:x.methods.length with
     |zero=>exact F8 w I hI x cs j v words i m e h b line n f g (fun p a=>by rw[k]at a;cases a;exact⟨d,o⟩) q
     |succ u=>exact F7 w I hI x cs j v words i m e h b line n f g (fun p a=>by rw[k]at a;cases a;exact⟨d,o⟩) t u q
   . exact Di w I hI x cs j v words i m e h b line n f g (fun p a=>by rw[k]at a;cases a;exact⟨d,o⟩)
 . exact EW w I hI x cs j v words i m e h b line n f g (fun p a=>by rw[k]at a;cases a;exact d)
theorem sD:Elem 23 32 2:=oH (z:=.agg #[(),()]) (bytes:=48) underlying23 Zo rfl Zn Zn
theorem Mo:Elem 30 93 2:=oH (z:=.agg #["",Tj]) (bytes:=24) underlying30 Zo rfl Zn Zn
theorem rU:zQ 25 1:=⟨_,underlying25,Zo⟩
structure SmallK(n:Nat)(k:mZ):Prop where
 owns:k.owns.length<=n
 asks:k.asks.length<=n
 inner:∀c∈k.owns,sV n c
structure uF(n:Nat)(p:jl):Prop where
 len:p.length<=n
 inner:∀k∈p,SmallK n k
theorem SmallK.more{n:Nat}{k:mZ}(a:SmallK n k):SmallK (n+1) k:=⟨Uc a.owns,Uc a.asks,fun b c=>(a.inner b c).more⟩
theorem uF.more{n:Nat}{p:jl}(a:uF n p):uF (n+1) p:=⟨Uc a.len,fun c b=>(a.inner c b).more⟩
def QV(x0:ByteArray)(q q':mZ):Prop:=(q.owns≠[]->q'.owns≠[])/\((x0.toList==[99,108,97,115,115])=true->q'.owns≠[])
def NZ(line:ByteArray)(p p':jl):Prop:=((line.toList==[107,101,101,112,101,114])=true->p'=p++[⟨[],[]⟩])/\
 ((line.toList==[107,101,101,112,101,114])=false->∀j q x0,p.length=j+1->p[j]?=some q->(M.words line)[0]?=some x0->p'.length=j+1/\∃q',p'[j]?=some q'/\QV x0 q q')/\((line.toList==[107,101,101,112,101,114])=false->p≠[])
def IC(p0:jl)(line:ByteArray)(n:Nat)(J:Nat->Prop)(w':World)(e:Ending):Prop:=∃p v b,e=.returned (.tuple #[.agg #[v],.bool b])/\SliceOf 2 jo w' J v p/\uF n p/\(b=true->NZ line p0 p)
theorem AZ{w wc:World}{I:Nat->Prop}{p0:jl}{line:ByteArray}(hI:∀b,I b->b<w.heap.size){n:Nat}(p:jl)(i:uF n p){v:Value}(g:Ext w wc)(j:SliceOf 2 jo wc (fun b=>I b\/w.heap.size+2<=b) v p)(b:Bool)(d:Value)(h:b=true->NZ line p0 p):IC p0 line n (fun b=>I b\/w.heap.size<=b) (wc.setCell ⟨w+1,0,none⟩ d) (.returned (.tuple #[.agg #[v],.bool b]))/\Ext w (wc.setCell ⟨w+1,0,none⟩ d):=by
 have e:Kp (·=w+1) wc (wc.setCell ⟨w+1,0,none⟩ d):=qM;exact⟨⟨p,v,b,rfl,j.keep jo.stays (e.same fun b c f=>c.elim (fun a=>Te (hI b a)) (fun a=>Zm)) fun b c=>c.imp id (fun a=>Zm),i,h⟩,g.own e fun b f=>Zm⟩
theorem EX(w:World)(I:Nat->Prop)(hI:∀a,I a->a<w.heap.size)(v:Value)(p:jl)(y:SliceOf 2 jo w I v p)(line:ByteArray)(hl:line.size<=1000000)(n:Nat)(hn:n<=1000)(V:uF n p)(U:(line.toList==[107,101,101,112,101,114])=true):Calls prog 84 #[.agg #[v],line] w fun s Y=>IC p line (n+1) (fun a=>I a\/w.heap.size<=a) Y s/\Ext w Y:=by
 obtain⟨g,h,rfl,aC,aD⟩:=y.form;obtain⟨f,e⟩:=S9 ((w.alloc (.cells #[.slice g p.length h] 25)).alloc (.cells #[()] 25));have L:Ext w f:=by rw[e];exact kx
 have H:jq f w.heap.size 25 #[.slice g p.length h]:=by rw[e];exact(jq.new _ _ _).ext kx
 have J:jq f (w.heap.size+1) 25 #[()]:=by rw[e];exact jq.BU _ _ Zl
 have W:f.heap.size=w.heap.size+2:=by rw[e];simp
 have⟨av,ax,HP,D,o,aa,ae,aj⟩:=Em e W y hI V H J L;clear e W y hI V H J L;go_enter func84,ntmps84;go_upto_region 1 with(fail);rw[<-av.o];go_wp2_with fail;refine(Bl line _ Zm).mono ?_;rintro s d ⟨⟨vw,rfl,hv⟩,i⟩;have q:=aa.o.ext i;have⟨A,af,B⟩:=jI q (ae.o.ext i) (aj.o.trans i);have ay:Zz (w.heap.size+2<=d.heap.size):=Zy (by have:=i.size;have:=ax.o;omega);have au:=Zy (HP.o.ext jo.stays B.o);obtain⟨dz,r,-⟩:=q.ca;obtain⟨K,Q,R,S⟩:=SliceOf.cells One.keep Zn au.o;have⟨ag,ah,ak⟩:=jI Q R S;have aF:p.length<=4000:=by have:=o.o.len;omega
 have HJ:Zz ((∀a,I a->a≠w.heap.size)/\p.length+1<=4294967296):=Zy ⟨fun a c=>by have:=D.o a c;omega,by omega⟩;have HY:Zz (jo d I (⟨[],[]⟩:mZ) [(),()]):=Zy ⟨_,_,rfl,SliceOf.nil _ _ _ _,SliceOf.nil _ _ _ _⟩;have F:Zz ((d.alloc (.cells #[] 32)).ownsRow d.heap.size 32 2 (.slice (some ⟨d.heap.size,0,none⟩) 0 0) 0 []):=Zy (kV d _ _ _ (Tu _) rfl);clear Q R S q i hv;go_upto_region 4 with(fail);go_cut [] (fun wx=>Cn 2 jo d wx I w.heap.size 25 #[.slice g p.length h] 0 (p++[(⟨[],[]⟩:mZ)]))
 case first=>
  have d1:=r;go_wp2_with (first
   |(refine kM sD _ rfl (.tmp 23) (.tmp 25) rfl d.heap.size (.slice (some ⟨d.heap.size,0,none⟩) 0 0) 0 [] rfl F.o g p.length h K.flatten rfl (ak.o.ext (jJ _)) Zm Zl ?_;intro v9 j u P;rw[Tk,TZ]at u;have O:=(jJ _:Ext d _).own P (fun a c=>(F.o.lt a c).1);have E:=Zy u;have C:=Zy O;have z:Zz (Ext j (j.alloc (.cells #[(),()] 32))):=Zy (jJ _);have ai:Zz (hQ (j.alloc (.cells #[(),()] 32)) j.heap.size 0 [(),()]):=Zy (hQ.oI _ _ rfl);clear u O P r d1)
   |(refine jF sD rfl (.tmp 26) (.tmp 28) rfl d.heap.size v9 p.length K.flatten rfl (jr (D:=fun _=>False) E.o z.o fun _ _ _ b=>b) j.heap.size 1 [(),()] rfl rfl ai.o Zt Zm (by have:=C.o.size;simp;omega) ?_;intro g7 c7 w7 aA az _;have N:=(C.o.trans z.o).own az (fun a c=>(E.o.lt a c).1);have x:=A.o.ext N;have aG:=x.c 0 (.slice g p.length h) rfl;have uf:=x.frozen 0;have uz:=x.lt))
  go_meet;exact pV jo.stays Zm aA ag.o ah.o HY.o rfl N HJ.o A.o 0
 obtain⟨v',k,c,t⟩:=hcut;obtain⟨G,X,rfl,-,-⟩:=k.form;obtain⟨l,T⟩:∃l,(p++[(⟨[],[]⟩:mZ)]).length=l:=⟨_,rfl⟩;rw[T]at k c;clear T;have c:jq wc w.heap.size 25 #[.slice G l X]:=c;have⟨m,Z⟩:=jw (af.o.kp t Zm) (fun a v0=>AZ (p0:=p) (line:=line) D.o (n:=n+1) (p++[(⟨[],[]⟩:mZ)]) ⟨by simpa using o.o.len,fun aB hk=>(TU.1 hk).elim (fun b=>(o.o.inner aB b).more) (fun b=>by simp only[U4]at b;subst b;exact⟨by simp,by simp,by simp⟩)⟩ (B.o.own t (fun a s=>by omega)) (k.keep jo.stays (fun _ _ _ _ b=>b) (fun a c=>c.imp id (fun b=>by have:=ay.o;omega))) a v0 (fun _=>⟨fun _=>rfl,(fun b=>by rw[U]at b;cases b),(fun b=>by rw[U]at b;cases b)⟩));obtain⟨ez,e0,-⟩:=c.ca;clear k c t r dz;obtain⟨gz,g0,-⟩:=m.o.ca;have k0:=m.o.frozen 0;go_wp2_with fail;refine PG (hU rU rfl (w.heap.size+1) rfl [.slice G l X] (hQ.kX (m.o.jR 0 _)) rfl) rfl ?_;exact Z.o _ _
theorem Ih(w:World)(I:Nat->Prop)(hI:∀a,I a->a<w.heap.size)(v:Value)(p:jl)(j:SliceOf 2 jo w I v p)(line:ByteArray)(hl:line.size<=1000000)(n:Nat)(W:n<=1000)(r:uF n p)(X:(line.toList==[107,101,101,112,101,114])=false)(h0:p.length=0):Calls prog 84 #[.agg #[v],line] w fun o t=>IC p line (n+1) (fun a=>I a\/w.heap.size<=a) t o/\Ext w t:=by
 have T:((p.length:Int)==0)=true:=by simp[h0]
 clear h0;obtain⟨f,h,rfl,U,V⟩:=j.form;obtain⟨c,b⟩:=S9 ((w.alloc (.cells #[.slice f p.length h] 25)).alloc (.cells #[()] 25));have q:Ext w c:=by rw[b];exact kx
 have l:jq c w 25 #[.slice f p.length h]:=by rw[b];exact(jq.new _ _ _).ext kx
 have m:jq c (w+1) 25 #[()]:=by rw[b];exact jq.BU _ _ Zl
 have s:c.heap.size=w+2:=by rw[b];simp
 have⟨F,G,C,B,E,x,y,A⟩:=Em b s j hI r l m q;clear b s j hI r l m q;go_enter func84,ntmps84;go_upto_region 1 with(fail);rw[<-F.o];go_wp2_with fail;refine(Bl line _ Zm).mono ?_;rintro o L ⟨⟨Z,rfl,J⟩,d⟩;have g:=x.ext d;have⟨N,z,k⟩:=jI g (y.ext d) (A.trans d);have O:Zz ((w:Nat)+2<=(L:Nat)):=Zy (Tf d.size G.o);have D:=Zy (C.ext jo.stays k);obtain⟨Q,P,-⟩:=g.ca;have e:=z;have u:=Zy (fun a K=>AZ (p0:=p) (line:=line) B (n:=n+1) p E.more k (D.keep jo.stays (fun _ _ _ _ i=>i) (fun a H=>.inl H)) a K);clear g d J;obtain⟨S,R,-⟩:=e.ca;have Y:=e.frozen 0;go_wp2_with fail;refine PG (hU rU rfl (w+1) rfl [.slice f p.length h] (hQ.kX (e.jR 0 _)) rfl) rfl ?_;exact u _ _ (fun i=>by cases i)
theorem La(w:World)(I:Nat->Prop)(hI:∀a,I a->a<w.heap.size)(v:Value)(p:jl)(hp:SliceOf 2 jo w I v p)(line:ByteArray)(hl:line.size<=1000000)(n:Nat)(hn:n<=1000)(aT:uF n p)(hq:(line.toList==[107,101,101,112,101,114])=false)(j:Nat)(hj:p.length=j+1):Calls prog 84 #[.agg #[v],line] w fun k w'=>IC p line (n+1) (fun a=>I a\/w.heap.size<=a) w' k/\Ext w w':=by
 have fC:((p.length:Int)==0)=false:=SK.2 Zm;obtain⟨e,bJ⟩:∃e,p[j]?=some e:=⟨p[j]'Zm,CU Zm⟩;have fU:p.length<=4000:=Te aT.len
 have fO:j<=4000:=Zm
 have fV:((p.length:Nat):Int) - 1=(j:Int):=Zm
 have fZ:IntKind.i64.wrap (((p.length:Nat):Int) - 1)=(j:Int):=by rw[TM _ Zm];omega
 have fK:(0:Int)<=(j:Int):=Zm
 have fM:(j:Int)<p.length:=Zm
 have⟨aF,bQ,D⟩:=jI hj bJ (aT.inner e (Tx bJ));clear hj bJ;obtain⟨bT,u,rfl,fE,fF⟩:=hp.form;obtain⟨w0,aD⟩:=S9 ((w.alloc (.cells #[.slice bT p.length u] 25)).alloc (.cells #[()] 25));have bV:Ext w w0:=by rw[aD];exact kx
 have b2:jq w0 w 25 #[.slice bT p.length u]:=by rw[aD];exact(jq.new _ _ _).ext kx
 have b4:jq w0 (w+1) 25 #[()]:=by rw[aD];exact jq.BU _ _ Zl
 have dx:w0.heap.size=w+2:=by rw[aD];simp
 have⟨dX,bS,HP,HI,bn,dC,dE,dK⟩:=Em aD dx hp hI aT b2 b4 bV;clear aD dx hp hI aT b2 b4 bV;go_enter func84,ntmps84;go_upto_region 1 with(fail);rw[<-dX.o];go_wp2_with fail;refine(Bl line _ Zm).mono ?_;rintro k h ⟨⟨vw,rfl,hv⟩,aI⟩;have bC:=dC.ext aI;have⟨dD,dF,bO⟩:=jI bC (dE.ext aI) (dK.trans aI);have Y:Zz ((w:Nat)+2<=(h:Nat)):=Zy (Tf aI.size bS.o);have bg:=Zy (HP.ext jo.stays bO);obtain⟨dz,d0,-⟩:=bC.ca;obtain⟨bq,oq,ks,rfl,-,eF,-,cu⟩:=bg.get bQ;obtain⟨vo,va,rfl,hO,E⟩:=eF;obtain⟨oa,oc,rfl,-,-⟩:=hO.form;obtain⟨aa,ac,rfl,-,-⟩:=E.form;obtain⟨s0,s1⟩:=cu.two;obtain⟨w2,aU⟩:=S9 (h.alloc (.cells #[.slice oa e.owns.length oc,.slice aa e.asks.length ac] 32));have af:Ext h w2:=by rw[aU];exact Zx
 have b8:jq w2 h 32 #[.slice oa e.owns.length oc,.slice aa e.asks.length ac]:=by rw[aU];exact jq.new _ _ _
 have aQ:∀a,I a->(fun a=>(I a\/w.heap.size+2<=a)/\a≠h.heap.size) a:=fun a c=>⟨.inl c,Tf (HI.o a c) Y.o⟩;obtain⟨l,eU,rfl,-,-⟩:=hv.form;obtain⟨x0,aV⟩:∃x0,(M.words line)[0]?=some x0:=by
  obtain⟨C,gu,k⟩:=M.FK line;exact⟨C,by rw[k];rfl⟩
 have dZ:=Zy aV;obtain⟨bw,ow,rfl,gw⟩:=lQ.at_ hv aV;simp only[UU]at gw;have aH:=af.jm gw;have bA:Zz (SliceOf 1 lQ w2 (fun a=>(I a\/w.heap.size+2<=a)/\a≠h.heap.size) (.slice (some ⟨bw,ow,none⟩) (M.words line).length eU) (M.words line)):=Zy (hv.keep lQ.stays (Ext.same af) (fun a c=>⟨.inr (Te bS.o),Zm⟩));have⟨aN,aX⟩:=jw (hO.keep jT.stays (Ext.same af) aQ) (E.keep vL.stays (Ext.same af) aQ);have dm:∀dA∈M.words line,dA.size<=line.size:=fun dA hu=>M.JY hu;have dn:=(Tt.1 aV).1;have⟨bu,dY⟩:=jw dm dn;have cO:=bg.take (i:=j) (Te aF.o);have⟨dR,bz,aZ,bM,bN,bP⟩:=pR (cO.keep jo.stays (Ext.same af) aQ) (show(p.take j).length=j by have:=aF.o;rw[TN];omega) b8 (dD.o.ext af) (dF.o.ext af) (bO.o.trans af);have Z:=Zy b8.lt;have bR:=Zy aU;obtain⟨ez,e0,e1,-⟩:=b8.ca;have wz:=jv aH;have fT:e.owns.length<=4000:=Te D.owns
 have fD:e.asks.length<=4000:=Te D.asks
 have F:Zz ((∀a,(fun a=>(I a\/w.heap.size+2<=a)/\a≠h.heap.size) a->a≠h.heap.size)):=Zy (fun a c=>c.2);clear bC aI hv aU af b8 aQ aV dm dn cu hO E cO gw;go_upto_region 10 with(fail);rw[<-bR.o];go_upto_block 0 with(fail);go_cut [9] (fun s9 wx=>(∃a,s9=.bool a)/\∃q' P R S G H J,jo wx (fun a=>(I a\/w.heap.size+2<=a)/\a≠h.heap.size) q' [.slice P R S,.slice G H J]/\SmallK (n+1) q'/\QV x0 e q'/\jq wx h 32 #[.slice P R S,.slice G H J]/\Kp (·=h) w2 wx)
 case first=>
  clear s0 s1 d0 dz;cases h1:(x0.toList==[97,115,107,115]);rotate_left
  . go_wp2_with fail;refine(Ig (M.words line) line.size Zm bA bu).mono ?_;rintro k W ⟨⟨V,k1,ok,rfl,-⟩,ai⟩;obtain⟨d,z⟩:=S9 (W.alloc (.cells #[V,k1] 93));have ag:Ext W d:=by rw[z];exact Zx
    have b9:jq d W 93 #[V,k1]:=by rw[z];exact jq.new _ _ _
    have q:=ai.trans ag;have⟨bf,aY⟩:=jw (aN.ext jT.stays q) (aX.ext vL.stays q);have X:=aZ.ext q;have⟨t,T⟩:=jw X q;obtain⟨eB,aK,ay,aJ⟩:=SliceOf.cells One.ask Zn aY;have⟨au,av,ax⟩:=jI aK ay aJ;have F:Zz ((∀a,(fun a=>(I a\/w.heap.size+2<=a)/\a≠h.heap.size) a->a≠h.heap.size)/\e.asks.length+1<=4294967296):=Zy ⟨F,Zm⟩;have HY:Zz (vL d (fun a=>(I a\/w.heap.size+2<=a)/\a≠h.heap.size) (⟨V,k1⟩:M.Ask) [V,k1]):=Zy (rfl);have⟨bB,aG⟩:=jw (hQ.kX b9) z;obtain⟨pz,p0,-⟩:=X.ca;clear ai ag q z aK ay aJ b9 X e0 e1 ez aH wz;go_upto_region 18 with(fail);rw[<-aG.o];go_cut [9] (fun s9 wx=>(∃a,s9=.bool a)/\wx=d)
    case first=>
     by_cases bH:e.owns.length=0
     . have eG:((e.owns.length:Int)==0)=true:=by simp[bH]
       clear bH;cases ok
       . go_wp2;go_meet;exact⟨⟨_,rfl⟩,rfl⟩
       . go_wp2;go_meet;exact⟨⟨_,rfl⟩,rfl⟩
     . have eG:((e.owns.length:Int)==0)=false:=SK.2 Zm;clear bH;cases ok
       . go_wp2;go_meet;exact⟨⟨_,rfl⟩,rfl⟩
       . go_wp2;go_meet;exact⟨⟨_,rfl⟩,rfl⟩
    obtain⟨⟨gp,rfl⟩,ah⟩:=hcut;rw[ah];clear ah p0 pz;go_upto_region 19 with(fail);refine Mk [83,84,85,86,87,88,89,90] 1 Mo Aq t rfl bB ax Zm ?_;intro eT g9 c9 wr o A;have m:=t.ext o;obtain⟨zX,-,vX,-⟩:=m.ca;have fX:=m.frozen 1;have E:=pV (R:=vL) vL.stays Zm A au av HY rfl o F t 1;clear A m;go_wp2;go_meet;obtain⟨v',y,c,L⟩:=E;obtain⟨a6,m6,rfl,-,-⟩:=y.form;replace y:=y.keep (J:=(fun a=>(I a\/w.heap.size+2<=a)/\a≠h.heap.size)) vL.stays (fun _ _ _ _ b=>b) (fun a c=>c.elim id (fun b=>⟨.inr (Tg T.size Z.o Y.o),Tf T.o.size Z.o⟩));exact⟨⟨_,rfl⟩,⟨e.owns,(e.asks++[(⟨V,k1⟩:M.Ask)])⟩,_,_,_,_,_,_,⟨_,_,rfl,bf.keep jT.stays (L.same F.1) (fun _ b=>b),y⟩,⟨D.more.owns,by simpa using D.o.asks,D.o.more.inner⟩,⟨fun b=>b,fun b=>by rw[Ue]at b h1;rw[b]at h1;cases h1⟩,c,T.o.any.trans L⟩
  cases h2:(x0.toList==[99,108,97,115,115]);rotate_left
  . go_wp2_with fail;refine(F5 (M.words line) line.size bA bu).mono ?_;rintro k W ⟨⟨V,s1,ok,rfl,-,-⟩,ai⟩;obtain⟨d,z⟩:=S9 (W.alloc (.cells #[V,s1,(),()] 38));have ag:Ext W d:=by rw[z];exact Zx
    have b9:jq d W 38 #[V,s1,(),()]:=by rw[z];exact jq.new _ _ _
    have q:=ai.trans ag;have⟨bf,aY⟩:=jw (aN.ext jT.stays q) (aX.ext vL.stays q);have X:=aZ.ext q;have⟨t,T⟩:=jw X q;obtain⟨eB,aK,ay,aJ⟩:=SliceOf.cells One.cls Zn bf;have⟨au,av,ax⟩:=jI aK ay aJ;have F:Zz ((∀a,(fun a=>(I a\/w.heap.size+2<=a)/\a≠h.heap.size) a->a≠h.heap.size)/\e.owns.length+1<=4294967296):=Zy ⟨F,Zm⟩;have HY:Zz (jT d (fun a=>(I a\/w.heap.size+2<=a)/\a≠h.heap.size) (⟨V,s1,[],[]⟩:Class) [V,s1,(),()]):=Zy (⟨_,_,rfl,SliceOf.nil _ _ _ _,SliceOf.nil _ _ _ _⟩);have⟨bB,aG⟩:=jw (hQ.kX b9) z;clear ai ag q z aK ay aJ b9 X e0 e1 ez aH wz;go_upto_region 23 with(fail);rw[<-aG.o];refine Mk [99,100,101,102,103,104,105,106] 0 vC uS t rfl bB ax Zm ?_;intro eT g9 c9 wr o A;have m:=t.ext o;obtain⟨zX,vX,-⟩:=m.ca;have fX:=m.frozen 0;have E:=pV (R:=jT) jT.stays Zm A au av HY rfl o F t 0;clear A m;go_wp2;go_meet;obtain⟨v',y,c,L⟩:=E;obtain⟨a6,m6,rfl,-,-⟩:=y.form;replace y:=y.keep (J:=(fun a=>(I a\/w.heap.size+2<=a)/\a≠h.heap.size)) jT.stays (fun _ _ _ _ b=>b) (fun a c=>c.elim id (fun b=>⟨.inr (Tg T.size Z.o Y.o),Tf T.o.size Z.o⟩));exact⟨⟨_,rfl⟩,⟨(e.owns++[(⟨V,s1,[],[]⟩:Class)]),e.asks⟩,_,_,_,_,_,_,⟨_,_,rfl,y,aY.keep vL.stays (L.same F.1) (fun _ b=>b)⟩,⟨by simpa using D.o.owns,D.o.more.asks,fun u hc=>(TU.1 hc).elim (D.o.more.inner u) (fun b=>by simp only[U4]at b;subst b;exact⟨Zl,Zl,Zl⟩)⟩,⟨fun _=>by simp,fun _=>by simp⟩,c,T.any.trans L⟩
  by_cases bI:e.owns.length=0
  . have eO:((e.owns.length:Int)==0)=true:=by simp[bI]
    have ak:=bN;have aW:=Zy (fun a v0=>AZ (p0:=p) (line:=line) HI (n:=n+1) p bn.more bP ((bg.ext jo.stays (by have:=bR.o;rw[this];exact jJ _)).keep jo.stays (fun _ _ _ _ b=>b) (fun a c=>.inl c)) a v0);obtain⟨dz,d0,-⟩:=bM.ca;clear bI;obtain⟨gz,g0,-⟩:=ak.ca;have k0:=ak.frozen 0;go_wp2_with fail;refine PG (hU rU rfl (w+1) rfl [.slice (some ⟨bq,oq,none⟩) p.length u] (hQ.kX (ak.jR 0 _)) rfl) rfl ?_;exact aW _ _ (fun b=>by cases b)
  . have eO:((e.owns.length:Int)==0)=false:=SK.2 Zm;obtain⟨i,hi⟩:∃i,e.owns.length=i+1:=⟨e.owns.length - 1,Zm⟩;obtain⟨aj,hx⟩:∃aj,e.owns[i]?=some aj:=⟨e.owns[i]'Zm,CU Zm⟩;have fI:((e.owns.length:Nat):Int) - 1=(i:Int):=Zm
    have fJ:IntKind.i64.wrap (((e.owns.length:Nat):Int) - 1)=(i:Int):=by rw[TM _ Zm];omega
    have fG:(0:Int)<=(i:Int):=Zm
    have fH:(i:Int)<e.owns.length:=Zm
    obtain⟨bx,ox,cs,rfl,-,bF,-,cz⟩:=aN.get hx;obtain⟨xa,xb,xc,xd,rfl⟩:=bF.form;obtain⟨t0,t1,t2,t3⟩:=cz.four;have⟨dJ,dV⟩:=jw bF (D.inner aj (Tx hx));have dO:Zz (e.owns≠[]):=Zy (fun k=>by rw[k]at hi;simp at hi);have fP:=D.owns;clear bI hi hx bF cz;go_wp2_with fail;refine(K9 w2 (fun a=>(fun a=>(I a\/w.heap.size+2<=a)/\a≠h.heap.size) a/\a<w2.heap.size) (fun _ b=>b.2) aj (jT.inside dJ) (M.words line) (bA.inside (fun _ _ _ _ b=>b) Zm) line.size Zm bu dY line n hn dV Zm).mono ?_;rintro k W ⟨⟨C,fw,ok,rfl,hy,di⟩,ai⟩;obtain⟨ya,yb,yc,yd,rfl⟩:=hy.form;obtain⟨d,z⟩:=S9 (W.alloc (.cells #[C.name,C.jE,.slice ya C.fields.length yb,.slice yc C.methods.length yd] 38));have ag:Ext W d:=by rw[z];exact Zx
    have bU:jq d W 38 #[C.name,C.jE,.slice ya C.fields.length yb,.slice yc C.methods.length yd]:=by rw[z];exact jq.new _ _ _
    have q:=ai.trans ag;have X:=aZ.ext q;have dw:=jT.stays _ _ _ _ _ _ (Ext.same ag) (fun a c=>c.elim (fun b=>b.1) (fun b=>⟨.inr (Tf Z.o Y.o),Te Z.o⟩)) hy;have⟨ed,dS,dH,T,aG,dW⟩:=pR (jT.inside dw) (jo.inside ⟨_,_,rfl,aN.ext jT.stays q,aX.ext vL.stays q⟩) X q z di;obtain⟨vz,v0,v1,-⟩:=X.ca;obtain⟨fo,eX,eY,eZ,fe,-⟩:=bU.ca;clear ai ag q bU X hy dw z e0 e1 ez aH wz t0 t1 t2 t3 di;go_upto_region 15 with(fail);rw[<-aG.o];go_wp2_with fail;refine(Nu d (fun a=>(fun a=>(I a\/w.heap.size+2<=a)/\a≠h.heap.size) a/\a<d.heap.size) (fun _ b=>b.2) e dS C ed dO Zm).mono ?_;rintro k w6 ⟨⟨gm,rfl,eH⟩,bG⟩;obtain⟨gH,gG,rfl,aS,bE⟩:=eH;obtain⟨l1,l2,rfl,-,-⟩:=aS.form;obtain⟨l3,l4,rfl,-,-⟩:=bE.form;obtain⟨ln,aC⟩:∃ln,(e.owns.dropLast++[C]).length=ln:=⟨_,rfl⟩;rw[aC]at aS;simp only[aC];have aO:=dH.ext bG;have dI:=Zy aO;obtain⟨uz,gy,gB,-⟩:=aO.ca;obtain⟨gD,gF,-⟩:=aO.fz;have⟨dQ,dB,dL⟩:=jI aS bE (T.trans bG);clear aO aS bE bG v0 v1 vz eX eY eZ fe fo aC;go_wp2;go_meet;have hP:Kp (·=h) w6 ((w6.setCell h (.slice l1 ln l2)).setCell (h,1) (.slice l3 e.asks.length l4)):=Kp.EN (D:=(·=h)) rfl _ _;have aR:∀a,(((fun a=>(I a\/w.heap.size+2<=a)/\a≠h.heap.size) a/\a<d.heap.size)\/d.heap.size<=a)->(fun a=>(I a\/w.heap.size+2<=a)/\a≠h.heap.size) a:=fun a c=>c.elim (fun b=>b.1) (fun b=>⟨.inr (Tg T.size Z.o Y.o),Tf T.o.size Z.o⟩);have ay:∀u∈e.owns.dropLast++[C],sV (n+1) u:=fun u hc=>(TU.1 hc).elim (fun b=>D.more.inner u (List.dropLast_subset _ b)) (fun b=>by simp only[U4]at b;subst b;exact dW);exact⟨⟨_,rfl⟩,⟨e.owns.dropLast++[C],e.asks⟩,_,_,_,_,_,_,⟨_,_,rfl,dQ.keep jT.stays (hP.same fun a c=>(aR a c).2) aR,dB.keep vL.stays (hP.same fun a c=>(aR a c).2) aR⟩,⟨by have:=D.owns;simp;omega,D.o.more.asks,ay⟩,⟨fun _=>by simp,fun b=>by rw[h2]at b;cases b⟩,jq.EN dI.o _ _,dL.o.any.trans hP⟩
 obtain⟨⟨gq,rfl⟩,q',P,R,S,G,H,J,cZ,dh,cK,bX,aB⟩:=hcut;have dN:=Zy cK;obtain⟨d,rfl⟩:∃d,d=wc:=⟨_,rfl⟩;have bW:=dR.keep jo.stays (aB.same fun a c=>c.2) (J:=(fun a=>I a\/w.heap.size+2<=a)) (fun a c=>c.1);obtain⟨az,bY,bZ,cB⟩:=SliceOf.cells One.keep Zn bW;have bD:=bM.kp aB (Te Y.o);have⟨au,av,ax,t,dG,dM⟩:=pR bY bZ cB bD (bN.kp aB (Te Y.o)) (bP.o.own aB (fun a k=>Te Y.o));replace F:Zz ((∀a,(fun a=>I a\/w.heap.size+2<=a) a->a≠w.heap.size)/\(p.take j).length+1<=4294967296):=Zy ⟨fun a c=>c.elim (fun b=>Te (HI.o a b)) (fun b=>Zm),Te bz.o⟩;have HY:=Zy (jo.stays _ _ _ _ _ _ (fun _ _ _ _ b=>b) (fun a c=>c.1) cZ);have dU:=Zy dh;have ek:=Zy aB.size;obtain⟨fu,fA,fQ,HT⟩:=lL d;have r0:=fun bK=>(bD.ext (HT.jC bK)).c 0 (.slice (some ⟨bq,oq,none⟩) p.length u) rfl;obtain⟨-,y0,y1,-⟩:=jq.pq fun bK=>(bX.ext (HT.jC bK));have r:=Zy HT;clear bW bY bZ cB bD cZ dh cK bX aB HT d0 dz e0 e1 ez aH wz s0 s1;go_upto_region 24 with(fail);go_cut [] (fun wx=>Cn 2 jo d wx (fun a=>I a\/w.heap.size+2<=a) w 25 #[.slice (some ⟨bq,oq,none⟩) p.length u] 0 (p.take j++[q']))
 case first=>
  refine rQ r 10 (.two [1,2,3,4,5,7] 0 8 (.two [] 6 8 (.one [] 8 (.one [] 9 (.fin []))) (.one [] 6 (.one [] 9 (.fin [])))) (.one [] 0 (.one [] 6 (.one [] 9 (.fin []))))) ?_ ?_
  . exact jA
  refine two [_,_,_,_,_,_] rfl rfl rfl fun eu L=>?_;(repeat (go_big_quiet_step (fail)));((refine EP L (fun g f=>?_) fun g f=>?_)<;>clear L eu)
  . have aA:Ext d d.drew:=jA;generalize d.drew=wd at aA |-;go_wp2_with fail;obtain⟨l,N⟩:∃ww,ww=wd.alloc (.cells #[] 32):=⟨_,rfl⟩;have ae:Ext d l:=aA.trans (by rw[N];exact jJ _);have Q:l.ownsRow d 32 2 (.slice (some ⟨wd,0,none⟩) 0 0) 0 []:=by rw[N];exact kV wd _ _ _ aA.size rfl
    have bL:Zz ((l:Nat)=wd+1):=Zy (by rw[N];simp);rw[<-N];clear N;refine kk r f ae ?_;clear f g;refine Ck rfl rfl (fun g f=>?_) fun g f=>?_
    . skip;refine kM sD _ rfl (.tmp 107) (.tmp 112) rfl d (.slice (some ⟨wd,0,none⟩) 0 0) 0 [] rfl Q (some ⟨bq,oq,none⟩) j u az.flatten rfl (ax.ext ae) Zm ae.size ?_;intro v9 B s eQ;rw[Tk,TZ]at s;have K:=ae.own eQ (fun a c=>(Q.lt a c).1);change g _ _;refine kk r f K ?_;clear f g;refine j3 rfl fun g f=>?_;go_wp2_with fail;obtain⟨wc,ah⟩:∃ww,ww=B.alloc (.cells #[.slice P R S,.slice G H J] 32):=⟨_,rfl⟩;have U:Ext d wc:=K.trans (by rw[ah];exact jJ _);have eD:Ext B wc:=by rw[ah];exact jJ _
      have x:hQ wc B 0 [.slice P R S,.slice G H J]:=by rw[ah];exact hQ.oI _ _ rfl
      have gI:Zz ((wc:Nat)=B+1):=Zy (by rw[ah];simp);rw[<-ah];clear ah;refine kk r f U ?_;clear f g;have s:=jr (D:=fun _=>False) s eD fun _ _ _ aj=>aj;refine j3 rfl fun g f=>?_;refine jF sD rfl (.tmp 113) (.tmp 115) rfl d v9 j az.flatten rfl s B 1 [.slice P R S,.slice G H J] rfl rfl x Zt Zm U.size ?_;intro g9 c9 wf A aM _;have o:=U.own aM (fun a c=>(s.lt a c).1);change g _ _;refine kk r f o ?_;clear f g;refine kQ ?_;have m:=t.ext o;obtain⟨zX,vX,-⟩:=m.ca;have fX:=m.frozen 0;have E:=pV (R:=jo) jo.stays Zm A au av HY rfl o F t 0;clear x Q s A r m;go_wp2;go_meet;exact E
    . skip;go_wp2_with fail;obtain⟨B,O⟩:∃ww,ww=l.alloc (.cells #[.slice P R S,.slice G H J] 32):=⟨_,rfl⟩;have K:Ext d B:=ae.trans (by rw[O];exact jJ _);have aP:Ext l B:=by rw[O];exact jJ _
      have x:hQ B l 0 [.slice P R S,.slice G H J]:=by rw[O];exact hQ.oI _ _ rfl
      have fq:Zz ((B:Nat)=l+1):=Zy (by rw[O];simp);rw[<-O];clear O;refine kk r f K ?_;clear f g;have Q:=jr (D:=fun _=>False) Q aP fun _ _ _ aj=>aj;refine j3 rfl fun g f=>?_;refine kM sD _ rfl (.tmp 107) (.tmp 112) rfl d (.slice (some ⟨wd,0,none⟩) 0 0) 0 [] rfl Q (some ⟨bq,oq,none⟩) j u az.flatten rfl (ax.ext K) Zm K.size ?_;intro v9 wc s aL;rw[Tk,TZ]at s;have U:=K.own aL (fun a c=>(Q.lt a c).1);have x:=x.kp aL (fun k=>by simp[Value.ownBlock]at k;have:=bL.o;omega);change g _ _;refine kk r f U ?_;clear f g;refine j3 rfl fun g f=>?_;refine jF sD rfl (.tmp 113) (.tmp 115) rfl d v9 j az.flatten rfl s l 1 [.slice P R S,.slice G H J] rfl rfl x Zt Zm U.size ?_;intro g9 c9 wf A aM _;have o:=U.own aM (fun a c=>(s.lt a c).1);change g _ _;refine kk r f o ?_;clear f g;refine kQ ?_;have m:=t.ext o;obtain⟨zX,vX,-⟩:=m.ca;have fX:=m.frozen 0;have E:=pV (R:=jo) jo.stays Zm A au av HY rfl o F t 0;clear x Q s A r m;go_wp2;go_meet;exact E
  . have aA:Ext d d.drew:=jA;generalize d.drew=wd at aA |-;go_wp2_with fail;obtain⟨l,N⟩:∃ww,ww=wd.alloc (.cells #[.slice P R S,.slice G H J] 32):=⟨_,rfl⟩;have ae:Ext d l:=aA.trans (by rw[N];exact jJ _);have fB:Ext wd l:=by rw[N];exact jJ _
    have x:hQ l wd 0 [.slice P R S,.slice G H J]:=by rw[N];exact hQ.oI _ _ rfl
    have bL:Zz ((l:Nat)=wd+1):=Zy (by rw[N];simp);rw[<-N];clear N;refine kk r f ae ?_;clear f g;refine j3 rfl fun g f=>?_;go_wp2_with fail;obtain⟨B,O⟩:∃ww,ww=l.alloc (.cells #[] 32):=⟨_,rfl⟩;have aP:Ext l B:=by rw[O];exact jJ _
    have K:=ae.trans aP;have Q:B.ownsRow d 32 2 (.slice (some ⟨l,0,none⟩) 0 0) 0 []:=by rw[O];exact kV l _ _ _ ae.size rfl
    have fq:Zz ((B:Nat)=l+1):=Zy (by rw[O];simp);rw[<-O];clear O;refine kk r f K ?_;clear f g;have x:=x.ext aP;refine j3 rfl fun g f=>?_;refine kM sD _ rfl (.tmp 107) (.tmp 112) rfl d (.slice (some ⟨l,0,none⟩) 0 0) 0 [] rfl Q (some ⟨bq,oq,none⟩) j u az.flatten rfl (ax.ext K) Zm K.size ?_;intro v9 wc s aL;rw[Tk,TZ]at s;have U:=K.own aL (fun a c=>(Q.lt a c).1);have x:=x.kp aL (fun k=>by simp[Value.ownBlock]at k;have:=bL.o;omega);change g _ _;refine kk r f U ?_;clear f g;refine j3 rfl fun g f=>?_;refine jF sD rfl (.tmp 113) (.tmp 115) rfl d v9 j az.flatten rfl s wd 1 [.slice P R S,.slice G H J] rfl rfl x Zt Zm U.size ?_;intro g9 c9 wf A aM _;have o:=U.own aM (fun a c=>(s.lt a c).1);change g _ _;refine kk r f o ?_;clear f g;refine kQ ?_;have m:=t.ext o;obtain⟨zX,vX,-⟩:=m.ca;have fX:=m.frozen 0;have E:=pV (R:=jo) jo.stays Zm A au av HY rfl o F t 0;clear x Q s A r m;go_wp2;go_meet;exact E
 obtain⟨v',y,c,L⟩:=hcut;obtain⟨a6,m6,rfl,-,-⟩:=y.form;obtain⟨ln,aC⟩:∃ln,(p.take j++[q']).length=ln:=⟨_,rfl⟩;rw[aC]at y c;clear aC;have c:jq wc w 25 #[.slice a6 ln m6]:=c;have ak:=Zy (dG.kp L Zm);have df:uF (n+1) (p.take j++[q']):=⟨by have:=bz.o;have:=bn.len;have:=aF.o;simp;omega,fun eP hk=>(TU.1 hk).elim (fun b=>(bn.o.inner eP (Uo b)).more) (fun b=>by simp only[U4]at b;subst b;exact dU)⟩;have dP:Zz ((line.toList==[107,101,101,112,101,114])=false->p≠[]):=Zy (fun _ k=>by have:=aF.o;rw[k]at this;cases this);have aW:=Zy (fun a v0=>AZ (p0:=p) (line:=line) HI (n:=n+1) _ df (dM.own L (fun a k=>Zm)) (y.keep jo.stays (fun _ _ _ _ b=>b) (fun a c=>c.elim id (fun b=>.inr (Tg ek.o Z.o Y.o)))) a v0 (fun _=>⟨(fun b=>by rw[hq]at b;cases b),fun _ j2 q2 y0 e1 e2 e3=>by
  have:=aF.o;obtain rfl:j2=j:=Zm
  obtain rfl:q2=e:=by have:=bQ.o;rw[this]at e2;injection e2 with k;exact k.symm
  obtain rfl:y0=x0:=by have:=dZ.o;rw[this]at e3;injection e3 with k;exact k.symm
  have ht:=bz.o;exact⟨by simp[ht],q',by rw[TF Zm,ht,Wh];rfl,dN⟩,dP⟩))
 obtain⟨ez,e0,-⟩:=c.ca;clear y c L df r r0 y0 y1;obtain⟨gz,g0,-⟩:=ak.ca;have k0:=ak.frozen 0;go_wp2_with fail;refine PG (hU rU rfl (w+1) rfl [.slice a6 ln m6] (hQ.kX (ak.jR 0 _)) rfl) rfl ?_;exact aW _ _
theorem GK{w:World}{I:Nat->Prop}(hI:∀a,I a->a<w.heap.size){v:Value}(p:jl)(d:SliceOf 2 jo w I v p)(line:ByteArray)(hl:line.size<=1000000)(n:Nat)(c:n<=1000)(e:uF n p):Calls prog 84 #[.agg #[v],line] w fun h g=>IC p line (n+1) (fun a=>I a\/w.heap.size<=a) g h/\Ext w g:=by
 cases b:(line.toList==[107,101,101,112,101,114])
 . cases f:p.length with
   |zero=>exact Ih w I hI v p d line hl n c e b f
   |succ i=>exact La w I hI v p d line hl n c e b i f
 . exact EX w I hI v p d line hl n c e b
def Me(v:Value):Bool:=match v with
 | .string s=>decide (s.size<=20)
 |_=>false
def Q4(v:Value):Bool:=match v with
 | .int .i64 n=>decide (-10000<=n)&&decide (n<=10000)
 |_=>false
theorem vS{w:World}{b k:Nat}{t:TypeId}{cs:Array Value}(f:jq w b t cs)(g:k<cs.size)(e:cs.toList.all Me=true):∃c:ByteArray,w.cell? (b,k)=some (.string c)/\c.size<=20:=by
 have d:=f.cell k;rw[Vp g]at d;have a:=Tc.1 e cs[k] Zl;unfold Me at a;split at a
 . rename_i c h;exact⟨c,by rw[d,h],by simpa using a⟩
 . cases a
theorem Dv{w:World}{b k:Nat}{t:TypeId}{cs:Array Value}(f:jq w b t cs)(g:k<cs.size)(e:cs.toList.all Q4=true):∃c:Int,w.cell? (b,k)=some (.int .i64 c)/\ -10000<=c/\c<=10000:=by
 have d:=f.cell k;rw[Vp g]at d;have a:=Tc.1 e cs[k] Zl;unfold Q4 at a;split at a
 . rename_i i h;simp at a;exact⟨i,by rw[d,h],a.1,a.2⟩
 . cases a
namespace M
def blocks:List (List ByteArray):=[
 [⟨#[99,108,97,115,115,32,116,111,112,32,45]⟩,⟨#[102,105,101,108,100,32,118,32,35]⟩,⟨#[109,101,116,104,111,100,32,103,101,116,32,49,32,49,32,35]⟩,⟨#[116,97,107,101,32,48]⟩,⟨#[103,101,116,32,116,111,112,32,118]⟩,⟨#[114,101,116]⟩,⟨#[109,101,116,104,111,100,32,98,117,109,112,32,50,32,51,32,35,32,35]⟩,⟨#[116,97,107,101,32,48]⟩,⟨#[116,97,107,101,32,48]⟩,⟨#[103,101,116,32,116,111,112,32,118]⟩,⟨#[116,97,107,101,32,49]⟩,⟨#[97,100,100]⟩,⟨#[115,101,116,32,116,111,112,32,118]⟩,⟨#[116,97,107,101,32,48]⟩,⟨#[103,101,116,32,116,111,112,32,118]⟩,⟨#[114,101,116]⟩],
 [⟨#[99,108,97,115,115,32,99,101,108,108,32,116,111,112]⟩,⟨#[102,105,101,108,100,32,110,101,120,116,32,116,111,112]⟩,⟨#[109,101,116,104,111,100,32,103,101,116,32,49,32,50,32,35]⟩,⟨#[102,114,97,109,101,32,55,32,99,101,108,108,32,47]⟩,⟨#[116,97,107,101,32,48]⟩,⟨#[103,101,116,32,99,101,108,108,32,110,101,120,116]⟩,⟨#[110,105,108,32,55]⟩,⟨#[116,97,107,101,32,48]⟩,⟨#[103,101,116,32,99,101,108,108,32,110,101,120,116]⟩,⟨#[99,97,108,108,32,116,111,112,32,103,101,116]⟩,⟨#[114,101,116]⟩,⟨#[110,117,109,32,45,49]⟩,⟨#[114,101,116]⟩,⟨#[109,101,116,104,111,100,32,108,105,110,107,32,50,32,50,32,35,32,116,111,112]⟩,⟨#[116,97,107,101,32,48]⟩,⟨#[116,97,107,101,32,49]⟩,⟨#[115,101,116,32,99,101,108,108,32,110,101,120,116]⟩,⟨#[110,117,109,32,49]⟩,⟨#[114,101,116]⟩],
 [⟨#[99,108,97,115,115,32,109,97,105,110,32,45]⟩,⟨#[109,101,116,104,111,100,32,114,117,110,32,51,32,52,32,35,32,35]⟩,⟨#[110,101,119,32,116,111,112]⟩,⟨#[112,117,116,32,50]⟩,⟨#[116,97,107,101,32,50]⟩,⟨#[116,97,107,101,32,49]⟩,⟨#[99,97,108,108,32,116,111,112,32,98,117,109,112]⟩,⟨#[111,117,116]⟩,⟨#[116,97,107,101,32,50]⟩,⟨#[99,97,108,108,32,116,111,112,32,103,101,116]⟩,⟨#[114,101,116]⟩,⟨#[109,101,116,104,111,100,32,115,117,109,32,51,32,51,32,35,32,35]⟩,⟨#[102,114,97,109,101,32,50,32,109,97,105,110,32,35,32,35,32,47]⟩,⟨#[102,114,97,109,101,32,49,51,32,109,97,105,110,32,35,32,35,32,47]⟩,⟨#[110,117,109,32,48]⟩,⟨#[112,117,116,32,50]⟩,⟨#[116,97,107,101,32,49]⟩,⟨#[122,101,114,111,32,49,51]⟩,⟨#[116,97,107,101,32,50]⟩,⟨#[116,97,107,101,32,49]⟩,⟨#[97,100,100]⟩,⟨#[112,117,116,32,50]⟩,⟨#[116,97,107,101,32,49]⟩,⟨#[110,117,109,32,45,49]⟩,⟨#[97,100,100]⟩,⟨#[112,117,116,32,49]⟩,⟨#[103,111,32,50]⟩,⟨#[116,97,107,101,32,50]⟩,⟨#[114,101,116]⟩],
 [⟨#[99,108,97,115,115,32,109,97,105,110,32,45]⟩,⟨#[109,101,116,104,111,100,32,114,117,110,32,52,32,51,32,35,32,35]⟩,⟨#[110,101,119,32,99,101,108,108]⟩,⟨#[112,117,116,32,50]⟩,⟨#[110,101,119,32,116,111,112]⟩,⟨#[112,117,116,32,51]⟩,⟨#[116,97,107,101,32,51]⟩,⟨#[116,97,107,101,32,49]⟩,⟨#[99,97,108,108,32,116,111,112,32,98,117,109,112]⟩,⟨#[111,117,116]⟩,⟨#[116,97,107,101,32,50]⟩,⟨#[116,97,107,101,32,51]⟩,⟨#[99,97,108,108,32,99,101,108,108,32,108,105,110,107]⟩,⟨#[111,117,116]⟩,⟨#[116,97,107,101,32,50]⟩,⟨#[99,97,108,108,32,116,111,112,32,103,101,116]⟩,⟨#[114,101,116]⟩,⟨#[109,101,116,104,111,100,32,99,97,115,116,32,50,32,50,32,35,32,35]⟩,⟨#[110,101,119,32,116,111,112]⟩,⟨#[99,97,115,116,32,99,101,108,108]⟩,⟨#[99,97,108,108,32,99,101,108,108,32,103,101,116]⟩,⟨#[114,101,116]⟩],
 [⟨#[99,108,97,115,115,32,109,97,105,110,32,45]⟩,⟨#[102,105,101,108,100,32,119,32,109,97,105,110]⟩,⟨#[109,101,116,104,111,100,32,114,117,110,32,50,32,51,32,35,32,35]⟩,⟨#[102,114,97,109,101,32,55,32,109,97,105,110,32,35,32,47]⟩,⟨#[116,97,107,101,32,49]⟩,⟨#[122,101,114,111,32,55]⟩,⟨#[116,97,107,101,32,48]⟩,⟨#[116,97,107,101,32,49]⟩,⟨#[110,117,109,32,45,49]⟩,⟨#[97,100,100]⟩,⟨#[99,97,108,108,32,109,97,105,110,32,114,117,110]⟩,⟨#[116,97,107,101,32,49]⟩,⟨#[114,101,116]⟩],
 [⟨#[99,108,97,115,115,32,109,97,105,110,32,116,111,112]⟩,⟨#[109,101,116,104,111,100,32,114,117,110,32,51,32,51,32,35,32,35]⟩,⟨#[110,117,108,108]⟩,⟨#[112,117,116,32,50]⟩,⟨#[116,97,107,101,32,50]⟩,⟨#[99,97,108,108,32,99,101,108,108,32,103,101,116]⟩,⟨#[114,101,116]⟩,⟨#[109,101,116,104,111,100,32,103,101,116,32,49,32,50,32,35]⟩,⟨#[110,117,109,32,53]⟩,⟨#[114,101,116]⟩],
 [⟨#[99,108,97,115,115,32,109,97,105,110,32,45]⟩,⟨#[102,105,101,108,100,32,119,32,99,101,108,108]⟩,⟨#[109,101,116,104,111,100,32,114,117,110,32,50,32,51,32,35,32,35]⟩,⟨#[116,97,107,101,32,48]⟩,⟨#[110,101,119,32,99,101,108,108]⟩,⟨#[115,101,116,32,109,97,105,110,32,119]⟩,⟨#[116,97,107,101,32,48]⟩,⟨#[103,101,116,32,109,97,105,110,32,119]⟩,⟨#[99,97,108,108,32,116,111,112,32,103,101,116]⟩,⟨#[111,117,116]⟩,⟨#[110,117,109,32,48]⟩,⟨#[114,101,116]⟩],
 [⟨#[99,108,97,115,115,32,116,111,112,32,45]⟩,⟨#[102,105,101,108,100,32,118,32,116,111,112]⟩,⟨#[109,101,116,104,111,100,32,103,101,116,32,49,32,49,32,35]⟩,⟨#[110,117,109,32,56]⟩,⟨#[114,101,116]⟩],
 [⟨#[99,108,97,115,115,32,99,101,108,108,32,116,111,112]⟩,⟨#[109,101,116,104,111,100,32,103,101,116,32,50,32,49,32,35,32,35]⟩,⟨#[110,117,109,32,51]⟩,⟨#[114,101,116]⟩],
 [⟨#[99,108,97,115,115,32,109,97,105,110,32,45]⟩,⟨#[109,101,116,104,111,100,32,114,117,110,32,50,32,50,32,35,32,35]⟩,⟨#[116,97,107,101,32,49]⟩,⟨#[99,97,108,108,32,109,97,105,110,32,114,117,110]⟩,⟨#[114,101,116]⟩],
 [⟨#[99,108,97,115,115,32,109,97,105,110,32,45]⟩,⟨#[109,101,116,104,111,100,32,114,117,110,32,50,32,50,32,35,32,35]⟩,⟨#[116,97,107,101,32,48]⟩,⟨#[111,117,116]⟩,⟨#[110,117,109,32,49]⟩,⟨#[114,101,116]⟩]]
end M
def ES(r:List ByteArray):Array Value:=(r.map Value.string).toArray
def yl:om (List ByteArray):=fun w I x cs=>∃v,cs=[v]/\SliceOf 1 lQ w I v x
theorem yl.stays:kE yl:=fun _ _ _ _ _ _ b a ⟨c,e,h⟩=>⟨c,e,h.keep lQ.stays b a⟩
theorem Nn{w:World}{b:Nat}{t:TypeId}{r:List ByteArray}(d:jq w b t (ES r)){I:Nat->Prop}(hI:I b)(hl:r.length<=4294967296):SliceOf 1 lQ w I (b,r.length,r.length) r:=by
 refine⟨_,_,rfl,Tu _,hl,fun f h e=>⟨b,0,_,rfl,hI,rfl,rfl,fun c g a=>?_⟩⟩;cases c with
 |zero=>
  simp only[pQ]at a;simp at a;subst a;rw[Vi,Tk,UU,d.cell];unfold ES;simp[e]
 |succ c=>simp[pQ]at a
def zw(w:World)(l:List (List ByteArray))(t:TypeId):World:=l.foldl (fun W r=>W.alloc (.cells (ES r) t)) w
theorem yG(t:TypeId):∀(l:List (List ByteArray))(w:World),Ext w (zw w l t)/\(zw w l t).heap.size=w.heap.size+l.length
 |[],w=>⟨Kp.rr,rfl⟩
 |r::l,w=>by
  have a:=yG t l (w.alloc (.cells (ES r) t));refine⟨(jJ _).trans a.1,?_⟩;have:=a.2;simp at this;rw[TL];show(zw (w.alloc _) l t).heap.size=_
  rw[this];omega
theorem Ep(t:TypeId):∀(l:List (List ByteArray))(w:World)(i:Nat)(r:List ByteArray),l[i]?=some r->jq (zw w l t) (w.heap.size+i) t (ES r)
 |[],w,i,r,h=>by simp at h
 |x::l,w,0,r,h=>by
  simp at h;subst h;exact(jq.new w t (ES x)).ext (yG t l _).1
 |x::l,w,i+1,r,h=>by
  have:=Ep t l (w.alloc (.cells (ES x) t)) i r (by simpa using h);simp at this;rw[show w.heap.size+(i+1)=w.heap.size+1+i by omega];exact this
def zK(n:Nat):List (List ByteArray)->List Value
 |[]=>[]
 |r::l=>.slice (some ⟨n,0,none⟩) r.length r.length::zK (n+1) l
theorem ET:∀(l:List (List ByteArray))(n i:Nat)(r:List ByteArray),l[i]?=some r->(zK n l)[i]?=some (.slice (some ⟨n+i,0,none⟩) r.length r.length)
 |[],_,i,r,h=>by simp at h
 |x::l,n,0,r,h=>by simp at h;subst h;rfl
 |x::l,n,i+1,r,h=>by
  have:=ET l (n+1) i r (by simpa using h);rw[zK,List.getElem?_cons_succ,this];congr 4;omega
theorem KZ{w:World}{l:List (List ByteArray)}{t c:TypeId}(hl:l.length<=1000)(i:∀k∈l,k.length<=1000):SliceOf 1 yl ((zw w l t).alloc (.cells (zK w l).toArray c)) (fun g=>w<=g) (.slice (some ⟨w.heap.size+l.length,0,none⟩) l.length l.length) l:=by
 have j:=yG t l w;have h:jq ((zw w l t).alloc (.cells (zK w l).toArray c)) (w.heap.size+l.length) c (zK w l).toArray:=jq.BU _ _ j.2;refine⟨_,_,rfl,Tu _,Zm,fun e d b=>⟨_,0,_,rfl,Zm,⟨_,rfl,Nn (((Ep t l w e d b).ext (jJ _))) Zm (Te (i d (Tx b)))⟩,rfl,fun f m a=>?_⟩⟩;cases f with
 |zero=>
  simp at a;subst a;rw[Vi,Tk,UU,h.cell];simpa using ET l w e d b
 |succ f=>simp at a
theorem Nv(w:World):Calls prog 83 #[] w fun d b=>(∃a,d=.returned a/\SliceOf 1 yl b (fun c=>w<=c) a M.blocks)/\Ext w b:=by
 go_enter func83,ntmps83;go_wp2;go_ret;refine⟨⟨_,rfl,?_⟩,kx⟩;exact KZ (l:=M.blocks) Zn Zn
def R7(e:Ending):Prop:=∃op a n m,e=.returned (.agg #[.int .i64 op,.int .i64 a,.string n,.string m])/\(-100000<=a/\a<=100000)/\n.size<=20/\m.size<=20
theorem AX{w W:World}{d k q p:Nat}{v:Value}{j:List Int}(z:qI W d v j q)(t:d<w/\(j.length≠0->∀e i g,v=.slice (some e) i g->e.block<w))(y:q<=p+10)(r:Kp (fun m=>m=d\/m=k) w W)(B:w+1<=k){f a:Int}{c b:ByteArray}(s: -100000<=a/\a<=100000)(x:c.size<=20)(u:b.size<=20):R7 (.returned (.agg #[f,a,c,b]))/\(∃q,q<=p+10/\qI ((((W.setCell w f).setCell (w,1) a).setCell (w,2) c).setCell (w,3) b) d v j q)/\Kp (·=d) w ((((W.setCell w f).setCell (w,1) a).setCell (w,2) c).setCell (w,3) b):=by
 have l:Kp (·=w) W ((((W.setCell w f).setCell (w,1) a).setCell (w,2) c).setCell (w,3) b):=Kp.oQ (D:=(·=w)) rfl _ _ _ _;exact⟨⟨_,_,_,_,rfl,s,x,u⟩,⟨q,y,z.turn l Zm (fun o e i g h=>Te (t.2 o e i g h))⟩,Kp.own (r.weak fun A C n=>n.elim id fun h=>Zm) l (fun A h=>Zm)⟩
theorem Nt(w:World)(l p:Nat)(v:Value)(B:List Int)(n:Int)(a:qI w l v B p)(hp:p<=800000)(hn:n<=1000000)(di: -1000000<=n):Calls prog 87 #[some l,.int .i64 n] w fun C w'=>R7 C/\(∃ag,ag<=p+10/\qI w' l v B ag)/\Kp (·=l) w w':=by
 have bP:=a.below;obtain⟨w1,bg⟩:=S9 (w.alloc (.cells #[Tj,Tj,"",""] 134));have bq:Ext w w1:=by rw[bg];exact kx
 have bB:Zz (jq w1 w 134 #[Tj,Tj,"",""]):=Zy (by rw[bg];exact jq.new _ _ _);have⟨bF,cu,r,bX⟩:=kD (lF w1 l p v B 15 (a.ext bq) Zm Zm) bg bP bq;clear a bg bP bq;go_enter func87,ntmps87;go_wp2_with fail;rw[<-cu.o];refine bF.mono ?_;rintro C e ⟨⟨k,rfl,hk⟩,bK,aY⟩;have cZ:k<15:=Zm
 obtain⟨w3,aR⟩:=S9 ((e.alloc (.cells #[.int .i64 (1+k),Tj,"",""] 134)).alloc (.cells #[.string ⟨#[116,111,112]⟩,.string ⟨#[99,101,108,108]⟩,.string ⟨#[109,97,105,110]⟩,.string ⟨#[110,111,110,101]⟩] 9));have aX:Ext e w3:=by rw[aR];exact kx
 have b5:jq w3 e 134 #[.int .i64 (1+k),Tj,"",""]:=by rw[aR];exact(jq.new _ _ _).ext kx
 have bl:jq w3 (e+1) 9 #[.string ⟨#[116,111,112]⟩,.string ⟨#[99,101,108,108]⟩,.string ⟨#[109,97,105,110]⟩,.string ⟨#[110,111,110,101]⟩]:=by rw[aR];exact jq.BU _ _ Zl
 have bO:(w:Nat)+1<=(e:Nat):=Tf bB.lt aY.size
 have bJ:l≠e/\(B.length≠0->∀ad bA bn,v=.slice (some ad) bA bn->ad.block≠e):=⟨Te r.1,fun h0 ad bA bn C=>Te (r.o.2 h0 ad bA bn C)⟩;have⟨bG,bY,bW,bD,d,t,bU,cB⟩:=Em (lF w3 l (p+1) v B 4 (bK.ext aX) Zm Zm) ((bX.any.trans aY).trans aX.any) b5 bl bJ bO ((bB.kp aY (Te r.1)).ext aX) aR;clear bK aY aX b5 bl bO bJ aR hk bF;go_wp2_with fail;rw[<-cB.o];refine bG.mono ?_;rintro C E ⟨⟨bT,rfl,hj⟩,bL,aP⟩;obtain⟨nm,bR,aQ⟩:=vS (k:=bT) (bD.kp aP (Tf r.1 t.o)) Zr Zn;have cO:bT<4:=Zm
 have K:=Zy bL;have bu:=bW.kp aP (Te d.1);have⟨J,S,O⟩:=jI bu (bY.trans aP) (bU.kp aP (Te r.1));have dh:=jv bR;obtain⟨cz,c0,-⟩:=bu.ca;clear bL aP bu hj bG bD;go_upto_block 0 with(fail);clear bR dh cO;go_cut [] (fun wx=>∃ag op av n k,ag<=p+3/\qI wx l v B ag/\jq wx e 134 #[.int .i64 op,.int .i64 av,.string n,.string k]/\(-100000<=av/\av<=100000)/\n.size<=20/\k.size<=20/\Kp (fun ay=>ay=l\/ay=e) w wx/\jq wx w 134 #[Tj,Tj,"",""])
 case first=>
  have df:k=0\/k=1\/k=2\/k=3\/k=4\/k=5\/k=6\/k=7\/k=8\/k=9\/k=10\/k=11\/k=12\/k=13\/k=14:=Zm
  have b:=J.o;obtain⟨-,-,c1,c2,c3,-⟩:=b.ca;obtain⟨-,f1,f2,f3,-⟩:=b.fz;clear b cZ;rcases df with rfl|rfl|rfl|rfl|rfl|rfl|rfl|rfl|rfl|rfl|rfl|rfl|rfl|rfl|rfl
  . obtain⟨s,i⟩:∃z,z=E.alloc (.cells #[Tj,.int .i64 1,.int .i64 (-1),.int .i64 7,.int .i64 9999,.int .i64 (-9999)] 3):=⟨_,rfl⟩;have g:Ext E s:=by rw[i];exact jJ _
    have x:jq s E 3 #[Tj,.int .i64 1,.int .i64 (-1),.int .i64 7,.int .i64 9999,.int .i64 (-9999)]:=by rw[i];exact jq.new _ _ _
    have⟨u,Q,aC,R,T,V,U⟩:=tq (lF s l (p+1+1) v B 6 (K.ext g) Zm Zm) x (O.ext g) (J.ext g) (S.trans g.any) (K.below.1) i;clear g x i;go_wp2_with fail;rw[<-U.o];refine u.mono ?_;rintro C q ⟨⟨h,rfl,j⟩,o,f⟩;obtain⟨m,X,af⟩:=Dv (k:=h) (Q.kp f (Te V.o)) Zr Zn;have F:=Zy (aC.kp f (Te r.1));have b:=R.kp f (Te d.1);have ae:h<6:=Zm
    have⟨G,I,H⟩:=jI b o (T.trans f);obtain⟨L,-,A,-⟩:=b.ca;have M:=b.frozen 1;have uz:=jv X;clear b o f j u;go_wp2;go_meet;have c:Kp (·=e) q (q.setCell (e,1) m):=qM;exact⟨_,_,_,_,_,Zm,I.o.turn c d.o.1 d.o.2,G.o.jR 1 _,Zm,Zn,Zn,(H.o.weak fun _ _ a=>.inl a).trans (c.weak fun _ _ a=>.inr a),F.o.kp c (Te t.o)⟩
  . go_wp2_with fail;refine(lF E l (p+1+1) v B 3 K Zm Zm).mono ?_;rintro C q ⟨⟨h,rfl,j⟩,o,f⟩;have ae:h<3:=Zm
    have F:=Zy (O.kp f (Te r.1));have b:=J.kp f (Te d.1);have⟨G,I,H⟩:=jI b o (S.trans f);obtain⟨L,-,A,-⟩:=b.ca;have M:=b.frozen 1;clear b o f j;go_wp2;go_meet;have c:Kp (·=e) q (q.setCell (e,1) h):=qM;exact⟨_,_,_,_,_,Zm,I.o.turn c d.o.1 d.o.2,G.o.jR 1 _,Zm,Zn,Zn,(H.o.weak fun _ _ a=>.inl a).trans (c.weak fun _ _ a=>.inr a),F.o.kp c (Te t.o)⟩
  . go_wp2_with fail;refine(lF E l (p+1+1) v B 3 K Zm Zm).mono ?_;rintro C q ⟨⟨h,rfl,j⟩,o,f⟩;have ae:h<3:=Zm
    have F:=Zy (O.kp f (Te r.1));have b:=J.kp f (Te d.1);have⟨G,I,H⟩:=jI b o (S.trans f);obtain⟨L,-,A,-⟩:=b.ca;have M:=b.frozen 1;clear b o f j;go_wp2;go_meet;have c:Kp (·=e) q (q.setCell (e,1) h):=qM;exact⟨_,_,_,_,_,Zm,I.o.turn c d.o.1 d.o.2,G.o.jR 1 _,Zm,Zn,Zn,(H.o.weak fun _ _ a=>.inl a).trans (c.weak fun _ _ a=>.inr a),F.o.kp c (Te t.o)⟩
  . go_wp2;go_meet;exact⟨_,_,_,_,_,Zm,K.o,J.o,Zm,Zn,Zn,S.o.weak (fun _ _ a=>.inl a),O.o⟩
  . go_wp2;go_meet;exact⟨_,_,_,_,_,Zm,K.o,J.o,Zm,Zn,Zn,S.o.weak (fun _ _ a=>.inl a),O.o⟩
  . go_wp2;go_meet;have c:Kp (·=e) E (E.setCell (e,2) nm):=qM;exact⟨_,_,_,_,_,Zm,K.o.turn c d.o.1 d.o.2,J.o.jR 2 _,Zm,aQ,Zn,(S.o.weak fun _ _ a=>.inl a).trans (c.weak fun _ _ a=>.inr a),O.o.kp c (Te t.o)⟩
  . obtain⟨Y,aa⟩:∃z,z=E.setCell (e,2) nm:=⟨_,rfl⟩;have Z:Kp (·=e) E Y:=by rw[aa];exact qM
    have b6:=J.jR 2 nm;rw[<-aa]at b6;have⟨aD,az⟩:=jw b6 (K.turn Z d.1 d.2);have aH:Zz (Kp (fun ay=>ay=l\/ay=e) w Y):=Zy ((S.weak fun _ _ a=>.inl a).trans (Z.weak fun _ _ a=>.inr a));have⟨aM,aO⟩:=jw (O.kp Z (Te t.o)) aa;clear Z b6 aa;obtain⟨s,i,g,x⟩:=nu Y #[.string ⟨#[118]⟩,.string ⟨#[110,101,120,116]⟩,.string ⟨#[119]⟩] 9;have⟨u,Q,aC,R,T,V,U⟩:=tq (lF s l (p+1+1) v B 3 (az.ext g) Zm Zm) x (aM.ext g) (aD.ext g) (aH.trans g.any) (az.below.1) i;clear g x i;go_upto_region 19 with(fail);rw[<-aO.o];go_wp2_with fail;rw[<-U.o];refine u.mono ?_;rintro C q ⟨⟨h,rfl,j⟩,o,f⟩;obtain⟨m,X,af⟩:=vS (k:=h) (Q.kp f (Te V.o)) Zr Zn;have F:=Zy (aC.kp f (Te r.1));have b:=R.kp f (Te d.1);have ae:h<3:=Zm
    have⟨G,I,H⟩:=jI b o (T.trans (f.weak fun _ _ a=>.inl a));obtain⟨L,-,-,-,A,-⟩:=b.ca;have M:=b.frozen 3;have uz:=jv X;clear b o f j u;go_wp2;go_meet;have c:Kp (·=e) q (q.setCell (e,3) m):=qM;exact⟨_,_,_,_,_,Zm,I.o.turn c d.o.1 d.o.2,G.o.jR 3 _,Zm,aQ,af,H.o.trans (c.weak fun _ _ a=>.inr a),F.o.kp c (Te t.o)⟩
  . obtain⟨Y,aa⟩:∃z,z=E.setCell (e,2) nm:=⟨_,rfl⟩;have Z:Kp (·=e) E Y:=by rw[aa];exact qM
    have b6:=J.jR 2 nm;rw[<-aa]at b6;have⟨aD,az⟩:=jw b6 (K.turn Z d.1 d.2);have aH:Zz (Kp (fun ay=>ay=l\/ay=e) w Y):=Zy ((S.weak fun _ _ a=>.inl a).trans (Z.weak fun _ _ a=>.inr a));have⟨aM,aO⟩:=jw (O.kp Z (Te t.o)) aa;clear Z b6 aa;obtain⟨s,i,g,x⟩:=nu Y #[.string ⟨#[118]⟩,.string ⟨#[110,101,120,116]⟩,.string ⟨#[119]⟩] 9;have⟨u,Q,aC,R,T,V,U⟩:=tq (lF s l (p+1+1) v B 3 (az.ext g) Zm Zm) x (aM.ext g) (aD.ext g) (aH.trans g.any) (az.below.1) i;clear g x i;go_upto_region 19 with(fail);rw[<-aO.o];go_wp2_with fail;rw[<-U.o];refine u.mono ?_;rintro C q ⟨⟨h,rfl,j⟩,o,f⟩;obtain⟨m,X,af⟩:=vS (k:=h) (Q.kp f (Te V.o)) Zr Zn;have F:=Zy (aC.kp f (Te r.1));have b:=R.kp f (Te d.1);have ae:h<3:=Zm
    have⟨G,I,H⟩:=jI b o (T.trans (f.weak fun _ _ a=>.inl a));obtain⟨L,-,-,-,A,-⟩:=b.ca;have M:=b.frozen 3;have uz:=jv X;clear b o f j u;go_wp2;go_meet;have c:Kp (·=e) q (q.setCell (e,3) m):=qM;exact⟨_,_,_,_,_,Zm,I.o.turn c d.o.1 d.o.2,G.o.jR 3 _,Zm,aQ,af,H.o.trans (c.weak fun _ _ a=>.inr a),F.o.kp c (Te t.o)⟩
  . obtain⟨Y,aa⟩:∃z,z=E.setCell (e,2) nm:=⟨_,rfl⟩;have Z:Kp (·=e) E Y:=by rw[aa];exact qM
    have b6:=J.jR 2 nm;rw[<-aa]at b6;have⟨aD,az⟩:=jw b6 (K.turn Z d.1 d.2);have aH:Zz (Kp (fun ay=>ay=l\/ay=e) w Y):=Zy ((S.weak fun _ _ a=>.inl a).trans (Z.weak fun _ _ a=>.inr a));have⟨aM,aO⟩:=jw (O.kp Z (Te t.o)) aa;clear Z b6 aa;obtain⟨s,i,g,x⟩:=nu Y #[.string ⟨#[103,101,116]⟩,.string ⟨#[98,117,109,112]⟩,.string ⟨#[108,105,110,107]⟩,.string ⟨#[114,117,110]⟩,.string ⟨#[120]⟩] 9;have⟨u,Q,aC,R,T,V,U⟩:=tq (lF s l (p+1+1) v B 5 (az.ext g) Zm Zm) x (aM.ext g) (aD.ext g) (aH.trans g.any) (az.below.1) i;clear g x i;go_upto_region 22 with(fail);rw[<-aO.o];go_wp2_with fail;rw[<-U.o];refine u.mono ?_;rintro C q ⟨⟨h,rfl,j⟩,o,f⟩;obtain⟨m,X,af⟩:=vS (k:=h) (Q.kp f (Te V.o)) Zr Zn;have F:=Zy (aC.kp f (Te r.1));have b:=R.kp f (Te d.1);have ae:h<5:=Zm
    have⟨G,I,H⟩:=jI b o (T.trans (f.weak fun _ _ a=>.inl a));obtain⟨L,-,-,-,A,-⟩:=b.ca;have M:=b.frozen 3;have uz:=jv X;clear b o f j u;go_wp2;go_meet;have c:Kp (·=e) q (q.setCell (e,3) m):=qM;exact⟨_,_,_,_,_,Zm,I.o.turn c d.o.1 d.o.2,G.o.jR 3 _,Zm,aQ,af,H.o.trans (c.weak fun _ _ a=>.inr a),F.o.kp c (Te t.o)⟩
  . go_wp2;go_meet;exact⟨_,_,_,_,_,Zm,K.o,J.o,Zm,Zn,Zn,S.o.weak (fun _ _ a=>.inl a),O.o⟩
  . go_wp2_with fail;refine(lF E l (p+1+1) v B 10 K Zm Zm).mono ?_;rintro C q ⟨⟨h,rfl,j⟩,o,f⟩;have ae:h<10:=Zm
    have F:=Zy (O.kp f (Te r.1));have b:=J.kp f (Te d.1);have⟨G,I,H⟩:=jI b o (S.trans f);obtain⟨L,-,A,-⟩:=b.ca;have M:=b.frozen 1;clear b o f j;go_wp2;go_meet;have c:Kp (·=e) q (q.setCell (e,1) h):=qM;exact⟨_,_,_,_,_,Zm,I.o.turn c d.o.1 d.o.2,G.o.jR 1 _,Zm,Zn,Zn,(H.o.weak fun _ _ a=>.inl a).trans (c.weak fun _ _ a=>.inr a),F.o.kp c (Te t.o)⟩
  . go_wp2_with fail;refine(lF E l (p+1+1) v B 10 K Zm Zm).mono ?_;rintro C q ⟨⟨h,rfl,j⟩,o,f⟩;have ae:h<10:=Zm
    have F:=Zy (O.kp f (Te r.1));have b:=J.kp f (Te d.1);have⟨G,I,H⟩:=jI b o (S.trans f);obtain⟨L,-,A,-⟩:=b.ca;have M:=b.frozen 1;clear b o f j;go_wp2;go_meet;have c:Kp (·=e) q (q.setCell (e,1) h):=qM;exact⟨_,_,_,_,_,Zm,I.o.turn c d.o.1 d.o.2,G.o.jR 1 _,Zm,Zn,Zn,(H.o.weak fun _ _ a=>.inl a).trans (c.weak fun _ _ a=>.inr a),F.o.kp c (Te t.o)⟩
  . go_wp2_with fail;refine(lF E l (p+1+1) v B 10 K Zm Zm).mono ?_;rintro C q ⟨⟨h,rfl,j⟩,o,f⟩;have ae:h<10:=Zm
    have F:=Zy (O.kp f (Te r.1));have b:=J.kp f (Te d.1);have⟨G,I,H⟩:=jI b o (S.trans f);obtain⟨L,-,A,-⟩:=b.ca;have M:=b.frozen 1;clear b o f j;go_wp2;go_meet;have c:Kp (·=e) q (q.setCell (e,1) h):=qM;exact⟨_,_,_,_,_,Zm,I.o.turn c d.o.1 d.o.2,G.o.jR 1 _,Zm,Zn,Zn,(H.o.weak fun _ _ a=>.inl a).trans (c.weak fun _ _ a=>.inr a),F.o.kp c (Te t.o)⟩
  . go_wp2;go_meet;exact⟨_,_,_,_,_,Zm,K.o,J.o,Zm,Zn,Zn,S.o.weak (fun _ _ a=>.inl a),O.o⟩
  . go_wp2;go_meet;have c:Kp (·=e) E (E.setCell (e,2) nm):=qM;exact⟨_,_,_,_,_,Zm,K.o.turn c d.o.1 d.o.2,J.o.jR 2 _,Zm,aQ,Zn,(S.o.weak fun _ _ a=>.inl a).trans (c.weak fun _ _ a=>.inr a),O.o.kp c (Te t.o)⟩
 obtain⟨ag,op,av,nn,mm,hq,hR,hb,ha,bS,bQ,hK,bI⟩:=hcut;obtain⟨Y,rfl⟩:∃Y,Y=wc:=⟨_,rfl⟩;have⟨aD,aH,az,bV,aV,aU,HA,bZ⟩:=Em hb hK hR bI bS bQ ha (PH Y l ag v B n hR Zm Zm Zm);clear hR hb hK bI ha bS bQ c0 cz;go_wp2_with fail;refine bZ.mono ?_;rintro C w7 ⟨⟨od,rfl⟩,bM,aZ⟩;have⟨bH,bC,aN,bE⟩:=kD bM (aD.kp aZ (Te d.1)) (bV.o.kp aZ (Te r.o.1)) (aH.o.trans (aZ.weak fun _ _ a=>.inl a));clear bM aZ;cases od
 . have z0:=aN.c 0 Tj rfl;obtain⟨zz,-,z1,z2,z3,-⟩:=aN.ca;obtain⟨ah,ai,aj,ak,-⟩:=aN.fz;obtain⟨dz,d0,A,d2,d3,-⟩:=bC.ca;go_wp2_with fail;refine PG (jM nD rfl w rfl [.int .i64 op,.int .i64 av,nn,mm] (hQ.kX (jq.oQ aN _ _ _ _)) rfl) rfl ?_;exact AX bH r Zm bE t HA aV aU
 go_wp2_with fail;refine(lF w7 l (ag+1) v B 4 bH Zm Zm).mono ?_;rintro C w8 ⟨⟨h,rfl,j⟩,bN,bf⟩;have cK:h=0\/h=1\/h=2\/h=3:=Zm
 have⟨aA,aT,aS,aW⟩:=kD bN (bC.kp bf (Te d.1)) (aN.o.kp bf (Te r.o.1)) (bE.o.trans (bf.weak fun _ _ a=>.inl a));clear bN bf j;rcases cK with rfl|rfl|rfl|rfl
 . obtain⟨s,i⟩:∃z,z=w8.alloc (.cells #[Tj,.int .i64 16,.int .i64 (-1)] 3):=⟨_,rfl⟩;have g:Ext w8 s:=by rw[i];exact jJ _
   have x:jq s w8 3 #[Tj,.int .i64 16,.int .i64 (-1)]:=by rw[i];exact jq.new _ _ _
   have⟨u,Q,R,T,V,U,aF⟩:=tq (lF s l (ag+1+1) v B 3 (aA.ext g) Zm Zm) x (aT.ext g) (aW.trans g.any) (aA.below.1) i g;clear g x i;go_wp2_with fail;rw[<-U.o];refine u.mono ?_;rintro C w9 ⟨⟨h,rfl,j⟩,ax,y⟩;obtain⟨m,X,af⟩:=Dv (k:=h) (Q.kp y (Te V.o)) Zr Zn;have P:=Zy ((aS.ext aF).kp y (Te r.1));have b:=R.kp y (Te d.1);have ae:h<3:=Zm
   have⟨au,aK,aI⟩:=jI b ax (T.trans (y.weak fun _ _ a=>.inl a));have M:=b.frozen 0;have L:=b.lt;have uz:=jv X;clear b ax y j u;obtain⟨dz,d0,A,d2,d3,-⟩:=au.ca;obtain⟨zz,z0,z1,z2,z3,-⟩:=P.ca;obtain⟨ah,ai,aj,ak,-⟩:=P.fz;obtain⟨wy,D⟩:∃z,z=w9.setCell e m:=⟨_,rfl⟩;have c:Kp (·=e) w9 wy:=by rw[D];exact qM
   have⟨aJ,aG,N⟩:=jI (aK.turn c d.1 d.2) (aI.trans (c.weak fun _ _ a=>.inr a)) (P.kp c (Te t.o));have W:=au.jR 0 m;rw[<-D]at W;have aB:Zz (jq wy e 134 #[m,.int .i64 av,nn,mm]):=Zy W;have aL:=Zy D;clear c W D;go_upto_region 32 with(fail);rw[<-aL.o];clear d0 A d2 d3 dz z0 z1 z2 z3 ah ai aj ak zz M L uz;obtain⟨dz,d0,A,d2,d3,-⟩:=aB.ca;obtain⟨zz,z0,z1,z2,z3,-⟩:=N.ca;obtain⟨ah,ai,aj,ak,-⟩:=N.fz;go_wp2_with fail;refine PG (jM nD rfl w rfl [m,.int .i64 av,nn,mm] (hQ.kX (jq.oQ N _ _ _ _)) rfl) rfl ?_;exact AX aJ r Zm aG t HA aV aU
 . obtain⟨s,i⟩:∃z,z=w8.alloc (.cells #[.int .i64 10000,.int .i64 (-1),.int .i64 16,.int .i64 6] 3):=⟨_,rfl⟩;have g:Ext w8 s:=by rw[i];exact jJ _
   have x:jq s w8 3 #[.int .i64 10000,.int .i64 (-1),.int .i64 16,.int .i64 6]:=by rw[i];exact jq.new _ _ _
   have⟨u,Q,R,T,V,U,aF⟩:=tq (lF s l (ag+1+1) v B 4 (aA.ext g) Zm Zm) x (aT.ext g) (aW.trans g.any) (aA.below.1) i g;clear g x i;go_wp2_with fail;rw[<-U.o];refine u.mono ?_;rintro C w9 ⟨⟨h,rfl,j⟩,ax,y⟩;obtain⟨m,X,af⟩:=Dv (k:=h) (Q.kp y (Te V.o)) Zr Zn;have P:=Zy ((aS.ext aF).kp y (Te r.1));have b:=R.kp y (Te d.1);have ae:h<4:=Zm
   have⟨au,aK,aI⟩:=jI b ax (T.trans (y.weak fun _ _ a=>.inl a));have M:=b.frozen 1;have L:=b.lt;have uz:=jv X;clear b ax y j u;obtain⟨dz,d0,A,d2,d3,-⟩:=au.ca;obtain⟨zz,z0,z1,z2,z3,-⟩:=P.ca;obtain⟨ah,ai,aj,ak,-⟩:=P.fz;obtain⟨wy,D⟩:∃z,z=w9.setCell (e,1) m:=⟨_,rfl⟩;have c:Kp (·=e) w9 wy:=by rw[D];exact qM
   have⟨aJ,aG,N⟩:=jI (aK.turn c d.1 d.2) (aI.trans (c.weak fun _ _ a=>.inr a)) (P.kp c (Te t.o));have W:=au.jR 1 m;rw[<-D]at W;have aB:Zz (jq wy e 134 #[.int .i64 op,m,nn,mm]):=Zy W;have aL:=Zy D;clear c W D;go_upto_region 32 with(fail);rw[<-aL.o];clear d0 A d2 d3 dz z0 z1 z2 z3 ah ai aj ak zz M L uz;obtain⟨dz,d0,A,d2,d3,-⟩:=aB.ca;obtain⟨zz,z0,z1,z2,z3,-⟩:=N.ca;obtain⟨ah,ai,aj,ak,-⟩:=N.fz;go_wp2_with fail;refine PG (jM nD rfl w rfl [.int .i64 op,m,nn,mm] (hQ.kX (jq.oQ N _ _ _ _)) rfl) rfl ?_;exact AX aJ r Zm aG t Zm aV aU
 . obtain⟨s,i⟩:∃z,z=w8.alloc (.cells #["",.string ⟨#[65]⟩,.string ⟨#[116,111,112]⟩] 9):=⟨_,rfl⟩;have g:Ext w8 s:=by rw[i];exact jJ _
   have x:jq s w8 9 #["",.string ⟨#[65]⟩,.string ⟨#[116,111,112]⟩]:=by rw[i];exact jq.new _ _ _
   have⟨u,Q,R,T,V,U,aF⟩:=tq (lF s l (ag+1+1) v B 3 (aA.ext g) Zm Zm) x (aT.ext g) (aW.trans g.any) (aA.below.1) i g;clear g x i;go_wp2_with fail;rw[<-U.o];refine u.mono ?_;rintro C w9 ⟨⟨h,rfl,j⟩,ax,y⟩;obtain⟨m,X,af⟩:=vS (k:=h) (Q.kp y (Te V.o)) Zr Zn;have P:=Zy ((aS.ext aF).kp y (Te r.1));have b:=R.kp y (Te d.1);have ae:h<3:=Zm
   have⟨au,aK,aI⟩:=jI b ax (T.trans (y.weak fun _ _ a=>.inl a));have M:=b.frozen 2;have L:=b.lt;have uz:=jv X;clear b ax y j u;obtain⟨dz,d0,A,d2,d3,-⟩:=au.ca;obtain⟨zz,z0,z1,z2,z3,-⟩:=P.ca;obtain⟨ah,ai,aj,ak,-⟩:=P.fz;obtain⟨wy,D⟩:∃z,z=w9.setCell (e,2) m:=⟨_,rfl⟩;have c:Kp (·=e) w9 wy:=by rw[D];exact qM
   have⟨aJ,aG,N⟩:=jI (aK.turn c d.1 d.2) (aI.trans (c.weak fun _ _ a=>.inr a)) (P.kp c (Te t.o));have W:=au.jR 2 m;rw[<-D]at W;have aB:Zz (jq wy e 134 #[.int .i64 op,.int .i64 av,m,mm]):=Zy W;have aL:=Zy D;clear c W D;go_upto_region 32 with(fail);rw[<-aL.o];clear d0 A d2 d3 dz z0 z1 z2 z3 ah ai aj ak zz M L uz;obtain⟨dz,d0,A,d2,d3,-⟩:=aB.ca;obtain⟨zz,z0,z1,z2,z3,-⟩:=N.ca;obtain⟨ah,ai,aj,ak,-⟩:=N.fz;go_wp2_with fail;refine PG (jM nD rfl w rfl [.int .i64 op,.int .i64 av,m,mm] (hQ.kX (jq.oQ N _ _ _ _)) rfl) rfl ?_;exact AX aJ r Zm aG t HA af aU
 . obtain⟨s,i⟩:∃z,z=w8.alloc (.cells #["",.string ⟨#[65]⟩,.string ⟨#[118]⟩] 9):=⟨_,rfl⟩;have g:Ext w8 s:=by rw[i];exact jJ _
   have x:jq s w8 9 #["",.string ⟨#[65]⟩,.string ⟨#[118]⟩]:=by rw[i];exact jq.new _ _ _
   have⟨u,Q,R,T,V,U,aF⟩:=tq (lF s l (ag+1+1) v B 3 (aA.ext g) Zm Zm) x (aT.ext g) (aW.trans g.any) (aA.below.1) i g;clear g x i;go_wp2_with fail;rw[<-U.o];refine u.mono ?_;rintro C w9 ⟨⟨h,rfl,j⟩,ax,y⟩;obtain⟨m,X,af⟩:=vS (k:=h) (Q.kp y (Te V.o)) Zr Zn;have P:=Zy ((aS.ext aF).kp y (Te r.1));have b:=R.kp y (Te d.1);have ae:h<3:=Zm
   have⟨au,aK,aI⟩:=jI b ax (T.trans (y.weak fun _ _ a=>.inl a));have M:=b.frozen 3;have L:=b.lt;have uz:=jv X;clear b ax y j u;obtain⟨dz,d0,A,d2,d3,-⟩:=au.ca;obtain⟨zz,z0,z1,z2,z3,-⟩:=P.ca;obtain⟨ah,ai,aj,ak,-⟩:=P.fz;obtain⟨wy,D⟩:∃z,z=w9.setCell (e,3) m:=⟨_,rfl⟩;have c:Kp (·=e) w9 wy:=by rw[D];exact qM
   have⟨aJ,aG,N⟩:=jI (aK.turn c d.1 d.2) (aI.trans (c.weak fun _ _ a=>.inr a)) (P.kp c (Te t.o));have W:=au.jR 3 m;rw[<-D]at W;have aB:Zz (jq wy e 134 #[.int .i64 op,.int .i64 av,nn,m]):=Zy W;have aL:=Zy D;clear c W D;go_upto_region 32 with(fail);rw[<-aL.o];clear d0 A d2 d3 dz z0 z1 z2 z3 ah ai aj ak zz M L uz;obtain⟨dz,d0,A,d2,d3,-⟩:=aB.ca;obtain⟨zz,z0,z1,z2,z3,-⟩:=N.ca;obtain⟨ah,ai,aj,ak,-⟩:=N.fz;go_wp2_with fail;refine PG (jM nD rfl w rfl [.int .i64 op,.int .i64 av,nn,m] (hQ.kX (jq.oQ N _ _ _ _)) rfl) rfl ?_;exact AX aJ r Zm aG t HA aV af
def pg(Z:Nat)(w:World)(base:Nat)(v:Value)(n:Nat):Prop:=∃xs:List ByteArray,w.ownsRow base 9 1 v n (xs.flatMap pQ)/\∀u∈xs,u.size<=Z
def nG(Z:Nat)(w:World)(u:Value)(m:Nat):Prop:=∃ad c,∃xs:List ByteArray,u=.slice ad m c/\Flat w 1 u m (xs.flatMap pQ)/\∀x∈xs,x.size<=Z
theorem pg.ext{Z:Nat}{w a:World}{base:Nat}{v:Value}{n:Nat}(b:pg Z w base v n)(e:Ext w a):pg Z a base v n:=by
 obtain⟨g,c,d⟩:=b;exact⟨g,jr (D:=fun _=>False) c e fun _ _ _ f=>f,d⟩
theorem pg.low{Z:Nat}{w:World}{base:Nat}{v:Value}{n:Nat}(a:pg Z w base v n)(b:Nat)(d:v.ownBlock=some b):base<=b:=by
 obtain⟨f,c,e⟩:=a;exact(c.lt b d).1
theorem nG.ext{Z:Nat}{w b:World}{a:Value}{m:Nat}(f:nG Z w a m)(i:Ext w b):nG Z b a m:=by
 obtain⟨c,d,j,e,g,h⟩:=f;exact⟨c,d,j,e,g.ext i,h⟩
theorem pg.empty(Z:Nat)(W:World)(a g:Nat)(b:a<=W)(c:W=g):pg Z (W.alloc (.cells #[] 9)) a (.slice (some ⟨g,0,none⟩) 0 0) 0:=
 ⟨[],kV W _ _ _ b c,Zl⟩
theorem xI(xs:List ByteArray):xs.map Value.string=xs.flatMap pQ:=Jq
theorem pg.lit{Z:Nat}{w:World}{base g n:Nat}(xs:List ByteArray)(a:jq w g 9 (xs.map Value.string).toArray)(b:base<=g)(c:xs.length=n)(h:xs.length<=1000)(d:∀e∈xs,e.size<=Z):pg Z w base (g,n,n) n:=by
 subst c;refine⟨xs,⟨by rw[pF (enc:=pQ) (k:=1) (fun _=>rfl)],.inr ⟨g,xs.length,_,rfl,b,a,Tu _,?_⟩⟩,d⟩;have f:=pF (enc:=pQ) (k:=1) (fun _=>rfl) xs;refine⟨by unfold maxLen;omega,Zl,?_⟩;rw[xI];simp only[Vi];exact Tq Zm
theorem nG.all{Z:Nat}{w:World}{I:Nat->Prop}{v:Value}{xs:List ByteArray}(a:SliceOf 1 lQ w I v xs)(d:∀e∈xs,e.size<=Z):nG Z w v xs.length:=by
 obtain⟨b,c,rfl,-,-⟩:=a.form;exact⟨b,c,xs,rfl,SliceOf.toFlat (enc:=pQ) (fun _ _ _ _ a=>a) (fun _=>rfl) Bg a,d⟩
theorem nG.take{Z:Nat}{w:World}{I:Nat->Prop}{a:Option Addr}{n c:Nat}{xs:List ByteArray}(e:SliceOf 1 lQ w I (.slice a n c) xs)(g:∀b∈xs,b.size<=Z){i:Nat}(d:i<=xs.length):nG Z w (.slice a i c) i:=by
 have:=nG.all (e.take d) (fun b f=>g b (Uo f));rwa[TN,UN d]at this
theorem nG.lit{Z:Nat}{w:World}{g n c:Nat}(xs:List ByteArray)(f:hQ w g 0 (xs.map Value.string))(i:xs.length=n)(j:∀b∈xs,b.size<=Z):nG Z w (g,n,c) n:=by
 subst i;have h:(xs.flatMap pQ).length=xs.length*1:=pF (enc:=pQ) (k:=1) (fun _=>rfl) _;refine⟨_,_,xs,rfl,⟨h,⟨_,_,rfl,(fun a=>by cases a),fun l a k b d=>?_⟩,qR Bg _⟩,j⟩;cases a;rw[<-xI]at d;have:=f k b d;unfold Addr.add;split
 . rename_i e;rw[e]at this;exact this
 . simpa using this
theorem nG.drop{Z:Nat}{w:World}{I:Nat->Prop}{b e n c m:Nat}{xs:List ByteArray}(h:SliceOf 1 lQ w I (.slice (some ⟨b,e,none⟩) n c) xs)(r:∀f∈xs,f.size<=Z)(j:Nat):nG Z w (.slice (some ⟨b,e+j,none⟩) (n - j) m) (n - j):=by
 have y:=h;obtain⟨_,_,a,-,-⟩:=h.form;cases a;have p:((xs.drop j).flatMap pQ).length=(xs.drop j).length*1:=pF (enc:=pQ) (k:=1) (fun _=>rfl) _;refine⟨_,_,xs.drop j,rfl,⟨by rw[p,UW],⟨_,_,rfl,(fun a=>by cases a),fun u a s f i=>?_⟩,qR Bg _⟩,fun f i=>r f (Vk i)⟩;cases a;obtain⟨l,t,A,k,g,x⟩:=flat_get (enc:=pQ) (k:=1) (fun _=>rfl) _ _ _ i;rw[V4]at k;obtain⟨v,z,o,d⟩:=lQ.at_ h k;cases o;have q:t=0:=by
  have:=(Tt.1 g).1;simp[pQ]at this;omega
 subst q;simp[pQ]at g;subst g;unfold Addr.add;split
 . have:j+l=j:=Zm
   rw[this]at d;exact d
 . have:e+(j+l)=e+j+s:=Zm
   rw[this]at d;simpa using d
theorem nG.none_{Z:Nat}{w:World}{c n j:Nat}{a:Addr}(f:n<=j):nG Z w (.slice (some a) (n - j) c) (n - j):=by
 rw[show n - j=0 by omega];exact⟨_,_,[],rfl,⟨rfl,⟨_,_,rfl,(fun b=>by cases b),fun e _ g h d=>by simp at d⟩,Zl⟩,Zl⟩
theorem pg.fresh{Z:Nat}{D:Nat->Prop}{b W:World}(c:Kp D b W):∃a,a=W.alloc (.cells #[] 9)/\Kp D b a/\pg Z a b (.slice (some ⟨W,0,none⟩) 0 0) 0/\Ext W a/\a.heap.size=W+1:=
 ⟨_,rfl,c.alloc _,pg.empty Z W _ _ c.size rfl,jJ _,Zl⟩
theorem nG.fresh{Z:Nat}{D:Nat->Prop}{b W:World}(c:Kp D b W)(s:ByteArray)(d:s.size<=Z):∃a,a=W.alloc (.cells #[s] 9)/\Kp D b a/\hQ a W 0 [s]/\Ext W a/\a.heap.size=W+1:=
 ⟨_,rfl,c.alloc _,hQ.oI _ _ rfl,jJ _,Zl⟩
theorem pg.kp{Z:Nat}{D:Nat->Prop}{w b:World}{base:Nat}{v:Value}{n:Nat}(d:pg Z w base v n)(h:Kp D w b)(g:∀a,D a->a<base):pg Z b base v n:=by
 obtain⟨j,e,f⟩:=d;exact⟨j,jr e h fun c _ k i=>Te (g c i),f⟩
theorem jH{Z:Nat}(w:World){o:Array Oper}{rest:List Oper}{h:Oper}{a:Act}{Q:Exit->Act->World->Prop}(A:h.guard=none)(s x:Operand)
    (C:h.op=.call {callee:=.builtin .append,args:=#[s,x],argTypes:=#[55,55]}) {D:Nat->Prop} {f:World} {v:Value} {n:Nat} (E:pg Z w f v n) (F:a.eval s=v)
    {e:Value} {m:Nat} (b:nG Z w e m) (G:a.eval x=e) (B:n+m<=8589934592) (l:Kp D f w)
    (r:∀i d,pg Z d f i (n+m)->Kp D f d->Kp (fun c=>f<=c/\v.ownBlock=some c) w d->wpList prog o Q rest (a.put h.dst i) d):
    wpList prog o Q (h::rest) a w:=by
 obtain⟨H,j,t⟩:=E;obtain⟨p,q,I,rfl,u,y⟩:=b;refine kM D8 w A s x C _ v n _ F j p m q _ G u B l.size fun i d z k=>r i d ⟨H++I,by simpa [TD]using z,fun e b=>?_⟩ (l.own k fun c g=>(j.lt c g).1) (k.weak fun c _ g=>⟨(j.lt c g).1,g⟩);rcases TU.1 b with b|b
 . exact t e b
 . exact y e b
theorem pg.o{Z:Nat}{w:World}{base:Nat}{v:Value}{n:Nat}(b:pg Z w base v n)(h:n<=100000):∃a:List ByteArray,SliceOf 1 lQ w (fun d=>base<=d) v a/\a.length=n/\∀g∈a,g.size<=Z:=by
 obtain⟨a,c,e⟩:=b;have f:n=a.length:=by
  have:=c.1;rw[pF (enc:=pQ) (k:=1) (fun _=>rfl)]at this;omega
 subst f;exact⟨a,SliceOf.mD pQ c rfl rfl (fun _ _=>rfl) (fun _ _=>rfl) (fun _ b _=>b) Zm,rfl,e⟩
theorem pg.put{Z:Nat}{w d:World}{D:Nat->Prop}{base g n c k:Nat}{s:ByteArray}(a:pg Z w base (g,n,c) n)(v:Kp D w d)(t:¬D g)(y:s.size<=Z)(F:k<n):pg Z (d.setCell (g,k) s) base (g,n,c) n:=by
 obtain⟨f,⟨l,m⟩,o⟩:=a;have G:n=f.length:=by
  rw[pF (enc:=pQ) (k:=1) (fun _=>rfl)]at l;omega
 rcases m with⟨b,_⟩|⟨E,B,h,b,u,q,x,r,e⟩
 . cases b
 . injection b with i C j;cases i;subst j;have p:jq (d.setCell (g,k) s) g 9 (h.setIfInBounds k s):=jq.jR (jq.kp (w:=w) q v t) k _;refine⟨f.set k s,⟨by rw[pF (enc:=pQ) (k:=1) (fun _=>rfl)];simp;omega,.inr ⟨g,c,_,rfl,u,p,x,r,by simpa using e.1,?_⟩⟩,fun A z=>?_⟩
   . rw[Array.toList_setIfInBounds,List.take_set,e.2,<-xI,<-xI,List.map_set]
   . rcases Vo z with a|a
     . exact o A a
     . rw[a];exact y
theorem pg.frozen{Z:Nat}{w:World}{base g n c:Nat}(d:pg Z w base (g,n,c) n)(k:Nat):w.frozen? (g,k)=false:=by
 obtain⟨o,⟨j,e⟩,l⟩:=d;rcases e with⟨a,_⟩|⟨i,h,b,a,m,f,-⟩
 . cases a
 . cases a;exact jq.frozen (cs:=b) f k
theorem pg.form{Z:Nat}{w:World}{base:Nat}{v:Value}{n:Nat}(d:pg Z w base v n)(p:0<n)(q:n<=100000):∃a b,v=.slice (some ⟨a,0,none⟩) n b/\base<=a/\a<w.heap.size/\n<=b/\∀c,c<n->∃e:ByteArray,w.cell? ⟨a,c,none⟩=some (.string e)/\e.size<=Z:=by
 have m:=d;obtain⟨u,g,r⟩:=m;obtain⟨a,b,rfl,l,o,k⟩:=ky g p;refine⟨a,b,rfl,l,o,k,fun c t=>?_⟩;obtain⟨x,h,s,i⟩:=d.o q;obtain⟨_,_,f,j⟩:=lQ.at_ h (i:=c) (CU Zm);cases f;exact⟨_,by simpa using j,i _ (Vw _)⟩
end Go.Proofs.YtenhnldnpdlniaaGreat
