/- Walks. -/
import Derived.Test.YtenhnldnpdlniaaGreatSmCoreLr
set_option maxRecDepth 100000
set_option maxHeartbeats 4000000
set_option linter.all false
namespace Go.Proofs.YtenhnldnpdlniaaGreat
open Go Go.RowKit Tryz M
variable {lk: Bool}{g: Gh}{cs xs: List Value}{i k m n: Nat}{I: Nat->Prop}{r: Nat×Nat}{d: Own}{v: Value}{w: World}{l: jB}{p: jl}
theorem Mr:Elem 107 109 2:=oH (z:=.agg #[Tj,""]) (bytes:=24) underlying107 Zo rfl Zn Zn
theorem Gj:Elem 76 124 1:=oH (z:=.pointer none) (bytes:=8) underlying76 Zo rfl Zn Zn
theorem M6(a:n<=6):(madeCells (Value.agg #[Tj,Tj]).cells (n*2)).toList=(List.replicate n l9).flatMap kI:=by
 have:n=0\/n=1\/n=2\/n=3\/n=4\/n=5\/n=6:=Zm
 rcases this with rfl|rfl|rfl|rfl|rfl|rfl|rfl<;>(show _=_;kernel_rfl)
theorem jG.LV{m: World}{r:Own}{f: Nat}(a:jG w l p r n f lk g)(c:GC)(J:rE w l p r n g.cs.length c)
    (e h:Nat) (z:m.ownsRow n 124 1 (e,g.cs.length+1,h) (g.cs.length+1) (g.cs.flatMap vY++vY c)) (C:Kp (fun b=>g.vc.ownBlock=some b) w m) (B:g.vc.ownBlock=some e\/w<=e)
    (H:M.Good p ({g with cs:=g.cs++[c],vc:=(e,g.cs.length+1,h)}:Gh).st):
    Kp (MO l r) w (m.setCell (f,3) (e,g.cs.length+1,h))/\∃F,nU w r F/\jG (m.setCell (f,3) (e,g.cs.length+1,h)) l p F n f lk {g with cs:=g.cs++[c],vc:=(e,g.cs.length+1,h)}:=by
 have y:Kp (·=f) m (m.setCell (f,3) (e,g.cs.length+1,h)):=qM;obtain⟨o,x⟩:=S9 (m.setCell (f,3) (e,g.cs.length+1,h));have D:g.vc.ownBlock≠some f:=fun d=>by have:=a.calls.role _ d;rw[a.role]at this;cases this
 have I:jq o f 78 (yQ l lk {g with cs:=g.cs++[c],vc:=(e,g.cs.length+1,h)}):=by rw[x];exact(a.blk.kp C D).jR 3 _
 have L:e≠f:=fun d=>by
  subst d;rcases B with t|t
  . exact D t
  . have:=a.blk.lt;omega
 have E:o.ownsRow n 124 1 (e,g.cs.length+1,h) (g.cs.length+1) (g.cs.flatMap vY++vY c):=by
  rw[x];exact jr z y (fun s A _ d=>L (by cases A;exact d))
 rw[<-x]at y |-;have i:Kp (PO r fun s=>s=(0,0)\/s=(1,0)) w o:=(C.weak fun b _ d=>⟨_,a.calls.role b d,.inr rfl⟩).trans (y.weak fun b _ d=>⟨_,by rw[d];exact a.role,.inl rfl⟩);have j:=Own.zi (by
  rcases B with t|t
  . exact .inl (a.calls.role _ t)
  . exact .inr Zm)
 have K:∀b,r.add e (1,0) b≠none->n<=b/\b<o.heap.size:=fun b q=>by
  by_cases d:b=e
  . subst d;exact E.lt b rfl
  . rw[Own.mR _ d]at q;exact a.Az i.size b q
 refine⟨i.weak fun b _ d=>d.mo,_,j,a.Gx i,a.hB,I,(j _ a.blk.lt).trans a.role,a.low,⟨?_,fun s A=>?_⟩,?_,a.heap.xX i j Zl,fun N O z=>(a.obj N O z).xX i j Zl,a.outs.xX i j Zl,K,H,a.zY.kp i (fun b v q ⟨s,h1,h2⟩=>by rw[q]at h1;cases h1;simp at h2) fun b v q=>Own.Ht Zl q⟩
 . simpa using E
 . cases A;exact Own.add_eq _ _ _
 . intro v G k;simp only at k;rcases V9 v g.cs.length with u|u|u
   . rw[TY u]at k;exact(a.call v G k).xX i j Zl a.yP
   . subst u;simp at k;subst k;exact J.xX i j Zl a.yP
   . rw[Uz Zr]at k;cases k
def yg:Prop:=∀(w:World)(l:jB)(p:jl),jD w l p->∀x:pU,kg p x=true→
    Calls Tryz.prog 75 #[.pointer (some ⟨l.L,0,none⟩),.agg #[.int .i64 x.of.keeper,.string x.of.name,.int .i64 x.at_]] w fun e w'=>
     e=.returned (.bool (right p x))/\Kp (·=l.D) w w'/\jD w' l p
theorem Ah(w:World)(l:jB)(p:jl)(F:Own)(H e:Nat)(lk:Bool)(fH:Zz (lk=true->yg))(g:Gh)(B:jG w l p F H e lk g)(gB:g.status=1)(x:pU)(hx:kg p x=true)(S:Nat)(vv:Value)(vs:List Val)(bO:w.ownsRow S 42 2 vv vs.length (vs.flatMap kI))(dP:∀q,vv.ownBlock=some q->¬MO l F q)(bU:∀gQ∈vs,jV gQ g.os.length=true)(bR:vs.length=(M.method p x).args.length+1):Calls prog 50 #[some e,.agg #[x.of.keeper,x.of.name,x.at_],vv] w (kJ w l p F H e lk (.int .i64 (enter p lk x vs g.st).1) (enter p lk x vs g.st).2):=by
 obtain⟨⟨c,b⟩,j⟩:=x;obtain⟨vb,vc,rfl,-⟩:=ky bO Zm;have aV:=qE (lT B.lM.ok hx).1;have dI:(vs.length:Int)<=(M.method p ⟨⟨c,b⟩,j⟩).locals:=Te aV.args
 have eT:=Zy (wY (lk:=lk) (vs:=vs) B.lM.ok B.good gB hx (by simpa [Gh.st]using bU) dI);obtain⟨a,hm⟩:∃a,M.method p ⟨⟨c,b⟩,j⟩=a:=⟨_,rfl⟩;obtain⟨w0,dY,bF,b4⟩:=nu w #[c,b,j] 66;have v:Zz (enter p lk ⟨⟨c,b⟩,j⟩ vs g.st=if 8<=g.cs.length then(7,g.st)else if lk&& !M.right p ⟨⟨c,b⟩,j⟩then(5,g.st)
  else if kU p c g.st.heap vs (⟨2,b⟩::a.args)then(1,{g.st with frames:=g.st.frames++[⟨⟨⟨c,b⟩,j⟩,0,vs++List.replicate (a.locals.toNat - vs.length) l9,[]⟩]})else(10,g.st)):=Zy (by
  unfold enter;rw[hm];simp[Gh.st])
 obtain⟨U,V,bQ⟩:=B.calls.form;have m3:=B.blk.c 3 (.slice U g.cs.length V) (by rw[<-bQ];rfl);have mz:=B.blk.lt;have ik:g.cs.length<=8:=by have:=B.good.nf;simpa [Gh.st]using this
 have gU:Zz (∀d,w.heap.size<=d->¬MO l F d):=Zy (fun d u=>B.fresh u);have⟨D,aI,bf,bV,cO,fF,fA,HX,HM⟩:=AV (B.ext bF) B bF b4 dY bO dP hx hm;have⟨fO,aQ⟩:=jw bU bQ;rw[hm]at aV bR;have gZ:=B.lM.lt;have gY:=B.lM.FR;have⟨aK,bA⟩:=jw aV bR;have iC:=b4.lt;clear B bF b4 dY bO dP hx hm bU bQ aV bR dI;by_cases h8:8<=g.cs.length
 . replace v:=Zy (v.trans (Ty h8));have fU:(8:Int)<=g.cs.length:=Zm
   go_enter func50,ntmps50;go_wp2;go_ret;rw[v.o,<-cO.o];exact kJ.mk' bf.any (nU.refl _ _) D rfl
 replace v:=Zy (v.trans (T9 h8));have fU:((8:Int)<=g.cs.length)=False:=Wj Zm;clear h8;obtain⟨bC,bD,bM,t⟩:=tN.ex (fun W'=>LC l p w0 W') w0 (LC.refl D.lM);obtain⟨-,aA,dZ,-⟩:=jq.pq fun n=>(D.qK (t.jC n).kp (t.jC n).at_).blk;obtain⟨-,O,Y,Z,-⟩:=jq.pq fun n=>(bV.kp (t.jC n).kp Zm);have s:=Zy t;clear t;go_enter func50,ntmps50;go_wp2_with fail;rw[<-cO.o];rename_i P A;have ek:∀(r:World)(af ag ah ai aj ak au av:Value),LC l p w0 r->enter p lk ⟨⟨c,b⟩,j⟩ vs g.st=(5,g.st)->P {tmps:=#[.pointer (some ⟨e,0,none⟩),.agg #[c,b,j],.slice (some ⟨vb,0,none⟩) vs.length vc,undef,.pointer (some ⟨w,0,none⟩),undef,.int .i64 0,undef,undef,undef,undef,undef,.pointer (some ⟨e,0,none⟩),.pointer (some ⟨e,0,none⟩),.pointer (some ⟨e,3,none⟩),.slice U g.cs.length V,.int .i64 g.cs.length,.bool false,.pointer (some ⟨e,0,none⟩),.pointer (some ⟨e,0,none⟩),.pointer (some ⟨e,1,none⟩),.bool lk,af,ag,ah,ai,aj,ak,au,av,.bool true,undef,undef,undef,undef,undef,undef,undef,undef,undef,undef,undef,undef,undef,undef,undef,undef,undef,undef,undef,undef,undef,undef,undef,undef,undef,undef,undef,undef,undef,undef,undef,undef,undef,undef,undef,undef,undef,undef,undef,undef,undef,undef,undef,undef,undef,undef,undef,undef,undef,undef,undef,undef,undef,undef,undef,undef,undef,undef,undef,undef,undef,undef,undef],defers:=[]} r:=by
  intro r af ag ah ai aj ak au av I N;refine A _ _ ?_;clear A s aA dZ O Y Z;go_wp2;go_ret;rw[N];exact kJ.mk' (bf.any.trans I.mo) (nU.refl _ _) (D.qK I.kp I.at_) rfl
 have ed:∀(r:World)(af ag ah ai aj ak au av:Value),LC l p w0 r->enter p lk ⟨⟨c,b⟩,j⟩ vs g.st=(if kU p c g.st.heap vs (⟨2,b⟩::a.args)then(1,{g.st with frames:=g.st.frames++[⟨⟨⟨c,b⟩,j⟩,0,vs++List.replicate (a.locals.toNat - vs.length) l9,[]⟩]})else(10,g.st))→
     P {tmps:=#[.pointer (some ⟨e,0,none⟩),.agg #[c,b,j],.slice (some ⟨vb,0,none⟩) vs.length vc,undef,.pointer (some ⟨w,0,none⟩),undef,.int .i64 0,undef,undef,undef,undef,undef,.pointer (some ⟨e,0,none⟩),.pointer (some ⟨e,0,none⟩),.pointer (some ⟨e,3,none⟩),.slice U g.cs.length V,.int .i64 g.cs.length,.bool false,.pointer (some ⟨e,0,none⟩),.pointer (some ⟨e,0,none⟩),.pointer (some ⟨e,1,none⟩),.bool lk,af,ag,ah,ai,aj,ak,au,av,.bool false,undef,undef,undef,undef,undef,undef,undef,undef,undef,undef,undef,undef,undef,undef,undef,undef,undef,undef,undef,undef,undef,undef,undef,undef,undef,undef,undef,undef,undef,undef,undef,undef,undef,undef,undef,undef,undef,undef,undef,undef,undef,undef,undef,undef,undef,undef,undef,undef,undef,undef,undef,undef,undef,undef,undef,undef,undef,undef,undef,undef,undef,undef,undef],defers:=[]} r:=by
  intro r af ag ah ai aj ak au av I N;refine A _ _ ?_;clear A s aA dZ O Y Z;replace v:=Zy N;have⟨aC,bW,aB⟩:=jI (D.qK I.kp I.at_) (bV.kp I.kp Zm) I;have iD:=I.kp.size;clear N I;go_wp2_with fail;obtain⟨bC,bD,bM,t⟩:=lL r;have aA:=fun n=>(aC.ext (t.jC n)).blk.c 0 (some l.L) rfl;obtain⟨-,O,Y,Z,-⟩:=jq.pq fun n=>(bW.ext (t.jC n));have s:=Zy t;clear t;rename_i P A;have eu:∀(b7:Nat)(o:World)(J:uR),Ext r o->jq o b7 113 (oC a J).toArray->r<=b7->jy o (· <l.O) a (oC a J)->P {tmps:=#[.pointer (some ⟨e,0,none⟩),.agg #[c,b,j],.slice (some ⟨vb,0,none⟩) vs.length vc,undef,.pointer (some ⟨w,0,none⟩),undef,.int .i64 0,.pointer (some ⟨b7,0,none⟩),undef,undef,undef,undef,.pointer (some ⟨e,0,none⟩),.pointer (some ⟨e,0,none⟩),.pointer (some ⟨e,3,none⟩),.slice U g.cs.length V,.int .i64 g.cs.length,.bool false,.pointer (some ⟨e,0,none⟩),.pointer (some ⟨e,0,none⟩),.pointer (some ⟨e,1,none⟩),.bool lk,af,ag,ah,ai,aj,ak,au,av,.bool false,.pointer (some ⟨e,0,none⟩),.pointer (some ⟨e,0,none⟩),.pointer (some ⟨e,0,none⟩),.pointer (some ⟨l.L,0,none⟩),.agg #[c,b,j],.agg #[.string a.name,.slice J.a1 a.args.length J.c1,.int .i64 a.ret.kind,.string a.ret.name,.int .i64 a.locals,.int .i64 a.stack,.slice J.a2 a.code.length J.c2,.slice J.a3 a.maps.length J.c3],undef,undef,undef,undef,undef,undef,undef,undef,undef,undef,undef,undef,undef,undef,undef,undef,undef,undef,undef,undef,undef,undef,undef,undef,undef,undef,undef,undef,undef,undef,undef,undef,undef,undef,undef,undef,undef,undef,undef,undef,undef,undef,undef,undef,undef,undef,undef,undef,undef,undef,undef,undef,undef,undef,undef,undef,undef],defers:=[]} o:=by
   clear s aA O Y Z;intro b7 o J C bE ic E;refine A _ _ ?_;clear A;obtain⟨R,T,a2,c2,a3,c3⟩:=J;have fu:=Zy (aC.ext C);have eZ:Zz (Kp (MO l F) w o):=Zy ((bf.any.trans aB.mo).trans C.any);have⟨bX,eD,aL⟩:=jI (bW.ext C) bE E;have aG:=jy.args E;obtain⟨xz,-,x1,-⟩:=bX.ca;obtain⟨yz,-,y1,-⟩:=bE.ca;have gW:=Zy aG;have fK:Zz (∀(q:Nat)(k:Kind),(Kind.mk 2 b::a.args)[q]?=some k->True):=Zy (fun _ _ _=>trivial);have iG:=C.size;clear C bE E fK;refine wp_seq_k fun P A=>?_;have eB:∀(v8 di:Value)(G:World),Ext o G->G.ownsRow o 109 2 v8 (a.args.length+1) ((Kind.mk 2 b::a.args).flatMap fun k=>[k.kind,k.name])->P {tmps:=#[.pointer (some ⟨e,0,none⟩),.agg #[c,b,j],.slice (some ⟨vb,0,none⟩) vs.length vc,undef,.pointer (some ⟨w,0,none⟩),undef,.int .i64 0,.pointer (some ⟨b7,0,none⟩),v8,undef,undef,undef,.pointer (some ⟨e,0,none⟩),.pointer (some ⟨e,0,none⟩),.pointer (some ⟨e,3,none⟩),.slice U g.cs.length V,.int .i64 g.cs.length,.bool false,.pointer (some ⟨e,0,none⟩),.pointer (some ⟨e,0,none⟩),.pointer (some ⟨e,1,none⟩),.bool lk,af,ag,ah,ai,aj,ak,au,av,.bool false,.pointer (some ⟨e,0,none⟩),.pointer (some ⟨e,0,none⟩),.pointer (some ⟨e,0,none⟩),.pointer (some ⟨l.L,0,none⟩),.agg #[c,b,j],.agg #[.string a.name,.slice R a.args.length T,.int .i64 a.ret.kind,.string a.ret.name,.int .i64 a.locals,.int .i64 a.stack,.slice a2 a.code.length c2,.slice a3 a.maps.length c3],.pointer (some ⟨w,0,none⟩),.pointer (some ⟨w,1,none⟩),.string b,.agg #[.int .i64 2,b],di,.pointer (some ⟨b7,1,none⟩),.slice R a.args.length T,v8,undef,undef,undef,undef,undef,undef,undef,undef,undef,undef,undef,undef,undef,undef,undef,undef,undef,undef,undef,undef,undef,undef,undef,undef,undef,undef,undef,undef,undef,undef,undef,undef,undef,undef,undef,undef,undef,undef,undef,undef,undef,undef,undef,undef,undef,undef,undef,undef,undef],defers:=[]} G:=by
    clear x1 xz y1 yz aG;intro v8 di G ax bP;refine A _ _ ?_;clear A;have iH:=ax.size;have⟨ae,bu,bY,aZ,fw,fE⟩:=pR (fu.ext ax) (eZ.trans ax.any) (bX.ext ax) (eD.ext ax) (kE.ext jy.stays ax aL) bP;obtain⟨tb,tc,rfl,-⟩:=ky bP Zm;have dW:=jr fF bu (fun q hq _ h=>fA.o q hq h);have cK:=Zy dW;obtain⟨ha,dL,dV⟩:=ae.heap.form;have eU:=Zy ae.o.OL;have cB:=Zy dV;have ib:=aK.IK;clear ax bP dW dV;go_wp2;go_loopw [47] (fun i wr=>∃q:Nat,q<=vs.length/\i=.int .i64 q/\Ext G wr/\Zz (kU p c g.st.heap vs (⟨2,b⟩::a.args)=kU p c g.st.heap (vs.drop q) ((Kind.mk 2 b::a.args).drop q))) (fun i _=>vs.length - (intOf i).toNat)
    case atStart=>exact⟨0,Tz _,rfl,Kp.rr,Zy rfl⟩
    case round=>
     obtain⟨q,hq,rfl,hE,cu⟩:=hrel;by_cases fZ:q<vs.length
     . obtain⟨⟨vk,vn⟩,N⟩:=nV vs q fZ;obtain⟨⟨kq,kn⟩,hk⟩:=nV (Kind.mk 2 b::a.args) q (by have:=bA.o;simp;omega);have fC:=Zy (fO _ (Tx N));have bJ:=(l5 (enc:=kI) (k:=2) (fun _=>rfl) cK N).ext hE;have bI:=l5 (enc:=fun k:Kind=>[k.kind,k.name]) (k:=2) (fun _=>rfl) (l:=Kind.mk 2 b::a.args) fE hk;have g0:=bJ.two.1;have g1:=bJ.two.2;have gz:=jv g0;have cz:Zz (kU p c g.st.heap vs (⟨2,b⟩::a.args)=(hasType p c g.st.heap ⟨vk,vn⟩ ⟨kq,kn⟩&&kU p c g.st.heap (vs.drop (q+1)) ((Kind.mk 2 b::a.args).drop (q+1)))):=Zy (by rw[cu.o,mM N,mM hk];rfl);obtain⟨W4,dJ,dz,dm⟩:=nu wr #[vk,vn] 42;have L:=hE.trans dz;obtain⟨bC,bD,bM,t⟩:=lL W4;have aA:=fun n=>(ae.ext (L.trans (t.jC n))).blk.c 0 (some l.L) rfl;have iN:=fun n=>(ae.ext (L.trans (t.jC n))).blk.c 4 (.slice ha g.os.length dL) (by rw[<-cB.o];rfl);have O:=fun n=>(bY.ext (L.trans (t.jC n))).c 0 c rfl;obtain⟨-,iL,iM,-⟩:=jq.pq fun n=>(dm.ext (t.jC n));have iO:=fun n=>(hQ.ext bI (L.trans (t.jC n))).two.1;have iP:=fun n=>(hQ.ext bI (L.trans (t.jC n))).two.2;have dN:=fun W (hW:Ext W4 W)=>wC W l p (ae.lM.ext (L.trans hW)) c (.slice ha g.os.length dL) g.st.heap (by rw[<-cB.o];exact eU.ext (L.trans hW)) ⟨vk,vn⟩ (fun h=>by have:=qa fC h;simpa [Gh.st]using this) ⟨kq,kn⟩;have⟨eX,s,fP,bn⟩:=kD dN t dJ L;have iq:(q:Int)<a.args.length+1:=Te bA.o
       have iw:(q:Int)<vs.length:=Zm
       have iy:IntKind.i64.wrap ((q:Int)+1)=q+1:=TM _ Zm;clear t dN bJ bI N hk dJ dz dm L;go_wp2_with fail;rw[<-fP.o];refine lq s 18 [([0,1,2,3,4,5,6,7,8,9,10,11,12,13,14,15],16)] [17] ?_ ?_
       . exact jA
       refine nE ?_;intro z m;go_wp2_with fail;refine(eX _ jA).mono ?_;rintro h w5 ⟨rfl,dA⟩;have aJ:=Zy (((Kp.refl _ W4).drew:Ext W4 _).trans dA);clear dA;cases aW:hasType p c g.st.heap ⟨vk,vn⟩ ⟨kq,kn⟩
       . replace v:Zz (enter p lk ⟨⟨c,b⟩,j⟩ vs g.st=(10,g.st)):=Zy (by rw[v.o,cz.o,aW];rfl);clear aW;go_wp2_with fail;refine kk s m aJ ?_;clear m z;refine uC ?_;go_wp2;go_ret;rw[v.o];exact kJ.mk' (bu.trans (bn.trans aJ).any) (nU.refl _ _) (ae.ext (bn.trans aJ)) rfl
       . have fJ:Zz (kU p c g.st.heap vs (⟨2,b⟩::a.args)=kU p c g.st.heap (vs.drop (q+1)) ((Kind.mk 2 b::a.args).drop (q+1))):=Zy (by rw[cz.o,aW];rfl);clear aW;go_wp2_with fail;refine kk s m aJ ?_;clear m z;refine uC ?_;go_wp2_with fail;exact⟨⟨q+1,Zm,Zl,bn.o.trans aJ.o,fJ⟩,Zj⟩
     . have gy:q=vs.length:=Zm
       replace v:Zz (enter p lk ⟨⟨c,b⟩,j⟩ vs g.st=(1,{g.st with frames:=g.st.frames++[⟨⟨⟨c,b⟩,j⟩,0,vs++List.replicate (a.locals.toNat - vs.length) l9,[]⟩]})):=Zy (by
        rw[v.o,cu.o,gy,List.drop_length];rfl)
       obtain⟨f,hn⟩:∃f:Nat,a.locals=f:=⟨a.locals.toNat,Te aK.args⟩;have gu:f<=6:=Te aK.locals
       have gD:vs.length<=f:=Tf aK.args bA.o
       obtain⟨Q,bH⟩:∃Q,Q=madeCells (Value.agg #[Tj,Tj]).cells (f*2):=⟨_,rfl⟩;have aU:Q.toList=(List.replicate f l9).flatMap kI:=by rw[bH];exact M6 gu
       have gp:∀W:World,(Instr.makeSlice 67 f f).run prog W=.ok (W,f,f) (W.alloc (.cells Q 42)):=fun W=>by
        obtain⟨i,n,bytes,ht,hi,hz,dU,ig,iJ,hk,u⟩:=vD;have gF:n=.agg #[Tj,Tj]:=by
         have h:(prog.info? 42).map (·.zero)=some (some (.agg #[Tj,Tj])):=by kernel_rfl
         rw[hi]at h;simp only[Vy,TQ]at h;rw[hz]at h;cases h;rfl
        have:=run_makeSlice (P:=prog) W 67 42 i n ht hi hz .i64 .i64 f f Zm (Int.le_refl _) (by rw[dU];simp;omega) (by
         have:(i.bytes:Int)*f<=4096*6:=Int.mul_le_mul Zm Zm Zm Zm;omega) Zm
        rw[dU,gF]at this;simpa [bH]using this
       have HE:=Zy hE;have y4:=(aZ.ext hE).c 4 f (by rw[<-hn];rfl);have yz:=(aZ.ext hE).lt;have⟨HN,gV⟩:=jw hn aU;have dS:(wr.alloc (.cells Q 42)).ownsRow wr 42 2 (wr,f,f) f ((List.replicate f l9).flatMap kI):=by
        rw[<-aU];exact VV wr Q f (Tu _) (by unfold maxLen;omega) (by
         have:=congrArg List.length aU;rw[pF (k:=2) (fun _=>rfl),UA]at this;simpa using this)
       have⟨fG,bq⟩:=jw dS (uj (jr (D:=fun _=>False) cK (hE.alloc (.cells Q 42)) fun _ _ _ x=>x) (qR xw vs));clear hE hn bH aU dS;go_wp2_with (refine Iy vD _ rfl (.tmp 74) (.tmp 75) rfl wr wr f f vs.length vc _ _ rfl fG vb rfl bq gD ?_);intro y bN dC;have aD:=(kx:Ext wr (wr.alloc (.cells Q 42))).own dC (fun d h=>Zm);have bL:y.ownsRow wr 42 2 (wr,f,f) f ((vs++List.replicate (f - vs.length) l9).flatMap kI):=by
        rw[TD];have e1:((List.replicate f l9).flatMap kI).drop (vs.length*2)=(List.replicate (f - vs.length) l9).flatMap kI:=by
         have e2:List.replicate f l9=List.replicate vs.length l9++List.replicate (f - vs.length) l9:=by rw[List.replicate_append_replicate];congr 1;omega
         rw[e2,TD,List.drop_left' (by rw[pF (k:=2) (fun _=>rfl)];simp)]
        rw[e1]at bN;exact bN
       have eO:=Zy aD;have aO:=ae.ext (HE.trans aD);have⟨fq,eY,fo⟩:=jI aO (bu.trans (HE.trans aD).any) bL;have iE:(wr:Nat)<y:=by have:=(bL.lt wr rfl).2;exact this
       have iA:=HE.size;have bT:¬g.vc.ownBlock=some e:=fun h=>by have:=aO.calls.role _ h;rw[aO.role]at this;cases this
       have dX:∀d,w.heap.size<=d->¬g.vc.ownBlock=some d:=fun d u h=>Te ((aI.calls.blk h).2)
       obtain⟨bC,bD,bM,t⟩:=tN.ex (fun W'=>Kp (fun d=>g.vc.ownBlock=some d) y W') _ Kp.rr;have dw:=aZ.ext (HE.trans aD);have dn:=bY.ext (HE.trans aD);have fV:w<=b7:=Zm
       have gP:=fun n=>(aO.blk.kp (t.jC n) bT).c 3 (.slice U g.cs.length V) (by rw[<-aQ.o];rfl);obtain⟨-,O,Y,Z,-⟩:=jq.pq fun n=>(dn.kp (t.jC n) (dX _ (Tu _)));obtain⟨-,gG,gH,gI,gJ,gK,gL,gM,gN,-⟩:=jq.pq fun n=>(dw.kp (t.jC n) (dX _ fV));have⟨s,fM⟩:=jw t bT;clear bN dC aD bL aO t dw dn bT y4 yz gp;go_wp2_with fail;refine lq s 15 [([0,1,2,3,4,5,6,7,8,9,10,11],12),([],13),([],14)] [] ?_ ?_
       . exact jA
       refine nE ?_;intro z m;go_wp2_with fail;refine kk s m kx ?_;clear m z;refine mF rfl fun z m=>?_;go_wp2_with fail;refine kk s m kx ?_;clear m z;refine mF rfl fun z m=>?_;obtain⟨wB,aH⟩:=S9 (((y.alloc (.cells #[c,b,j,.string a.name,.slice R a.args.length T,.int .i64 a.ret.kind,.string a.ret.name,.int .i64 a.locals,.int .i64 a.stack,.slice a2 a.code.length c2,.slice a3 a.maps.length c3,Tj,(wr,f,f),(),.int .i64 a.stack] 129)).alloc (.cells #[some y] 124)).drew);rw[<-aH];have aM:Ext y wB:=by rw[aH];exact kx
       have bB:jq wB y 129 #[c,b,j,.string a.name,.slice R a.args.length T,.int .i64 a.ret.kind,.string a.ret.name,.int .i64 a.locals,.int .i64 a.stack,.slice a2 a.code.length c2,.slice a3 a.maps.length c3,Tj,(wr,f,f),(),.int .i64 a.stack]:=by rw[aH];exact(jq.newAt (W:=y) (g:=y.heap.size) _ _ rfl).ext kx
       have bS:hQ wB (y+1) 0 [some y]:=by rw[aH];exact hQ.KO _ _ Zl
       have iI:wB.heap.size=y+2:=by
        rw[aH];show((y.alloc _).alloc _).heap.size=_
        simp
       have aS:=fq.ext aM;have gX:H<=w:=by have:=(aI.dom e (by rw[aI.o.role];simp)).2;have:=aI.low;omega
       have dQ:∀d,w.heap.size<=d->F d=none:=fun d u=>by
        cases h:F d with
        |none=>rfl
        |some q=>have:=(aI.dom d (by rw[h];simp)).2;omega
       obtain⟨X,az⟩:∃X,X=(F.add y (4,g.cs.length)).add wr (5,g.cs.length):=⟨_,rfl⟩;have iB:(w:Nat)<=wr:=Zm
       have o1:∀d aY,F d=some aY->X d=some aY:=fun d aY u=>by
        have h1:d≠y.heap.size:=fun h=>by rw[h,dQ _ Zm]at u;cases u
        have h2:d≠wr.heap.size:=fun h=>by rw[h,dQ _ Zm]at u;cases u
        rw[az,Own.mR _ h2,Own.mR _ h1];exact u
       have o2:X wr.heap.size=some (5,g.cs.length):=by rw[az];exact Own.add_eq _ _ _
       have o3:X y.heap.size=some (4,g.cs.length):=by rw[az,Own.mR _ Zm];exact Own.add_eq _ _ _
       have o4:∀d,d<w.heap.size->X d=F d:=fun d u=>by rw[az,Own.mR _ Zm,Own.mR _ Zm]
       have o5:∀d,X d≠none->H<=d/\d<wB.heap.size:=fun d u=>by
        by_cases e1:d=wr.heap.size
        . subst e1;omega
        . by_cases e2:d=y.heap.size
          . subst e2;omega
          . rw[az,Own.mR _ e1,Own.mR _ e2]at u;exact aS.dom d u
       have dG:=aS.relabel o1 o5 fun d i u=>by
        by_cases e2:d=y.heap.size
        . rw[e2];exact⟨_,bB.c 0 _ rfl⟩
        . rw[az]at u;have u:=Own.Ht Zl u;rw[Own.mR _ e2]at u;exact aS.zY d i u
       have dx:rE wB l p X H g.cs.length (⟨⟨⟨⟨c,b⟩,j⟩,0,vs++List.replicate (a.locals.toNat - vs.length) l9,[]⟩,y.heap.size,⟨R,T,a2,c2,a3,c3⟩,(wr,f,f),()⟩:GC):=by
        refine⟨?_,o3,by show H<=y;omega,?_,⟨?_,fun q hq=>?_⟩,mW.nil _ _ _ _ _ _⟩
        . unfold BA;simp only[HM.o];exact bB
        . simp only[HM.o];exact kE.ext jy.stays ((HE.trans eO).trans aM) fw
        . have h1:=mP (base':=H) (jr (D:=fun _=>False) fo aM fun _ _ _ x=>x) Zm;have e1:(vs++List.replicate (a.locals.toNat - vs.length) l9).length=f:=by rw[HN.o];simp;omega
          show World.ownsRow _ H _ 2 _ (vs++List.replicate (a.locals.toNat - vs.length) l9).length _
          rw[e1,HN.o];simpa using h1
        . cases hq;exact o2
       have⟨bz,eH,bZ,fe,eG,eP⟩:=pR dG dx o4 (eY.trans aM.any) bS aM;clear aH bB aS dG dx o1 o2 o3 o4 o5 az bS;refine jF Gj rfl (.tmp 81) (.tmp 90) rfl H (.slice U g.cs.length V) g.cs.length (g.cs.flatMap vY) rfl (by rw[<-aQ.o];exact bz.calls.row) (y+1) 1 [some y] rfl rfl eG Zt Zm Zm ?_;intro g9 c9 gT dH aN bK;change z _ _;rw[<-aQ.o]at aN bK;refine kk s m (eP.any.trans aN) ?_;clear m z;have aT:=bz.blk.kp aN fM;have q3:=aT.c 3 (.slice U g.cs.length V) (by rw[<-aQ.o];rfl);have f3:=aT.frozen 3;have qz:=aT.lt;have bG:=eT.2.2.1;rw[v.o]at bG;have hs:({g with cs:=g.cs++[(⟨⟨⟨⟨c,b⟩,j⟩,0,vs++List.replicate (a.locals.toNat - vs.length) l9,[]⟩,y.heap.size,⟨R,T,a2,c2,a3,c3⟩,(wr,f,f),()⟩:GC)],vc:=(g9,g.cs.length+1,c9)}:Gh).st={g.st with frames:=g.st.frames++[⟨⟨⟨c,b⟩,j⟩,0,vs++List.replicate (a.locals.toNat - vs.length) l9,[]⟩]}:=by simp[Gh.st]
       obtain⟨dD,iK,dK,dF⟩:=bz.LV (⟨⟨⟨⟨c,b⟩,j⟩,0,vs++List.replicate (a.locals.toNat - vs.length) l9,[]⟩,y.heap.size,⟨R,T,a2,c2,a3,c3⟩,(wr,f,f),()⟩:GC) eH g9 c9 dH aN (by
        rcases bK with h|h
        . exact .inl h
        . right;omega) (by rw[hs];exact bG)
       have eQ:Zz (kJ w l p F H e lk (.int .i64 1) {g.st with frames:=g.st.frames++[⟨⟨⟨c,b⟩,j⟩,0,vs++List.replicate (a.locals.toNat - vs.length) l9,[]⟩]} (.returned (.int .i64 1)) (gT.setCell (e,3) (g9,g.cs.length+1,c9))):=
        Zy (kJ.mk' (fe.mo dD (fun d u=>bZ.o d u)) (fun d u=>(dK d Zm).trans (bZ d u)) dF hs)
       clear dD dK dF hs bG aT dH aN bK s gP O Y Z gG gH gI gJ gK gL gM gN;refine lD ?_;go_wp2;go_ret;rw[v.o];exact eQ
   have dh:=Zy eB;clear eB A;cases R with
   | none =>
    have dO:a.args=[]:=by
     cases gm:a.args with
     |nil=>rfl
     |cons k aY=>
      rw[gm]at aG;obtain⟨_,_,_,h,_⟩:=aG.get (i:=0) (x:=k) rfl;cases h
    have aP:(o.alloc (.cells #[.int .i64 2,b] 109)).ownsRow o 109 2 (.slice (some ⟨o,0,none⟩) 1 1) (a.args.length+1) ((Kind.mk 2 b::a.args).flatMap fun k=>[k.kind,k.name]):=by
     rw[dO];exact VV o #[.int .i64 2,b] 1 (Tu _) (by unfold maxLen;omega) rfl
    have hT:=dh.o (.slice (some ⟨o,0,none⟩) 1 1) (.slice (some ⟨o,0,none⟩) 1 1) _ (kx:Ext o (o.alloc (.cells #[.int .i64 2,b] 109))) aP;simp only[dO,U8]at hT;have fI:=Zy hT;clear hT aP;go_wp2_with fail;exact fI
   |some ad=>
    have dM:=SliceOf.toFlat (R:=mV) (enc:=fun k=>[k.kind,k.name]) (fun _ _ _ _ h=>h) (fun _=>rfl) Zt aG;have bq:=Zy dM;clear aG dM;have gq:1+a.args.length<=8589934592:=Te aK.IK
    have aP:(o.alloc (.cells #[.int .i64 2,b] 109)).ownsRow o 109 2 (.slice (some ⟨o,0,none⟩) 1 1) 1 [.int .i64 2,b]:=VV o _ 1 (Tu _) (by unfold maxLen;omega) rfl;have fD:=Zy aP;clear aP;go_wp2_with (at_builtin;refine oZ Mr _ rfl (.tmp 41) (.tmp 43) rfl o _ 1 [.int .i64 2,b] rfl fD ad a.args.length T _ rfl (bq.ext kx) gq Zl ?_);intro v' G dR aF;have⟨fB,bg⟩:=jw dR ((kx:Ext o (o.alloc (.cells #[.int .i64 2,b] 109))).own aF (fun d h=>by simp only[Value.ownBlock,TQ]at h;omega));clear dR aF;go_wp2_with fail;exact dh _ _ _ bg (by rw[VG];exact fB)
  clear A;have df:=Zy eu;clear eu;refine rQ s 7 (.two [0,1,2,3,4] 5 6 (.one [] 6 (.fin [])) (.one [] 5 (.fin []))) ?_ ?_
  . exact jA
  refine two [_,_,_,_,_] rfl rfl rfl fun P A=>?_;(repeat (go_big_quiet_step (fail)));((refine EP A (fun z m=>?_) fun z m=>?_)<;>clear A P)
  . go_wp2_with fail;have ay:=mY r.drew l p (aC.lM.ext jA) ⟨⟨c,b⟩,j⟩ HX;rw[HM.o]at ay;refine ay.mono ?_;rintro h o ⟨⟨cs,E,rfl⟩,C⟩;obtain⟨K,rfl⟩:=ql E;have⟨aa,aL⟩:=jw ((jA).trans C) E;clear E C ay;simp only[oC];go_wp2_with fail;refine kk s m aa ?_;clear m z;refine j3 rfl fun z m=>?_;go_wp2_with fail;refine kk s m (aa.alloc _) ?_;clear m z;clear s aA O Y Z;refine kQ ?_;go_wp2_with fail;exact df _ _ K (aa.alloc _) (jq.new _ _ _) aa.size (kE.ext jy.stays (kx:Ext o _) aL)
  . go_wp2_with fail;refine kk s m ((jA).alloc _) ?_;clear m z;refine j3 rfl fun z m=>?_;go_wp2_with fail;have b5:jq (r.alloc (.cells #["",(),Tj,"",Tj,Tj,(),()] 113)).drew r 113 #["",(),Tj,"",Tj,Tj,(),()]:=(jq.new _ _ _).ext jA;have ay:=mY ((r.alloc (.cells #["",(),Tj,"",Tj,Tj,(),()] 113)).drew) l p (aC.lM.ext (jJ _).drew) ⟨⟨c,b⟩,j⟩ HX;rw[HM.o]at ay;refine ay.mono ?_;rintro h o ⟨⟨cs,E,rfl⟩,C⟩;obtain⟨K,rfl⟩:=ql E;have aa:=Zy ((((Kp.refl _ r).alloc _).drew).trans C);have aR:=b5.ext C;obtain⟨z5,y0,y1,y2,y3,y4,y5,y6,y7,-⟩:=aR.ca;obtain⟨g0,g1,g2,g3,g4,g5,g6,g7,-⟩:=aR.fz;obtain⟨G,aX⟩:=S9 (((((((((o.setCell r (.string a.name)).setCell (r,1) (.slice K.a1 a.args.length K.c1)).setCell (r,2) (.int .i64 a.ret.kind)).setCell (r,3) (.string a.ret.name)).setCell (r,4) (.int .i64 a.locals)).setCell (r,5) (.int .i64 a.stack)).setCell (r,6) (.slice K.a2 a.code.length K.c2)).setCell (r,7) (.slice K.a3 a.maps.length K.c3)));have aF:Kp (·=r) o G:=by rw[aX];exact Kp.Ib (D:=(·=r)) rfl _ _ _ _ _ _ _ _
    have b9:jq G r 113 (oC a K).toArray:=by rw[aX];exact aR.Ib _ _ _ _ _ _ _ _
    have iF:=aC.lM.lt;have il:=aC.lM.ord;have⟨bg,aL,eF,fQ⟩:=kD (aa.own aF (fun k h=>Zm)) (kE.kp jy.stays aF (fun d u h=>Zm) E) b9 aX;clear b5 aR E C aX aF b9 ay;simp only[oC];go_wp2_with fail;refine kk s m aa ?_;clear m z;clear s aA O Y Z;refine kQ ?_;go_wp2_with fail;rw[<-fQ.o];exact df _ _ K bg eF (Tu _) aL
 clear A;have⟨cZ,fT⟩:=jw ed ek;clear ed ek;cases lk
 . replace v:Zz (enter p false ⟨⟨c,b⟩,j⟩ vs g.st=if kU p c g.st.heap vs (⟨2,b⟩::a.args)then(1,{g.st with frames:=g.st.frames++[⟨⟨⟨c,b⟩,j⟩,0,vs++List.replicate (a.locals.toNat - vs.length) l9,[]⟩]})else(10,g.st)):=Zy v.o;refine lq s 13 [([0,1,2,3,4,5,6,7,8,9],10)] [11,12] ?_ ?_
   . exact(LC.refl D.lM).drew
   refine nE ?_;intro z m;go_wp2_with fail;refine kk s m (LC.refl D.lM).drew ?_;clear m z;refine uC ?_;go_wp2_with fail;exact cZ _ _ _ _ _ _ _ _ _ (LC.refl D.lM).drew v
 . refine lq s 13 [([0,1,2,3,4,5,6,7,8,9],10)] [11,12] ?_ ?_
   . exact(LC.refl D.lM).drew
   refine nE ?_;intro z m;go_wp2_with fail;refine((fH Zl) _ _ _ (D.lM.ext jA) ⟨⟨c,b⟩,j⟩ HX).mono ?_;rintro h r ⟨rfl,dB,dE⟩;have aB:=Zy ((LC.refl D.lM).drew.step dE dB);clear dB dE;cases hr:M.right p ⟨⟨c,b⟩,j⟩
   . rw[hr]at v;replace v:Zz (enter p true ⟨⟨c,b⟩,j⟩ vs g.st=(5,g.st)):=Zy v.o;clear hr;go_wp2_with fail;refine kk s m aB ?_;clear m z;refine uC ?_;go_wp2_with fail;exact fT _ _ _ _ _ _ _ _ _ aB v
   . rw[hr]at v;replace v:Zz (enter p true ⟨⟨c,b⟩,j⟩ vs g.st=if kU p c g.st.heap vs (⟨2,b⟩::a.args)then(1,{g.st with frames:=g.st.frames++[⟨⟨⟨c,b⟩,j⟩,0,vs++List.replicate (a.locals.toNat - vs.length) l9,[]⟩]})else(10,g.st)):=Zy v.o;clear hr;go_wp2_with fail;refine kk s m aB ?_;clear m z;refine uC ?_;go_wp2_with fail;exact cZ _ _ _ _ _ _ _ _ _ aB v
theorem Hp{m:Own}{x: Nat}(b:jG w l p m i x lk g)(r:List GC)(c:GC)(d:g.cs=r++[c])(st vs:List Val)(n:Nat)(k:c.f.stack=st++vs)(s:vs.length=n)(t:0<n):Calls prog 106 #[some (c.cb,13),n] w fun a h=>∃f,a=.returned (.tuple #[f,.bool true])/\h.ownsRow w 42 2 f n (vs.flatMap kI)/\Kp (PO m (Iz r.length)) w h/\∃B,jG h l p m i x lk (g.kY r c st B):=by
 have e:=b.at_ d;have A:=jK.1 (b.FU d);have F:=(b.mi d).stack;have G:=A.2.2.2.2.1;have j:c.f.stack.length=st.length+n:=by rw[k];simp[s]
 refine(sN w c.cb 13 i _ _ c.vs c.f.stack.length c.f.stack e.blk rfl e.kY.row rfl n Zm t Zm (fun a=>by have:=e.kY.role _ a;rw[e.role]at this;cases this)).mono ?_;rintro a h ⟨f,rfl,u,⟨C,H,v,q⟩,o⟩;rw[j]at v;rw[j,Vu]at q;have y:c.f.stack.drop (c.f.stack.length - n)=vs:=by rw[j,Vu,k,List.drop_left]
 rw[y]at u;obtain⟨E,z⟩:=b.popped d v ⟨vs,k,s⟩ t q o;exact⟨f,rfl,u,b.Iq d (o.weak fun D _ a=>.inl a),_,z⟩
theorem Qg{X:Own}{aT mb:Nat}(bY:Zz (lk=true->yg)){g:Gh}(I:jG w l p X aT mb lk g)(r:List GC)(c:GC)(dn:g.cs=r++[c])(dF:g.status=1)(i:Ins)(hi:oL (M.method p c.f.of) i=true)(bG:i.op=9):Calls prog 65 #[some mb,.agg #[i.op,i.a,i.name,i.member]] w (kJ w l p X aT mb lk (.int .i64 (jN p lk i g.st).1) (jN p lk i g.st).2):=by
 have HI:=Zy (rC hi);obtain⟨w0,dH,bn,b3⟩:=nu w #[i.op,i.a,i.name,i.member] 134;have dZ:=Zy (I.fresh (Tu _));have aX:Zz (∀A,w.heap.size<=A->¬MO l X A):=Zy (fun A Q=>I.fresh Q);have fq:=I.lM.lt;have eZ:=I.lM.ord.2.2;have⟨bN,dU,dP,eu,R⟩:=nC (I.ext bn) bn b3 dH dn;have fI:=b3.lt;clear I bn b3 dH dn hi;obtain⟨⟨⟨⟨k,m⟩,C⟩,cd⟩,hF⟩:∃dN,call p c.f.of.of.keeper i.name i.member=dN:=⟨_,rfl⟩;have h:Zz (jN p lk i g.st=if cd=1 then(match oh ((M.method p ⟨⟨k,m⟩,C⟩).args.length+1) g.st with
     |some (e,s1)=>if object p (e.headD l9) ⟨k,m⟩ s1=1 then(match pick p (qL s1.heap (e.headD l9).n) i.member with
         |some H=>enter p lk H e s1
         |none=>(10,s1))else(object p (e.headD l9) ⟨k,m⟩ s1,s1)
     |none=>(10,g.st))else(4,g.st)):=Zy (by
  unfold jN;rw[bG];simp only[Gh.top R.o,hF];rfl)
 have⟨HF,eY⟩:=jw hF bG;clear bG;go_enter func65,ntmps65;go_wp2_with fail;rw[<-eu.o];refine(l6 bN r c R).mono ?_;rintro n y ⟨rfl,aH⟩;have⟨HA,dV,aV⟩:=jI (bN.ext aH) (dU.trans aH) (dP.ext aH);have dh:l.L<y:=HA.lM.lt;have fe:l.D<y.heap.size:=Zm
 have fJ:(w:Nat)<y:=aV.lt;have dw:∀q,LC l p y q->Calls prog 44 #[some l.L,c.f.of.of.keeper,i.name,i.member] q fun n w'=>∃D,n=.returned (.tuple #[.agg #[k,m,C],D])/\Co D cd/\Kp (·=l.D) q w'/\LC l p y w':=fun q Z=>by
  have hl:=xm q l p Z.at_ c.f.of.of.keeper i.name i.member;rw[HF.o]at hl;refine hl.mono ?_;rintro n w' ⟨⟨D,rfl,J⟩,hL,t⟩;exact⟨D,rfl,J.weak,t,Z.step hL t⟩
 have aC:=Zy dw;have d:=Zy (LC.refl HA.lM).drew;obtain⟨cu,cz,dA,z⟩:=tN.ex (fun W'=>LC l p y W') y (LC.refl HA.lM);have av:=fun j=>(HA.qK (z.jC j).kp (z.jC j).at_).blk.c 0 (some l.L) rfl;obtain⟨-,-,-,aO,aP,-⟩:=jq.pq fun j=>(aV.kp (z.jC j).kp Zm);have f:=Zy z;clear z dw aH;go_wp2_with fail;rename_i V t;have dM:∀(b6:Nat)(w7:World)(D:Value),LC l p y w7->jq w7 b6 66 #[k,m,C]->y<=b6->Co D cd->V {tmps:=#[.pointer (some ⟨mb,0,none⟩),.agg #[i.op,i.a,i.name,i.member],undef,.pointer (some ⟨w,0,none⟩),.int .i64 0,.pointer (some ⟨c.cb,0,none⟩),.pointer (some ⟨b6,0,none⟩),D,undef,undef,undef,undef,undef,.pointer (some ⟨mb,0,none⟩),.pointer (some ⟨c.cb,0,none⟩),.tuple #[.agg #[k,m,C],D],.pointer (some ⟨mb,0,none⟩),.pointer (some ⟨mb,0,none⟩),.pointer (some ⟨mb,0,none⟩),.pointer (some ⟨l.L,0,none⟩),.pointer (some ⟨c.cb,0,none⟩),.int .i64 c.f.of.of.keeper,.pointer (some ⟨w,2,none⟩),.string i.name,.pointer (some ⟨w,3,none⟩),.string i.member,.tuple #[.agg #[k,m,C],D],.agg #[k,m,C],D,undef,undef,undef,undef,undef,undef,undef,undef,undef,undef,undef,undef,undef,undef,undef,undef,undef,undef,undef,undef,undef,undef,undef,undef,undef,undef,undef,undef,undef,undef,undef,undef,undef,undef,undef,undef,undef,undef,undef,undef,undef,undef,undef,undef,undef,undef,undef,undef,undef,undef,undef,undef,undef,undef,undef,undef,undef],defers:=[]} w7:=by
  intro b6 w7 D hC cK aa J;refine t _ _ ?_;clear t f av aO aP d aC;have T:=Zy (HA.qK hC.kp hC.at_);have aD:Zz (Kp (MO l X) w w7):=Zy (dV.any.trans hC.mo);have⟨o,dQ,bR⟩:=jI cK (aV.kp hC.kp Zm) (aX b6 Zm);clear hC cK;rcases J with⟨rfl,rfl⟩|⟨L,eb,rfl⟩;rotate_left
  . replace h:Zz (jN p lk i g.st=(4,g.st)):=Zy (by rw[h.o,T9 L]);clear L;go_wp2;go_ret;rw[h.o];exact kJ.mk' aD (nU.refl _ _) T rfl
  have aJ:kg p ⟨⟨k,m⟩,C⟩=true:=by
   have K:(call p c.f.of.of.keeper i.name i.member).2=1:=by rw[HF.o]
   obtain⟨rr,aB⟩:=su K;rw[HF.o]at aB;exact qB aB
  have eX:=Zy aJ;have bB:=qE (lT T.lM.ok aJ).1;obtain⟨s,hm⟩:∃s,M.method p ⟨⟨k,m⟩,C⟩=s:=⟨_,rfl⟩;have bC:=fun q (Z:jD q l p)=>mY q l p Z ⟨⟨k,m⟩,C⟩ aJ;rw[hm]at bB bC;replace h:Zz (jN p lk i g.st=(match oh (s.args.length+1) g.st with
   |some (e,s1)=>if object p (e.headD l9) ⟨k,m⟩ s1=1 then(match pick p (qL s1.heap (e.headD l9).n) i.member with
       |some H=>enter p lk H e s1
       |none=>(10,s1))else(object p (e.headD l9) ⟨k,m⟩ s1,s1)
   |none=>(10,g.st))):=Zy (by rw[h.o,Ty rfl,hm])
  have fu:=bB.IK;have⟨dY,HM⟩:=jw bC hm;obtain⟨cu,cz,dA,z⟩:=tN.ex (fun W'=>Kp (PO X (Iz r.length)) w7 W') _ Kp.rr;have no:∀A Y,X A=some Y->¬Iz r.length Y->¬PO X (Iz r.length) A:=fun A Y Q hq ⟨q',K,h2⟩=>by rw[Q]at K;cases K;exact hq h2
  have dI:∀A,¬MO l X A->¬PO X (Iz r.length) A:=fun A Q hp=>Q hp.mo;have av:=fun j=>(T.blk.kp (z.jC j) (no _ _ T.role (by simp[Iz]))).c 0 (some l.L) rfl;obtain⟨-,aQ,aR,eP,-⟩:=jq.pq fun j=>(o.kp (z.jC j) (dI _ bR));have f:=Zy z;have fH:IntKind.i64.wrap ((s.args.length:Int)+1)=s.args.length+1:=TM _ Zm;clear z aJ bB hm bC no dI;go_wp2_with fail;refine lq f 17 [([0,1,2,3,4,5,6,7],8),([9,10,11],12)] [13,14,15,16] ?_ ?_
  . exact jA
  refine nE ?_;intro b a;go_wp2_with fail;refine(dY _ (T.lM.ext jA)).mono ?_;rintro n w8 ⟨⟨cs,dz,rfl⟩,df⟩;obtain⟨eQ,rfl⟩:=ql dz;obtain⟨a1,c1,a2,c2,a3,c3⟩:=eQ;have S:=Zy (((Kp.refl _ w7).drew:Ext w7 _).trans df);have eF:∀q,(Instr.field 113 (.agg (oC s ⟨a1,c1,a2,c2,a3,c3⟩).toArray) 1).run prog q=.ok (.slice a1 s.args.length c1) q:=(fun q=>by kernel_rfl);simp only[oC]at eF |-;clear dz df;go_wp2_with fail;refine kk f a S.any ?_;clear a b;refine nE ?_;intro b a;by_cases aK:c.f.stack.length<s.args.length+1
  . replace h:Zz (jN p lk i g.st=(10,g.st)):=Zy (by rw[h.o,Gh.zG R.o aK]);have dC:=vG (T.ext S) r c R (s.args.length+1) aK Zm;have ek:=Zy dC;clear dC aK;go_wp2_with fail;refine ek.mono ?_;rintro n w9 ⟨rfl,rfl⟩;go_wp2_with fail;refine kk f a S.any ?_;clear a b;refine qX [_,_,_,_] rfl fun V t=>?_;(repeat (go_big_quiet_step (fail)));refine qn t ?_;clear t V;go_wp2;go_ret;rw[h.o];exact kJ.mk' (aD.trans S.any) (nU.refl _ _) (T.ext S) rfl
  . obtain⟨B,e,hs,aM⟩:∃B e,c.f.stack=B++e/\e.length=s.args.length+1:=
     ⟨c.f.stack.take (c.f.stack.length - (s.args.length+1)),c.f.stack.drop (c.f.stack.length - (s.args.length+1)),(Vs _ _).symm,by rw[UW];omega⟩
    have dG:=(jK.1 (T.FU R)).2.2.2.2.2.2;have bf:=Zy (fun eT hv=>by simpa [Gh.st]using dG eT (by rw[hs];exact List.mem_append_right _ hv));have aF:Zz (∀x,jN p lk i g.st=if object p (e.headD l9) ⟨k,m⟩ (g.kY r c B x).st=1 then(match pick p (qL g.st.heap (e.headD l9).n) i.member with
        |some H=>enter p lk H e (g.kY r c B x).st
        |none=>(10,(g.kY r c B x).st))else(object p (e.headD l9) ⟨k,m⟩ (g.kY r c B x).st,(g.kY r c B x).st)):=Zy (fun x=>by rw[h.o,Gh.oh R.o hs aM x];rfl)
    have dD:=Hp (T.ext S) r c R B e (s.args.length+1) hs aM Zm;have⟨bV,aG⟩:=jw dD aM;clear dD aK hs dG h aM;obtain⟨⟨ok,on⟩,aA⟩:∃bK,e[0]?=some bK:=⟨e[0]'(Te aG.o),CU _⟩;have dx:e.headD l9=⟨ok,on⟩:=by
     cases e with
     |nil=>cases aA
     |cons fK r=>simpa using aA
    rw[dx]at aF;simp only at aF;have⟨bT,dW⟩:=jw (bf _ (Tx aA)) aA;clear dx aA;go_wp2_with fail;refine bV.mono ?_;rintro n w9 ⟨v',rfl,W,bq,x,di⟩;have h:=Zy (aF x);obtain⟨P,gc,rfl,fA,-⟩:=ky W Zm;have⟨dX,aZ,bQ,bX⟩:=kD ((aD.trans S.any).trans (bq.weak fun A _ n=>n.mo)) (S.any.trans bq) di W;clear W bq di bV aF;go_wp2_with fail;refine kk f a aZ ?_;clear a b;clear f av aQ aR eP;refine qX [_,_,_,_] rfl fun V t=>?_;(repeat (go_big_quiet_step (fail)));refine qn t ?_;clear t V;have aI:=l5 (enc:=kI) (k:=2) (fun _=>rfl) bX dW;have cO:=o.kp aZ (fun hp=>bR.o hp.mo);have cB:=dQ.kp aZ (fun hp=>dZ.o hp.mo);obtain⟨cu,cz,dA,z⟩:=lL w9;have bL:=fun j=>(hQ.ext aI (z.jC j)).two.1;have bM:=fun j=>(hQ.ext aI (z.jC j)).two.2;simp only[UM,Tk]at bL bM;obtain⟨-,aQ,aR,-⟩:=jq.pq fun j=>(cO.ext (z.jC j));have⟨f,dS,dR⟩:=jI z aI cB;have fB:(0:Int)<s.args.length+1:=Zm
    clear z aI cO cB;go_wp2_with fail;refine lq f 7 [([0,1,2,3,4,5],6)] [] ?_ ?_
    . exact jA
    refine nE ?_;intro b a;go_wp2_with fail;refine(yR (bQ.ext jA) ⟨ok,on⟩ bT ⟨k,m⟩).mono ?_;rintro n N ⟨rfl,cZ⟩;have ag:=Zy (((Kp.refl _ w9).drew:Ext w9 _).trans cZ);have⟨v,aj⟩:=jw (bQ.ext ag) (dX.trans ag.any);clear cZ;obtain⟨ob,ae⟩:∃ob,object p ⟨ok,on⟩ ⟨k,m⟩ (g.kY r c B x).st=ob:=⟨_,rfl⟩;by_cases aL:ob=1;rotate_left
    . replace h:Zz (jN p lk i g.st=(ob,(g.kY r c B x).st)):=Zy (by rw[h.o,ae,T9 aL]);have fF:=TE.2 aL;rw[ae];clear ae aL;go_wp2_with fail;refine kk f a ag ?_;clear a b;clear f bL bM aQ aR;refine lD ?_;go_wp2;go_ret;rw[h.o];exact kJ.mk' aj (nU.refl _ _) v rfl
    . subst aL;replace h:Zz (jN p lk i g.st=(match pick p (qL g.st.heap on) i.member with
       |some H=>enter p lk H e (g.kY r c B x).st
       |none=>(10,(g.kY r c B x).st))):=Zy (by rw[h.o,Ty ae])
      have bS:=Zy ae;obtain⟨bF,-⟩:=vH ae;simp only at bF;obtain⟨eO,bD⟩:=qa bT bF;simp only at eO bD;obtain⟨af,rfl⟩:∃af:Nat,on=af:=⟨on.toNat,Zm⟩;obtain⟨go,bz⟩:∃bK,g.os[af]?=some bK:=⟨g.os[af]'Zm,CU _⟩;have aY:Zz (qL g.st.heap af=go.o.of):=Zy (Bf (by simp[Gh.st,bz]));obtain⟨rr,dE⟩:∃rr,pick p rr i.member=some ⟨⟨k,m⟩,C⟩:=by
       have K:(call p c.f.of.of.keeper i.name i.member).2=1:=by rw[HF.o]
       obtain⟨rr,aB⟩:=su K;rw[HF.o]at aB;exact⟨rr,aB⟩
      have bW:=Zy dE;obtain⟨F,G,E,pb,bH,dB⟩:∃F G E pb,((pick p go.o.of i.member).getD oN=⟨⟨F,G⟩,E⟩/\(pick p go.o.of i.member).isSome=pb)/\((pb=false->pick p (qL g.st.heap af) i.member=none)/\(pb=true->pick p (qL g.st.heap af) i.member=some ⟨⟨F,G⟩,E⟩)):=by
       rw[aY.o];cases n:pick p go.o.of i.member with
       |none=>exact⟨_,_,_,_,⟨rfl,rfl⟩,(fun _=>rfl),(fun I=>by cases I)⟩
       |some H=>exact⟨H.of.keeper,H.of.name,H.at_,true,⟨rfl,rfl⟩,(fun I=>by cases I),(fun _=>rfl)⟩
      have ak:=Zy dB;have bI:=fun q (Z:jD q l p)=>Ew q l p Z go.o.of i.member;rw[bH.1,bH.2]at bI;have bU:=Zy bI;have W:=v.heap.row;obtain⟨ha,dm,bJ⟩:=v.heap.form;rw[bJ]at W;obtain⟨Q,fw,eb,-⟩:=ky W (by show 0<g.os.length;omega);cases eb;have bu:=l5 (enc:=q8) (k:=3) (fun _=>rfl) W (l:=g.os) bz;have fo:l.D<w.heap.size:=Zm
      have fG:(w:Nat)<=N:=aj.size;have eD:l.L<N:=Zm
      have eH:w<=P:=Tf S.size aD.size
      have bP:=Zy eH;have bZ:Zz (∀q,Kp (·=l.D) N q->q.ownsRow w8 42 2 (.slice (some ⟨P,0,none⟩) (s.args.length+1) gc) e.length (e.flatMap kI)):=Zy (fun q Z=>by
       rw[show e.length=s.args.length+1 from aG.o];exact jr (jr (D:=fun _=>False) bX ag fun _ _ _ H=>H) Z (fun Y hq _ n=>by
        have K:P=Y:=by simpa [Value.ownBlock]using hq
        omega))
      have bE:∀A,aT<=A->¬A=l.D:=fun A Q n=>Tf v.hB v.lM.ord
      obtain⟨T2,f2,fD,O⟩:=tN.ex (fun W'=>LC l p N W') N (LC.refl v.lM);have s0:=fun j=>(v.qK (O.jC j).kp (O.jC j).at_).blk.c 0 (some l.L) rfl;have s4:=fun j=>(v.qK (O.jC j).kp (O.jC j).at_).blk.c 4 (Q,g.os.length,dm) (by rw[show(Value.slice (some ⟨Q,0,none⟩) g.os.length dm)=g.vh from bJ.symm];rfl);have eG:¬P=l.D:=Zm
      have sg:=fun j=>(O.jC j).kp.mJ (hQ.ext dS ag).two.2 eG;simp only[UM,Tk]at sg;have bA:=(W.lt Q rfl).1;have dK:=fun j=>(O.jC j).kp.mJ bu.three.1 (bE _ bA);have dL:=fun j=>(O.jC j).kp.mJ bu.three.2.1 (bE _ bA);have dJ:=fun j=>((dR.ext ag).kp (O.jC j).kp Zm).c 3 i.member rfl;have U:=Zy O;have fC:(af:Int)<g.os.length:=bD;have fE:(0:Int)<s.args.length+1:=Zm
      clear O W bu bJ bz bI bH dB dE bF bD bE bA;rw[ae];clear ae;go_wp2_with fail;refine kk f a ag ?_;clear a b;clear f bL bM aQ aR;refine lD ?_;go_wp2_with fail;(refine CW f2 23 (.two [0,1,2,3,4,5,6,7,8,9,10,11,12,13,14,15,16] 17 21 (.one [18,19,20] 21 (.one [] 22 (.fin []))) (.one [] 17 (.one [18,19,20] 22 (.fin [])))) (U.o.o _ ?_) Zo Zo (fun _ _ eB _ _ I=>by cases eB<;>exact I) ?_)
      . exact(LC.refl v.lM).drew
      refine two [_,_,_,_,_,_,_,_,_,_,_,_,_,_,_,_,_] rfl rfl rfl fun V t=>?_;(repeat (go_big_quiet_step (fail)));((refine EP t (fun b a=>?_) fun b a=>?_)<;>clear t V)
      . go_wp2_with fail;refine(bU _ (v.lM.ext jA)).mono ?_;rintro n wP ⟨rfl,az,au⟩;have ai:=Zy ((LC.refl v.lM).drew.step az au);clear az au;go_wp2_with fail;((refine a _ _ (U.o.o _ ai) ?_);clear a b);refine Ac ?_;intro b a;go_wp2_with fail;((refine a _ _ (U.o.o _ (ai.ext (jJ _))) ?_);clear a b);refine j3 rfl fun b a=>?_;go_wp2_with fail;obtain⟨aS,aN⟩:=S9 (wP.alloc (.cells #[.int .i64 F,.string G,.int .i64 E] 66));rw[<-aN];have u:Zz (LC l p N aS):=Zy (by rw[aN];exact ai.ext (jJ _));have aU:Zz (jq aS wP 66 #[.int .i64 F,.string G,.int .i64 E]):=Zy (by rw[aN];exact jq.new _ _ _);((refine a _ _ (U.o.o _ u) ?_);clear a b);clear U s0 s4 sg dK dL dJ aN;refine kQ ?_;cases pb
        . replace h:Zz (jN p lk i g.st=(10,(g.kY r c B x).st)):=Zy (by rw[h.o,ak.o.1 rfl]);go_wp2;go_ret;rw[h.o];skip;exact kJ.mk' (aj.trans u.mo) (nU.refl _ _) (v.qK u.kp u.at_) rfl
        . replace h:Zz (jN p lk i g.st=enter p lk ⟨⟨F,G⟩,E⟩ e (g.kY r c B x).st):=Zy (by rw[h.o,ak.o.2 rfl]);have ah:=Zy (ak.2 rfl);have ed:Zz (pick p go.o.of i.member=some ⟨⟨F,G⟩,E⟩):=Zy (by rw[<-aY.o];exact ah);obtain⟨ez,e0,e1,e2,-⟩:=aU.ca;go_wp2_with fail;skip;refine(Ah _ _ _ _ _ _ _ bY _ (v.qK u.kp u.at_) dF ⟨⟨F,G⟩,E⟩ (qB ah) w8 (.slice (some ⟨P,0,none⟩) (s.args.length+1) gc) e (bZ _ u.kp) (fun Y hq=>by
           have K:P=Y:=by simpa [Value.ownBlock]using hq
           rw[<-K];exact aX P bP) bf (by
           have:=Ca bW (vH bS).2 ah;rw[this,HM.o];exact aG)).mono ?_
          rintro n eU ay;have HZ:=Zy (kJ.after (aj.trans u.mo) (nU.refl _ _) ay);obtain⟨rfl,-⟩:=ay;rw[<-h.o]at HZ |-;clear e0 e1 e2 ez;go_wp2;go_ret;exact HZ
      . go_wp2_with fail;((refine a _ _ (U.o.o _ ((LC.refl v.lM).drew.ext (jJ _))) ?_);clear a b);refine j3 rfl fun b a=>?_;have bO:Zz (LC l p N (N.drew.alloc (.cells #[Tj,"",Tj] 66))):=Zy ((LC.refl v.lM).drew.ext (jJ _));have dO:Zz (jq (N.drew.alloc (.cells #[Tj,"",Tj] 66)) N 66 #[Tj,"",Tj]):=Zy (jq.new _ _ _);go_wp2_with fail;refine(bU _ bO.at_).mono ?_;rintro n wP ⟨rfl,az,au⟩;have⟨ai,aW⟩:=jw (bO.step az au) (dO.kp au Zm);clear az au;go_wp2_with fail;((refine a _ _ (U.o.o _ ai) ?_);clear a b);refine Ac ?_;intro b a;obtain⟨z6,y0,y1,y2,-⟩:=aW.ca;obtain⟨g0,g1,g2,-⟩:=aW.fz;have⟨u,aU⟩:=jw (LC.own ai (Kp.xH (D:=(·=N)) rfl (.int .i64 F) (.string G) (.int .i64 E)) (Tu _) eD) (aW.xH (.int .i64 F) (.string G) (.int .i64 E));go_wp2_with fail;((refine a _ _ (U.o.o _ u) ?_);clear a b);clear U s0 s4 sg dK dL dJ y0 y1 y2 g0 g1 g2 z6;refine kQ ?_;cases pb
        . replace h:Zz (jN p lk i g.st=(10,(g.kY r c B x).st)):=Zy (by rw[h.o,ak.o.1 rfl]);go_wp2;go_ret;rw[h.o];skip;exact kJ.mk' (aj.trans u.mo) (nU.refl _ _) (v.qK u.kp u.at_) rfl
        . replace h:Zz (jN p lk i g.st=enter p lk ⟨⟨F,G⟩,E⟩ e (g.kY r c B x).st):=Zy (by rw[h.o,ak.o.2 rfl]);have ah:=Zy (ak.2 rfl);have ed:Zz (pick p go.o.of i.member=some ⟨⟨F,G⟩,E⟩):=Zy (by rw[<-aY.o];exact ah);obtain⟨ez,e0,e1,e2,-⟩:=aU.ca;go_wp2_with fail;skip;refine(Ah _ _ _ _ _ _ _ bY _ (v.qK u.kp u.at_) dF ⟨⟨F,G⟩,E⟩ (qB ah) w8 (.slice (some ⟨P,0,none⟩) (s.args.length+1) gc) e (bZ _ u.kp) (fun Y hq=>by
           have K:P=Y:=by simpa [Value.ownBlock]using hq
           rw[<-K];exact aX P bP) bf (by
           have:=Ca bW (vH bS).2 ah;rw[this,HM.o];exact aG)).mono ?_
          rintro n eU ay;have HZ:=Zy (kJ.after (aj.trans u.mo) (nU.refl _ _) ay);obtain⟨rfl,-⟩:=ay;rw[<-h.o]at HZ |-;clear e0 e1 e2 ez;go_wp2;go_ret;exact HZ
 have bg:=Zy dM;clear dM t;refine rQ f 16 (.two [0,1,2,3,4,6,7,8,9] 5 14 (.two [] 10 14 (.one [11,12,13] 14 (.one [] 15 (.fin []))) (.one [] 10 (.one [11,12,13] 15 (.fin [])))) (.one [] 5 (.one [] 10 (.one [11,12,13] 15 (.fin []))))) ?_ ?_
 . exact d
 refine two [_,_,_,_,_,_,_,_,_] rfl rfl rfl fun V t=>?_;(repeat (go_big_quiet_step (fail)));((refine EP t (fun b a=>?_) fun b a=>?_)<;>clear t V)
 . go_wp2_with fail;refine(oK c.f.of.of.keeper (((HA.qK d.kp d.at_).at_ R).blk.c 0 _ rfl)).mono ?_;rintro n we ⟨rfl,rfl⟩;go_wp2_with fail;refine kk f a d ?_;clear a b;refine Ck rfl rfl (fun b a=>?_) fun b a=>?_
   . go_wp2_with fail;refine(aC _ d).mono ?_;rintro n wc ⟨D,rfl,J,hk,L⟩;replace d:=Zy L;have ax:=Zy J;clear hk L J;go_wp2_with fail;refine kk f a d ?_;clear a b;refine Ac ?_;intro b a;go_wp2_with fail;refine kk f a (d.ext (jJ _)) ?_;clear a b;refine j3 rfl fun b a=>?_;go_wp2_with fail;refine kk f a (d.ext (jJ _)) ?_;clear a b;have aa:=d.kp.size;have o:=Zy (jq.new (wc) 66 #[k,m,C]);replace d:=Zy (d.ext (jJ (.cells #[k,m,C] 66)));clear f av aO aP;refine kQ ?_;go_wp2_with fail;exact bg _ _ _ d o aa ax
   . go_wp2_with fail;refine kk f a (d.ext (jJ _)) ?_;clear a b;have aa:(y:Nat)<=y:=d.kp.size;have o:Zz (jq (y.drew.alloc (.cells #[Tj,"",Tj] 66)) y 66 #[Tj,"",Tj]):=Zy (jq.new _ _ _);replace d:=Zy (d.ext (jJ (.cells #[Tj,"",Tj] 66)));refine j3 rfl fun b a=>?_;go_wp2_with fail;refine(aC _ d).mono ?_;rintro n wc ⟨D,rfl,J,hk,L⟩;replace o:=Zy (o.kp hk Zm);replace d:=Zy L;have ax:=Zy J;clear hk L J;go_wp2_with fail;refine kk f a d ?_;clear a b;refine Ac ?_;intro b a;obtain⟨z6,y0,y1,y2,-⟩:=o.ca;obtain⟨g0,g1,g2,-⟩:=o.fz;go_wp2_with fail;replace d:=Zy (LC.own d (Kp.xH (D:=(·=_)) rfl k m C) aa dh);replace o:=Zy (o.xH k m C);refine kk f a d ?_;clear a b;clear y0 g0 y1 g1 y2 g2 z6;clear f av aO aP;refine kQ ?_;go_wp2_with fail;exact bg _ _ _ d o aa ax
 . go_wp2_with fail;refine kk f a (d.ext (jJ _)) ?_;clear a b;have aa:(y:Nat)<=y:=d.kp.size;have o:Zz (jq (y.drew.alloc (.cells #[Tj,"",Tj] 66)) y 66 #[Tj,"",Tj]):=Zy (jq.new _ _ _);replace d:=Zy (d.ext (jJ (.cells #[Tj,"",Tj] 66)));refine j3 rfl fun b a=>?_;go_wp2_with fail;refine(oK c.f.of.of.keeper (((HA.qK d.kp d.at_).at_ R).blk.c 0 _ rfl)).mono ?_;rintro n we ⟨rfl,rfl⟩;go_wp2_with fail;refine kk f a d ?_;clear a b;refine j3 rfl fun b a=>?_;go_wp2_with fail;refine(aC _ d).mono ?_;rintro n wc ⟨D,rfl,J,hk,L⟩;replace o:=Zy (o.kp hk Zm);replace d:=Zy L;have ax:=Zy J;clear hk L J;go_wp2_with fail;refine kk f a d ?_;clear a b;refine Ac ?_;intro b a;obtain⟨z6,y0,y1,y2,-⟩:=o.ca;obtain⟨g0,g1,g2,-⟩:=o.fz;go_wp2_with fail;replace d:=Zy (LC.own d (Kp.xH (D:=(·=_)) rfl k m C) aa dh);replace o:=Zy (o.xH k m C);refine kk f a d ?_;clear a b;clear y0 g0 y1 g1 y2 g2 z6;clear f av aO aP;refine kQ ?_;go_wp2_with fail;exact bg _ _ _ d o aa ax
def QB(n:Nat):Nat:=
 if n=1 then 57 else if n=2 then 58 else if n=3 then 59 else if n=4 then 60 else if n=5 then 61 else if n=6 then 62 else
 if n=7 then 63 else if n=8 then 64 else if n=9 then 65 else if n=10 then 66 else if n=11 then 67 else if n=12 then 68 else
 if n=13 then 69 else if n=14 then 70 else 71
def L9(v:Value):Array Value:=#[.nilFunc,.func (.func 57) #[v] #[],.func (.func 58) #[v] #[],.func (.func 59) #[v] #[],.func (.func 60) #[v] #[],.func (.func 61) #[v] #[],.func (.func 62) #[v] #[],
 .func (.func 63) #[v] #[],.func (.func 64) #[v] #[],.func (.func 65) #[v] #[],.func (.func 66) #[v] #[],.func (.func 67) #[v] #[],.func (.func 68) #[v] #[],.func (.func 69) #[v] #[],
 .func (.func 70) #[v] #[],.func (.func 71) #[v] #[]]
theorem M9(v:Value){n:Nat}(a:1<=n)(b:n<=15):(L9 v)[n]?=some (.func (.func (QB n)) #[v] #[]):=by
 have:n=1\/n=2\/n=3\/n=4\/n=5\/n=6\/n=7\/n=8\/n=9\/n=10\/n=11\/n=12\/n=13\/n=14\/n=15:=Zm
 rcases this with rfl|rfl|rfl|rfl|rfl|rfl|rfl|rfl|rfl|rfl|rfl|rfl|rfl|rfl|rfl<;>rfl
theorem Pp(a:1<=n)(b:n<=15)(args:Array Value)(w:World):(callFunc (QB n) args).run prog w=.ok (.enter (QB n) args) w:=by
 have:n=1\/n=2\/n=3\/n=4\/n=5\/n=6\/n=7\/n=8\/n=9\/n=10\/n=11\/n=12\/n=13\/n=14\/n=15:=Zm
 rcases this with rfl|rfl|rfl|rfl|rfl|rfl|rfl|rfl|rfl|rfl|rfl|rfl|rfl|rfl|rfl
 . exact jP func57 rfl Zo args w
 . exact jP func58 rfl Zo args w
 . exact jP func59 rfl Zo args w
 . exact jP func60 rfl Zo args w
 . exact jP func61 rfl Zo args w
 . exact jP func62 rfl Zo args w
 . exact jP func63 rfl Zo args w
 . exact jP func64 rfl Zo args w
 . exact jP func65 rfl Zo args w
 . exact jP func66 rfl Zo args w
 . exact jP func67 rfl Zo args w
 . exact jP func68 rfl Zo args w
 . exact jP func69 rfl Zo args w
 . exact jP func70 rfl Zo args w
 . exact jP func71 rfl Zo args w
theorem Rt{k:Own}{j h:Nat}(m:Zz (lk=true->yg)){g:Gh}(a:jG w l p k j h lk g)(r:List GC)(c:GC)(b:g.cs=r++[c])(f:g.status=1)(i:Ins)(n:Nat)(e:i.op=n)(d:oL (M.method p c.f.of) i=true):Calls prog (QB n) #[some h,.agg #[i.op,i.a,i.name,i.member]] w (kJ w l p k j h lk (.int .i64 (jN p lk i g.st).1) (jN p lk i g.st).2):=by
 obtain⟨_,_,_,_,o,_⟩:=rC d;have:n=1\/n=2\/n=3\/n=4\/n=5\/n=6\/n=7\/n=8\/n=9\/n=10\/n=11\/n=12\/n=13\/n=14\/n=15:=Zm
 rcases this with rfl|rfl|rfl|rfl|rfl|rfl|rfl|rfl|rfl|rfl|rfl|rfl|rfl|rfl|rfl
 . exact Rv a r c b f i d e
 . exact Qj a r c b f i d e
 . exact Rx a r c b f i d e
 . exact Rq a r c b f i d e
 . exact Qi a r c b f i e
 . exact Ru a r c b f i d e
 . exact Rs a r c b f i d e
 . exact Rz a r c b f i d e
 . exact Qg m a r c b f i d e
 . exact Ry a r c b f i d e
 . exact Qk a r c b f i d e
 . exact Oq a r c b f i d e
 . exact Sj a r c b f i d e
 . exact Rw a r c b f i d e
 . exact Qh a r c b f i d e
theorem M4(w:World)(l:jB)(p:jl)(E:Own)(S m:Nat)(lk:Bool)(aI:Zz (lk=true->yg))(g:Gh)(j:jG w l p E S m lk g)(r:List GC)(c:GC)(t:g.cs=r++[c])(C:g.status=1):Calls prog 26 #[some m] w (kJ w l p E S m lk (.tuple #[]) (M.step p lk g.st)):=by
 have aj:=j.mi t;have Q:=j.FU t;obtain⟨n,R⟩:∃n:Nat,c.f.pc=n:=⟨c.f.pc.toNat,by simp[l8]at Q;omega⟩;have aQ:n<(M.method p c.f.of).code.length:=by simp[l8]at Q;omega
 obtain⟨⟨op,u,x,v⟩,z⟩:=nV (M.method p c.f.of).code n aQ;have A:=aj.ins _ (Tx z);obtain⟨d,rfl⟩:∃d:Nat,op=d:=⟨op.toNat,by have:=(rC A).2.2.2.2.1;simp only at this;omega⟩;have B:1<=d/\d<=15:=by have:=(rC A).2.2.2.2.1;simp only at this;omega
 have HS:Zz (M.step p lk g.st=end_ (jN p lk ⟨d,u,x,v⟩ g.st).1 (jN p lk ⟨d,u,x,v⟩ g.st).2):=Zy (by
  unfold M.step stepped;rw[Ty (show g.st.status=1 from C),Gh.top t,R];simp[z])
 have e2:=j.blk.c 2 g.status rfl;rw[C]at e2;obtain⟨F,k⟩:=S9 (w.alloc (.cells (L9 (some m)) 131));have W:jq F w 131 (L9 (some m)):=by rw[k];exact jq.new _ _ _
 have O:Ext w F:=by rw[k];exact kx
 have⟨T,U,aB,ay,aU,G,aJ,HI,aF⟩:=AV j (j.ext O) O W k t C z A;have HN:=Zy R;unfold L9 at k;have HX:=Zy k;clear j O W k t C z A aj Q R;go_enter func26,ntmps26;go_wp2_with fail;rw[<-HX.o];refine(l6 U r c G).mono ?_;rintro Z e ⟨rfl,y⟩;have L:=U.ext y;have N:=ay.ext y;have bf:(w:Nat)<e:=N.lt;have s:=L.at_ G;have cz:=s.blk.lt;obtain⟨aV,bg,cs,ea,aP,rfl,-,P⟩:=(jy.code s.ml).get HI;have hz:=P;obtain⟨J,g1,g2,K⟩:=P.four;have gz:=jv J;obtain⟨aM,aO,aR,b⟩:=lL e;have Y:=fun a=>(s.blk.ext (b.jC a)).c 9 (.slice c.t.a2 (M.method p c.f.of).code.length c.t.c2) rfl;have aN:=fun a=>(s.blk.ext (b.jC a)).c 11 n (by rw[<-HN.o];rfl);have y0:=fun a=>(b.jC a).jm J;have y1:=fun a=>(b.jC a).jm g1;have y2:=fun a=>(b.jC a).jm g2;have y3:=fun a=>(b.jC a).jm K;rw[ea]at Y;have⟨h,ak,ax,aC⟩:=kD b L N (aB.trans y);have aZ:(n:Int)<(M.method p c.f.of).code.length:=Zm
 clear L N s y P hz ea aP b J g1 g2 K;go_wp2_with fail;refine lq h 12 [([0,1,2,3,4,5,6,7,8,9,10],11)] [] ?_ ?_
 . exact jA
 refine nE ?_;intro q f;go_wp2_with fail;refine kk h f ((Kp.refl _ e).drew.alloc _:Ext e _) ?_;clear f q;obtain⟨o,D⟩:=S9 ((e.alloc (.cells #[d,u,x,v] 134)).drew);have ae:Ext e o:=by rw[D];exact((Kp.refl _ e).alloc _).drew
 have X:jq o e 134 #[d,u,x,v]:=by rw[D];exact(jq.newAt _ _ rfl).ext jA
 have⟨H,aA,aK⟩:=jI ae X D;clear ae X D h Y aN y0 y1 y2 y3;refine lD ?_;go_wp2_with fail;rw[<-aK.o];have au:=Zy (ak.ext H);have az:=Zy (ax.ext H);have aS:=T.fresh (Tu _);have aT:¬MO l E e.heap.size:=T.fresh Zm;obtain⟨aM,aO,aR,b⟩:=tN.ex (fun W'=>Kp (MO l E) o W') _ Kp.rr;obtain⟨-,r0,r1,r2,r3,-⟩:=jq.pq fun a=>(aA.kp (b.jC a) aT);have rf:=fun a=>(az.kp (b.jC a) aS).c d _ (M9 (some m) B.1 B.2);have aY:(d:Int)<16:=Zm
 have aX:(0:Int)<=d:=Zm
 have h:=Zy b;have aW:=Pp B.1 B.2;clear b;refine lq h 8 [([0,1,2,3,4,5],6),([],7)] [] ?_ ?_
 . exact jA
 refine nE ?_;intro q f;go_wp2_with fail;refine(Rt aI (au.ext jA) r c G aJ ⟨d,u,x,v⟩ d rfl aF).mono ?_;rintro Z w3 i;obtain⟨rfl,af,bn,K,ah,aa,ai⟩:=i.behind ((Kp.refl _ o).drew);have⟨av,I,V,aD⟩:=kD aa af ah ai;clear i af aa ah ai;go_wp2_with fail;refine kk h f I ?_;clear f q;refine mF rfl fun q f=>?_;go_wp2_with fail;refine(Jn _ _ _ _ _ _ _ _ av _).mono ?_;rintro Z w4 i;rw[aD.o]at i;have hE:=(i.after I V).behind (aC.trans H);obtain⟨rfl,ag,hX⟩:=hE;have⟨aL,aG⟩:=jw hX ag;have aH:=Zy (i.after I V).2.1;clear i hX ag;go_wp2_with fail;refine kk h f aH ?_;clear f q;refine Hr rfl ?_;refine Ti ?_;rw[HS.o];exact⟨rfl,aG,aL⟩
theorem Fg(w:World)(I:Nat->Prop)(cs:List Value)(m:M.Method)(A:jy w I m cs)(args:List Int)(t:Option Addr)(u:Nat)(Q:args.length<=4294967296):Calls prog 45 #[.agg cs.toArray,.slice t args.length u] w fun x G=>x=.returned (.bool (p8 m args))/\Ext w G:=by
 obtain⟨V,E,F,rfl,o,N,O⟩:=A;obtain⟨s,v,rfl,T,R⟩:=o.form;by_cases c:m.args.length=args.length
 . have d:Zz (p8 m args=m.args.all fun a=>decide (a.kind=1)):=Zy (by unfold p8;rw[Tw c];rfl);have C:((m.args.length:Int) !=args.length)=false:=by simp[c]
   have H:=Zy c;clear c;obtain⟨e,i⟩:=S9 (w.alloc (.cells #[m.name,.slice s m.args.length v,m.ret.kind,m.ret.name,m.locals,m.stack,E,F] 113));have p:Ext w e:=by rw[i];exact kx
   have⟨g,r⟩:=jw p i;clear p i;go_enter func45,ntmps45;go_wp2_with fail;rw[<-r.o];go_loopw [16] (fun k wr=>∃a:Nat,a<=m.args.length/\k=.int .i64 a/\Ext e wr/\Zz ((m.args.take a).all (fun a=>decide (a.kind=1))=true)) (fun k _=>m.args.length - (intOf k).toNat)
   case atStart=>exact⟨0,Tz _,rfl,Kp.rr,Zy Zl⟩
   case round=>
    obtain⟨a,S,rfl,B,l⟩:=hrel;by_cases D:a<m.args.length
    . obtain⟨f,j⟩:=get_some D;obtain⟨J,U,cs,rfl,P,rfl,-,q⟩:=o.get j;obtain⟨z,K⟩:=((q.ext g.o).ext B).two;have L:=jv z;have n:=Zy j;clear j q;by_cases b:f.kind=1
      . have y:((f.kind:Int) !=1)=false:=by simp[b]
        have h:Zz (decide (f.kind=1)=true):=Zy (by simp[b]);clear b;go_wp2;go_roundw
        case rel=>exact⟨a+1,Zm,Zk,kx,Zy (all_succ l.o n.o h.o)⟩
        case measure=>exact Zj
      . have y:=TE.2 b;have h:Zz (decide (f.kind=1)=false):=Zy (by simp[b]);clear b;go_wp2;go_ret;exact⟨hV (by rw[d.o];exact(sj n.o h.o).symm),g.o.trans kx⟩
    . go_wp2;go_ret;exact⟨hV (by rw[d.o];exact(qG l.o Zm).symm),g.o.trans kx⟩
 . have C:((m.args.length:Int) !=args.length)=true:=TE.2 Zm;have d:Zz (p8 m args=false):=Zy (by unfold p8;rw[SS c];rfl);clear c;go_enter func45,ntmps45;go_wp2;go_ret;exact⟨hV (by rw[d.o]),kx⟩
theorem JS(v:Val)(n:Nat):Calls prog 53 #[.agg #[v.kind,v.n],n] w fun g l=>g=.returned (.bool (jV v n))/\Ext w l:=by
 obtain⟨b,a⟩:=v;by_cases d:b=0\/b=3
 . have c:Zz (jV ⟨b,a⟩ n=decide (a=0)):=Zy (by unfold jV;rw[Ty d]);rcases d with rfl|rfl
   all_goals
    go_enter func53,ntmps53;go_wp2;go_ret;exact⟨hV (by rw[c.o];by_cases k:a=0<;>simp[k]),kx⟩
 . have h:((b:Int)==0)=false:=SK.2 Zm;have i:((b:Int)==3)=false:=SK.2 Zm;by_cases e:b=1
   . subst e;have c:Zz (jV ⟨1,a⟩ n=oD a):=Zy (by unfold jV;simp);clear d h i;go_enter func53,ntmps53;go_wp2_with fail;refine(Hv a _).mono ?_;rintro g o ⟨rfl,rfl⟩;go_wp2;go_ret;exact⟨hV (by rw[c.o];rfl),kx⟩
   . have j:=SK.2 e;by_cases f:b=2
     . subst f;have c:Zz (jV ⟨2,a⟩ n=(decide (0<=a)&&decide (a<n))):=Zy (by unfold jV;simp);clear d h i e j;go_enter func53,ntmps53;go_wp2_with fail
       all_goals
        go_ret;exact⟨hV (by rw[c.o];by_cases p:0<=a<;>by_cases q:a<n<;>simp_all<;>omega),kx⟩
     . have m:=SK.2 f;have c:Zz (jV ⟨b,a⟩ n=false):=Zy (by unfold jV;rw[T9 d,T9 e,T9 f]);clear d e f;go_enter func53,ntmps53;go_wp2;go_ret;exact⟨hV (by rw[c.o]),kx⟩
theorem Cm(I:Nat->Prop){v:Value}(l:List Val)(h:SliceOf 2 oF w I v l)(n:Nat):Calls prog 102 #[v,n] w fun g p=>g=.returned (.bool (l.all (jV · n)))/\Ext w p:=by
 obtain⟨q,s,rfl,C,A⟩:=h.form;go_enter func102,ntmps102;go_wp2;go_loopw [9] (fun d wr=>∃a:Nat,a<=l.length/\d=.int .i64 a/\Ext w wr/\Zz ((l.take a).all (jV · n)=true)) (fun d _=>l.length - (intOf d).toNat)
 case atStart=>exact⟨0,Tz _,rfl,Kp.rr,Zy Zl⟩
 case round=>
  obtain⟨a,B,rfl,m,e⟩:=hrel;by_cases o:a<l.length
  . obtain⟨k,c⟩:=get_some o;obtain⟨r,D,t,rfl,z,rfl,-,i⟩:=h.get c;obtain⟨u,x⟩:=(i.ext m).two;have f:=Zy c;clear c i;cases j:jV k n
    all_goals
     have b:=Zy j;clear j;go_wp2_with (go_at_call 53;refine(JS k n).mono ?_;rintro g E ⟨rfl,y⟩;rw[b.o])
    . go_ret;exact⟨hV (sj f.o b.o).symm,Zv⟩
    . go_roundw
      case rel=>exact⟨a+1,Zm,Zk,Zv,Zy (all_succ e.o f.o b.o)⟩
      case measure=>exact Zj
  . go_wp2;go_ret;exact⟨hV (qG e.o Zm).symm,kx⟩
def xZ:om ou:=fun w I x cs=>∃vf,cs=[.int .i64 x.of.keeper,.string x.of.name,vf]/\SliceOf 2 oF w I vf x.fields
def LM:om Fr:=fun w I x cs=>∃vl vs,cs=[.int .i64 x.of.of.keeper,.string x.of.of.name,.int .i64 x.of.at_,.int .i64 x.pc,vl,vs]/\SliceOf 2 oF w I vl x.locals/\SliceOf 2 oF w I vs x.stack
theorem xZ.stays:kE xZ:=fun _ _ _ _ _ _ b a ⟨c,e,h⟩=>⟨c,e,h.keep oF.stays b a⟩
theorem LM.stays:kE LM:=fun _ _ _ _ _ _ b a ⟨c,vs,e,h1,h2⟩=>⟨c,vs,e,h1.keep oF.stays b a,h2.keep oF.stays b a⟩
def lJ:om St:=fun w I x cs=>∃vf vh vo,cs=[.int .i64 x.status,vf,vh,vo,.int .i64 x.back.kind,.int .i64 x.back.n]/\SliceOf 6 LM w I vf x.frames/\SliceOf 3 xZ w I vh x.heap/\SliceOf 1 qx w I vo x.outs
theorem lJ.stays:kE lJ:=fun _ _ _ _ _ _ b a ⟨c,vh,d,e,h1,h2,h3⟩=>⟨c,vh,d,e,h1.keep LM.stays b a,h2.keep xZ.stays b a,h3.keep qx.stays b a⟩
theorem lJ.form{x:St}(j:lJ w I x cs):∃a d b e c f,cs=[.int .i64 x.status,.slice a x.frames.length d,.slice b x.heap.length e,.slice c x.outs.length f,.int .i64 x.back.kind,.int .i64 x.back.n]/\SliceOf 6 LM w I (.slice a x.frames.length d) x.frames/\SliceOf 3 xZ w I (.slice b x.heap.length e) x.heap/\SliceOf 1 qx w I (.slice c x.outs.length f) x.outs:=by
 obtain⟨_,_,_,rfl,g,h,i⟩:=j;obtain⟨a,d,rfl,_⟩:=g.form;obtain⟨b,e,rfl,_⟩:=h.form;obtain⟨c,f,rfl,_⟩:=i.form;exact⟨a,d,b,e,c,f,rfl,g,h,i⟩
theorem LC.same{W: World}(a:LC l p w W)(e:l.O<l.D):Same (· <l.O) w W:=a.kp.same fun b d c=>Zm
theorem SliceOf.lc{α:Type}{R:om α}(hR:kE R){l:jB}{p:jl}{w W:World}{v:Value}{xs:List α}(b:SliceOf k R w (· <l.O) v xs)(a:LC l p w W):SliceOf k R W (· <l.O) v xs:=
 b.keep hR (a.same (Te a.at_.ord)) fun _ c=>c
theorem Ka.bad{b:List ou}{q:Nat}{a:ou}(d:b[q]?=some a)(c:(jW p a.of&&decide (a.fields.length=(layout p a.of).length)&&a.fields.all (jV · b.length))=false):pX p b=false:=by
 unfold pX;rw[Bool.and_eq_false_iff];right;rw[VX];exact⟨a,Tx d,by rw[c];simp⟩
theorem Hl(o:jD w l p){v:Value}(a:List ou)(z:SliceOf 3 xZ w (· <l.O) v a):Calls prog 52 #[some l.L,v] w fun x w'=>x=.returned (.bool (pX p a))/\LC l p w w':=by
 obtain⟨av,ay,rfl,hn,aC⟩:=z.form;have aB:=o.FR;have aJ:=o.ord;by_cases O:12<a.length
 . have D:Zz (pX p a=false):=Zy (by unfold pX;rw[SS Zm];rfl);have ah:(12:Int)<a.length:=Zm
   have B:=Zy o;clear o z O;go_enter func52,ntmps52;go_wp2;go_ret;exact⟨hV D.symm,LC.refl B⟩
 . have D:Zz (pX p a=a.all fun c=>jW p c.of&&decide (c.fields.length=(layout p c.of).length)&&c.fields.all (jV · a.length)):=Zy (by unfold pX;rw[Tw Zm];rfl);have ah:((12:Int)<a.length)=False:=Wj Zm;have⟨B,HH⟩:=jw o z;have aG:a.length<=12:=Zm
   clear o z O;go_enter func52,ntmps52;go_wp2;go_loopw [12] (fun H wr=>∃k:Nat,k<=a.length/\H=.int .i64 k/\LC l p w wr/\Zz (((a.take k).all fun c=>jW p c.of&&decide (c.fields.length=(layout p c.of).length)&&c.fields.all (jV · a.length))=true)) (fun H _=>a.length - (intOf H).toNat)
   case atStart=>exact⟨0,Tz _,rfl,LC.refl B,Zy Zl⟩
   case round=>
    obtain⟨k,hq,rfl,f,K⟩:=hrel;have HC:=Zy f;by_cases aj:k<a.length
    . obtain⟨⟨⟨d,e⟩,g⟩,G⟩:=nV a k aj;obtain⟨ax,aK,cs,rfl,hI,⟨vf,rfl,F⟩,-,V⟩:=(SliceOf.lc xZ.stays HH f).get G;obtain⟨fa,fc,rfl,aF,aD⟩:=F.form;obtain⟨N,g1,g2⟩:=V.three;have gz:=jv N;obtain⟨I,X,r,E⟩:=nu wr #[d,e,.slice fa g.length fc] 72;have aA:=f.at_.FR;obtain⟨au,az,aI,q⟩:=tN.ex (fun W'=>LC l p I W') I (LC.refl (f.at_.ext r));obtain⟨-,r0,r1,r2,-⟩:=jq.pq fun ak=>(E.kp (q.jC ak).kp Zm);have⟨i,ag,Z,C,aa,HF,u⟩:=tq q X E (f.at_.ext r) (f.ext r) ((F.ext oF.stays r)) G;have Q:∀L,LC l p I L->LC l p w L:=fun _ Y=>aa.step Y.at_ Y.kp;have t:=Zy Q;clear f r E X q F V G Q;go_wp2_with fail;rw[<-ag.o];clear N g1 g2;refine lq i 16 [([0,1,2],3),([4,5,6,7,8,9,10,11],12)] [13,14,15] ?_ ?_
      . exact(LC.refl C).drew
      refine nE ?_;intro j b;go_wp2_with fail;refine(nM (C.ext jA) ⟨d,e⟩).mono ?_;rintro x w7 ⟨rfl,T,R⟩;have m:=Zy ((LC.refl C).drew.step T R);clear T R;cases y:jW p ⟨d,e⟩
      . have h:=Zy (Ka.bad u (by rw[y];rfl));clear y;go_wp2_with fail;refine kk i b m ?_;clear b j;refine nE ?_;intro j b;go_wp2_with fail;refine kk i b m ?_;clear b j;refine uC ?_;go_wp2;go_ret;exact⟨hV h.symm,t _ m⟩
      . have ae:=Zy y;clear y;go_wp2_with fail;refine kk i b m ?_;clear b j;refine nE ?_;intro j b;go_wp2_with fail;refine(xq m.at_ ⟨d,e⟩).mono ?_;rintro x w8 ⟨⟨v8,rfl,W⟩,U,S⟩;obtain⟨a8,c8,rfl,-,aH⟩:=W.form;have n:=Zy (m.step U S);clear W U S;by_cases s:g.length=(layout p ⟨d,e⟩).length
        . have ai:((g.length:Int) !=(layout p ⟨d,e⟩).length)=false:=by simp[s]
          have af:=Zy s;clear s;go_wp2_with fail;refine kk i b n ?_;clear b j;refine uC ?_;obtain⟨qz,-,-,q2,-⟩:=(Z.kp n.kp Zm).ca;clear r0 r1 r2 i;go_wp2_with fail;refine(Cm (· <l.O) g (SliceOf.lc oF.stays HF n) a.length).mono ?_;rintro x w9 ⟨rfl,P⟩;have J:=Zy (n.ext P);clear P;cases A:g.all (jV · a.length)
          . have h:Zz (pX p a=false):=Zy (Ka.bad u (by simp only[A,Vt]));clear A;go_wp2;go_ret;exact⟨hV h.symm,t _ J⟩
          . have q:Zz ((jW p ⟨d,e⟩&&decide (g.length=(layout p ⟨d,e⟩).length)&&g.all (jV · a.length))=true):=Zy (by rw[ae.o,A,Tw af.o];rfl);clear A;go_wp2_with fail;exact⟨⟨k+1,Zm,Zk,t.o _ J.o,Zy (all_succ K.o u.o q.o)⟩,Zj⟩
        . have ai:((g.length:Int) !=(layout p ⟨d,e⟩).length)=true:=TE.2 Zm;have h:Zz (pX p a=false):=Zy (Ka.bad u (by simp only[SS s,Vt,TB]));clear s;go_wp2_with fail;refine kk i b n ?_;clear b j;refine uC ?_;go_wp2;go_ret;exact⟨hV h.symm,t _ n⟩
    . have h:Zz (pX p a=true):=Zy (by rw[D.o];exact qG K Zm);clear f;go_wp2;go_ret;exact⟨hV h.symm,HC⟩
theorem FW(j:jD w l p)(x:Fr){cs:List Value}(F:LM w (· <l.O) x cs)(n:Nat):Calls prog 51 #[some l.L,.agg cs.toArray,n] w fun m w'=>m=.returned (.bool (l8 p x n))/\LC l p w w':=by
 obtain⟨⟨⟨f,g⟩,e⟩,b,a,c⟩:=x;obtain⟨vl,vs,rfl,y,B⟩:=F;obtain⟨la,lc,rfl,aP,aO⟩:=y.form;obtain⟨sa,sc,rfl,aS,aR⟩:=B.form;obtain⟨w4,au,o,K⟩:=nu w #[f,g,e,b,.slice la a.length lc,.slice sa c.length sc] 69;have aM:=j.FR;have aQ:=j.ord;obtain⟨V,S,T,U,-⟩:=K.ca;have⟨J,aJ,av,aC,aA,aB,aI⟩:=tq (j.ext o) o K au (y.ext oF.stays o) (B.ext oF.stays o) ((LC.refl j).ext o);have ai:∀Z,LC l p w4 Z->LC l p w Z:=fun _ F=>(LC.refl j).ext o |>.step F.at_ F.kp;have k:=Zy ai;simp only at y B;clear j o K au ai y B;go_enter func51,ntmps51;go_wp2_with fail;rw[<-aC.o];refine(Df J ⟨⟨f,g⟩,e⟩).mono ?_;rintro m w5 ⟨rfl,aj,P⟩;have H:=Zy ((LC.refl J).step aj P);have L:=av.kp P Zm;have W:=Zy L;clear aj P S T U V;obtain⟨V,S,T,U,-⟩:=L.ca;clear L;cases q:kg p ⟨⟨f,g⟩,e⟩
 . have h:Zz (l8 p ⟨⟨⟨f,g⟩,e⟩,b,a,c⟩ n=false):=Zy (by unfold l8;simp only[q,TB]);clear q;go_wp2;go_ret;exact⟨hV h.symm,k _ H⟩
 have aK:=Zy q;obtain⟨d,z⟩:∃d,M.method p ⟨⟨f,g⟩,e⟩=d:=⟨_,rfl⟩;have aN:d.code.length<=16:=by rw[<-z];exact(qE (lT J.ok q).1).code
 have i:Zz (l8 p ⟨⟨⟨f,g⟩,e⟩,b,a,c⟩ n=(decide (0<=b)&&decide (b<d.code.length)&&decide ((a.length:Int)=d.locals)&&decide ((c.length:Int)<=d.stack)&&a.all (jV · n)&&c.all (jV · n))):=Zy (by
  unfold l8;simp only[q,z,TJ])
 have Q:=mY w5 l p H.at_ ⟨⟨f,g⟩,e⟩ q;rw[z]at Q;have X:=Zy Q;clear q z Q;go_wp2_with fail;refine X.mono ?_;rintro m R ⟨⟨cs,ak,rfl⟩,v⟩;obtain⟨t2,rfl⟩:=ql ak;obtain⟨G,E⟩:=S9 (R.alloc (.cells (oC d t2).toArray 113));have N:Ext R G:=by rw[E];exact kx
 have b7:jq G R 113 (oC d t2).toArray:=by rw[E];exact jq.new _ _ _
 have af:=W.ext (v.trans N);have r:=Zy (H.ext (v.trans N));have ae:=W.ext v;obtain⟨aT,-,-,-,y3,y4,y5,-⟩:=ae.ca;have⟨ax,s⟩:=jw af E;clear ak v E N b7 af ae S T U V X;simp only[oC];unfold oC at s;have aL:∀{aa:Bool},l8 p ⟨⟨⟨f,g⟩,e⟩,b,a,c⟩ n=aa->aa=false->l8 p ⟨⟨⟨f,g⟩,e⟩,b,a,c⟩ n=false:=fun j m=>j.trans m;by_cases u:b<0
 . have aF:=Tw u;have h:Zz (l8 p ⟨⟨⟨f,g⟩,e⟩,b,a,c⟩ n=false):=Zy (by rw[i.o,SS (p:=0<=b) Zm];simp only[TB]);clear u;go_wp2;go_ret;rw[<-s.o];exact⟨hV h.symm,k _ r⟩
 have aF:=SS u;by_cases A:(d.code.length:Int)<=b
 . have aG:=Tw A;have h:Zz (l8 p ⟨⟨⟨f,g⟩,e⟩,b,a,c⟩ n=false):=Zy (by rw[i.o,SS (p:=b<d.code.length) Zm];simp only[TB,Vt]);clear u A;go_wp2;go_ret;rw[<-s.o];exact⟨hV h.symm,k _ r⟩
 have aG:=SS A;have Y:Zz (0<=b/\b<d.code.length):=Zy Zm;clear u A;by_cases t:(a.length:Int)=d.locals;rotate_left
 . have aD:=TE.2 t;have h:Zz (l8 p ⟨⟨⟨f,g⟩,e⟩,b,a,c⟩ n=false):=Zy (by rw[i.o,SS (p:=(a.length:Int)=d.locals) t];simp only[TB,Vt]);clear t;go_wp2;go_ret;rw[<-s.o];exact⟨hV h.symm,k _ r⟩
 have aD:((a.length:Int) !=d.locals)=false:=by simp[t]
 have az:=Zy t;clear t;by_cases C:d.stack<(c.length:Int)
 . have aH:=Tw C;have h:Zz (l8 p ⟨⟨⟨f,g⟩,e⟩,b,a,c⟩ n=false):=Zy (by rw[i.o,SS (p:=(c.length:Int)<=d.stack) Zm];simp only[TB,Vt]);clear C;go_wp2;go_ret;rw[<-s.o];exact⟨hV h.symm,k _ r⟩
 have aH:=SS C;replace i:Zz (l8 p ⟨⟨⟨f,g⟩,e⟩,b,a,c⟩ n=(a.all (jV · n)&&c.all (jV · n))):=Zy (by
  rw[i.o,Tw Y.o.1,Tw Y.o.2,Tw az.o,Tw (p:=(c.length:Int)<=d.stack) Zm];simp only[TJ])
 clear C;go_wp2_with fail;rw[<-s.o];refine(Cm (· <l.O) a (SliceOf.lc oF.stays aA r) n).mono ?_;rintro m w8 ⟨rfl,O⟩;have I:=Zy (r.ext O);have ag:=ax.ext O;obtain⟨xz,-,-,-,-,-,x5,-⟩:=ag.ca;clear ag O;cases D:a.all (jV · n)
 . have h:Zz (l8 p ⟨⟨⟨f,g⟩,e⟩,b,a,c⟩ n=false):=Zy (by rw[i.o,D];rfl);clear D;go_wp2;go_ret;exact⟨hV h.symm,k _ I⟩
 . have h:Zz (l8 p ⟨⟨⟨f,g⟩,e⟩,b,a,c⟩ n=c.all (jV · n)):=Zy (by rw[i.o,D];rfl);clear D;go_wp2_with fail;refine(Cm (· <l.O) c (SliceOf.lc oF.stays aB I) n).mono ?_;rintro m w9 ⟨rfl,ah⟩;have ay:=Zy (I.ext ah);clear ah;go_wp2;go_ret;exact⟨hV h.symm,k _ ay⟩
theorem hQ.six{b a:Nat}{d e f g h i:Value}(c:hQ w b a [d,e,f,g,h,i]):w.cell? (b,a)=some d/\w.cell? (b,a+1)=some e/\w.cell? (b,a+2)=some f/\w.cell? (b,a+3)=some g/\w.cell? (b,a+4)=some h/\w.cell? (b,a+5)=some i:=
 ⟨by simpa using c 0 d rfl,c 1 e rfl,c 2 f rfl,c 3 g rfl,c 4 h rfl,c 5 i rfl⟩
theorem M.P6{s:St}:FI p s=true↔(1<=s.status/\s.status<=10)/\s.heap.length<=12/\s.outs.length<=40/\s.frames.length<=8/\(decide (0<s.frames.length)=decide (s.status=1))/\s.outs.all oD=true/\s.frames.all (l8 p · s.heap.length)=true/\pX p s.heap=true/\jV s.back s.heap.length=true:=by
 unfold FI;simp only[RV,Tv,Ue];constructor
 . rintro⟨⟨⟨⟨⟨⟨⟨⟨⟨a,b⟩,c⟩,d⟩,e⟩,f⟩,g⟩,h⟩,i⟩,j⟩;exact⟨⟨a,b⟩,c,d,e,f,g,h,i,j⟩
 . rintro⟨⟨a,b⟩,c,d,e,f,g,h,i,j⟩;exact⟨⟨⟨⟨⟨⟨⟨⟨⟨a,b⟩,c⟩,d⟩,e⟩,f⟩,g⟩,h⟩,i⟩,j⟩
theorem KJ (v : jD w l p)(s : St){cs: List Value}(m : lJ w (· < l.O) s cs) :Calls prog 24 #[some l.L,.agg cs.toArray] w fun L w'=>L=.returned (.bool (FI p s))/\LC l p w w':=by
 obtain⟨a1,c1,a2,c2,a3,c3,rfl,i,j,R⟩:=m.form;clear m;obtain⟨o,c,d,h,⟨C,D⟩⟩:=s;simp only at i j R |-;obtain⟨w3,ay,F,Z⟩:=nu w #[o,.slice a1 c.length c1,.slice a2 d.length c2,.slice a3 h.length c3,C,D] 44;have aW:=v.FR;have bA:=v.ord;obtain⟨a,hv⟩:∃a,FI p ⟨o,c,d,h,⟨C,D⟩⟩=a:=⟨_,rfl⟩;have⟨aV,g⟩:=jw hv (P6 (p:=p) (s:=⟨o,c,d,h,⟨C,D⟩⟩));rw[hv]at g |-;simp only at g;obtain⟨yz,y0,y1,y2,y3,-⟩:=Z.ca;have⟨q,P,u,H1,H2,H3⟩:=pR (v.ext F) Z ay (i.ext LM.stays F) (j.ext xZ.stays F) (R.ext qx.stays F);have aR:=i.form;have aS:=j.form;have aT:=R.form;obtain⟨_,_,e1,aX,bq⟩:=aR;cases e1;obtain⟨_,_,e2,aY,bu⟩:=aS;cases e2;obtain⟨_,_,e3,aZ,bz⟩:=aT;cases e3;have av:∀ah,LC l p w3 ah->LC l p w ah:=fun _ n=>(LC.refl v).ext F |>.step n.at_ n.kp;have k:=Zy av;clear hv v F Z ay i j R av;go_enter func24,ntmps24;by_cases r:o<1
 . have aA:=Tw r;have b:Zz (false=a):=Zy (by cases a;rfl;have:=g.1 rfl;omega);clear r;go_wp2;go_ret;rw[<-u.o];exact⟨hV b,k _ (LC.refl q)⟩
 have aA:=SS r;by_cases A:10<o
 . have aB:=Tw A;have b:Zz (false=a):=Zy (by cases a;rfl;have:=g.1 rfl;omega);clear r A;go_wp2;go_ret;rw[<-u.o];exact⟨hV b,k _ (LC.refl q)⟩
 have aB:=SS A;by_cases V:12<d.length
 . have aC:decide ((12:Int)<d.length)=true:=Tw Zm;have b:Zz (false=a):=Zy (by cases a;rfl;have:=g.1 rfl;omega);clear r A V;go_wp2;go_ret;rw[<-u.o];exact⟨hV b,k _ (LC.refl q)⟩
 have aC:decide ((12:Int)<d.length)=false:=SS Zm;by_cases s4:40<h.length
 . have aD:decide ((40:Int)<h.length)=true:=Tw Zm;have b:Zz (false=a):=Zy (by cases a;rfl;have:=g.1 rfl;omega);clear r A V s4;go_wp2;go_ret;rw[<-u.o];exact⟨hV b,k _ (LC.refl q)⟩
 have aD:decide ((40:Int)<h.length)=false:=SS Zm;by_cases s5:8<c.length
 . have aF:decide ((8:Int)<c.length)=true:=Tw Zm;have b:Zz (false=a):=Zy (by cases a;rfl;have:=g.1 rfl;omega);clear r A V s4 s5;go_wp2;go_ret;rw[<-u.o];exact⟨hV b,k _ (LC.refl q)⟩
 have aF:decide ((8:Int)<c.length)=false:=SS Zm;have HS:Zz ((1<=o/\o<=10)/\d.length<=12/\h.length<=40/\c.length<=8):=Zy Zm;clear r A V s4 s5;obtain⟨Y,y⟩:∃J,decide (0<c.length)=J:=⟨_,rfl⟩;obtain⟨b2,O⟩:∃J,decide (o=1)=J:=⟨_,rfl⟩;have aO:decide ((0:Int)<c.length)=Y:=by rw[<-y];exact UH.2 Zm
 have aP:((o:Int)==1)=b2:=by rw[<-O];rfl
 by_cases G:Y=b2;rotate_left
 . have aj:=SK.2 G;have ak:decide (0<c.length)=Y:=y;have b:Zz (false=a):=Zy (by
    cases a
    . rfl
    . exact absurd (y.symm.trans ((g.o.1 rfl).2.2.2.2.1.trans O)) G)
   clear y O G;go_wp2;go_ret;rw[<-u.o];exact⟨hV b,k _ (LC.refl q)⟩
 have aj:=Ue.2 G;have ak:=y;have aH:Zz (decide (0<c.length)=decide (o=1)):=Zy (by rw[y,O,G]);clear y O G;go_wp2_with fail;rw[<-u.o];clear aO aP aj ak aA aB aC aD aF;go_loopw [44] (fun z wr=>∃e:Nat,e<=h.length/\z=.int .i64 e/\Ext w3 wr/\Zz ((h.take e).all oD=true)) (fun z _=>h.length - (intOf z).toNat)
 case atStart=>exact⟨0,Tz _,rfl,Kp.rr,Zy Zl⟩
 case round=>
  obtain⟨e,hq,rfl,E,t⟩:=hrel;by_cases af:e<h.length
  . obtain⟨f,n⟩:=nV h e af;obtain⟨J,aU,cs,rfl,hI,rfl,-,H⟩:=(H3.ext qx.stays E).get n;rw[Vi]at H;have g0:=H.one;have gz:=jv g0;have⟨I,Q⟩:=jw n E;clear n H E y0 y1 y2 y3;go_wp2_with fail;refine(Hv f _).mono ?_;rintro L w4 ⟨rfl,rfl⟩;cases U:(decide (-9999<=f)&&decide (f<=9999))
    . have b:Zz (false=a):=Zy (by
       cases a
       . rfl
       . have i:=(g.1 rfl).2.2.2.2.2.1;have j:=Tc.1 i f (Tx I);unfold oD at j;rw[U]at j;cases j)
      clear U;go_wp2;go_ret;exact⟨hV b,k _ ((LC.refl q).ext Q)⟩
    . have X:Zz (oD f=true):=Zy U;clear U;go_wp2_with fail;exact⟨⟨e+1,Zm,Zk,Q.o,Zy (all_succ t.o I.o X.o)⟩,Zj⟩
  . have aM:=Zy (qG t Zm);have Q:=Zy E;obtain⟨aG,-,x1,-⟩:=(P.ext E).ca;clear E t y0 y1 y2 y3;go_wp2_with fail;obtain⟨wo,rfl⟩:∃wo:World,wo=wr:=⟨_,rfl⟩;go_loopw [55] (fun z wr=>∃e:Nat,e<=c.length/\z=.int .i64 e/\LC l p w3 wr/\Zz ((c.take e).all (l8 p · d.length)=true)) (fun z _=>c.length - (intOf z).toNat)
    case atStart=>exact⟨0,Tz _,rfl,(LC.refl q).ext Q,Zy Zl⟩
    case round=>
     obtain⟨e,hq,rfl,x,t⟩:=hrel;have W:=Zy x;by_cases af:e<c.length
     . obtain⟨f,n⟩:=nV c e af;obtain⟨J,aU,cs,rfl,hI,ae,-,H⟩:=(SliceOf.lc LM.stays H1 x).get n;have aQ:=ae;obtain⟨vl,vs,rfl,hl,m⟩:=aQ;obtain⟨la,lc,rfl,bg,bf⟩:=hl.form;obtain⟨sa,sc,rfl,bC,bB⟩:=m.form;obtain⟨g0,g1,g2,g3,g4,g5⟩:=H.six;have gz:=jv g0;obtain⟨w8,az,aa,b8⟩:=nu wr #[f.of.of.keeper,f.of.of.name,f.of.at_,f.pc,.slice la f.locals.length lc,.slice sa f.stack.length sc] 69;obtain⟨kz,k0,k1,k2,k3,k4,k5,-⟩:=b8.ca;have K:=P.kp x.kp Zm;obtain⟨xz,-,-,x2,-⟩:=K.ca;have⟨I,aJ,ag,aN⟩:=kD n (LM.stays _ _ _ _ _ _ (Ext.same aa) (fun _ v=>v) ae) (x.ext aa) az;clear n H x aa b8 K az ae hl m x1 aG;go_wp2_with fail;rw[<-aN.o];refine(FW ag.at_ f aJ d.length).mono ?_;rintro L w9 ⟨rfl,N⟩;have B:=Zy (ag.trans N);clear N;cases S:l8 p f d.length
       . have b:Zz (false=a):=Zy (by
          cases a
          . rfl
          . have i:=(g.1 rfl).2.2.2.2.2.2.1;have j:=Tc.1 i f (Tx I);rw[S]at j;cases j)
         clear S;go_wp2;go_ret;exact⟨hV b,k _ B⟩
       . have X:=Zy S;clear S;go_wp2_with fail;exact⟨⟨e+1,Zm,Zk,B.o,Zy (all_succ t.o I.o X.o)⟩,Zj⟩
     . have aK:=Zy (qG t Zm);have K:=P.kp x.kp Zm;obtain⟨xz,-,-,x2,-⟩:=K.ca;clear x t x1 aG K;go_wp2_with fail;refine(Hl W.at_ d (SliceOf.lc xZ.stays H2 W)).mono ?_;rintro L w9 ⟨rfl,N⟩;have B:=Zy (W.trans N);have ai:=P.kp B.kp Zm;obtain⟨zz,-,-,z2,-,z4,z5,-⟩:=ai.ca;clear N x2 xz ai;cases T:pX p d
       . have b:Zz (false=a):=Zy (by
          cases a
          . rfl
          . have i:=(g.1 rfl).2.2.2.2.2.2.2.1;rw[T]at i;cases i)
         clear T;go_wp2;go_ret;exact⟨hV b,k _ B⟩
       . have aL:=Zy T;clear T;go_wp2_with fail;refine(JS ⟨C,D⟩ d.length).mono ?_;rintro L bD ⟨rfl,au⟩;have aI:=Zy (B.ext au);clear au;have b:Zz (jV ⟨C,D⟩ d.length=a):=Zy (by
          have hi:=g.o;rw[aL.o,aM.o,aK.o]at hi;have m:=HS.o;have hb:=aH.o;cases ax:jV ⟨C,D⟩ d.length
          . cases a
            . rfl
            . have:=(hi.1 rfl).2.2.2.2.2.2.2.2;rw[ax]at this;cases this
          . exact(hi.2 ⟨m.1,m.2.1,m.2.2.1,m.2.2.2,hb,rfl,rfl,rfl,ax⟩).symm)
         go_wp2;go_ret;exact⟨hV b,k _ aI⟩
theorem SliceOf.vals{xs:List Val}(a:SliceOf 2 oF w I v xs):Flat w 2 v xs.length (xs.flatMap kI):=SliceOf.toFlat (enc:=kI) (fun _ _ _ _ a=>a) (fun _=>rfl) xw a
theorem SliceOf.ints{xs:List Int}(a:SliceOf 1 qx w I v xs):Flat w 1 v xs.length (xs.flatMap vR):=SliceOf.toFlat (enc:=vR) (fun _ _ _ _ a=>a) (fun _=>rfl) Dy a
theorem Own.more{j: World}{p: Nat}(g:∀a,d a≠none->i<=a/\a<w.heap.size)(o:j.ownsRow w p k v n xs)(t:(w:Nat)<=j)(q:i<=w)(r:Nat×Nat):∃h:Own,(∀a c,d a=some c->h a=some c)/\(∀a,h a≠none->i<=a/\a<j.heap.size)/\mW j h i r p k v n xs/\nU w d h/\(∀a c,h a=some c->d a=some c\/c=r):=by
 cases m:v.ownBlock with
 |none=>exact⟨d,fun _ _ l=>l,fun a b=>⟨(g a b).1,Ta (g a b).2 t⟩,⟨mP o q,fun a b=>by rw[m]at b;cases b⟩,nU.refl _ _,fun _ _ l=>.inl l⟩
 | some f =>
  have s:=o.lt f m;have x:d f=none:=by
   cases u:d f with
   |none=>rfl
   |some c=>have:=(g f (by rw[u];simp)).2;omega
  refine⟨d.add f r,fun a c b=>?_,fun a b=>?_,⟨mP o q,fun a b=>?_⟩,Own.zi (.inr s.1),fun a c b=>?_⟩
  . rw[Own.mR _ (fun e=>by subst e;rw[x]at b;cases b)];exact b
  . by_cases e:a=f
    . subst e;exact⟨Zm,s.2⟩
    . rw[Own.mR _ e]at b;exact⟨(g a b).1,Ta (g a b).2 t⟩
  . rw[m]at b;cases b;exact Own.add_eq _ _ _
  . by_cases e:a=f
    . subst e;rw[Own.add_eq]at b;cases b;exact .inr rfl
    . rw[Own.mR _ e]at b;exact .inl b
theorem mW.app{h: World}{e b j: Nat}{p: List Value}(q:mW w d e r i k v n xs)(l:∀a,d a≠none->e<=a/\a<w.heap.size)(o:h.ownsRow e i k (b,m,j) m p)(t:Kp (fun a=>v.ownBlock=some a) w h)(s:v.ownBlock=some b\/w<=b):mW h (d.add b r) e r i k (b,m,j) m p/\nU w d (d.add b r)/\(∀a,d.add b r a≠none->e<=a/\a<h.heap.size)/\(∀a g,d.add b r a=some g->d a=some g\/g=r):=
 ⟨⟨o,fun a c=>by cases c;exact Own.add_eq _ _ _⟩,Own.zi (s.imp (q.role _) id),fun a c=>by
  by_cases f:a=b
  . subst f;exact o.lt a rfl
  . rw[Own.mR _ f]at c;exact⟨(l a c).1,Ta (l a c).2 t.size⟩,fun a g c=>by
  by_cases f:a=b
  . subst f;rw[Own.add_eq]at c;cases c;exact .inr rfl
  . rw[Own.mR _ f]at c;exact .inl c⟩
theorem mW.beside{l: World}{i: Own}{a c f g h: Nat}{e: Nat×Nat}{j: Value}{m: List Value}(o:mW w d a r c k v n xs)(p:mW w d a e f g j h m)(t:Kp (fun b=>v.ownBlock=some b) w l)(q:nU w d i)(u:r≠e):mW l i a e f g j h m:=
 p.keep t q fun b s _ c=>u (by have:=o.role b c;rw[s]at this;cases this;rfl)
structure sS(w:World)(own:Own)(B:Nat)(v:Value)(os:List GO):Prop where
 dom:∀b,own b≠none->B<=b/\b<w.heap.size
 row:mW w own B (2,0) 72 3 v os.length (os.flatMap q8)
 obj:∀j o,os[j]?=some o->mW w own B (7,j) 42 2 o.v o.o.fields.length (o.o.fields.flatMap kI)
 JE:∀b q,own b=some q->q=(2,0)\/∃j,q=(7,j)
theorem sS.nil(w:World)(b:Nat):sS w (fun _=>none) b () []:=
 ⟨fun c a=>absurd rfl a,mW.nil _ _ _ _ _ _,fun d e a=>by simp at a,fun c f a=>by cases a⟩
theorem sS.slice{G:Own}{c:List GO}(o:sS w G m v c){I:Nat->Prop}(hI:∀b,m<=b->b<w.heap.size->I b)(hl:c.length<=4294967296)(A:∀a∈c,a.o.fields.length<=4294967296):SliceOf 3 xZ w I v (c.map GO.o):=by
 have z:∀{l:List GO},(∀(h:Nat)(a:GO),l[h]?=some a->SliceOf 2 oF w I a.v a.o.fields)->∀a∈l,SliceOf 2 oF w I a.v a.o.fields:=fun hl a d=>by
  obtain⟨h,B,j⟩:=Wy d;exact hl h a (by rw[CU B,j])
 have x:=z (l:=c) fun h a d=>SliceOf.mD kI (o.obj h a d).row rfl rfl (fun _ _=>rfl) (fun _ _=>rfl) (fun b e f=>hI b e f) (A a (Tx d));have D:SliceOf 3 (fun w I (i:GO) n=>SliceOf 2 oF w I i.v i.o.fields/\n=q8 i) w I v c:=
  SliceOf.mD q8 o.row.row rfl rfl (fun _ _=>rfl) (fun a d=>⟨x a d,rfl⟩) (fun b e f=>hI b e f) hl
 obtain⟨q,r,j,e,f,t⟩:=D;refine⟨q,r,by rw[j,UJ],by rw[UJ];exact e,by rw[UJ];exact f,fun p i g=>?_⟩;rw[UG]at g;cases k:c[p]? with
 |none=>rw[k]at g;cases g
 |some a=>
  rw[k]at g;cases g;obtain⟨b,F,n,s,u,⟨E,rfl⟩,C,y⟩:=t p a k;exact⟨b,F,_,s,u,⟨a.v,rfl,E⟩,C,y⟩
theorem BF(I:Nat->Prop){v:Value}(f:List ou)(k:SliceOf 3 xZ w I v f)(hl:f.length<=12):Calls prog 54 #[v] w fun i w'=>(∃v' s a,i=.returned v'/\a.map GO.o=f/\sS w' s w.heap.size v' a)/\Ext w w':=by
 obtain⟨aP,aQ,rfl,hn,aS⟩:=k.form;have az:=Zy k;clear k;go_enter func54,ntmps54;go_wp2;go_loopw [8,3] (fun S v3 wr=>∃(g:Nat)(s:Own)(a:List GO),g<=f.length/\S=.int .i64 g/\Ext w wr/\Zz (a.map GO.o=f.take g)/\sS wr s w.heap.size v3 a) (fun S _ _=>f.length - (intOf S).toNat)
 case atStart=>exact⟨0,_,[],Tz _,rfl,Kp.rr,Zy Zl,sS.nil _ _⟩
 case round=>
  obtain⟨g,s,a,hq,rfl,m,H,e⟩:=hrel;obtain⟨E,F,rfl⟩:=e.row.form;have ah:a.length=g:=by
   have:=congrArg List.length H.o;simpa [UN hq]using this
  by_cases aI:g<f.length
  . obtain⟨⟨⟨q,r⟩,c⟩,b⟩:=nV f g aI;obtain⟨d,aY,cs,rfl,hI,⟨vf,rfl,O⟩,-,hc⟩:=(az.o.ext xZ.stays m).get b;obtain⟨fa,fc,rfl,aT,aH⟩:=O.form;obtain⟨V,g1,g2⟩:=hc.three;have gz:=jv V;obtain⟨t,R,z,U⟩:=nu wr #[q,r,.slice fa c.length fc] 72;have aX:t.heap.size=wr.heap.size+1:=by rw[R];simp
    have ax:¬(Value.slice E a.length F).ownBlock=some wr.heap.size:=fun i=>by have:=(e.row.blk i).2;omega
    obtain⟨aO,aR,aU,J⟩:=tN.ex (fun W'=>Kp (fun d=>(Value.slice E a.length F).ownBlock=some d) t W') _ Kp.rr;obtain⟨-,r0,r1,r2,-⟩:=jq.pq fun aM=>(U.kp (J.jC aM) ax);have⟨y,aF⟩:=jw J R;have B:Zz (sS t s w.heap.size (.slice E a.length F) a):=Zy ⟨fun d C=>⟨(e.dom d C).1,by have:=(e.dom d C).2;omega⟩,e.row.ext z,fun p A b=>(e.obj p A b).ext z,e.JE⟩;have⟨HF,aA,HX,aN⟩:=kD (O.ext oF.stays z) (m.trans z) b ah;have aW:=m.size;have aV:(a.length:Int)=g:=by omega
    clear m e z U R ax J O hc b ah;go_wp2_with fail;rw[<-aF.o];clear V g1 g2;refine lq y 9 [([0,1,2,3,4],5),([6],7),([],8)] [] ?_ ?_
    . exact jA
    refine nE ?_;intro l j;go_wp2_with fail;refine(uU ((HF.o.ext oF.stays jA).vals) aH).mono ?_;rintro i G ⟨⟨v6,rfl,P⟩,W⟩;obtain⟨u,x,rfl⟩:=jS P;have h:=Zy (((Kp.refl _ t).drew:Ext t _).trans W);have aC:Zz (G.ownsRow t.heap.size 42 2 (Value.slice u c.length x) c.length (c.flatMap kI)):=Zy P;clear W P;go_wp2_with fail;refine kk y j h.o.any ?_;clear j l;refine nE ?_;intro l j;go_wp2_with fail;refine kk y j (h.o.alloc _).any ?_;clear j l;refine mF rfl fun l j=>?_;obtain⟨ay,Q,aa,ak,aG,ai⟩:=Own.more B.o.dom aC.o h.o.size Zm (7,a.length);have o:=(B.o.row.ext h.o).relabel Q;have ag:=fun p A b=>((B.o.obj p A b).ext h.o).relabel Q;have L:Ext G (G.alloc (.cells #[q,r,(Value.slice u c.length x)] 72)):=kx;have aJ:∀aL∈q8 (⟨⟨⟨q,r⟩,c⟩,(Value.slice u c.length x)⟩:GO),aL.oneCell'=true:=by
     simp[q8,Value.oneCell']
    refine jF I1 rfl (.tmp 12) (.tmp 19) rfl w.heap.size (.slice E a.length F) a.length (a.flatMap q8) rfl ((o.ext L).row) G.heap.size 1 (q8 (⟨⟨⟨q,r⟩,c⟩,(Value.slice u c.length x)⟩:GO)) rfl rfl (hQ.oI _ _ rfl) aJ Zm (by have:=h.o.size;simp;omega) ?_;intro K c9 w9 Z Y af;change l _ _;have n:=L.any.trans Y;refine kk y j (h.o.any.trans n) ?_;clear j l;obtain⟨au,N,ae,aj⟩:=mW.app o aa Z n (af.imp id fun i=>by simp at i;omega);have av:sS w9 (ay.add K (2,0)) w.heap.size (.slice (some ⟨K,0,none⟩) (a.length+1) c9) (a++[(⟨⟨⟨q,r⟩,c⟩,(Value.slice u c.length x)⟩:GO)]):=by
     refine⟨ae,by simpa using au,fun p A b=>?_,fun d T C=>?_⟩
     . rcases V9 p a.length with D|D|D
       . rw[TY D]at b;exact o.beside (ag p A b) n N Zl
       . subst D;simp at b;subst b;exact o.beside ak n N Zl
       . rw[Uz Zr]at b;cases b
     . rcases aj d T C with k|rfl
       . rcases ai d T k with k|rfl
         . exact B.o.JE d T k
         . exact .inr ⟨_,rfl⟩
       . exact .inl rfl
    have X:=(aA.o.trans h.o).own n (fun d i=>(o.blk i).1);have⟨aD,aB⟩:=jw av X;clear Q aa ak aG ai o ag L Z Y af n au N ae aj av X y r0 r1 r2;refine lD ?_;go_wp2_with fail;refine⟨⟨g+1,ay.add K (2,0),a++[(⟨⟨⟨q,r⟩,c⟩,(Value.slice u c.length x)⟩:GO)],by omega,by go_num,aB.o,Zy ?_,aD.o⟩,by simp[intOf];omega⟩;rw[Ux,H.o,Td,HX.o];rfl
  . have aK:g=f.length:=by omega
    have HR:Zz (a.map GO.o=f):=Zy (by rw[H.o,aK,TA]);have⟨HO,HE⟩:=jw e m;clear e m;go_wp2;go_ret;exact⟨⟨_,s,a,rfl,HR.o,HO.o⟩,HE.o⟩
end Go.Proofs.YtenhnldnpdlniaaGreat
