/- Walks. -/
import Derived.Test.YtlhlnddgfcmfkaaGreatRsCoreH
import Derived.Test.YtlhlnddgfcmfkaaGreatRsCoreLu
import Derived.Test.YtlhlnddgfcmfkaaGreatRsCoreLv
set_option maxRecDepth 100000
set_option maxHeartbeats 4000000
set_option linter.all false
namespace Go.Proofs.YtlhlnddgfcmfkaaGreat
open Go Go.RowKit Tryz M
theorem Ke:Elem 135 137 2:=kN (z:=.agg #[.int .i64 0, ""]) (bytes:=24) underlying135 Zo rfl Zn Zn
theorem EP:Elem 83 166 1:=kN (z:=.pointer none) (bytes:=8) underlying83 Zo rfl Zn Zn
theorem KL{n:Nat}(a:n<=6):(madeCells (Value.agg #[.int .i64 0,.int .i64 0]).cells (n*2)).toList=(List.replicate n lQ).flatMap jW:=by
 have:n=0\/n=1\/n=2\/n=3\/n=4\/n=5\/n=6:=Zm
 rcases this with rfl|rfl|rfl|rfl|rfl|rfl|rfl<;>(show _=_;kernel_rfl)
theorem ji.JK{w j:World}{l:jh}{p:hZ}{r:Own}{n f:Nat}{lk:Bool}{g:Gh}(a:ji w l p r n f lk g)(c:GC)(J:qd w l p r n g.cs.length c)
    (e h:Nat) (z:j.ownsRow n 166 1 (e,g.cs.length+1,h) (g.cs.length+1) (g.cs.flatMap uR++uR c)) (C:Kp (fun b=>g.vc.ownBlock=some b) w j) (B:g.vc.ownBlock=some e\/w<=e)
    (H:M.Good p ({g with cs:=g.cs++[c],vc:=(e,g.cs.length+1,h)}:Gh).st):
    Kp (MO l r) w (j.setCell (f,3) (e,g.cs.length+1,h))/\∃F,mV w r F/\ji (j.setCell (f,3) (e,g.cs.length+1,h)) l p F n f lk {g with cs:=g.cs++[c],vc:=(e,g.cs.length+1,h)}:=by
 have y:Kp (·=f) j (j.setCell (f,3) (e,g.cs.length+1,h)):=(Kp.refl (·=f) j).setCell (p:=⟨f,3,none⟩) (fun _=>rfl) _;obtain⟨o,x⟩:=Ry (j.setCell (f,3) (e,g.cs.length+1,h));have D:g.vc.ownBlock≠some f:=fun d=>by have:=a.calls.role _ d;rw[a.role]at this;cases this
 have I:hV o f 85 (xP l lk {g with cs:=g.cs++[c],vc:=(e,g.cs.length+1,h)}):=by rw[x];exact(a.blk.kp C D).jk 3 _
 have L:e≠f:=fun d=>by
  subst d;rcases B with t|t
  . exact D t
  . have:=a.blk.lt;omega
 have E:o.ownsRow n 166 1 (e,g.cs.length+1,h) (g.cs.length+1) (g.cs.flatMap uR++uR c):=by
  rw[x];exact iZ z y (fun s A _ d=>L (by cases A;exact d))
 rw[<-x]at y |-;have i:Kp (PO r fun s=>s=(0,0)\/s=(1,0)) w o:=(C.weak fun b _ d=>⟨_,a.calls.role b d,.inr rfl⟩).trans (y.weak fun b _ d=>⟨_,by rw[d];exact a.role,.inl rfl⟩);have k:=Own.yn (by
  rcases B with t|t
  . exact .inl (a.calls.role _ t)
  . exact .inr Zm)
 have K:∀b,r.add e (1,0) b≠none->n<=b/\b<o.heap.size:=fun b q=>by
  by_cases d:b=e
  . subst d;exact E.lt b rfl
  . rw[Own.lT _ d]at q;exact a.zi i.size b q
 refine⟨i.weak fun b _ d=>d.mo,_,k,a.E8 i,a.hB,I,(k _ a.blk.lt).trans a.role,a.low,⟨?_,fun s A=>?_⟩,?_,a.heap.xy i k Zl,fun N O z=>(a.obj N O z).xy i k Zl,a.outs.xy i k Zl,K,H,a.xI.kp i (fun b v q ⟨s,h1,h2⟩=>by rw[q]at h1;cases h1;simp at h2) fun b v q=>Own.F9 Zl q⟩
 . simpa using E
 . cases A;exact Own.add_eq _ _ _
 . intro v G m;simp only at m;rcases Si v g.cs.length with u|u|u
   . rw[RY u]at m;exact(a.call v G m).xy i k Zl a.xO
   . subst u;simp at m;subst m;exact J.xy i k Zl a.xO
   . rw[Sz Zr]at m;cases m
def xC : Prop := ∀ (w : World) (l : jh) (p : hZ), jg w l p -> ∀ x : rE, ky p x = true →
    Calls Tryz.prog 148 #[.pointer (some ⟨l.L,0,none⟩),.agg #[.int .i64 x.of.keeper,.string x.of.name,.int .i64 x.at_]] w fun e w'=>
     e=.returned (.bool (right p x))/\Kp (·=l.D) w w'/\jg w' l p
theorem zq (w : World) (l : jh) (p : hZ) (F : Own) (H e : Nat) (lk : Bool) (fH : Zz (lk = true -> xC)) (g : Gh) (B : ji w l p F H e lk g) (gD : g.status = 1) (x : rE) (hx : ky p x = true) (fT : Nat) (vv : Value) (vs : List Val)(bO:w.ownsRow fT 37 2 vv vs.length (vs.flatMap jW)) (dP:∀q,vv.ownBlock=some q->¬MO l F q) (bU:∀gT∈vs,ko gT g.os.length=true) (bR:vs.length=(M.method p x).args.length+1):Calls prog 101 #[some e,.agg #[x.of.keeper,x.of.name,x.at_],vv] w (jY w l p F H e lk (.int .i64 (enter p lk x vs g.st).1) (enter p lk x vs g.st).2):=by
 obtain⟨⟨c,b⟩,j⟩:=x;obtain⟨vb,vc,rfl,-⟩:=jS bO Zm;have aV:=tu (nD B.ku.ok hx).1;have dI:(vs.length:Int)<=(M.method p ⟨⟨c,b⟩,j⟩).locals:=Z0 aV.args
 have eT:=Zy (zk (lk:=lk) (vs:=vs) B.ku.ok B.good gD hx (by simpa [Gh.st]using bU) dI);obtain⟨a,hm⟩:∃a,M.method p ⟨⟨c,b⟩,j⟩=a:=⟨_,rfl⟩;obtain⟨w0,dY,bF,b4⟩:=nu w #[c,b,j] 65;have v:Zz (enter p lk ⟨⟨c,b⟩,j⟩ vs g.st=if 8<=g.cs.length then(7,g.st)else if lk&& !M.right p ⟨⟨c,b⟩,j⟩then(5,g.st)
  else if pq p c g.st.heap vs (⟨2,b⟩::a.args)then(1,{g.st with frames:=g.st.frames++[⟨⟨⟨c,b⟩,j⟩,0,vs++List.replicate (a.locals.toNat - vs.length) lQ,[]⟩]})else(10,g.st)):=Zy (by
  unfold enter;rw[hm];simp[Gh.st])
 obtain⟨T,U,bQ⟩:=B.calls.form;have m3:=B.blk.c 3 (.slice T g.cs.length U) (by rw[<-bQ];rfl);have mz:=B.blk.lt;have il:g.cs.length<=8:=by have:=B.good.nf;simpa [Gh.st]using this
 have gV:Zz (∀d,w.heap.size<=d->¬MO l F d):=Zy (fun d u=>B.fresh u);have⟨D,aI,bf,bV,cO,fF,fA,HX,HM⟩:=vL (B.ext bF) B bF b4 dY bO dP hx hm;have⟨fO,aQ⟩:=je bU bQ;rw[hm]at aV bR;have ib:=B.ku.lt;have gZ:=B.ku.Ev;have⟨aK,bA⟩:=je aV bR;have iD:=b4.lt;clear B bF b4 dY bO dP hx hm bU bQ aV bR dI;by_cases h8:8<=g.cs.length
 . replace v:=Zy (v.trans (RV h8));have fV:(8:Int)<=g.cs.length:=Zm
   go_enter func101,ntmps101;go_wp2_with fail;go_ret;rw[v.o,<-cO.o];exact jY.mk' bf.any (mV.refl _ _) D rfl
 replace v:=Zy (v.trans (RX h8));have fV:((8:Int)<=g.cs.length)=False:=Tq Zm;clear h8;obtain⟨bC,bD,bM,t⟩:=rA.ex (fun W'=>LC l p w0 W') w0 (LC.refl D.ku);obtain⟨-,aA,dZ,-⟩:=hV.lL fun n=>(D.oJ (t.jm n).kp (t.jm n).at_).blk;obtain⟨-,O,X,Y,-⟩:=hV.lL fun n=>(bV.kp (t.jm n).kp Zm);have s:=Zy t;clear t;go_enter func101,ntmps101;go_wp2_with fail;rw[<-cO.o];rename_i P A;have ek:∀(r:World) (af ag ah ai aj ak au av:Value),LC l p w0 r->enter p lk ⟨⟨c,b⟩,j⟩ vs g.st=(5,g.st)->P {tmps:=#[.pointer (some ⟨e,0,none⟩),.agg #[c,b,j],.slice (some ⟨vb,0,none⟩) vs.length vc,undef,.pointer (some ⟨w,0,none⟩),undef,.int .i64 0,undef,undef,undef,undef,undef,.pointer (some ⟨e,0,none⟩),.pointer (some ⟨e,0,none⟩),.pointer (some ⟨e,3,none⟩),.slice T g.cs.length U,.int .i64 g.cs.length,.bool false,.pointer (some ⟨e,0,none⟩),.pointer (some ⟨e,0,none⟩),.pointer (some ⟨e,1,none⟩),.bool lk,af,ag,ah,ai,aj,ak,au,av,.bool true,undef,undef,undef,undef,undef,undef,undef,undef,undef,undef,undef,undef,undef,undef,undef,undef,undef,undef,undef,undef,undef,undef,undef,undef,undef,undef,undef,undef,undef,undef,undef,undef,undef,undef,undef,undef,undef,undef,undef,undef,undef,undef,undef,undef,undef,undef,undef,undef,undef,undef,undef,undef,undef,undef,undef,undef,undef,undef,undef,undef,undef,undef,undef],defers:=[]} r:=by
  intro r af ag ah ai aj ak au av I N;refine A _ _ ?_;clear A s aA dZ O X Y;go_wp2_with fail;go_ret;rw[N];exact jY.mk' (bf.any.trans I.mo) (mV.refl _ _) (D.oJ I.kp I.at_) rfl
 have ed : ∀ (r : World) (af ag ah ai aj ak au av : Value), LC l p w0 r -> enter p lk ⟨⟨c, b⟩, j⟩ vs g.st = (if pq p c g.st.heap vs (⟨2, b⟩ :: a.args) then (1, { g.st with frames := g.st.frames ++ [⟨⟨⟨c, b⟩, j⟩, 0, vs ++ List.replicate (a.locals.toNat - vs.length) lQ, []⟩] }) else (10, g.st)) →
     P {tmps:=#[.pointer (some ⟨e,0,none⟩),.agg #[c,b,j],.slice (some ⟨vb,0,none⟩) vs.length vc,undef,.pointer (some ⟨w,0,none⟩),undef,.int .i64 0,undef,undef,undef,undef,undef,.pointer (some ⟨e,0,none⟩),.pointer (some ⟨e,0,none⟩),.pointer (some ⟨e,3,none⟩),.slice T g.cs.length U,.int .i64 g.cs.length,.bool false,.pointer (some ⟨e,0,none⟩),.pointer (some ⟨e,0,none⟩),.pointer (some ⟨e,1,none⟩),.bool lk,af,ag,ah,ai,aj,ak,au,av,.bool false,undef,undef,undef,undef,undef,undef,undef,undef,undef,undef,undef,undef,undef,undef,undef,undef,undef,undef,undef,undef,undef,undef,undef,undef,undef,undef,undef,undef,undef,undef,undef,undef,undef,undef,undef,undef,undef,undef,undef,undef,undef,undef,undef,undef,undef,undef,undef,undef,undef,undef,undef,undef,undef,undef,undef,undef,undef,undef,undef,undef,undef,undef,undef],defers:=[]} r:=by
  intro r af ag ah ai aj ak au av I N;refine A _ _ ?_;clear A s aA dZ O X Y;replace v:=Zy N;have⟨aC,bW,aB⟩:=jy (D.oJ I.kp I.at_) (bV.kp I.kp Zm) I;have iE:=I.kp.size;clear N I;go_wp2_with fail;obtain⟨bC,bD,bM,t⟩:=kY r;have aA:=fun n=>(aC.ext (t.jm n)).blk.c 0 (some l.L) rfl;obtain⟨-,O,X,Y,-⟩:=hV.lL fun n=>(bW.ext (t.jm n));have s:=Zy t;clear t;rename_i P A
  have eu : ∀ (b7 : Nat) (o : World) (J : tX), Ext r o -> hV o b7 141 (mg a J).toArray -> r <= b7 -> jd o (· < l.O) a (mg a J) -> P { tmps := #[.pointer (some ⟨e, 0, none⟩), .agg #[c, b, j], .slice (some ⟨vb, 0, none⟩) vs.length vc, undef, .pointer (some ⟨w, 0, none⟩), undef, .int .i64 0, .pointer (some ⟨b7, 0, none⟩), undef, undef, undef, undef, .pointer (some ⟨e, 0, none⟩), .pointer (some ⟨e, 0, none⟩), .pointer (some ⟨e, 3, none⟩), .slice T g.cs.length U, .int .i64 g.cs.length, .bool false, .pointer (some ⟨e, 0, none⟩), .pointer (some ⟨e, 0, none⟩), .pointer (some ⟨e, 1, none⟩), .bool lk, af, ag, ah, ai, aj, ak, au, av, .bool false, .pointer (some ⟨e, 0, none⟩), .pointer (some ⟨e, 0, none⟩), .pointer (some ⟨e, 0, none⟩), .pointer (some ⟨l.L, 0, none⟩), .agg #[c, b, j], .agg #[.string a.name, .slice J.a1 a.args.length J.c1, .int .i64 a.ret.kind, .string a.ret.name, .int .i64 a.locals, .int .i64 a.stack, .slice J.a2 a.code.length J.c2, .slice J.a3 a.maps.length J.c3], undef, undef, undef, undef, undef, undef, undef, undef, undef, undef, undef, undef, undef, undef, undef, undef, undef, undef, undef, undef, undef, undef, undef, undef, undef, undef, undef, undef, undef, undef, undef, undef, undef, undef, undef, undef, undef, undef, undef, undef, undef, undef, undef, undef, undef, undef, undef, undef, undef, undef, undef, undef, undef, undef, undef, undef, undef], defers := [] } o := by
   clear s aA O X Y; intro b7 o J C bE ig E; refine A _ _ ?_; clear A; obtain ⟨R, S, a2, c2, a3, c3⟩ := J; have fu := Zy (aC.ext C); have eZ : Zz (Kp (MO l F) w o) := Zy ((bf.any.trans aB.mo).trans C.any); have ⟨bX, eD, aL⟩ := jy (bW.ext C) bE E; have aG := jd.args E; obtain ⟨xz,-, x1,-⟩ := bX.ca; obtain ⟨yz,-, y1,-⟩ := bE.ca; have gX := Zy aG; have fK : Zz (∀ (q : Nat) (k : Kind), (Kind.mk 2 b :: a.args)[q]? = some k -> True) := Zy (fun _ _ _ => trivial); have iH := C.size; clear C bE E fK; refine wp_seq_k fun P A => ?_; have eB : ∀ (v8 di : Value) (G : World), Ext o G -> G.ownsRow o 137 2 v8 (a.args.length + 1) ((Kind.mk 2 b :: a.args).flatMap fun k => [k.kind, k.name]) -> P { tmps := #[.pointer (some ⟨e, 0, none⟩), .agg #[c, b, j], .slice (some ⟨vb, 0, none⟩) vs.length vc, undef, .pointer (some ⟨w, 0, none⟩), undef, .int .i64 0, .pointer (some ⟨b7, 0, none⟩), v8, undef, undef, undef, .pointer (some ⟨e, 0, none⟩), .pointer (some ⟨e, 0, none⟩), .pointer (some ⟨e, 3, none⟩), .slice T g.cs.length U, .int .i64 g.cs.length, .bool false, .pointer (some ⟨e, 0, none⟩), .pointer (some ⟨e, 0, none⟩), .pointer (some ⟨e, 1, none⟩), .bool lk, af, ag, ah, ai, aj, ak, au, av, .bool false, .pointer (some ⟨e, 0, none⟩), .pointer (some ⟨e, 0, none⟩), .pointer (some ⟨e, 0, none⟩), .pointer (some ⟨l.L, 0, none⟩), .agg #[c, b, j], .agg #[.string a.name, .slice R a.args.length S, .int .i64 a.ret.kind, .string a.ret.name, .int .i64 a.locals, .int .i64 a.stack, .slice a2 a.code.length c2, .slice a3 a.maps.length c3], .pointer (some ⟨w, 0, none⟩), .pointer (some ⟨w, 1, none⟩), .string b, .agg #[.int .i64 2, b], di, .pointer (some ⟨b7, 1, none⟩), .slice R a.args.length S, v8, undef, undef, undef, undef, undef, undef, undef, undef, undef, undef, undef, undef, undef, undef, undef, undef, undef, undef, undef, undef, undef, undef, undef, undef, undef, undef, undef, undef, undef, undef, undef, undef, undef, undef, undef, undef, undef, undef, undef, undef, undef, undef, undef, undef, undef, undef, undef, undef, undef], defers := [] } G := by
    clear x1 xz y1 yz aG;intro v8 di G ax bP;refine A _ _ ?_;clear A;have iI:=ax.size;have⟨ae,bu,bY,aZ,fw,fE⟩:=nZ (fu.ext ax) (eZ.trans ax.any) (bX.ext ax) (eD.ext ax) (jL.ext jd.stays ax aL) bP;obtain⟨tb,tc,rfl,-⟩:=jS bP Zm;have dW:=iZ fF bu (fun q hq _ h=>fA.o q hq h);have cK:=Zy dW;obtain⟨ha,dL,dV⟩:=ae.heap.form;have eU:=Zy ae.o.Mw;have cB:=Zy dV;have ic:=aK.GJ;clear ax bP dW dV;go_wp2_with fail;go_loopw [47] (fun i wr=>∃q:Nat,q<=vs.length/\i=.int .i64 q/\Ext G wr/\Zz (pq p c g.st.heap vs (⟨2,b⟩::a.args)=pq p c g.st.heap (vs.drop q) ((Kind.mk 2 b::a.args).drop q))) (fun i _=>vs.length - (intOf i).toNat)
    case atStart=>exact⟨0,R4 _,rfl,Kp.rr,Zy rfl⟩
    case round =>
     obtain⟨q,hq,rfl,hE,cu⟩:=hrel;by_cases gm:q<vs.length
     . obtain⟨⟨vk,vn⟩,N⟩:=nW vs q gm;obtain⟨⟨kq,kn⟩,hk⟩:=nW (Kind.mk 2 b::a.args) q (by have:=bA.o;simp;omega);have fC:=Zy (fO _ (R3 N));have bJ:=(lK (enc:=jW) (k:=2) (fun _=>rfl) cK N).ext hE;have bI:=lK (enc:=fun k:Kind=>[k.kind,k.name]) (k:=2) (fun _=>rfl) (l:=Kind.mk 2 b::a.args) fE hk;have g0:=bJ.two.1;have g1:=bJ.two.2;have gz:=iY g0;have cz:Zz (pq p c g.st.heap vs (⟨2,b⟩::a.args)=(hasType p c g.st.heap ⟨vk,vn⟩ ⟨kq,kn⟩&&pq p c g.st.heap (vs.drop (q+1)) ((Kind.mk 2 b::a.args).drop (q+1)))):=Zy (by rw[cu.o,oG N,oG hk];rfl);obtain⟨W4,dJ,dz,dm⟩:=nu wr #[vk,vn] 37;have L:=hE.trans dz;obtain⟨bC,bD,bM,t⟩:=kY W4;have aA:=fun n=>(ae.ext (L.trans (t.jm n))).blk.c 0 (some l.L) rfl;have iO:=fun n=>(ae.ext (L.trans (t.jm n))).blk.c 4 (.slice ha g.os.length dL) (by rw[<-cB.o];rfl);have O:=fun n=>(bY.ext (L.trans (t.jm n))).c 0 c rfl;obtain⟨-,iM,iN,-⟩:=hV.lL fun n=>(dm.ext (t.jm n));have iP:=fun n=>(hH.ext bI (L.trans (t.jm n))).two.1;have iQ:=fun n=>(hH.ext bI (L.trans (t.jm n))).two.2;have dN:=fun W (hW:Ext W4 W)=>uV W l p (ae.ku.ext (L.trans hW)) c (.slice ha g.os.length dL) g.st.heap (by rw[<-cB.o];exact eU.ext (L.trans hW)) ⟨vk,vn⟩ (fun h=>by have:=sF fC h;simpa [Gh.st]using this) ⟨kq,kn⟩;have⟨eX,s,fP,bn⟩:=jV dN t dJ L;have iw:(q:Int)<a.args.length+1:=Z0 bA.o
       have iy:(q:Int)<vs.length:=Zm
       have iA:IntKind.i64.wrap ((q:Int)+1)=q+1:=RQ _ Zm;clear t dN bJ bI N hk dJ dz dm L;go_wp2_with fail;rw[<-fP.o];refine kD s 18 [([0,1,2,3,4,5,6,7,8,9,10,11,12,13,14,15],16)] [17] ?_ ?_
       . exact jf
       refine lS ?_;intro z m;go_wp2_with fail;refine(eX _ jf).mono ?_;rintro h w5 ⟨rfl,dA⟩;have aJ:=Zy (((Kp.refl _ W4).drew:Ext W4 _).trans dA);clear dA;cases aW:hasType p c g.st.heap ⟨vk,vn⟩ ⟨kq,kn⟩
       . replace v:Zz (enter p lk ⟨⟨c,b⟩,j⟩ vs g.st=(10,g.st)):=Zy (by rw[v.o,cz.o,aW];rfl);clear aW;go_wp2_with fail;refine kk s m aJ ?_;clear m z;refine sK ?_;go_wp2_with fail;go_ret;rw[v.o];exact jY.mk' (bu.trans (bn.trans aJ).any) (mV.refl _ _) (ae.ext (bn.trans aJ)) rfl
       . have fJ:Zz (pq p c g.st.heap vs (⟨2,b⟩::a.args)=pq p c g.st.heap (vs.drop (q+1)) ((Kind.mk 2 b::a.args).drop (q+1))):=Zy (by rw[cz.o,aW];rfl);clear aW;go_wp2_with fail;refine kk s m aJ ?_;clear m z;refine sK ?_;go_wp2_with fail;exact⟨⟨q+1,Zm,by simp,bn.o.trans aJ.o,fJ⟩,by simp[intOf];omega⟩
     . have gB:q=vs.length:=Zm
       replace v:Zz (enter p lk ⟨⟨c,b⟩,j⟩ vs g.st=(1,{g.st with frames:=g.st.frames++[⟨⟨⟨c,b⟩,j⟩,0,vs++List.replicate (a.locals.toNat - vs.length) lQ,[]⟩]})):=Zy (by
        rw[v.o,cu.o,gB,List.drop_length];rfl)
       obtain⟨f,hn⟩:∃f:Nat,a.locals=f:=⟨a.locals.toNat,Z0 aK.args⟩;have gy:f<=6:=Z0 aK.locals
       have gF:vs.length<=f:=Z4 aK.args bA.o
       obtain⟨Q,bH⟩:∃Q,Q=madeCells (Value.agg #[.int .i64 0,.int .i64 0]).cells (f*2):=⟨_,rfl⟩;have aU:Q.toList=(List.replicate f lQ).flatMap jW:=by rw[bH];exact KL gy
       have gq:∀W:World,(Instr.makeSlice 66 f f).run prog W=.ok (W,f,f) (W.alloc (.cells Q 37)):=fun W=>by
        obtain⟨i,n,bytes,ht,hi,hz,dU,ik,iK,hk,u⟩:=rJ;have gG:n=.agg #[.int .i64 0,.int .i64 0]:=by
         have h:(prog.info? 37).map (·.zero)=some (some (.agg #[.int .i64 0,.int .i64 0])):=by kernel_rfl
         rw[hi]at h;simp only[Option.map_some,Tz]at h;rw[hz]at h;cases h;rfl
        have:=run_makeSlice (P:=prog) W 66 37 i n ht hi hz .i64 .i64 f f Zm (Int.le_refl _) (by rw[dU];simp;omega) (by
         have:(i.bytes:Int)*f<=4096*6:=Int.mul_le_mul Zm Zm Zm Zm;omega) Zm
        rw[dU,gG]at this;simpa [bH]using this
       have HE:=Zy hE;have y4:=(aZ.ext hE).c 4 f (by rw[<-hn];rfl);have yz:=(aZ.ext hE).lt;have⟨HN,gW⟩:=je hn aU;have dS:(wr.alloc (.cells Q 37)).ownsRow wr 37 2 (wr,f,f) f ((List.replicate f lQ).flatMap jW):=by
        rw[<-aU];exact Ty wr Q f (R5 _) (by unfold maxLen;omega) (by
         have:=congrArg List.length aU;rw[nY (k:=2) (fun _=>rfl),Sk]at this;simpa using this)
       have⟨fG,bq⟩:=je dS (pX (iZ (D:=fun _=>False) cK (hE.alloc (.cells Q 37)) fun _ _ _ x=>x) (oH wH vs));clear hE hn bH aU dS;go_wp2_with (refine Gx rJ _ rfl (.tmp 74) (.tmp 75) rfl wr wr f f vs.length vc _ _ rfl fG vb rfl bq gF ?_);intro y bN dC;have aD:=(kx:Ext wr (wr.alloc (.cells Q 37))).own dC (fun d h=>Zm);have bL:y.ownsRow wr 37 2 (wr,f,f) f ((vs++List.replicate (f - vs.length) lQ).flatMap jW):=by
        rw[S9];have e1:((List.replicate f lQ).flatMap jW).drop (vs.length*2)=(List.replicate (f - vs.length) lQ).flatMap jW:=by
         have e2:List.replicate f lQ=List.replicate vs.length lQ++List.replicate (f - vs.length) lQ:=by rw[List.replicate_append_replicate];congr 1;omega
         rw[e2,S9,List.drop_left' (by rw[nY (k:=2) (fun _=>rfl)];simp)]
        rw[e1]at bN;exact bN
       have eO:=Zy aD;have aO:=ae.ext (HE.trans aD);have⟨fq,eY,fo⟩:=jy aO (bu.trans (HE.trans aD).any) bL;have iF:(wr:Nat)<y:=by have:=(bL.lt wr rfl).2;exact this
       have iB:=HE.size;have bT:¬g.vc.ownBlock=some e:=fun h=>by have:=aO.calls.role _ h;rw[aO.role]at this;cases this
       have dX:∀d,w.heap.size<=d->¬g.vc.ownBlock=some d:=fun d u h=>Z0 ((aI.calls.blk h).2)
       obtain⟨bC,bD,bM,t⟩:=rA.ex (fun W'=>Kp (fun d=>g.vc.ownBlock=some d) y W') _ Kp.rr;have dw:=aZ.ext (HE.trans aD);have dn:=bY.ext (HE.trans aD);have fZ:w<=b7:=Zm
       have gQ:=fun n=>(aO.blk.kp (t.jm n) bT).c 3 (.slice T g.cs.length U) (by rw[<-aQ.o];rfl);obtain⟨-,O,X,Y,-⟩:=hV.lL fun n=>(dn.kp (t.jm n) (dX _ (R5 _)));obtain⟨-,gH,gI,gJ,gK,gL,gM,gN,gP,-⟩:=hV.lL fun n=>(dw.kp (t.jm n) (dX _ fZ));have⟨s,fM⟩:=je t bT;clear bN dC aD bL aO t dw dn bT y4 yz gq;go_wp2_with fail;refine kD s 15 [([0,1,2,3,4,5,6,7,8,9,10,11],12),([],13),([],14)] [] ?_ ?_
       . exact jf
       refine lS ?_;intro z m;go_wp2_with fail;refine kk s m kx ?_;clear m z;refine lF rfl fun z m=>?_;go_wp2_with fail;refine kk s m kx ?_;clear m z;refine lF rfl fun z m=>?_;obtain⟨Z,aH⟩:=Ry (((y.alloc (.cells #[c,b,j,.string a.name,.slice R a.args.length S,.int .i64 a.ret.kind,.string a.ret.name,.int .i64 a.locals,.int .i64 a.stack,.slice a2 a.code.length c2,.slice a3 a.maps.length c3,.int .i64 0,(wr,f,f),(),.int .i64 a.stack] 171)).alloc (.cells #[some y] 166)).drew);rw[<-aH];have aM:Ext y Z:=by rw[aH];exact kx
       have bB:hV Z y 171 #[c,b,j,.string a.name,.slice R a.args.length S,.int .i64 a.ret.kind,.string a.ret.name,.int .i64 a.locals,.int .i64 a.stack,.slice a2 a.code.length c2,.slice a3 a.maps.length c3,.int .i64 0,(wr,f,f),(),.int .i64 a.stack]:=by rw[aH];exact(hV.newAt (W:=y) (g:=y.heap.size) _ _ rfl).ext kx
       have bS:hH Z (y+1) 0 [some y]:=by rw[aH];exact hH.Hn _ _ Zl
       have iJ:Z.heap.size=y+2:=by
        rw[aH];show((y.alloc _).alloc _).heap.size=_
        simp
       have aS:=fq.ext aM;have gY:H<=w:=by have:=(aI.dom e (by rw[aI.o.role];simp)).2;have:=aI.low;omega
       have dQ:∀d,w.heap.size<=d->F d=none:=fun d u=>by
        cases h:F d with
        |none=>rfl
        |some q=>have:=(aI.dom d (by rw[h];simp)).2;omega
       obtain⟨V,az⟩:∃V,V=(F.add y (4,g.cs.length)).add wr (5,g.cs.length):=⟨_,rfl⟩;have iC:(w:Nat)<=wr:=Zm
       have o1:∀d aY,F d=some aY->V d=some aY:=fun d aY u=>by
        have h1:d≠y.heap.size:=fun h=>by rw[h,dQ _ Zm]at u;cases u
        have h2:d≠wr.heap.size:=fun h=>by rw[h,dQ _ Zm]at u;cases u
        rw[az,Own.lT _ h2,Own.lT _ h1];exact u
       have o2:V wr.heap.size=some (5,g.cs.length):=by rw[az];exact Own.add_eq _ _ _
       have o3:V y.heap.size=some (4,g.cs.length):=by rw[az,Own.lT _ Zm];exact Own.add_eq _ _ _
       have o4:∀d,d<w.heap.size->V d=F d:=fun d u=>by rw[az,Own.lT _ Zm,Own.lT _ Zm]
       have o5:∀d,V d≠none->H<=d/\d<Z.heap.size:=fun d u=>by
        by_cases e1:d=wr.heap.size
        . subst e1;omega
        . by_cases e2:d=y.heap.size
          . subst e2;omega
          . rw[az,Own.lT _ e1,Own.lT _ e2]at u;exact aS.dom d u
       have dG:=aS.relabel o1 o5 fun d i u=>by
        by_cases e2:d=y.heap.size
        . rw[e2];exact⟨_,bB.c 0 _ rfl⟩
        . rw[az]at u;have u:=Own.F9 Zl u;rw[Own.lT _ e2]at u;exact aS.xI d i u
       have dx:qd Z l p V H g.cs.length (⟨⟨⟨⟨c,b⟩,j⟩,0,vs++List.replicate (a.locals.toNat - vs.length) lQ,[]⟩,y.heap.size,⟨R,S,a2,c2,a3,c3⟩,(wr,f,f),()⟩:GC):=by
        refine⟨?_,o3,by show H<=y;omega,?_,⟨?_,fun q hq=>?_⟩,lU.nil _ _ _ _ _ _⟩
        . unfold AB;simp only[HM.o];exact bB
        . simp only[HM.o];exact jL.ext jd.stays ((HE.trans eO).trans aM) fw
        . have h1:=lM (base':=H) (iZ (D:=fun _=>False) fo aM fun _ _ _ x=>x) Zm;have e1:(vs++List.replicate (a.locals.toNat - vs.length) lQ).length=f:=by rw[HN.o];simp;omega
          show World.ownsRow _ H _ 2 _ (vs++List.replicate (a.locals.toNat - vs.length) lQ).length _
          rw[e1,HN.o];simpa using h1
        . cases hq;exact o2
       have⟨bz,eH,bZ,fe,eG,eP⟩:=nZ dG dx o4 (eY.trans aM.any) bS aM;clear aH bB aS dG dx o1 o2 o3 o4 o5 az bS;refine jo EP rfl (.tmp 81) (.tmp 90) rfl H (.slice T g.cs.length U) g.cs.length (g.cs.flatMap uR) rfl (by rw[<-aQ.o];exact bz.calls.row) (y+1) 1 [some y] rfl rfl eG Zt Zm Zm ?_;intro g9 c9 gU dH aN bK;change z _ _;rw[<-aQ.o]at aN bK;refine kk s m (eP.any.trans aN) ?_;clear m z;have aT:=bz.blk.kp aN fM;have q3:=aT.c 3 (.slice T g.cs.length U) (by rw[<-aQ.o];rfl);have f3:=aT.frozen 3;have qz:=aT.lt;have bG:=eT.2.2.1;rw[v.o]at bG;have hs:({g with cs:=g.cs++[(⟨⟨⟨⟨c,b⟩,j⟩,0,vs++List.replicate (a.locals.toNat - vs.length) lQ,[]⟩,y.heap.size,⟨R,S,a2,c2,a3,c3⟩,(wr,f,f),()⟩:GC)],vc:=(g9,g.cs.length+1,c9)}:Gh).st={g.st with frames:=g.st.frames++[⟨⟨⟨c,b⟩,j⟩,0,vs++List.replicate (a.locals.toNat - vs.length) lQ,[]⟩]}:=by simp[Gh.st]
       obtain⟨dD,iL,dK,dF⟩:=bz.JK (⟨⟨⟨⟨c,b⟩,j⟩,0,vs++List.replicate (a.locals.toNat - vs.length) lQ,[]⟩,y.heap.size,⟨R,S,a2,c2,a3,c3⟩,(wr,f,f),()⟩:GC) eH g9 c9 dH aN (by
        rcases bK with h|h
        . exact .inl h
        . right;omega) (by rw[hs];exact bG)
       have eQ:Zz (jY w l p F H e lk (.int .i64 1) {g.st with frames:=g.st.frames++[⟨⟨⟨c,b⟩,j⟩,0,vs++List.replicate (a.locals.toNat - vs.length) lQ,[]⟩]} (.returned (.int .i64 1)) (gU.setCell (e,3) (g9,g.cs.length+1,c9))):=
        Zy (jY.mk' (fe.mo dD (fun d u=>bZ.o d u)) (fun d u=>(dK d Zm).trans (bZ d u)) dF hs)
       clear dD dK dF hs bG aT dH aN bK s gQ O X Y gH gI gJ gK gL gM gN gP;refine kC ?_;go_wp2_with fail;go_ret;rw[v.o];exact eQ
   have dh:=Zy eB;clear eB A;cases R with
   | none =>
    have dO:a.args=[]:=by
     cases gp:a.args with
     |nil=>rfl
     |cons k aY=>
      rw[gp]at aG;obtain⟨_,_,_,h,_⟩:=aG.get (i:=0) (x:=k) rfl;cases h
    have aP:(o.alloc (.cells #[.int .i64 2,b] 137)).ownsRow o 137 2 (.slice (some ⟨o,0,none⟩) 1 1) (a.args.length+1) ((Kind.mk 2 b::a.args).flatMap fun k=>[k.kind,k.name]):=by
     rw[dO];exact Ty o #[.int .i64 2,b] 1 (R5 _) (by unfold maxLen;omega) rfl
    have hT:=dh.o (.slice (some ⟨o,0,none⟩) 1 1) (.slice (some ⟨o,0,none⟩) 1 1) _ (kx:Ext o (o.alloc (.cells #[.int .i64 2,b] 137))) aP;simp only[dO,Ti]at hT;have fI:=Zy hT;clear hT aP;go_wp2_with fail;exact fI
   |some ad=>
    have dM:=SliceOf.toFlat (R:=l7) (enc:=fun k=>[k.kind,k.name]) (fun _ _ _ _ h=>h) (fun _=>rfl) Zt aG;have bq:=Zy dM;clear aG dM;have gu:1+a.args.length<=8589934592:=Z0 aK.GJ
    have aP:(o.alloc (.cells #[.int .i64 2,b] 137)).ownsRow o 137 2 (.slice (some ⟨o,0,none⟩) 1 1) 1 [.int .i64 2,b]:=Ty o _ 1 (R5 _) (by unfold maxLen;omega) rfl;have fD:=Zy aP;clear aP;go_wp2_with (at_builtin;refine jP Ke _ rfl (.tmp 41) (.tmp 43) rfl o _ 1 [.int .i64 2,b] rfl fD ad a.args.length S _ rfl (bq.ext kx) gu Zl ?_);intro v' G dR aF;have⟨fB,bg⟩:=je dR ((kx:Ext o (o.alloc (.cells #[.int .i64 2,b] 137))).own aF (fun d h=>by simp only[Value.ownBlock,Tz]at h;omega));clear dR aF;go_wp2_with fail;exact dh _ _ _ bg (by rw[Nat.add_comm];exact fB)
  clear A;have df:=Zy eu;clear eu;refine qA s 7 (.two [0,1,2,3,4] 5 6 (.one [] 6 (.fin [])) (.one [] 5 (.fin []))) ?_ ?_
  . exact jf
  refine two [_,_,_,_,_] rfl rfl rfl fun P A=>?_;(repeat (go_big_quiet_step (fail)));((refine Gf A (fun z m=>?_) fun z m=>?_)<;>clear A P)
  . go_wp2_with fail;have ay:=lq r.drew l p (aC.ku.ext jf) ⟨⟨c,b⟩,j⟩ HX;rw[HM.o]at ay;refine ay.mono ?_;rintro h o ⟨⟨cs,E,rfl⟩,C⟩;obtain⟨K,rfl⟩:=nI E;have⟨aa,aL⟩:=je ((jf).trans C) E;clear E C ay;simp only[mg];go_wp2_with fail;refine kk s m aa ?_;clear m z;refine jZ rfl fun z m=>?_;go_wp2_with fail;refine kk s m (aa.alloc _) ?_;clear m z;clear s aA O X Y;refine kM ?_;go_wp2_with fail;exact df _ _ K (aa.alloc _) (hV.new _ _ _) aa.size (jL.ext jd.stays (kx:Ext o _) aL)
  . go_wp2_with fail;refine kk s m ((jf).alloc _) ?_;clear m z;refine jZ rfl fun z m=>?_;go_wp2_with fail;have b5:hV (r.alloc (.cells #["",(),.int .i64 0, "",.int .i64 0,.int .i64 0,(),()] 141)).drew r 141 #["",(),.int .i64 0, "",.int .i64 0,.int .i64 0,(),()]:=(hV.new _ _ _).ext jf;have ay:=lq ((r.alloc (.cells #["",(),.int .i64 0, "",.int .i64 0,.int .i64 0,(),()] 141)).drew) l p (aC.ku.ext (jr _).drew) ⟨⟨c,b⟩,j⟩ HX;rw[HM.o]at ay;refine ay.mono ?_;rintro h o ⟨⟨cs,E,rfl⟩,C⟩;obtain⟨K,rfl⟩:=nI E;have aa:=Zy ((((Kp.refl _ r).alloc _).drew).trans C);have aR:=b5.ext C;obtain⟨z5,y0,y1,y2,y3,y4,y5,y6,y7,-⟩:=aR.ca;obtain⟨g0,g1,g2,g3,g4,g5,g6,g7,-⟩:=aR.fz;obtain⟨G,aX⟩:=Ry (((((((((o.setCell r (.string a.name)).setCell (r,1) (.slice K.a1 a.args.length K.c1)).setCell (r,2) (.int .i64 a.ret.kind)).setCell (r,3) (.string a.ret.name)).setCell (r,4) (.int .i64 a.locals)).setCell (r,5) (.int .i64 a.stack)).setCell (r,6) (.slice K.a2 a.code.length K.c2)).setCell (r,7) (.slice K.a3 a.maps.length K.c3)));have aF:Kp (·=r) o G:=by rw[aX];exact Kp.yQ (D:=(·=r)) rfl _ _ _ _ _ _ _ _
    have b9:hV G r 141 (mg a K).toArray:=by rw[aX];exact aR.yQ _ _ _ _ _ _ _ _
    have iG:=aC.ku.lt;have iq:=aC.ku.ord;have⟨bg,aL,eF,fQ⟩:=jV (aa.own aF (fun k h=>Zm)) (jL.kp jd.stays aF (fun d u h=>Zm) E) b9 aX;clear b5 aR E C aX aF b9 ay;simp only[mg];go_wp2_with fail;refine kk s m aa ?_;clear m z;clear s aA O X Y;refine kM ?_;go_wp2_with fail;rw[<-fQ.o];exact df _ _ K bg eF (R5 _) aL
 clear A;have⟨cZ,fU⟩:=je ed ek;clear ed ek;cases lk
 . replace v:Zz (enter p false ⟨⟨c,b⟩,j⟩ vs g.st=if pq p c g.st.heap vs (⟨2,b⟩::a.args)then(1,{g.st with frames:=g.st.frames++[⟨⟨⟨c,b⟩,j⟩,0,vs++List.replicate (a.locals.toNat - vs.length) lQ,[]⟩]})else(10,g.st)):=Zy v.o;refine kD s 13 [([0,1,2,3,4,5,6,7,8,9],10)] [11,12] ?_ ?_
   . exact(LC.refl D.ku).drew
   refine lS ?_;intro z m;go_wp2_with fail;refine kk s m (LC.refl D.ku).drew ?_;clear m z;refine sK ?_;go_wp2_with fail;exact cZ _ _ _ _ _ _ _ _ _ (LC.refl D.ku).drew v
 . refine kD s 13 [([0,1,2,3,4,5,6,7,8,9],10)] [11,12] ?_ ?_
   . exact(LC.refl D.ku).drew
   refine lS ?_;intro z m;go_wp2_with fail;refine((fH Zl) _ _ _ (D.ku.ext jf) ⟨⟨c,b⟩,j⟩ HX).mono ?_;rintro h r ⟨rfl,dB,dE⟩;have aB:=Zy ((LC.refl D.ku).drew.step dE dB);clear dB dE;cases hr:M.right p ⟨⟨c,b⟩,j⟩
   . rw[hr]at v;replace v:Zz (enter p true ⟨⟨c,b⟩,j⟩ vs g.st=(5,g.st)):=Zy v.o;clear hr;go_wp2_with fail;refine kk s m aB ?_;clear m z;refine sK ?_;go_wp2_with fail;exact fU _ _ _ _ _ _ _ _ _ aB v
   . rw[hr]at v;replace v:Zz (enter p true ⟨⟨c,b⟩,j⟩ vs g.st=if pq p c g.st.heap vs (⟨2,b⟩::a.args)then(1,{g.st with frames:=g.st.frames++[⟨⟨⟨c,b⟩,j⟩,0,vs++List.replicate (a.locals.toNat - vs.length) lQ,[]⟩]})else(10,g.st)):=Zy v.o;clear hr;go_wp2_with fail;refine kk s m aB ?_;clear m z;refine sK ?_;go_wp2_with fail;exact cZ _ _ _ _ _ _ _ _ _ aB v
theorem F7{w:World}{l:jh}{p:hZ}{m:Own}{i x:Nat}{lk:Bool}{g:Gh}(b:ji w l p m i x lk g)(r:List GC)(c:GC)(d:g.cs=r++[c])(st vs:List Val)(n:Nat)(k:c.f.stack=st++vs)(s:vs.length=n)(t:0<n):Calls prog 125 #[some (c.cb,13),n] w fun a h=>∃f,a=.returned (.tuple #[f,.bool true])/\h.ownsRow w 37 2 f n (vs.flatMap jW)/\Kp (PO m (Gz r.length)) w h/\∃B,ji h l p m i x lk (g.kI r c st B):=by
 have e:=b.at_ d;have A:=jA.1 (b.C9 d);have F:=(b.mi d).stack;have G:=A.2.2.2.2.1;have j:c.f.stack.length=st.length+n:=by rw[k];simp[s]
 refine(qY w c.cb 13 i _ _ c.vs c.f.stack.length c.f.stack e.blk rfl e.kI.row rfl n Zm t Zm (fun a=>by have:=e.kI.role _ a;rw[e.role]at this;cases this)).mono ?_;rintro a h ⟨f,rfl,u,⟨C,H,v,q⟩,o⟩;rw[j]at v;rw[j,SE]at q;have y:c.f.stack.drop (c.f.stack.length - n)=vs:=by rw[j,SE,k,List.drop_left]
 rw[y]at u;obtain⟨E,z⟩:=b.popped d v ⟨vs,k,s⟩ t q o;exact⟨f,rfl,u,b.Gt d (o.weak fun D _ a=>.inl a),_,z⟩
theorem Ob {w: World} {l: jh} {p: hZ} {X: Own} {aT mb: Nat} {lk: Bool} (bY : Zz (lk = true -> xC)) {g: Gh} (I : ji w l p X aT mb lk g) (r : List GC) (c : GC) (dn : g.cs = r ++ [c]) (dF : g.status = 1) (i : Ins) (hi : nO (M.method p c.f.of) i = true) (bG : i.op = 9) :Calls prog 82 #[some mb,.agg #[i.op,i.a,i.name,i.member]] w (jY w l p X aT mb lk (.int .i64 (jF p lk i g.st).1) (jF p lk i g.st).2):=by
 have HI := Zy (qR hi); obtain ⟨w0, dH, bn, b3⟩ := nu w #[i.op, i.a, i.name, i.member] 149; have dZ := Zy (I.fresh (R5 _)); have aX : Zz (∀ A, w.heap.size <= A -> ¬ MO l X A) := Zy (fun A Q => I.fresh Q); have fq := I.ku.lt; have eZ := I.ku.ord.2.2; have ⟨bN, dU, dP, eu, R⟩ := mr (I.ext bn) bn b3 dH dn; have fI := b3.lt; clear I bn b3 dH dn hi; obtain ⟨⟨⟨⟨k, m⟩, C⟩, cd⟩, hF⟩ : ∃ dN, call p c.f.of.of.keeper i.name i.member = dN := ⟨_, rfl⟩; have h : Zz (jF p lk i g.st = if cd = 1 then (match nL ((M.method p ⟨⟨k, m⟩, C⟩).args.length + 1) g.st with
     |some (e,s1)=>if object p (e.headD lQ) ⟨k,m⟩ s1=1 then(match pick p (uX s1.heap (e.headD lQ).n) i.member with
         |some H=>enter p lk H e s1
         |none=>(10,s1))else(object p (e.headD lQ) ⟨k,m⟩ s1,s1)
     |none=>(10,g.st))else(4,g.st)):=Zy (by
  unfold jF;rw[bG];simp only[Gh.top R.o,hF];rfl)
 have⟨HF,eY⟩:=je hF bG;clear bG;go_enter func82,ntmps82;go_wp2_with fail;rw[<-eu.o];refine(kV _ _ _ _ _ _ _ _ bN r c R).mono ?_;rintro n y ⟨rfl,aH⟩;have⟨HA,dV,aV⟩:=jy (bN.ext aH) (dU.trans aH) (dP.ext aH);have dh:l.L<y:=HA.ku.lt;have fe:l.D<y.heap.size:=Zm
 have fJ:(w:Nat)<y:=aV.lt;have dw:∀q,LC l p y q->Calls prog 97 #[some l.L,c.f.of.of.keeper,i.name,i.member] q fun n w'=>∃D,n=.returned (.tuple #[.agg #[k,m,C],D])/\yS D cd/\Kp (·=l.D) q w'/\LC l p y w':=fun q Z=>by
  have hl:=uw q l p Z.at_ c.f.of.of.keeper i.name i.member;rw[HF.o]at hl;refine hl.mono ?_;rintro n w' ⟨⟨D,rfl,J⟩,hL,t⟩;exact⟨D,rfl,J.weak,t,Z.step hL t⟩
 have aC := Zy dw; have d := Zy (LC.refl HA.ku).drew; obtain ⟨cu, cz, dA, z⟩ := rA.ex (fun W' => LC l p y W') y (LC.refl HA.ku); have av := fun j => (HA.oJ (z.jm j).kp (z.jm j).at_).blk.c 0 (some l.L) rfl; obtain ⟨-,-,-, aO, aP,-⟩ := hV.lL fun j => (aV.kp (z.jm j).kp Zm); have f := Zy z; clear z dw aH; go_wp2_with fail; rename_i V t; have dM : ∀ (b6 : Nat) (w7 : World) (D : Value), LC l p y w7 -> hV w7 b6 65 #[k, m, C] -> y <= b6 -> yS D cd -> V { tmps := #[.pointer (some ⟨mb, 0, none⟩), .agg #[i.op, i.a, i.name, i.member], undef, .pointer (some ⟨w, 0, none⟩), .int .i64 0, .pointer (some ⟨c.cb, 0, none⟩), .pointer (some ⟨b6, 0, none⟩), D, undef, undef, undef, undef, undef, .pointer (some ⟨mb, 0, none⟩), .pointer (some ⟨c.cb, 0, none⟩), .tuple #[.agg #[k, m, C], D], .pointer (some ⟨mb, 0, none⟩), .pointer (some ⟨mb, 0, none⟩), .pointer (some ⟨mb, 0, none⟩), .pointer (some ⟨l.L, 0, none⟩), .pointer (some ⟨c.cb, 0, none⟩), .int .i64 c.f.of.of.keeper, .pointer (some ⟨w, 2, none⟩), .string i.name, .pointer (some ⟨w, 3, none⟩), .string i.member, .tuple #[.agg #[k, m, C], D], .agg #[k, m, C], D, undef, undef, undef, undef, undef, undef, undef, undef, undef, undef, undef, undef, undef, undef, undef, undef, undef, undef, undef, undef, undef, undef, undef, undef, undef, undef, undef, undef, undef, undef, undef, undef, undef, undef, undef, undef, undef, undef, undef, undef, undef, undef, undef, undef, undef, undef, undef, undef, undef, undef, undef, undef, undef, undef, undef, undef, undef], defers := [] } w7 := by
  intro b6 w7 D hC cK aa J;refine t _ _ ?_;clear t f av aO aP d aC;have T:=Zy (HA.oJ hC.kp hC.at_);have aD:Zz (Kp (MO l X) w w7):=Zy (dV.any.trans hC.mo);have⟨o,dQ,bR⟩:=jy cK (aV.kp hC.kp Zm) (aX b6 Zm);clear hC cK;rcases J with⟨rfl,rfl⟩|⟨L,eb,rfl⟩;rotate_left
  . replace h:Zz (jF p lk i g.st=(4,g.st)):=Zy (by rw[h.o,RX L]);clear L;go_wp2_with fail;go_ret;rw[h.o];exact jY.mk' aD (mV.refl _ _) T rfl
  have aJ:ky p ⟨⟨k,m⟩,C⟩=true:=by
   have K:(call p c.f.of.of.keeper i.name i.member).2=1:=by rw[HF.o]
   obtain⟨rr,aB⟩:=qM K;rw[HF.o]at aB;exact qy aB
  have eX := Zy aJ; have bB := tu (nD T.ku.ok aJ).1; obtain ⟨s, hm⟩ : ∃ s, M.method p ⟨⟨k, m⟩, C⟩ = s := ⟨_, rfl⟩; have bC := fun q (Z : jg q l p) => lq q l p Z ⟨⟨k, m⟩, C⟩ aJ; rw [hm] at bB bC; replace h : Zz (jF p lk i g.st = (match nL (s.args.length + 1) g.st with
   |some (e,s1)=>if object p (e.headD lQ) ⟨k,m⟩ s1=1 then(match pick p (uX s1.heap (e.headD lQ).n) i.member with
       |some H=>enter p lk H e s1
       |none=>(10,s1))else(object p (e.headD lQ) ⟨k,m⟩ s1,s1)
   |none=>(10,g.st))):=Zy (by rw[h.o,RV rfl,hm])
  have fu:=bB.GJ;have⟨dY,HM⟩:=je bC hm;obtain⟨cu,cz,dA,z⟩:=rA.ex (fun W'=>Kp (PO X (Gz r.length)) w7 W') _ Kp.rr;have no:∀A Y,X A=some Y->¬Gz r.length Y->¬PO X (Gz r.length) A:=fun A Y Q hq ⟨q',K,h2⟩=>by rw[Q]at K;cases K;exact hq h2
  have dI:∀A,¬MO l X A->¬PO X (Gz r.length) A:=fun A Q hp=>Q hp.mo;have av:=fun j=>(T.blk.kp (z.jm j) (no _ _ T.role (by simp[Gz]))).c 0 (some l.L) rfl;obtain⟨-,aQ,aR,eP,-⟩:=hV.lL fun j=>(o.kp (z.jm j) (dI _ bR));have f:=Zy z;have fH:IntKind.i64.wrap ((s.args.length:Int)+1)=s.args.length+1:=RQ _ Zm;clear z aJ bB hm bC no dI;go_wp2_with fail;refine kD f 17 [([0,1,2,3,4,5,6,7],8),([9,10,11],12)] [13,14,15,16] ?_ ?_
  . exact jf
  refine lS ?_;intro b a;go_wp2_with fail;refine(dY _ (T.ku.ext jf)).mono ?_;rintro n w8 ⟨⟨cs,dz,rfl⟩,df⟩;obtain⟨eQ,rfl⟩:=nI dz;obtain⟨a1,c1,a2,c2,a3,c3⟩:=eQ;have S:=Zy (((Kp.refl _ w7).drew:Ext w7 _).trans df);have eF:∀q,(Instr.field 141 (.agg (mg s ⟨a1,c1,a2,c2,a3,c3⟩).toArray) 1).run prog q=.ok (.slice a1 s.args.length c1) q:=(fun q=>by kernel_rfl);simp only[mg]at eF |-;clear dz df;go_wp2_with fail;refine kk f a S.any ?_;clear a b;refine lS ?_;intro b a;by_cases aK:c.f.stack.length<s.args.length+1
  . replace h:Zz (jF p lk i g.st=(10,g.st)):=Zy (by rw[h.o,Gh.yM R.o aK]);have dC:=uA (T.ext S) r c R (s.args.length+1) aK Zm;have ek:=Zy dC;clear dC aK;go_wp2_with fail;refine ek.mono ?_;rintro n w9 ⟨rfl,rfl⟩;go_wp2_with fail;refine kk f a S.any ?_;clear a b;refine sP [_,_,_,_] rfl fun V t=>?_;(repeat (go_big_quiet_step (fail)));refine qn t ?_;clear t V;go_wp2_with fail;go_ret;rw[h.o];exact jY.mk' (aD.trans S.any) (mV.refl _ _) (T.ext S) rfl
  . obtain ⟨B, e, hs, aM⟩ : ∃ B e, c.f.stack = B ++ e /\ e.length = s.args.length + 1 :=
     ⟨c.f.stack.take (c.f.stack.length - (s.args.length+1)),c.f.stack.drop (c.f.stack.length - (s.args.length+1)),(Tx _ _).symm,by rw[Tw];omega⟩
    have dG:=(jA.1 (T.C9 R)).2.2.2.2.2.2;have bf:=Zy (fun eT hv=>by simpa [Gh.st]using dG eT (by rw[hs];exact List.mem_append_right _ hv));have aF:Zz (∀x,jF p lk i g.st=if object p (e.headD lQ) ⟨k,m⟩ (g.kI r c B x).st=1 then(match pick p (uX g.st.heap (e.headD lQ).n) i.member with
        |some H=>enter p lk H e (g.kI r c B x).st
        |none=>(10,(g.kI r c B x).st))else(object p (e.headD lQ) ⟨k,m⟩ (g.kI r c B x).st,(g.kI r c B x).st)):=Zy (fun x=>by rw[h.o,Gh.nL R.o hs aM x];rfl)
    have dD:=F7 (T.ext S) r c R B e (s.args.length+1) hs aM Zm;have⟨bV,aG⟩:=je dD aM;clear dD aK hs dG h aM;obtain⟨⟨ok,on⟩,aA⟩:∃bK,e[0]?=some bK:=⟨e[0]'(Z0 aG.o),Rz _⟩;have dx:e.headD lQ=⟨ok,on⟩:=by
     cases e with
     |nil=>cases aA
     |cons fK r=>simpa using aA
    rw[dx]at aF;simp only at aF;have⟨bT,dW⟩:=je (bf _ (R3 aA)) aA;clear dx aA;go_wp2_with fail;refine bV.mono ?_;rintro n w9 ⟨v',rfl,W,bq,x,di⟩;have h:=Zy (aF x);obtain⟨P,gc,rfl,fA,-⟩:=jS W Zm;have⟨dX,aZ,bQ,bX⟩:=jV ((aD.trans S.any).trans (bq.weak fun A _ n=>n.mo)) (S.any.trans bq) di W;clear W bq di bV aF;go_wp2_with fail;refine kk f a aZ ?_;clear a b;clear f av aQ aR eP;refine sP [_,_,_,_] rfl fun V t=>?_;(repeat (go_big_quiet_step (fail)));refine qn t ?_;clear t V;have aI:=lK (enc:=jW) (k:=2) (fun _=>rfl) bX dW;have cO:=o.kp aZ (fun hp=>bR.o hp.mo);have cB:=dQ.kp aZ (fun hp=>dZ.o hp.mo);obtain⟨cu,cz,dA,z⟩:=kY w9;have bL:=fun j=>(hH.ext aI (z.jm j)).two.1;have bM:=fun j=>(hH.ext aI (z.jm j)).two.2;simp only[Sj,RO]at bL bM;obtain⟨-,aQ,aR,-⟩:=hV.lL fun j=>(cO.ext (z.jm j));have⟨f,dS,dR⟩:=jy z aI cB;have fB:(0:Int)<s.args.length+1:=Zm
    clear z aI cO cB;go_wp2_with fail;refine kD f 7 [([0,1,2,3,4,5],6)] [] ?_ ?_
    . exact jf
    refine lS ?_;intro b a;go_wp2_with fail;refine(xQ (bQ.ext jf) ⟨ok,on⟩ bT ⟨k,m⟩).mono ?_;rintro n N ⟨rfl,cZ⟩;have ag:=Zy (((Kp.refl _ w9).drew:Ext w9 _).trans cZ);have⟨v,aj⟩:=je (bQ.ext ag) (dX.trans ag.any);clear cZ;obtain⟨ob,ae⟩:∃ob,object p ⟨ok,on⟩ ⟨k,m⟩ (g.kI r c B x).st=ob:=⟨_,rfl⟩;by_cases aL:ob=1;rotate_left
    . replace h:Zz (jF p lk i g.st=(ob,(g.kI r c B x).st)):=Zy (by rw[h.o,ae,RX aL]);have fF:=RS.2 aL;rw[ae];clear ae aL;go_wp2_with fail;refine kk f a ag ?_;clear a b;clear f bL bM aQ aR;refine kC ?_;go_wp2_with fail;go_ret;rw[h.o];exact jY.mk' aj (mV.refl _ _) v rfl
    . subst aL;replace h:Zz (jF p lk i g.st=(match pick p (uX g.st.heap on) i.member with
       |some H=>enter p lk H e (g.kI r c B x).st
       |none=>(10,(g.kI r c B x).st))):=Zy (by rw[h.o,RV ae])
      have bS:=Zy ae;obtain⟨bF,-⟩:=uC ae;simp only at bF;obtain⟨eO,bD⟩:=sF bT bF;simp only at eO bD;obtain⟨af,rfl⟩:∃af:Nat,on=af:=⟨on.toNat,Zm⟩;obtain⟨go,bz⟩:∃bK,g.os[af]?=some bK:=⟨g.os[af]'Zm,Rz _⟩;have aY:Zz (uX g.st.heap af=go.o.of):=Zy (Ag (by simp[Gh.st,bz]));obtain⟨rr,dE⟩:∃rr,pick p rr i.member=some ⟨⟨k,m⟩,C⟩:=by
       have K:(call p c.f.of.of.keeper i.name i.member).2=1:=by rw[HF.o]
       obtain⟨rr,aB⟩:=qM K;rw[HF.o]at aB;exact⟨rr,aB⟩
      have bW:=Zy dE;obtain⟨F,G,E,pb,bH,dB⟩:∃F G E pb,((pick p go.o.of i.member).getD p9=⟨⟨F,G⟩,E⟩/\(pick p go.o.of i.member).isSome=pb)/\((pb=false->pick p (uX g.st.heap af) i.member=none)/\(pb=true->pick p (uX g.st.heap af) i.member=some ⟨⟨F,G⟩,E⟩)):=by
       rw[aY.o];cases n:pick p go.o.of i.member with
       |none=>exact⟨_,_,_,_,⟨rfl,rfl⟩,(fun _=>rfl),(fun I=>by cases I)⟩
       |some H=>exact⟨H.of.keeper,H.of.name,H.at_,true,⟨rfl,rfl⟩,(fun I=>by cases I),(fun _=>rfl)⟩
      have ak:=Zy dB;have bI:=fun q (Z:jg q l p)=>Dq q l p Z go.o.of i.member;rw[bH.1,bH.2]at bI;have bU:=Zy bI;have W:=v.heap.row;obtain⟨ha,dm,bJ⟩:=v.heap.form;rw[bJ]at W;obtain⟨Q,fw,eb,-⟩:=jS W (by show 0<g.os.length;omega);cases eb;have bu:=lK (enc:=pR) (k:=3) (fun _=>rfl) W (l:=g.os) bz;have fo:l.D<w.heap.size:=Zm
      have fG:(w:Nat)<=N:=aj.size;have eD:l.L<N:=Zm
      have eH:w<=P:=Z4 S.size aD.size
      have bP:=Zy eH;have bZ:Zz (∀q,Kp (·=l.D) N q->q.ownsRow w8 37 2 (.slice (some ⟨P,0,none⟩) (s.args.length+1) gc) e.length (e.flatMap jW)):=Zy (fun q Z=>by
       rw[show e.length=s.args.length+1 from aG.o];exact iZ (iZ (D:=fun _=>False) bX ag fun _ _ _ H=>H) Z (fun Y hq _ n=>by
        have K:P=Y:=by simpa [Value.ownBlock]using hq
        omega))
      have bE:∀A,aT<=A->¬A=l.D:=fun A Q n=>Z4 v.hB v.ku.ord
      obtain⟨T2,f2,fD,O⟩:=rA.ex (fun W'=>LC l p N W') N (LC.refl v.ku);have s0:=fun j=>(v.oJ (O.jm j).kp (O.jm j).at_).blk.c 0 (some l.L) rfl;have s4:=fun j=>(v.oJ (O.jm j).kp (O.jm j).at_).blk.c 4 (Q,g.os.length,dm) (by rw[show(Value.slice (some ⟨Q,0,none⟩) g.os.length dm)=g.vh from bJ.symm];rfl);have eG:¬P=l.D:=Zm
      have sg:=fun j=>(O.jm j).kp.lW (hH.ext dS ag).two.2 eG;simp only[Sj,RO]at sg;have bA:=(W.lt Q rfl).1;have dK:=fun j=>(O.jm j).kp.lW bu.three.1 (bE _ bA);have dL:=fun j=>(O.jm j).kp.lW bu.three.2.1 (bE _ bA);have dJ:=fun j=>((dR.ext ag).kp (O.jm j).kp Zm).c 3 i.member rfl;have U:=Zy O;have fC:(af:Int)<g.os.length:=bD;have fE:(0:Int)<s.args.length+1:=Zm
      clear O W bu bJ bz bI bH dB dE bF bD bE bA;rw[ae];clear ae;go_wp2_with fail;refine kk f a ag ?_;clear a b;clear f bL bM aQ aR;refine kC ?_;go_wp2_with fail;(refine Cc f2 23 (.two [0,1,2,3,4,5,6,7,8,9,10,11,12,13,14,15,16] 17 21 (.one [18,19,20] 21 (.one [] 22 (.fin []))) (.one [] 17 (.one [18,19,20] 22 (.fin [])))) (U.o.o _ ?_) Zo Zo (fun _ _ eB _ _ I=>by cases eB<;>exact I) ?_)
      . exact(LC.refl v.ku).drew
      refine two [_,_,_,_,_,_,_,_,_,_,_,_,_,_,_,_,_] rfl rfl rfl fun V t=>?_;(repeat (go_big_quiet_step (fail)));((refine Gf t (fun b a=>?_) fun b a=>?_)<;>clear t V)
      . go_wp2_with fail;refine(bU _ (v.ku.ext jf)).mono ?_;rintro n wP ⟨rfl,az,au⟩;have ai:=Zy ((LC.refl v.ku).drew.step az au);clear az au;go_wp2_with fail;((refine a _ _ (U.o.o _ ai) ?_);clear a b);refine Cf ?_;intro b a;go_wp2_with fail;((refine a _ _ (U.o.o _ (ai.ext (jr _))) ?_);clear a b);refine jZ rfl fun b a=>?_;go_wp2_with fail;obtain⟨aS,aN⟩:=Ry (wP.alloc (.cells #[.int .i64 F,.string G,.int .i64 E] 65));rw[<-aN];have u:Zz (LC l p N aS):=Zy (by rw[aN];exact ai.ext (jr _));have aU:Zz (hV aS wP 65 #[.int .i64 F,.string G,.int .i64 E]):=Zy (by rw[aN];exact hV.new _ _ _);((refine a _ _ (U.o.o _ u) ?_);clear a b);clear U s0 s4 sg dK dL dJ aN;refine kM ?_;cases pb
        . replace h:Zz (jF p lk i g.st=(10,(g.kI r c B x).st)):=Zy (by rw[h.o,ak.o.1 rfl]);go_wp2_with fail;go_ret;rw[h.o];skip;exact jY.mk' (aj.trans u.mo) (mV.refl _ _) (v.oJ u.kp u.at_) rfl
        . replace h:Zz (jF p lk i g.st=enter p lk ⟨⟨F,G⟩,E⟩ e (g.kI r c B x).st):=Zy (by rw[h.o,ak.o.2 rfl]);have ah:=Zy (ak.2 rfl);have ed:Zz (pick p go.o.of i.member=some ⟨⟨F,G⟩,E⟩):=Zy (by rw[<-aY.o];exact ah);obtain⟨ez,e0,e1,e2,-⟩:=aU.ca;go_wp2_with fail;skip;refine(zq _ _ _ _ _ _ _ bY _ (v.oJ u.kp u.at_) dF ⟨⟨F,G⟩,E⟩ (qy ah) w8 (.slice (some ⟨P,0,none⟩) (s.args.length+1) gc) e (bZ _ u.kp) (fun Y hq=>by
           have K:P=Y:=by simpa [Value.ownBlock]using hq
           rw[<-K];exact aX P bP) bf (by
           have:=Bg bW (uC bS).2 ah;rw[this,HM.o];exact aG)).mono ?_
          rintro n eU ay;have HZ:=Zy (jY.after (aj.trans u.mo) (mV.refl _ _) ay);obtain⟨rfl,-⟩:=ay;rw[<-h.o]at HZ |-;clear e0 e1 e2 ez;go_wp2_with fail;go_ret;exact HZ
      . go_wp2_with fail;((refine a _ _ (U.o.o _ ((LC.refl v.ku).drew.ext (jr _))) ?_);clear a b);refine jZ rfl fun b a=>?_;have bO:Zz (LC l p N (N.drew.alloc (.cells #[.int .i64 0, "",.int .i64 0] 65))):=Zy ((LC.refl v.ku).drew.ext (jr _));have dO:Zz (hV (N.drew.alloc (.cells #[.int .i64 0, "",.int .i64 0] 65)) N 65 #[.int .i64 0, "",.int .i64 0]):=Zy (hV.new _ _ _);go_wp2_with fail;refine(bU _ bO.at_).mono ?_;rintro n wP ⟨rfl,az,au⟩;have⟨ai,aW⟩:=je (bO.step az au) (dO.kp au Zm);clear az au;go_wp2_with fail;((refine a _ _ (U.o.o _ ai) ?_);clear a b);refine Cf ?_;intro b a;obtain⟨z6,y0,y1,y2,-⟩:=aW.ca;obtain⟨g0,g1,g2,-⟩:=aW.fz;have⟨u,aU⟩:=je (LC.own ai (Kp.uG (D:=(·=N)) rfl (.int .i64 F) (.string G) (.int .i64 E)) (R5 _) eD) (aW.uG (.int .i64 F) (.string G) (.int .i64 E));go_wp2_with fail;((refine a _ _ (U.o.o _ u) ?_);clear a b);clear U s0 s4 sg dK dL dJ y0 y1 y2 g0 g1 g2 z6;refine kM ?_;cases pb
        . replace h:Zz (jF p lk i g.st=(10,(g.kI r c B x).st)):=Zy (by rw[h.o,ak.o.1 rfl]);go_wp2_with fail;go_ret;rw[h.o];skip;exact jY.mk' (aj.trans u.mo) (mV.refl _ _) (v.oJ u.kp u.at_) rfl
        . replace h:Zz (jF p lk i g.st=enter p lk ⟨⟨F,G⟩,E⟩ e (g.kI r c B x).st):=Zy (by rw[h.o,ak.o.2 rfl]);have ah:=Zy (ak.2 rfl);have ed:Zz (pick p go.o.of i.member=some ⟨⟨F,G⟩,E⟩):=Zy (by rw[<-aY.o];exact ah);obtain⟨ez,e0,e1,e2,-⟩:=aU.ca;go_wp2_with fail;skip;refine(zq _ _ _ _ _ _ _ bY _ (v.oJ u.kp u.at_) dF ⟨⟨F,G⟩,E⟩ (qy ah) w8 (.slice (some ⟨P,0,none⟩) (s.args.length+1) gc) e (bZ _ u.kp) (fun Y hq=>by
           have K:P=Y:=by simpa [Value.ownBlock]using hq
           rw[<-K];exact aX P bP) bf (by
           have:=Bg bW (uC bS).2 ah;rw[this,HM.o];exact aG)).mono ?_
          rintro n eU ay;have HZ:=Zy (jY.after (aj.trans u.mo) (mV.refl _ _) ay);obtain⟨rfl,-⟩:=ay;rw[<-h.o]at HZ |-;clear e0 e1 e2 ez;go_wp2_with fail;go_ret;exact HZ
 have bg:=Zy dM;clear dM t;refine qA f 16 (.two [0,1,2,3,4,6,7,8,9] 5 14 (.two [] 10 14 (.one [11,12,13] 14 (.one [] 15 (.fin []))) (.one [] 10 (.one [11,12,13] 15 (.fin [])))) (.one [] 5 (.one [] 10 (.one [11,12,13] 15 (.fin []))))) ?_ ?_
 . exact d
 refine two [_,_,_,_,_,_,_,_,_] rfl rfl rfl fun V t=>?_;(repeat (go_big_quiet_step (fail)));((refine Gf t (fun b a=>?_) fun b a=>?_)<;>clear t V)
 . go_wp2_with fail;refine(mQ c.f.of.of.keeper (((HA.oJ d.kp d.at_).at_ R).blk.c 0 _ rfl)).mono ?_;rintro n we ⟨rfl,rfl⟩;go_wp2_with fail;refine kk f a d ?_;clear a b;refine EG rfl rfl (fun b a=>?_) fun b a=>?_
   . go_wp2_with fail;refine(aC _ d).mono ?_;rintro n wc ⟨D,rfl,J,hk,L⟩;replace d:=Zy L;have ax:=Zy J;clear hk L J;go_wp2_with fail;refine kk f a d ?_;clear a b;refine Cf ?_;intro b a;go_wp2_with fail;refine kk f a (d.ext (jr _)) ?_;clear a b;refine jZ rfl fun b a=>?_;go_wp2_with fail;refine kk f a (d.ext (jr _)) ?_;clear a b;have aa:=d.kp.size;have o:=Zy (hV.new (wc) 65 #[k,m,C]);replace d:=Zy (d.ext (jr (.cells #[k,m,C] 65)));clear f av aO aP;refine kM ?_;go_wp2_with fail;exact bg _ _ _ d o aa ax
   . go_wp2_with fail;refine kk f a (d.ext (jr _)) ?_;clear a b;have aa:(y:Nat)<=y:=d.kp.size;have o:Zz (hV (y.drew.alloc (.cells #[.int .i64 0, "",.int .i64 0] 65)) y 65 #[.int .i64 0, "",.int .i64 0]):=Zy (hV.new _ _ _);replace d:=Zy (d.ext (jr (.cells #[.int .i64 0, "",.int .i64 0] 65)));refine jZ rfl fun b a=>?_;go_wp2_with fail;refine(aC _ d).mono ?_;rintro n wc ⟨D,rfl,J,hk,L⟩;replace o:=Zy (o.kp hk Zm);replace d:=Zy L;have ax:=Zy J;clear hk L J;go_wp2_with fail;refine kk f a d ?_;clear a b;refine Cf ?_;intro b a;obtain⟨z6,y0,y1,y2,-⟩:=o.ca;obtain⟨g0,g1,g2,-⟩:=o.fz;go_wp2_with fail;replace d:=Zy (LC.own d (Kp.uG (D:=(·=_)) rfl k m C) aa dh);replace o:=Zy (o.uG k m C);refine kk f a d ?_;clear a b;clear y0 g0 y1 g1 y2 g2 z6;clear f av aO aP;refine kM ?_;go_wp2_with fail;exact bg _ _ _ d o aa ax
 . go_wp2_with fail;refine kk f a (d.ext (jr _)) ?_;clear a b;have aa:(y:Nat)<=y:=d.kp.size;have o:Zz (hV (y.drew.alloc (.cells #[.int .i64 0, "",.int .i64 0] 65)) y 65 #[.int .i64 0, "",.int .i64 0]):=Zy (hV.new _ _ _);replace d:=Zy (d.ext (jr (.cells #[.int .i64 0, "",.int .i64 0] 65)));refine jZ rfl fun b a=>?_;go_wp2_with fail;refine(mQ c.f.of.of.keeper (((HA.oJ d.kp d.at_).at_ R).blk.c 0 _ rfl)).mono ?_;rintro n we ⟨rfl,rfl⟩;go_wp2_with fail;refine kk f a d ?_;clear a b;refine jZ rfl fun b a=>?_;go_wp2_with fail;refine(aC _ d).mono ?_;rintro n wc ⟨D,rfl,J,hk,L⟩;replace o:=Zy (o.kp hk Zm);replace d:=Zy L;have ax:=Zy J;clear hk L J;go_wp2_with fail;refine kk f a d ?_;clear a b;refine Cf ?_;intro b a;obtain⟨z6,y0,y1,y2,-⟩:=o.ca;obtain⟨g0,g1,g2,-⟩:=o.fz;go_wp2_with fail;replace d:=Zy (LC.own d (Kp.uG (D:=(·=_)) rfl k m C) aa dh);replace o:=Zy (o.uG k m C);refine kk f a d ?_;clear a b;clear y0 g0 y1 g1 y2 g2 z6;clear f av aO aP;refine kM ?_;go_wp2_with fail;exact bg _ _ _ d o aa ax
end Go.Proofs.YtlhlnddgfcmfkaaGreat
