/- Walks. -/
import Derived.Test.YtlhgbjbkjalfjaaGreatTwCoreLj
import Derived.Test.YtlhgbjbkjalfjaaGreatTwCoreLi
set_option maxRecDepth 100000
set_option maxHeartbeats 4000000
set_option linter.all false
namespace Go.Proofs.YtlhgbjbkjalfjaaGreat
open Go Go.RowKit Tryz M
variable {m s u: ByteArray}{r xs: List ByteArray}{Z b base c g k n p q z: Nat}{D I: Nat->Prop}{t: TypeId}{v: Value}{W a d e w: World}
def oH(Z:Nat)(w:World)(base:Nat)(v:Value)(n:Nat):Prop:=∃xs:List ByteArray,w.ownsRow base 9 1 v n (xs.flatMap og)/\∀u∈xs,u.size<=Z
def mW(Z:Nat)(w:World)(u:Value)(m:Nat):Prop:=∃ad c,∃xs:List ByteArray,u=.slice ad m c/\Flat w 1 u m (xs.flatMap og)/\∀x∈xs,x.size<=Z
theorem oH.ext(b:oH Z w base v n)(e:Ext w a):oH Z a base v n:=by
 obtain⟨g,c,d⟩:=b;exact⟨g,jb (D:=fun _=>False) c e fun _ _ _ f=>f,d⟩
theorem oH.empty(Z:Nat)(W:World)(a g:Nat)(b:a<=W)(c:W=g):oH Z (W.alloc (.cells #[] 9)) a (.slice (some ⟨g,0,none⟩) 0 0) 0:=
 ⟨[],kG W _ _ _ b c,by simp⟩
theorem wY(xs:List ByteArray):xs.map Value.string=xs.flatMap og:=Ir
theorem oH.lit(xs:List ByteArray)(a:hZ w g 9 (xs.map Value.string).toArray)(b:base<=g)(c:xs.length=n)(h:xs.length<=1000)(d:∀e∈xs,e.size<=Z):oH Z w base (g,n,n) n:=by
 subst c;refine⟨xs,⟨by rw[ou (enc:=og) (k:=1) (fun _=>rfl)],.inr ⟨g,xs.length,_,rfl,b,a,T9 _,?_⟩⟩,d⟩;have f:=ou (enc:=og) (k:=1) (fun _=>rfl) xs;refine⟨by unfold maxLen;omega,by simp,?_⟩;rw[wY];simp only[V5];exact TV Zm
theorem mW.all(a:SliceOf 1 kV w I v xs)(d:∀e∈xs,e.size<=Z):mW Z w v xs.length:=by
 obtain⟨b,c,rfl,-,-⟩:=a.form;exact⟨b,c,xs,rfl,SliceOf.toFlat (enc:=og) (fun _ _ _ _ a=>a) (fun _=>rfl) yY a,d⟩
theorem mW.take{a:Option Addr}(e:SliceOf 1 kV w I (.slice a n c) xs)(g:∀b∈xs,b.size<=Z){i:Nat}(d:i<=xs.length):mW Z w (.slice a i c) i:=by
 have:=mW.all (e.take d) (fun b f=>g b (Uv f));rwa[Tj,U5 d]at this
theorem mW.lit(xs:List ByteArray)(f:hH w g 0 (xs.map Value.string))(i:xs.length=n)(j:∀b∈xs,b.size<=Z):mW Z w (g,n,c) n:=by
 subst i;have h:(xs.flatMap og).length=xs.length*1:=ou (enc:=og) (k:=1) (fun _=>rfl) _;refine⟨_,_,xs,rfl,⟨h,⟨_,_,rfl,(fun a=>by cases a),fun l a k b d=>?_⟩,oN yY _⟩,j⟩;cases a;rw[<-wY]at d;have:=f k b d;unfold Addr.add;split
 . rename_i e;rw[e]at this;exact this
 . simpa using this
theorem mW.drop{e m: Nat}(h:SliceOf 1 kV w I (.slice (some ⟨b,e,none⟩) n c) xs)(r:∀f∈xs,f.size<=Z)(j:Nat):mW Z w (.slice (some ⟨b,e+j,none⟩) (n - j) m) (n - j):=by
 have y:=h;obtain⟨_,_,a,-,-⟩:=h.form;cases a;have p:((xs.drop j).flatMap og).length=(xs.drop j).length*1:=ou (enc:=og) (k:=1) (fun _=>rfl) _;refine⟨_,_,xs.drop j,rfl,⟨by rw[p,Ui],⟨_,_,rfl,(fun a=>by cases a),fun u a s f i=>?_⟩,oN yY _⟩,fun f i=>r f (Vv i)⟩;cases a;obtain⟨l,t,A,k,g,x⟩:=flat_get (enc:=og) (k:=1) (fun _=>rfl) _ _ _ i;rw[UD]at k;obtain⟨v,z,o,d⟩:=kV.at_ h k;cases o;have q:t=0:=by
  have:=(Tw.1 g).1;simp[og]at this;omega
 subst q;simp[og]at g;subst g;unfold Addr.add;split
 . have:j+l=j:=Zm
   rw[this]at d;exact d
 . have:e+(j+l)=e+j+s:=Zm
   rw[this]at d;simpa using d
theorem mW.none_{j: Nat}{a:Addr}(f:n<=j):mW Z w (.slice (some a) (n - j) c) (n - j):=by
 rw[show n - j=0 by omega];exact⟨_,_,[],rfl,⟨rfl,⟨_,_,rfl,(fun b=>by cases b),fun e _ g h d=>by simp at d⟩,by simp⟩,by simp⟩
theorem oH.fresh{b: World}(c:Kp D b W):∃a,a=W.alloc (.cells #[] 9)/\Kp D b a/\oH Z a b (.slice (some ⟨W,0,none⟩) 0 0) 0/\Ext W a/\a.heap.size=W+1:=
 ⟨_,rfl,c.alloc _,oH.empty Z W _ _ c.size rfl,jw _,by simp⟩
theorem mW.fresh{b: World}(c:Kp D b W)(s:ByteArray)(d:s.size<=Z):∃a,a=W.alloc (.cells #[s] 9)/\Kp D b a/\hH a W 0 [s]/\Ext W a/\a.heap.size=W+1:=
 ⟨_,rfl,c.alloc _,hH.nL _ _ rfl,jw _,by simp⟩
theorem oH.kp{b: World}(d:oH Z w base v n)(h:Kp D w b)(g:∀a,D a->a<base):oH Z b base v n:=by
 obtain⟨j,e,f⟩:=d;exact⟨j,jb e h fun c _ k i=>SX (g c i),f⟩
theorem jr(w:World){o:Array Oper}{rest:List Oper}{h:Oper}{a:Act}{Q:Exit->Act->World->Prop}(A:h.guard=none)(s x:Operand)
    (C:h.op=.call {callee:=.builtin .append,args:=#[s,x],argTypes:=#[95,95]}) {D:Nat->Prop} {f:World} {v:Value} {n:Nat} (E:oH Z w f v n) (F:a.eval s=v)
    {e:Value} {m:Nat} (b:mW Z w e m) (G:a.eval x=e) (B:n+m<=8589934592) (l:Kp D f w)
    (r:∀i d,oH Z d f i (n+m)->Kp D f d->Kp (fun c=>f<=c/\v.ownBlock=some c) w d->wpList prog o Q rest (a.put h.dst i) d):
    wpList prog o Q (h::rest) a w:=by
 obtain⟨H,j,t⟩:=E;obtain⟨p,q,I,rfl,u,y⟩:=b;refine jK Ao w A s x C _ v n _ F j p m q _ G u B l.size fun i d z k=>r i d ⟨H++I,by simpa [Uz]using z,fun e b=>?_⟩ (l.own k fun c g=>(j.lt c g).1) (k.weak fun c _ g=>⟨(j.lt c g).1,g⟩);rcases TZ.1 b with b|b
 . exact t e b
 . exact y e b
theorem oH.o(b:oH Z w base v n)(h:n<=100000):∃a:List ByteArray,SliceOf 1 kV w (fun d=>base<=d) v a/\a.length=n/\∀g∈a,g.size<=Z:=by
 obtain⟨a,c,e⟩:=b;have f:n=a.length:=by
  have:=c.1;rw[ou (enc:=og) (k:=1) (fun _=>rfl)]at this;omega
 subst f;exact⟨a,SliceOf.lS og c rfl rfl (fun _ _=>rfl) (fun _ _=>rfl) (fun _ b _=>b) Zm,rfl,e⟩
theorem oH.put(a:oH Z w base (g,n,c) n)(v:Kp D w d)(t:¬D g)(y:s.size<=Z)(F:k<n):oH Z (d.setCell (g,k) s) base (g,n,c) n:=by
 obtain⟨f,⟨l,m⟩,o⟩:=a;have G:n=f.length:=by
  rw[ou (enc:=og) (k:=1) (fun _=>rfl)]at l;omega
 rcases m with⟨b,_⟩|⟨E,B,h,b,u,q,x,r,e⟩
 . cases b
 . injection b with i C j;cases i;subst j;have p:hZ (d.setCell (g,k) s) g 9 (h.setIfInBounds k s):=hZ.jy (hZ.kp (w:=w) q v t) k _;refine⟨f.set k s,⟨by rw[ou (enc:=og) (k:=1) (fun _=>rfl)];simp;omega,.inr ⟨g,c,_,rfl,u,p,x,r,by simpa using e.1,?_⟩⟩,fun A z=>?_⟩
   . rw[Array.toList_setIfInBounds,List.take_set,e.2,<-wY,<-wY,List.map_set]
   . rcases UG z with a|a
     . exact o A a
     . rw[a];exact y
theorem oH.frozen(d:oH Z w base (g,n,c) n)(k:Nat):w.frozen? (g,k)=false:=by
 obtain⟨o,⟨j,e⟩,l⟩:=d;rcases e with⟨a,_⟩|⟨i,h,b,a,m,f,-⟩
 . cases a
 . cases a;exact hZ.frozen (cs:=b) f k
theorem oH.form(d:oH Z w base v n)(p:0<n)(q:n<=100000):∃a b,v=.slice (some ⟨a,0,none⟩) n b/\base<=a/\a<w.heap.size/\n<=b/\∀c,c<n->∃e:ByteArray,w.cell? ⟨a,c,none⟩=some (.string e)/\e.size<=Z:=by
 have m:=d;obtain⟨u,g,r⟩:=m;obtain⟨a,b,rfl,l,o,k⟩:=jT g p;refine⟨a,b,rfl,l,o,k,fun c t=>?_⟩;obtain⟨x,h,s,i⟩:=d.o q;obtain⟨_,_,f,j⟩:=kV.at_ h (i:=c) (Ou Zm);cases f;exact⟨_,by simpa using j,i _ (Vq _)⟩
def MR(w':World)(e:Ending):Prop:=∃v xs I,e=.returned v/\SliceOf 1 kV w' I v xs/\∀u∈xs,u.size<=30000
theorem oH.more{a: Nat}(b:oH Z w base v n)(f:Z<=a):oH a w base v n:=by
 obtain⟨h,c,d⟩:=b;exact⟨h,c,fun g e=>TL (d g e) f⟩
theorem su(a:oH 30000 W base v n)(d:n<=100000):MR W (.returned v):=by
 obtain⟨e,b,-,c⟩:=a.o d;exact⟨v,e,_,rfl,b,c⟩
theorem sw(a:SliceOf 1 kV w I v xs)(hI:∀b,I b->b≠c)(e:Kp (·=c) w d):SliceOf 1 kV d I v xs:=a.keep kV.stays (e.same hI) (fun _ a=>a)
theorem lI{P:Nat->Prop}{d:List Int}(a:oh W c v d q)(hl:c<base/\(d.length≠0->∀f l b,v=.slice (some f) l b->f.block<base))(i:Kp (fun g=>base<=g/\P g) W e):oh e c v d q:=
 ⟨a.blk.kp i (fun h=>Zm),a.QH.kp i fun k j m b h n=>SX (hl.2 k j m b h),a.own,a.len⟩
theorem J5(w:World)(n p:Nat)(v:Value)(S:List Int)(aW:oh w n v S p){I:Nat->Prop}(vl:Value)(xs:List ByteArray)(hl:SliceOf 1 kV w I vl xs)(hI:∀A,I A->A≠n)(bR:1<=xs.length/\xs.length<=1000)(hz:∀ae∈xs,ae.size<=1000)(hp:p<=700000):Calls prog 38 #[some n,vl] w fun q w'=>MR w' q/\(∃aJ,aJ<=p+20/\oh w' n v S aJ)/\Kp (·=n) w w':=by
 obtain⟨a,c,rfl,cz,cB⟩:=hl.form;obtain⟨x0,bn⟩:∃x0,xs[0]?=some x0:=⟨xs[0]'Zm,Ou Zm⟩;obtain⟨A,R,rfl,-⟩:=kV.at_ hl bn;have⟨aS,HL,M⟩:=jB (jQ w n p v S xs.length aW Zm Zm) hl hI;have U:Zz (∀ae∈xs,ae.size<=30000):=Zy (fun ae hu=>SX (hz ae hu));have HZ:=Zy hz;obtain⟨l1,l2⟩:=bR;clear aW hl hI hz bn;go_enter func38,ntmps38;go_wp2_with fail;refine aS.mono ?_;rintro q w1 ⟨⟨g,rfl,hk⟩,aX,aC⟩;have X:g<xs.length:=Zm
 have⟨aT,aQ,aO⟩:=jB (jQ w1 n (p+1) v S 5 aX Zm Zm) (sw HL M aC) aC;clear aX aC hk aS;go_wp2_with fail;refine aT.mono ?_;rintro q f ⟨⟨aa,rfl,ht⟩,aD,b⟩;have⟨O,K,D⟩:=jB (sw aQ M b) (aO.trans b) aD;have au:=Zy aD.below.1;have bU:aa=0\/aa=1\/aa=2\/(3<=aa/\aa<5):=Zm
 have dh:(g:Int)<xs.length:=Zm
 have di:(0:Int)<=(g:Int):=Zm
 obtain⟨y,bg⟩:∃y,g+1=y:=⟨_,rfl⟩;have bN:(y:Int)<=xs.length:=Zm
 have bO:IntKind.i64.wrap ((g:Int)+1)=(y:Int):=by rw[TK _ Zm];omega
 have bP:(g:Int)+1=(y:Int):=Zm
 have bQ:(0:Int)<=(y:Int):=Zm
 have bB:=Zy bg;have N:Zz (∀l,Kp (·=n) f l->mW 30000 l (.slice (some ⟨A,R,none⟩) g c) g):=Zy fun l H=>mW.take (sw O M H) U Zm;clear bg;clear aD b ht aT aQ aO;have aF:g<c:=Zm
 rcases bU with rfl|rfl|rfl|⟨t3,t5⟩
 . have bK:Kp (·=n) f f:=Kp.rr;obtain⟨wa,o,j,t,E,m⟩:=oH.fresh (Z:=1000) bK;replace m:=Zy m;have⟨bH,bu⟩:=jf o (mW.all (O.ext kV.stays E) HZ);clear o bO bP bQ bN;go_wp2_with (first|(rw[<-bH.o];refine jr _ rfl (.tmp 15) (.tmp 16) rfl t rfl bu rfl Zm j fun v9 J i h kb=>?_;rw[Tm]at i;obtain⟨V,c9,rfl,cK,cO,cZ,aZ⟩:=oH.form i Zm Zm;obtain⟨s,hs,dw⟩:=aZ g X;have aR:=Zy i;have bE:=Zy (lI (D.ext E) D.below kb);have bq:=Zy h;have bT:=jc hs;clear aZ i t h kb j E)|fail);have bS:V≠n:=SX au.o
   refine(PS J n (p+1+1) v S s bE Zm Zm).mono ?_;rintro q w5 ⟨⟨tx,rfl,bV⟩,⟨aJ,hq,W⟩,G⟩;have d1:=aR.kp G (fun A q=>SX au.o);have df:=d1.frozen g;obtain⟨_,_,e9,-,d2,-,aY⟩:=oH.form d1 Zm Zm;cases e9;obtain⟨s5,dn,-⟩:=aY g X;have⟨bC,ay,bz⟩:=jB (oH.put (aR.more (show 1000<=30000 by omega)) G bS (s:=tx) Zm X) W (bq.o.trans G);have aP:Zz (Kp (·=V) w5 (w5.setCell (V,g) tx)):=Zy ((Kp.refl (·=V) w5).setCell (p:=⟨V,g,none⟩) (fun _=>rfl) _);clear d1 aY W G hs bT;go_wp2;go_ret;exact⟨su bC Zm,⟨_,Zm,ay.o.turn aP.o Zm (fun h0 ad bY c q=>SX (D.o.below.2 h0 ad bY c q))⟩,K.o.trans (bz.o.own aP.o (fun A q=>Zm))⟩
 . rcases(show c=y\/y<c by have:=bB.o;omega)with aF|aF
   . subst aF;have av:Zz (∀l,Kp (·=n) f l->mW 30000 l (.slice (some ⟨A,R,none⟩) 0 0) 0):=Zy fun l H=>by
      have:=mW.none_ (Z:=30000) (w:=l) (c:=0) (a:=⟨A,R,none⟩) (T9 c);rwa[Wi]at this
     obtain⟨az,aA,aG,z⟩:=ll f;have e:=Zy z;clear z;go_upto_region 8 with(fail);refine jW e 10 [([1,2,3,5,6,7,8],0),([],4),([],9)] [] ?_ ?_
     . exact jg
     have u:Ext f f.drew:=jg;generalize f.drew=wd at u |-;refine lJ ?_;intro d b;go_wp2_with fail;obtain⟨wa,o,j,t,E,m⟩:=oH.fresh (Z:=30000) u;replace m:=Zy m;rw[<-o];clear o;refine kk e b j ?_;clear b d;refine kN rfl fun d b=>?_;refine jr _ rfl (.tmp 30) (.tmp 33) rfl t rfl (N _ j.any) rfl Zm j fun aK J i h aj=>?_;change d _ _;refine kk e b h ?_;clear b d;refine kN rfl fun d b=>?_;refine jr _ rfl (.tmp 34) (.tmp 38) rfl i rfl (av _ h.any) rfl Zm h fun af wf C k Q=>?_;change d _ _;refine kk e b k ?_;clear b d;refine ku ?_;go_wp2;go_ret;exact⟨su C Zm,⟨_,Zm,D.o.ext k⟩,K.o.trans k.any⟩
   . have av:Zz (∀l,Kp (·=n) f l->mW 30000 l (.slice (some ⟨A,R+y,none⟩) (xs.length - y) (c - y)) (xs.length - y)):=Zy fun l H=>mW.drop (sw O M H) U y;obtain⟨az,aA,aG,z⟩:=ll f;have e:=Zy z;clear z;go_upto_region 8 with(fail);refine jW e 10 [([1,2,3,5,6,7,8],0),([],4),([],9)] [] ?_ ?_
     . exact jg
     have u:Ext f f.drew:=jg;generalize f.drew=wd at u |-;refine lJ ?_;intro d b;go_wp2_with fail;obtain⟨wa,o,j,t,E,m⟩:=oH.fresh (Z:=30000) u;replace m:=Zy m;rw[<-o];clear o;refine kk e b j ?_;clear b d;refine kN rfl fun d b=>?_;refine jr _ rfl (.tmp 30) (.tmp 33) rfl t rfl (N _ j.any) rfl Zm j fun aK J i h aj=>?_;change d _ _;refine kk e b h ?_;clear b d;refine kN rfl fun d b=>?_;refine jr _ rfl (.tmp 34) (.tmp 38) rfl i rfl (av _ h.any) rfl Zm h fun af wf C k Q=>?_;change d _ _;refine kk e b k ?_;clear b d;refine ku ?_;go_wp2;go_ret;exact⟨su C Zm,⟨_,Zm,D.o.ext k⟩,K.o.trans k.any⟩
 . have T:Zz (∀l,Kp (·=n) f l->mW 30000 l (.slice (some ⟨A,R+g,none⟩) (xs.length - g) (c - g)) (xs.length - g)):=Zy fun l H=>mW.drop (sw O M H) U g;obtain⟨F,aH⟩:∃F,xs[g]?=some F:=⟨xs[g]'X,Ou X⟩;obtain⟨_,_,bJ,gk⟩:=kV.at_ O aH;cases bJ;have P:=Zy (U F (RA aH));obtain⟨az,aA,aG,z⟩:=ll f;have e:=Zy z;have yk:=fun cu=>(z.jv cu).je gk;clear z gk aH;go_upto_region 10 with(fail);refine qp e 15 (.two [1,2,3,5,6,7,8,11,12,13] 0 9 (.two [] 4 9 (.one [] 9 (.one [] 10 (.one [] 14 (.fin [])))) (.one [] 4 (.one [] 10 (.one [] 14 (.fin []))))) (.one [] 0 (.one [] 4 (.one [] 10 (.one [] 14 (.fin [])))))) ?_ ?_
   . exact jg
   refine two [_,_,_,_,_,_,_,_,_,_] rfl rfl rfl fun bI hK=>?_;(repeat (go_big_quiet_step (fail)));((refine F5 hK (fun d b=>?_) fun d b=>?_)<;>clear hK bI)
   . have u:Ext f f.drew:=jg;generalize f.drew=wd at u |-;go_wp2_with fail;obtain⟨wa,o,j,t,E,m⟩:=oH.fresh (Z:=30000) u;replace m:=Zy m;rw[<-o];clear o;refine kk e b j ?_;clear b d;refine Fw rfl rfl (fun d b=>?_) fun d b=>?_
     . refine jr _ rfl (.tmp 42) (.tmp 45) rfl t rfl (N _ j.any) rfl Zm j fun aK J i h aj=>?_;change d _ _;refine kk e b h ?_;clear b d;refine jX rfl fun d b=>?_;go_wp2_with fail;obtain⟨wc,Z,B,x,ah,aN⟩:=mW.fresh (Z:=30000) h F P;rw[<-Z];clear Z aN;refine kk e b B ?_;clear b d;have i:=i.ext ah;refine jX rfl fun d b=>?_;refine jr _ rfl (.tmp 46) (.tmp 51) rfl i rfl (mW.lit (n:=1) [F] x rfl (by simpa using P.o)) rfl Zm B fun aL aM L r ak=>?_;change d _ _;refine kk e b r ?_;clear b d;refine jX rfl fun d b=>?_;refine jr _ rfl (.tmp 52) (.tmp 55) rfl L rfl (T _ r.any) rfl Zm r fun af wf C k Q=>?_;change d _ _;refine kk e b k ?_;clear b d;refine kL ?_;go_wp2;go_ret;exact⟨su C Zm,⟨_,Zm,D.o.ext k⟩,K.o.trans k.any⟩
     . go_wp2_with fail;obtain⟨J,Y,h,x,aB,ag⟩:=mW.fresh (Z:=30000) j F P;replace ag:=Zy ag;rw[<-Y];clear Y;refine kk e b h ?_;clear b d;have t:=t.ext aB;refine jX rfl fun d b=>?_;refine jr _ rfl (.tmp 42) (.tmp 45) rfl t rfl (N _ h.any) rfl Zm h fun bZ wc i B aI=>?_;change d _ _;refine kk e b B ?_;clear b d;have x:=x.kp aI (fun q=>by have:=m.o;have:=q.2;simp[Value.ownBlock]at this;omega);refine jX rfl fun d b=>?_;refine jr _ rfl (.tmp 46) (.tmp 51) rfl i rfl (mW.lit (n:=1) [F] x rfl (by simpa using P.o)) rfl Zm B fun aL aM L r ak=>?_;change d _ _;refine kk e b r ?_;clear b d;refine jX rfl fun d b=>?_;refine jr _ rfl (.tmp 52) (.tmp 55) rfl L rfl (T _ r.any) rfl Zm r fun af wf C k Q=>?_;change d _ _;refine kk e b k ?_;clear b d;refine kL ?_;go_wp2;go_ret;exact⟨su C Zm,⟨_,Zm,D.o.ext k⟩,K.o.trans k.any⟩
   . have u:Ext f f.drew:=jg;generalize f.drew=wd at u |-;go_wp2_with fail;obtain⟨wa,o,j,x,E,m⟩:=mW.fresh (Z:=30000) u F P;replace m:=Zy m;rw[<-o];clear o;refine kk e b j ?_;clear b d;refine jX rfl fun d b=>?_;go_wp2_with fail;obtain⟨J,Y,h,t,aB,ag⟩:=oH.fresh (Z:=30000) j;replace ag:=Zy ag;rw[<-Y];clear Y;refine kk e b h ?_;clear b d;have x:=x.ext aB;refine jX rfl fun d b=>?_;refine jr _ rfl (.tmp 42) (.tmp 45) rfl t rfl (N _ h.any) rfl Zm h fun bZ wc i B aI=>?_;change d _ _;refine kk e b B ?_;clear b d;have x:=x.kp aI (fun q=>by have:=m.o;have:=q.2;simp[Value.ownBlock]at this;omega);refine jX rfl fun d b=>?_;refine jr _ rfl (.tmp 46) (.tmp 51) rfl i rfl (mW.lit (n:=1) [F] x rfl (by simpa using P.o)) rfl Zm B fun aL aM L r ak=>?_;change d _ _;refine kk e b r ?_;clear b d;refine jX rfl fun d b=>?_;refine jr _ rfl (.tmp 52) (.tmp 55) rfl L rfl (T _ r.any) rfl Zm r fun af wf C k Q=>?_;change d _ _;refine kk e b k ?_;clear b d;refine kL ?_;go_wp2;go_ret;exact⟨su C Zm,⟨_,Zm,D.o.ext k⟩,K.o.trans k.any⟩
 . have T:Zz (∀l,Kp (·=n) f l->mW 30000 l (.slice (some ⟨A,R+g,none⟩) (xs.length - g) (c - g)) (xs.length - g)):=Zy fun l H=>mW.drop (sw O M H) U g;obtain⟨az,aA,aG,z⟩:=qC.ex (fun W'=>Kp (·=n) f W') f Kp.rr;have e:=Zy z;clear z;have ax:=Zy D.o.below;go_upto_region 11 with(fail);refine jW e 14 [([1,2,3,5,10,11,12],0),([],4),([],6),([],7),([],8),([],9),([],13)] [] ?_ ?_
   . exact jg
   have aV:Ext f f.drew:=jg;have u:Kp (·=n) f f.drew:=jg;have aU:=Zy (D.ext aV);generalize f.drew=wd at u aV aU |-;refine lJ ?_;intro d b;go_wp2_with fail;obtain⟨wa,o,j,t,E,m⟩:=oH.fresh (Z:=30000) u;replace m:=Zy m;rw[<-o];clear o;refine kk e b j ?_;clear b d;refine kN rfl fun d b=>?_;refine jr _ rfl (.tmp 57) (.tmp 60) rfl t rfl (N _ j) rfl Zm j fun aK J i h aj=>?_;change d _ _;refine kk e b h ?_;clear b d;have bF:=Zy (lI (aU.ext E) ax aj);have bA:=Zy (Ms J n (p+1+1) v S 99999 bF Zm Zm Zm);refine kN rfl fun d b=>?_;go_wp2_with fail;refine bA.mono ?_;rintro q w5 ⟨⟨op,ia,bX,bW,rfl,bf,bM,bL⟩,⟨q5,dm,W⟩,G⟩;have e5:=h.trans G;have ay:=Zy W;have i:=i.kp G (fun A q=>SX au.o);have bG:=Zy (rD op ia bX bW w5 bf Zm Zm);clear W G bf bM bL;go_wp2_with fail;refine kk e b e5 ?_;clear b d;refine kN rfl fun d b=>?_;go_wp2_with fail;refine bG.mono ?_;rintro q w6 ⟨⟨tx,rfl,bV⟩,ai⟩;have e6:=e5.trans ai.any;have bD:=Zy (ay.ext ai);have i:=i.ext ai;clear ai;go_wp2_with fail;refine kk e b e6 ?_;clear b d;refine kN rfl fun d b=>?_;go_wp2_with fail;obtain⟨wc,Z,B,x,ah,aN⟩:=mW.fresh (Z:=30000) e6 tx Zm;rw[<-Z];clear Z aN;refine kk e b B ?_;clear b d;have i:=i.ext ah;refine kN rfl fun d b=>?_;refine jr _ rfl (.tmp 61) (.tmp 65) rfl i rfl (mW.lit (n:=1) [tx] x rfl Zr) rfl Zm B fun aL aM L r ak=>?_;change d _ _;refine kk e b r ?_;clear b d;refine kN rfl fun d b=>?_;refine jr _ rfl (.tmp 66) (.tmp 69) rfl L rfl (T _ r) rfl Zm r fun af wf C k Q=>?_;change d _ _;refine kk e b k ?_;clear b d;refine ku ?_;go_wp2;go_ret;exact⟨su C Zm,⟨_,Zm,lI (lI (bD.o.ext ah) ax.o ak) ax.o Q⟩,K.o.trans k⟩
def RY(v:Value):Bool:=match v with
 | .int .i64 n=>decide (0<=n)&&decide (n<11)
 |_=>false
theorem Gz{cs:Array Value}(f:hZ w b t cs)(g:k<cs.size)(e:cs.toList.all RY=true):∃d:Nat,w.cell? (b,k)=some (.int .i64 d)/\d<11:=by
 have c:=f.cell k;rw[Vx g]at c;have a:=TY.1 e cs[k] Zl;unfold RY at a;split at a
 . rename_i i h;simp at a;exact⟨i.toNat,by rw[c,h,W9 a.1],Zm⟩
 . cases a
def KU(w:World)(base:Nat)(v:Value)(n:Nat):Prop:=(∃a c,v=.slice a n c)/\n<=40/\∃xs,SliceOf 1 kV w (fun b=>base<=b) v xs/\xs.length=n/\∀u∈xs,u.size<=40
theorem KU.kp{c: World}(a:KU w base v n)(h:Kp (·=b) w c)(l:b<base):KU c base v n:=by
 obtain⟨d,e,i,f,g⟩:=a;exact⟨d,e,i,f.keep kV.stays (h.same fun j m k=>Zm) (fun _ a=>a),g⟩
theorem KU.any(a:KU w base v n):mW 1000 w v n:=by
 obtain⟨f,g,h,b,rfl,c⟩:=a;exact mW.all b fun e d=>SX (c e d)
theorem Gl:(M.blocks.all fun a=>decide (a.length<=40)&&a.all fun b=>decide (b.size<=40))=true:=by decide+kernel
theorem C9(i:SliceOf 1 xu w (fun b=>base<=b) (.slice (some ⟨b,g,none⟩) n c) M.blocks){k:Nat}(r:k<11):∃d l,w.cell? (b,g+k)=some d/\KU w base d l:=by
 have s:M.blocks.length=11:=rfl;obtain⟨a,f⟩:∃a,M.blocks[k]?=some a:=⟨M.blocks[k]'Zm,Ou Zm⟩;obtain⟨o,t,q,h,-,⟨d,rfl,e⟩,-,j⟩:=i.get f;cases h;obtain⟨m,p,rfl,-,-⟩:=e.form;have:=TY.1 Gl a (RA f);simp only[Ty,Tq,TY]at this;exact⟨_,_,by simpa using j.one,⟨_,_,rfl⟩,this.1,a,e,rfl,this.2⟩
theorem Da{l:List (List ByteArray)}(b:SliceOf 1 xu w (fun a=>base<=a) v l)(e:Kp (·=c) w d)(g:c<base):SliceOf 1 xu d (fun a=>base<=a) v l:=
 b.keep xu.stays (e.same fun a h f=>Zm) (fun _ b=>b)
theorem oH.one{b: World}(c:Kp D b W)(s:ByteArray)(d:s.size<=Z):∃a,a=W.alloc (.cells #[s] 9)/\Kp D b a/\oH Z a b (.slice (some ⟨W,0,none⟩) 1 1) 1/\Ext W a:=
 ⟨_,rfl,c.alloc _,oH.lit [s] (hZ.new _ _ _) c.size rfl Zl (by simpa using d),jw _⟩
theorem mW.two{b: World}(c:Kp D b W)(s t:ByteArray)(d:s.size<=Z)(e:t.size<=Z):∃a,a=W.alloc (.cells #[s,t] 9)/\Kp D b a/\hH a W 0 [s,t]/\Ext W a:=
 ⟨_,rfl,c.alloc _,hH.nL _ _ rfl,jw _⟩
theorem Rq{t: ByteArray}(a:s.size<=Z)(b:t.size<=Z):∀c∈[s,t],c.size<=Z:=by simpa using⟨a,b⟩
def MM(w w':World)(e:Ending):Prop:=∃vl xs,e=.returned vl/\SliceOf 1 kV w' (fun b=>w.heap.size<=b) vl xs/\1<=xs.length/\xs.length<=1000/\∀u∈xs,u.size<=1000
theorem uu(a:oH 1000 W base v n)(i:w<=base)(f:1<=n)(g:n<=1000):MM w W (.returned v):=by
 obtain⟨d,b,h,c⟩:=a.o Zm;exact⟨v,d,rfl,b.keep kV.stays (fun _ _ _ _ a=>a) (fun e a=>Zm),Zm,Zm,c⟩
theorem I7(w:World)(r p:Nat)(v:Value)(zs:List Int)(bI:oh w r v zs p)(hp:p<=700000):Calls prog 35 #[some r] w fun o w'=>MM w w' o/\(∃dQ,dQ<=p+20/\oh w' r v zs dQ)/\Kp (·=r) w w':=by
 have b:=Zy bI.below;have HR:=Zy bI;clear bI;go_enter func35,ntmps35;go_wp2_with fail;refine(F8 w).mono ?_;rintro o w1 ⟨⟨vb,rfl,hS⟩,bJ⟩;obtain⟨fF,gI,rfl,-,-⟩:=hS.form;obtain⟨aP,dP,rfl⟩:∃aP dP,fF=some ⟨aP,dP,none⟩:=by
  obtain⟨b',o',cs,o,-⟩:=hS.get (i:=0) (x:=_) rfl;exact⟨_,_,o⟩
 have dw:=Zy hS;have eG:Zz (Kp (·=r) w w1):=Zy bJ.any;have dh:=Zy (HR.ext bJ);clear hS bJ;simp only[show M.blocks.length=11 from rfl]at dw |-;obtain⟨w2,bz⟩:∃K,K=w1.alloc (.cells #[Tc,Tc,Tc,.int .i64 7] 3):=⟨_,rfl⟩;have bM:Ext w1 w2:=by rw[bz];exact jw _
 have ed:Zz (hZ w2 w1 3 #[Tc,Tc,Tc,.int .i64 7]):=Zy (by rw[bz];exact hZ.new _ _ _);have⟨cK,fq,bX⟩:=jB (jQ w2 r (p) v zs 4 (dh.ext bM) Zm Zm) bz bM;have fC:=Zy dh.o.below.1;clear bz bM;go_wp2_with fail;rw[<-fq.o];refine cK.mono ?_;rintro o w3 ⟨⟨k3,rfl,fO⟩,dG,bq⟩;have gQ:k3<4:=Zm
 obtain⟨gF,gu,fV⟩:=Gz (k:=k3) (ed.kp bq (SX fC.o)) Zr Zn;have dx:=Zy (Da (dw.ext xu.stays bX) bq b.1);obtain⟨rt,nt,fH,bR⟩:=C9 dx fV;obtain⟨⟨iD,iH,rfl⟩,gX,-⟩:=id bR;have⟨eY,di,eH⟩:=jB bR dG ((eG.trans bX.any).trans bq);have ig:=jc gu;have gK:=jc fH;have iw:(gF:Int)<11:=Zm
 clear bq dG fO bR cK;obtain⟨w4,bA⟩:∃K,K=w3.alloc (.cells #[.int .i64 1,.int .i64 1,.int .i64 1,.int .i64 8] 3):=⟨_,rfl⟩;have bN:Ext w3 w4:=by rw[bA];exact jw _
 have ek:Zz (hZ w4 w3 3 #[.int .i64 1,.int .i64 1,.int .i64 1,.int .i64 8]):=Zy (by rw[bA];exact hZ.new _ _ _);have⟨cO,fu,bF⟩:=jB (jQ w4 r (p+1) v zs 4 (di.ext bN) Zm Zm) bA bN;have fD:=Zy di.o.below.1;clear bA bN;go_wp2_with fail;rw[<-fu.o];refine cO.mono ?_;rintro o w5 ⟨⟨k5,rfl,fP⟩,dH,aS⟩;have gT:k5<4:=Zm
 obtain⟨gB,gy,fZ⟩:=Gz (k:=k5) (ek.kp aS (SX fD.o)) Zr Zn;have⟨dz,eZ⟩:=jf (Da (dx.ext xu.stays bF) aS b.1) ((eY.kp bF.any b.1).kp aS b.1);obtain⟨rc,nc,fI,bS⟩:=C9 dz fZ;obtain⟨⟨iB,iF,rfl⟩,gV,-⟩:=id bS;have⟨eX,dm,eO⟩:=jB bS dH ((eH.trans bF.any).trans aS);have ik:=jc gy;have gL:=jc fI;have iy:(gB:Int)<11:=Zm
 clear aS dH fP bS cO;obtain⟨w6,bB⟩:∃K,K=w5.alloc (.cells #[.int .i64 2,.int .i64 3,.int .i64 4,.int .i64 5,.int .i64 6,.int .i64 3,.int .i64 9,.int .i64 10] 3):=⟨_,rfl⟩;have bO:Ext w5 w6:=by rw[bB];exact jw _
 have eu:Zz (hZ w6 w5 3 #[.int .i64 2,.int .i64 3,.int .i64 4,.int .i64 5,.int .i64 6,.int .i64 3,.int .i64 9,.int .i64 10]):=Zy (by rw[bB];exact hZ.new _ _ _);have⟨cZ,fw,bf⟩:=jB (jQ w6 r (p+1+1) v zs 8 (dm.ext bO) Zm Zm) bB bO;have fE:=Zy dm.o.below.1;clear bB bO;go_wp2_with fail;rw[<-fw.o];refine cZ.mono ?_;rintro o w7 ⟨⟨k7,rfl,fT⟩,dI,aG⟩;have gU:k7<8:=Zm
 obtain⟨gD,gz,gm⟩:=Gz (k:=k7) (eu.kp aG (SX fE.o)) Zr Zn;have⟨dA,aD,aB⟩:=jB (Da (dz.ext xu.stays bf) aG b.1) ((eZ.kp bf.any b.1).kp aG b.1) ((eX.kp bf.any b.1).kp aG b.1);obtain⟨rm,nm,fJ,bT⟩:=C9 dA gm;obtain⟨⟨iC,iG,rfl⟩,gW,-⟩:=id bT;have⟨aC,dn,ae⟩:=jB bT dI ((eO.trans bf.any).trans aG);have il:=jc gz;have gM:=jc fJ;have iA:(gD:Int)<11:=Zm
 clear aG dI fT bT cZ;have a:=Zy dn.o.below;have aF:=Zy ae.o.size;have er:Kp (·=r) w7 w7:=Kp.rr;obtain⟨w8,dL,e8,o8,f8⟩:=oH.one (Z:=1000) er ⟨#[107,101,101,112,101,114]⟩ Zn;have⟨df,dB,eQ,eF⟩:=jU (jQ w8 r (p+1+1+1) v zs 6 (dn.ext f8) Zm Zm) dL o8 e8;clear dL e8 o8 f8 er;go_wp2_with fail;rw[<-dB.o];refine df.mono ?_;rintro o w9 ⟨⟨k,rfl,hk⟩,dJ,bP⟩;have fQ:k=0\/k=1\/k=2\/k=3\/k=4\/k=5:=Zm
 have⟨cu,aA,ay⟩:=jB (eQ.kp bP (fun aP o=>SX a.1)) dJ (eF.o.trans bP);obtain⟨bH,hg⟩:∃bH,bH=w7.heap.size:=⟨_,rfl⟩;have az:Zz (oH 1000 w9 w7 (.slice (some ⟨bH,0,none⟩) 1 1) 1):=Zy (by rw[hg];exact cu);rw[<-hg];clear dJ bP hk df hg cu dB;rcases fQ with rfl|rfl|rfl|rfl|rfl|rfl
 . have x:=aA;have n:=ay;go_wp2_with (first
    |(refine jr _ rfl (.tmp 39) (.tmp 40) rfl az rfl (aD.kp n b.1).any rfl Zm n fun gG aZ aW c aU=>?_;have s:=Zy aW;have m:=Zy c;have u:=Zy (lI x a aU);clear aW c aU)
    |(refine jr _ rfl (.tmp 41) (.tmp 42) rfl s rfl (aB.kp m b.1).any rfl Zm m fun aY Z f d e=>?_;have t:=Zy f;have g:=Zy d;have q:=Zy (lI u a e);clear f d e)
    |(refine jr _ rfl (.tmp 43) (.tmp 44) rfl t rfl (aC.kp g b.1).any rfl Zm g fun bC D l i j=>?_;have I:=Zy l;have H:=Zy i;have F:=Zy (lI q a j);clear l i j)
    |fail)
   go_ret;exact⟨uu I aF Zm Zm,⟨_,Zm,F.o⟩,ae.o.trans H.o⟩
 . have x:=aA;have n:=ay;go_wp2_with (first
    |(refine jr _ rfl (.tmp 39) (.tmp 40) rfl az rfl (aD.kp n b.1).any rfl Zm n fun gG aZ aW c aU=>?_;have s:=Zy aW;have m:=Zy c;have u:=Zy (lI x a aU);clear aW c aU)
    |(refine jr _ rfl (.tmp 41) (.tmp 42) rfl s rfl (aB.kp m b.1).any rfl Zm m fun aY Z f d e=>?_;have t:=Zy f;have g:=Zy d;have q:=Zy (lI u a e);clear f d e)
    |(refine jr _ rfl (.tmp 43) (.tmp 44) rfl t rfl (aC.kp g b.1).any rfl Zm g fun bC D l i j=>?_;have I:=Zy l;have H:=Zy i;have F:=Zy (lI q a j);clear l i j)
    |fail)
   go_ret;exact⟨uu I aF Zm Zm,⟨_,Zm,F.o⟩,ae.o.trans H.o⟩
 . have x:=aA;have n:=ay;go_wp2_with (first
    |(obtain⟨aZ,B,c,y,h⟩:=mW.two (Z:=1000) n ⟨#[97,115,107,115,32,116,111,112,32,49]⟩ ⟨#[97,115,107,115,32,99,101,108,108,32,49]⟩ Zn Zn;rw[<-B];have s:=Zy (az.ext h);have m:=Zy c;have u:=Zy (x.ext h);have aa:=Zy y;clear B c y h;refine jr _ rfl (.tmp 48) (.tmp 49) rfl s rfl (mW.lit (n:=2) [⟨#[97,115,107,115,32,116,111,112,32,49]⟩,⟨#[97,115,107,115,32,99,101,108,108,32,49]⟩] aa rfl Zn) rfl Zm m fun aY Z f d e=>?_;have t:=Zy f;have g:=Zy d;have q:=Zy (lI u a e);clear f d e)
    |(refine jr _ rfl (.tmp 50) (.tmp 51) rfl t rfl (aC.kp g b.1).any rfl Zm g fun bC D l i j=>?_;have I:=Zy l;have H:=Zy i;have F:=Zy (lI q a j);clear l i j)
    |(obtain⟨aH,G,J,aQ,au,-⟩:=mW.fresh (Z:=1000) H ⟨#[107,101,101,112,101,114]⟩ Zn;rw[<-G];have aJ:=Zy (I.ext au);have aI:=Zy J;have aM:=Zy (F.ext au);have bD:=Zy aQ;clear G J aQ au;refine jr _ rfl (.tmp 53) (.tmp 54) rfl aJ rfl (mW.lit (n:=1) [⟨#[107,101,101,112,101,114]⟩] bD rfl Zn) rfl Zm aI fun dR bU V P C=>?_;have af:=Zy V;have E:=Zy P;have ai:=Zy (lI aM a C);clear V P C)
    |(refine jr _ rfl (.tmp 55) (.tmp 56) rfl af rfl (aD.kp E b.1).any rfl Zm E fun dS bV W z S=>?_;have ag:=Zy W;have L:=Zy z;have aj:=Zy (lI ai a S);clear W z S)
    |(refine jr _ rfl (.tmp 57) (.tmp 58) rfl ag rfl (aB.kp L b.1).any rfl Zm L fun gH bW aX A aV=>?_;have ah:=Zy aX;have N:=Zy A;have ak:=Zy (lI aj a aV);clear aX A aV)
    |fail)
   go_ret;exact⟨uu ah aF Zm Zm,⟨_,Zm,ak.o⟩,ae.o.trans N.o⟩
 . have x:=aA;have n:=ay;go_wp2_with (first
    |(obtain⟨aZ,B,c,y,h,-⟩:=mW.fresh (Z:=1000) n ⟨#[97,115,107,115,32,99,101,108,108,32,49]⟩ Zn;rw[<-B];have s:=Zy (az.ext h);have m:=Zy c;have u:=Zy (x.ext h);have aa:=Zy y;clear B c y h;refine jr _ rfl (.tmp 62) (.tmp 63) rfl s rfl (mW.lit (n:=1) [⟨#[97,115,107,115,32,99,101,108,108,32,49]⟩] aa rfl Zn) rfl Zm m fun aY Z f d e=>?_;have t:=Zy f;have g:=Zy d;have q:=Zy (lI u a e);clear f d e)
    |fail)
   obtain⟨D,bu⟩:∃K,K=Z.alloc (.cells #[Tc,.int .i64 7] 3):=⟨_,rfl⟩;have bK:Ext Z D:=by rw[bu];exact jw _
   have dY:Zz (hZ D Z 3 #[Tc,.int .i64 7]):=Zy (by rw[bu];exact hZ.new _ _ _);have⟨cz,fe,bY⟩:=jB (jQ D r (p+1+1+1+1) v zs 2 (q.ext bK) Zm Zm) bu bK;have fA:=Zy q.o.below.1;clear bu bK;rw[<-fe.o];refine cz.mono ?_;rintro o aH ⟨⟨dM,rfl,fK⟩,dE,bg⟩;have gN:dM<2:=Zm
   obtain⟨ux,gp,fU⟩:=Gz (k:=dM) (dY.kp bg (SX fA.o)) Zr Zn;have J:=(g.trans bY.any).trans bg;obtain⟨rx,nx,fG,bQ⟩:=C9 (Da dA J b.1) fU;obtain⟨⟨iE,iI,rfl⟩,gY,-⟩:=id bQ;have eU:=Zy bQ.any;have⟨aJ,aM,aI⟩:=jB ((t.ext bY).kp bg (fun aP o=>SX a.1)) dE J;have ib:=jc gp;have gJ:=jc fG;have iq:(ux:Int)<11:=Zm
   clear bg dE fK bQ cz J;go_wp2_with (first
    |(refine jr _ rfl (.tmp 64) (.tmp 72) rfl aJ rfl eU rfl Zm aI fun dR bU V P C=>?_;have af:=Zy V;have E:=Zy P;have ai:=Zy (lI aM a C);clear V P C)
    |(refine jr _ rfl (.tmp 73) (.tmp 74) rfl af rfl (aC.kp E b.1).any rfl Zm E fun dS bV W z S=>?_;have ag:=Zy W;have L:=Zy z;have aj:=Zy (lI ai a S);clear W z S)
    |(obtain⟨bW,aT,A,aR,av,-⟩:=mW.fresh (Z:=1000) L ⟨#[107,101,101,112,101,114]⟩ Zn;rw[<-aT];have ah:=Zy (ag.ext av);have N:=Zy A;have ak:=Zy (aj.ext av);have bE:=Zy aR;clear aT A aR av;refine jr _ rfl (.tmp 76) (.tmp 77) rfl ah rfl (mW.lit (n:=1) [⟨#[107,101,101,112,101,114]⟩] bE rfl Zn) rfl Zm N fun dU dW X Q T=>?_;have aK:=Zy X;have O:=Zy Q;have aN:=Zy (lI ak a T);clear X Q T)
    |(refine jr _ rfl (.tmp 78) (.tmp 79) rfl aK rfl (aD.kp O b.1).any rfl Zm O fun dV dX Y R U=>?_;have aL:=Zy Y;have ax:=Zy R;have aO:=Zy (lI aN a U);clear Y R U)
    |(refine jr _ rfl (.tmp 80) (.tmp 81) rfl aL rfl (aB.kp ax b.1).any rfl Zm ax fun iJ iK dO dD dN=>?_;have eP:=Zy dO;have eD:=Zy dD;have eT:=Zy (lI aO a dN);clear dO dD dN)
    |fail)
   go_ret;exact⟨uu eP aF Zm Zm,⟨_,Zm,eT.o⟩,ae.o.trans eD.o⟩
 . have x:=aA;have n:=ay;go_wp2_with (first
    |(obtain⟨aZ,B,c,y,h⟩:=mW.two (Z:=1000) n ⟨#[97,115,107,115,32,99,101,108,108,32,49]⟩ ⟨#[97,115,107,115,32,116,111,112,32,50]⟩ Zn Zn;rw[<-B];have s:=Zy (az.ext h);have m:=Zy c;have u:=Zy (x.ext h);have aa:=Zy y;clear B c y h;refine jr _ rfl (.tmp 85) (.tmp 86) rfl s rfl (mW.lit (n:=2) [⟨#[97,115,107,115,32,99,101,108,108,32,49]⟩,⟨#[97,115,107,115,32,116,111,112,32,50]⟩] aa rfl Zn) rfl Zm m fun aY Z f d e=>?_;have t:=Zy f;have g:=Zy d;have q:=Zy (lI u a e);clear f d e)
    |(refine jr _ rfl (.tmp 87) (.tmp 88) rfl t rfl (aC.kp g b.1).any rfl Zm g fun bC D l i j=>?_;have I:=Zy l;have H:=Zy i;have F:=Zy (lI q a j);clear l i j)
    |(obtain⟨aH,G,J,aQ,au⟩:=mW.two (Z:=1000) H ⟨#[107,101,101,112,101,114]⟩ ⟨#[97,115,107,115,32,116,111,112,32,50]⟩ Zn Zn;rw[<-G];have aJ:=Zy (I.ext au);have aI:=Zy J;have aM:=Zy (F.ext au);have bD:=Zy aQ;clear G J aQ au;refine jr _ rfl (.tmp 90) (.tmp 91) rfl aJ rfl (mW.lit (n:=2) [⟨#[107,101,101,112,101,114]⟩,⟨#[97,115,107,115,32,116,111,112,32,50]⟩] bD rfl Zn) rfl Zm aI fun dR bU V P C=>?_;have af:=Zy V;have E:=Zy P;have ai:=Zy (lI aM a C);clear V P C)
    |(refine jr _ rfl (.tmp 92) (.tmp 93) rfl af rfl (aB.kp E b.1).any rfl Zm E fun dS bV W z S=>?_;have ag:=Zy W;have L:=Zy z;have aj:=Zy (lI ai a S);clear W z S)
    |(obtain⟨bW,aT,A,aR,av,-⟩:=mW.fresh (Z:=1000) L ⟨#[107,101,101,112,101,114]⟩ Zn;rw[<-aT];have ah:=Zy (ag.ext av);have N:=Zy A;have ak:=Zy (aj.ext av);have bE:=Zy aR;clear aT A aR av;refine jr _ rfl (.tmp 95) (.tmp 96) rfl ah rfl (mW.lit (n:=1) [⟨#[107,101,101,112,101,114]⟩] bE rfl Zn) rfl Zm N fun dU dW X Q T=>?_;have aK:=Zy X;have O:=Zy Q;have aN:=Zy (lI ak a T);clear X Q T)
    |(refine jr _ rfl (.tmp 97) (.tmp 98) rfl aK rfl (aD.kp O b.1).any rfl Zm O fun dV dX Y R U=>?_;have aL:=Zy Y;have ax:=Zy R;have aO:=Zy (lI aN a U);clear Y R U)
    |fail)
   go_ret;exact⟨uu aL aF Zm Zm,⟨_,Zm,aO.o⟩,ae.o.trans ax.o⟩
 . have x:=aA;have n:=ay;go_wp2_with (first
    |(obtain⟨aZ,B,c,y,h⟩:=mW.two (Z:=1000) n ⟨#[97,115,107,115,32,116,111,112,32,49]⟩ ⟨#[97,115,107,115,32,99,101,108,108,32,49]⟩ Zn Zn;rw[<-B];have s:=Zy (az.ext h);have m:=Zy c;have u:=Zy (x.ext h);have aa:=Zy y;clear B c y h;refine jr _ rfl (.tmp 100) (.tmp 101) rfl s rfl (mW.lit (n:=2) [⟨#[97,115,107,115,32,116,111,112,32,49]⟩,⟨#[97,115,107,115,32,99,101,108,108,32,49]⟩] aa rfl Zn) rfl Zm m fun aY Z f d e=>?_;have t:=Zy f;have g:=Zy d;have q:=Zy (lI u a e);clear f d e)
    |(refine jr _ rfl (.tmp 102) (.tmp 103) rfl t rfl (aC.kp g b.1).any rfl Zm g fun bC D l i j=>?_;have I:=Zy l;have H:=Zy i;have F:=Zy (lI q a j);clear l i j)
    |fail)
   obtain⟨aH,G⟩:∃K,K=D.alloc (.cells #[.string ⟨#[97,115,107,115,32,116,111,112,32,48]⟩,.string ⟨#[97,115,107,115,32,99,101,108,108,32,49]⟩,.string ⟨#[97,115,107,115,32,110,111,110,101,32,48]⟩] 9):=⟨_,rfl⟩;have bL:Ext D aH:=by rw[G];exact jw _
   have dZ:Zz (hZ aH D 9 #[.string ⟨#[97,115,107,115,32,116,111,112,32,48]⟩,.string ⟨#[97,115,107,115,32,99,101,108,108,32,49]⟩,.string ⟨#[97,115,107,115,32,110,111,110,101,32,48]⟩]):=Zy (by rw[G];exact hZ.new _ _ _);have⟨cB,fo,bZ⟩:=jB (jQ aH r (p+1+1+1+1) v zs 3 (F.ext bL) Zm Zm) G bL;have fB:=Zy F.o.below.1;clear G bL;rw[<-fo.o];refine cB.mono ?_;rintro o bU ⟨⟨C,rfl,fM⟩,dF,bn⟩;have gP:C<3:=Zm
   obtain⟨sx,gq,gZ⟩:=qP (k:=C) (dZ.kp bn (SX fB.o)) Zr Zn;have⟨af,ai,E⟩:=jB ((I.ext bZ).kp bn (fun aP o=>SX a.1)) dF ((H.o.trans bZ.o.any).trans bn);have ic:=jc gq;clear bn dF fM cB;go_wp2_with (first
    |(obtain⟨bV,dK,z,dC,bG⟩:=mW.two (Z:=1000) E ⟨#[107,101,101,112,101,114]⟩ sx Zn Zm;rw[<-dK];have ag:=Zy (af.ext bG);have L:=Zy z;have aj:=Zy (ai.ext bG);have eB:=Zy dC;clear dK z dC bG;refine jr _ rfl (.tmp 105) (.tmp 111) rfl ag rfl (mW.lit (n:=2) [⟨#[107,101,101,112,101,114]⟩,sx] eB rfl (Rq Zn Zm)) rfl Zm L fun gH bW aX A aV=>?_;have ah:=Zy aX;have N:=Zy A;have ak:=Zy (lI aj a aV);clear aX A aV)
    |(refine jr _ rfl (.tmp 112) (.tmp 113) rfl ah rfl (aD.kp N b.1).any rfl Zm N fun dU dW X Q T=>?_;have aK:=Zy X;have O:=Zy Q;have aN:=Zy (lI ak a T);clear X Q T)
    |(refine jr _ rfl (.tmp 114) (.tmp 115) rfl aK rfl (aB.kp O b.1).any rfl Zm O fun dV dX Y R U=>?_;have aL:=Zy Y;have ax:=Zy R;have aO:=Zy (lI aN a U);clear Y R U)
    |fail)
   go_ret;exact⟨uu aL aF Zm Zm,⟨_,Zm,aO.o⟩,ae.o.trans ax.o⟩
def Js(w w':World)(e:Ending):Prop:=∃(n m:ByteArray) (a:Option Addr) (c:Nat) (args:List Int),e=.returned (.tuple #[.string n,.string m,.slice a args.length c])/\SliceOf 1 oW w' (fun b=>w.heap.size<=b) (.slice a args.length c) args/\args.length<=1/\n.size<=20/\m.size<=20
theorem Hs{n: ByteArray}(b:n.size<=20)(a:m.size<=20):Js w d (.returned (.tuple #[n,m,.slice (some ⟨g,0,none⟩) 0 0])):=
 ⟨n,m,_,_,[],rfl,⟨_,_,rfl,T9 _,by simp,fun e f c=>by simp at c⟩,by simp,b,a⟩
theorem yL{n: ByteArray}{x:Int}(d:hH a g 0 [x])(e:w<=g)(b:1<=c)(h:n.size<=20)(f:m.size<=20):Js w a (.returned (.tuple #[n,m,.slice (some ⟨g,0,none⟩) 1 c])):=
 ⟨n,m,_,_,[x],rfl,SliceOf.row (R:=oW) (xs:=[x]) [[x]] d rfl Zl ⟨rfl,trivial⟩ e b Zl,by simp,h,f⟩
theorem Py(cs:List Value)(e:k<cs.length)(c:cs.all KQ=true):∃b:ByteArray,(∀c:k<cs.length,cs[k]'c=.string b)/\b.size<=20:=by
 have a:=TY.1 c cs[k] Zl;unfold KQ at a;split at a
 . rename_i b d;exact⟨b,fun _=>d,by simpa using a⟩
 . cases a
theorem Mr(w:World)(a p:Nat)(v:Value)(j:List Int)(q:oh w a v j p)(hp:p<=700000):Calls prog 15 #[some a] w fun l B=>Js w B l/\(∃Q,Q<=p+10/\oh B a v j Q)/\Kp (·=a) w B:=by
 have X:=Zy q.below;obtain⟨S,N,r,I⟩:=nu w #[Tc,.int .i64 1,.int .i64 3,.int .i64 5,.int .i64 (-1),.int .i64 9999] 3;have⟨F,V,Y⟩:=jB (jQ S a p v j 6 (q.ext r) Zm Zm) I N;have D:Zz (Kp (·=a) w S):=Zy r.any;clear q N r I;go_enter func15,ntmps15;go_wp2_with fail;rw[<-Y.o];refine F.o.mono ?_;rintro l T ⟨⟨k,rfl,hk⟩,u,m⟩;have aj:k<6:=by omega
 obtain⟨ag,P,-,-⟩:=uT (k:=k) (V.o.kp m (by have:=X.o.1;omega)) Zr Zn;obtain⟨w3,O,s,J⟩:=nu T #[ag] 3;have af:=jc P;have⟨G,C,Z,W⟩:=jU (jQ w3 a (p+1) v j 12 (u.ext s) Zm Zm) J O ((D.o.trans m).trans s.any);obtain⟨d,M⟩:∃d,d=T.heap.size:=⟨_,rfl⟩;have i:Zz (w.heap.size<=d):=Zy (by have:=D.o.size;have:=m.size;omega);have o:Zz (d≠a):=Zy (by have:=u.below.1;omega);clear O s J u m hk F;go_wp2_with fail;rw[<-Z.o];refine G.o.mono ?_;rintro l g ⟨⟨f,rfl,ht⟩,K,t⟩;have ae:f=0\/f=1\/f=2\/f=3\/f=4\/f=5\/(6<=f/\f<12):=by omega
 rw[<-M]at C |-;have⟨h,b,c⟩:=jB (C.o.kp t o.o) (W.o.trans t) K;clear K t ht G P af M;rcases ae with rfl|rfl|rfl|rfl|rfl|rfl|⟨t6,au⟩
 . go_wp2_with fail;refine Cv (v:=.tuple #[.string ⟨#[116,111,112]⟩,.string ⟨#[103,101,116]⟩,.slice (some ⟨g.heap.size,0,none⟩) 0 0]) (by simp[results,results15,go_sem]) rfl ?_;exact⟨Hs Zn Zn,⟨_,by omega,c.o.ext (jw _)⟩,b.o.trans (jw _)⟩
 . go_wp2_with fail;refine Cv (v:=.tuple #[.string ⟨#[99,101,108,108]⟩,.string ⟨#[103,101,116]⟩,.slice (some ⟨g.heap.size,0,none⟩) 0 0]) (by simp[results,results15,go_sem]) rfl ?_;exact⟨Hs Zn Zn,⟨_,by omega,c.o.ext (jw _)⟩,b.o.trans (jw _)⟩
 . have aa:=Zy b.o.size;go_wp2_with fail;refine Cv (v:=.tuple #[.string ⟨#[109,97,105,110]⟩,.string ⟨#[114,117,110]⟩,.slice (some ⟨g.heap.size,0,none⟩) 1 1]) (by simp[results,results15,go_sem]) rfl ?_;exact⟨yL (hH.nL _ _ rfl) aa.o (T9 _) Zn Zn,⟨_,by omega,c.o.ext (jw _)⟩,b.o.trans (jw _)⟩
 . go_wp2_with fail;refine Cv (v:=.tuple #[.string ⟨#[109,97,105,110]⟩,.string ⟨#[110,111,110,101]⟩,.slice (some ⟨d,0,none⟩) 1 1]) (by simp[results,results15,go_sem]) rfl ?_;exact⟨yL (hH.l7 h.o) i.o (T9 _) Zn Zn,⟨_,by omega,c.o⟩,b.o⟩
 . go_wp2_with fail;refine Cv (v:=.tuple #[.string ⟨#[65]⟩,.string ⟨#[114,117,110]⟩,.slice (some ⟨d,0,none⟩) 1 1]) (by simp[results,results15,go_sem]) rfl ?_;exact⟨yL (hH.l7 h.o) i.o (T9 _) Zn Zn,⟨_,by omega,c.o⟩,b.o⟩
 . go_wp2_with fail;refine Cv (v:=.tuple #[.string ⟨#[116,111,112]⟩,.string ⟨#[98,117,109,112]⟩,.slice (some ⟨d,0,none⟩) 1 1]) (by simp[results,results15,go_sem]) rfl ?_;exact⟨yL (hH.l7 h.o) i.o (T9 _) Zn Zn,⟨_,by omega,c.o⟩,b.o⟩
 . go_upto_region 15 with(fail);first|(go_region_with (go_at_call 39;refine(jQ _ a (p+1+1) v j 4 (c.o.ext kx) Zm Zm).mono ?_;rintro l U ⟨⟨A,rfl,hj⟩,L,e⟩;(have ai:A<4:=by omega);have H:=Zy L;have ah:=Zy e;clear L hj;(first|(with_reducible change Kp (·=a) (g.alloc (.cells #[.string ⟨#[114,117,110]⟩,.string ⟨#[114,117,110]⟩,.string ⟨#[115,117,109]⟩,.string ⟨#[99,97,115,116]⟩] 9)).drew U at e;have E:=Zy (((jw _).drew).trans e);have y:=qP (k:=A) (((hZ.new g 9 #[.string ⟨#[114,117,110]⟩,.string ⟨#[114,117,110]⟩,.string ⟨#[115,117,109]⟩,.string ⟨#[99,97,115,116]⟩]).ext (jg)).kp e (by have:=c.o.below.1;omega)) Zr Zn;clear e;obtain⟨R,x,z⟩:=y;have ak:=jc x)|(with_reducible change Kp (·=a) g.drew U at e;have E:=Zy ((jg).trans e);have y:=Py (k:=A) [.string ⟨#[114,117,110]⟩,.string ⟨#[114,117,110]⟩,.string ⟨#[115,117,109]⟩,.string ⟨#[99,97,115,116]⟩] Zr Zn;clear e;obtain⟨R,x,z⟩:=y))))|fail
   all_goals
    go_wp2_with fail;refine Cv (v:=.tuple #[.string ⟨#[109,97,105,110]⟩,R,.slice (some ⟨d,0,none⟩) 1 1]) (by simp[results,results15,go_sem,x]) rfl ?_;have n:=(Kp.refl (·=a) g).trans E.o;first
    |exact⟨yL (hH.l7 (h.o.kp n o.o)) i.o (T9 _) Zn z,⟨_,by omega,H.o⟩,b.o.trans n⟩
    |exact⟨yL (hH.l7 ((h.o.kp n o.o).ext (jw _))) i.o (T9 _) Zn z,⟨_,by omega,H.o.ext (jw _)⟩,(b.o.trans n).trans (jw _)⟩
def Qj(w w':World)(e:Ending):Prop:=∃(pl:iZ) (v:Value),e=.returned (.agg #[v])/\SliceOf 2 ja w' (fun b=>w.heap.size<=b/\b<w'.heap.size) v pl
theorem BK{c: Value}{m:List Int}{pl:iZ}(o:Kp (·=b) w W)(p:SliceOf 2 ja W (fun a=>w+1<=a) c pl)(hR:oh W b v m q)(hl:b<w/\(m.length≠0->∀d l g,v=.slice (some d) l g->d.block<w))(f:World) (j:Ext (W.setCell w c) f):Qj w f (.returned (.agg #[c]))/\oh f b v m q/\Kp (·=b) w f:=by
 have k:Kp (·=w) W (W.setCell w c):=nH;have r:=((p.keep (J:=fun a=>w+1<=a) ja.stays (k.same fun a e h=>Zm) (fun a e=>e)).ext ja.stays j).inside (fun _ _ _ _ i=>ja.inside i) Zm;exact⟨⟨pl,c,rfl,r.keep ja.stays (fun _ _ _ _ i=>i) (fun a e=>⟨Zm,e.2⟩)⟩,(hR.turn k Zm (fun n d l g h=>SX (hl.2 n d l g h))).ext j,(o.own k fun a h=>Zm).trans j.any⟩
theorem J8(w:World)(i p:Nat)(v:Value)(z:List Int)(n:Int)(b:oh w i v z p)(hp:p<=600000)(hn:n<=1000000)(aZ: -1000000<=n):Calls prog 14 #[some i,n] w fun f W=>Qj w W f/\(∃aI,aI<=p+60/\oh W i v z aI)/\Kp (·=i) w W:=by
 have j:=Zy b.below;obtain⟨k,T,O,b1⟩:=nu w #[()] 25;have N:Zz ((k:Nat)=w+1):=Zy (by rw[T];simp);have⟨aa,aJ,aT⟩:=jB (I7 k i p v z (b.ext O) Zm) b1 T;have aL:Zz (Kp (·=i) w k):=Zy O.any;clear b T O b1;go_enter func14,ntmps14;go_wp2_with fail;rw[<-aT.o];refine aa.mono ?_;rintro f w2 ⟨⟨vl,E,rfl,R,aW,aX,aB⟩,⟨q2,bg,au⟩,Q⟩;obtain⟨U,V,rfl,-,-⟩:=R.form;have⟨aQ,M,aK,aM⟩:=jU R aB (aJ.kp Q (SX j.1)) (aL.o.trans Q);have K:Zz (i<k):=Zy (SY j.1 N.o);have ae:=Zy (J2 w2 i q2 v z n au Zm Zm Zm);obtain⟨t,S⟩:∃t,E.length=t:=⟨_,rfl⟩;have J:=Zy S;rw[S]at aW aX |-;clear R au Q aB aa S;go_wp2_with fail;refine ae.mono ?_;rintro f w3 ⟨⟨od,rfl⟩,av,B⟩;have L:=Zy (by
  have:=aQ.keep (J:=fun a=>k<=a) kV.stays (B.same fun a q f=>SX K.o) (fun _ b=>b);rwa[J.o]at this)
 have⟨F,H,ag⟩:=jB (aK.kp B (SX j.1)) (aM.o.trans B) av;clear av B ae;cases od
 . have m:=Zy (yD w3 _ (.slice U t V) E L (fun y s=>SX (M.o y s)));go_wp2_with fail;refine m.mono ?_;rintro f X ⟨⟨pl,vp,nn,rfl,h,aV⟩,g⟩;obtain⟨u,x,rfl,-,-⟩:=h.form;obtain⟨d,r⟩:∃d,pl.length=d:=⟨_,rfl⟩;rw[r]at h |-;clear r;have e:=F.ext g;obtain⟨cz,c0,-⟩:=e.ca;have cf:=e.frozen 0;have⟨c,G⟩:=jf (BK (w:=w) (W:=X) (pl:=pl) (H.trans g.any) (h.keep (J:=fun a=>w+1<=a) ja.stays (fun _ _ _ _ b=>b) (fun a q=>S9 H.size N.o F.lt)) (ag.o.ext g) j.o _ (jw (.cells #[.slice u d x] 25))) e;clear h g e m;go_wp2_with fail;refine Cv (jE qN rfl w rfl [.slice u d x] (hH.l7 ((G.jy 0 _).ext (jw _))) rfl) rfl ?_;exact⟨c.1,⟨_,Zm,c.o.2.1⟩,c.o.2.2⟩
 . have ai:=Zy (J5 w3 i (q2+1) v z ag (.slice U t V) E L (fun a q=>SX K.o) ⟨SX J.o,SX J.o⟩ M.o Zm);go_wp2_with fail;refine ai.mono ?_;rintro f w4 ⟨⟨v4,aY,I4,rfl,az,aC⟩,⟨q4,bn,ax⟩,C⟩;have⟨aR,Y,Z,aP,af⟩:=ni (L.keep (J:=fun a=>k<=a) kV.stays (C.same fun a q f=>SX K.o) (fun _ b=>b)) (F.o.kp C (SX j.o.1)) (H.o.trans C) ax (yD w4 I4 v4 aY az (fun y s=>SX (aC y s)));clear ax C az aC ai;go_wp2_with fail;refine af.mono ?_;rintro f w5 ⟨⟨aG,bq,n5,rfl,D,bf⟩,ak⟩;obtain⟨aD,aF,rfl,-,-⟩:=D.form;obtain⟨aH,ay⟩:∃d,aG.length=d:=⟨_,rfl⟩;rw[ay]at D |-;clear ay;obtain⟨w6,aA,P,b6⟩:=nu w5 #[.slice aD aH aF] 25;have o:=ak.trans P;have⟨aS,l,I,ah,aj,aO,aN⟩:=qA (aR.ext kV.stays o) (Y.ext o) (Z.trans o.any) (aP.ext o) aA ((D.keep (J:=fun a=>w+1<=a) ja.stays (fun _ _ _ _ b=>b) (fun a q=>SY Z.size Y.lt)).ext ja.stays P) b6;clear D ak P o aA b6 af;by_cases A:n5=0
   . have aU:=Uq.2 A;go_upto_region 4 with(fail);rw[<-aj.o];obtain⟨cz,c0,-⟩:=l.ca;have cf:=l.frozen 0;obtain⟨yz,y0,-⟩:=aN.ca;have c:=Zy (BK (w:=w) (W:=w6) (pl:=aG) I aO ah j _ Kp.rr);clear A;go_wp2_with fail;refine Cv (jE qN rfl w rfl [.slice aD aH aF] (hH.l7 (l.jy 0 _)) rfl) rfl ?_;exact⟨c.1,⟨_,Zm,c.o.2.1⟩,c.o.2.2⟩
   . have aU:=SF.2 A;go_upto_region 4 with(fail);rw[<-aj.o];clear A;have m:=Zy (yD w6 _ (.slice U t V) E aS (fun y s=>SX (M.o y s)));go_wp2_with fail;refine m.mono ?_;rintro f X ⟨⟨pl,vp,nn,rfl,h,aV⟩,g⟩;obtain⟨u,x,rfl,-,-⟩:=h.form;obtain⟨d,r⟩:∃d,pl.length=d:=⟨_,rfl⟩;rw[r]at h |-;clear r;have e:=l.ext g;obtain⟨cz,c0,-⟩:=e.ca;have cf:=e.frozen 0;have⟨c,G⟩:=jf (BK (w:=w) (W:=X) (pl:=pl) (I.trans g.any) (h.keep (J:=fun a=>w+1<=a) ja.stays (fun _ _ _ _ b=>b) (fun a q=>S9 I.size N.o l.lt)) (ah.o.ext g) j.o _ (jw (.cells #[.slice u d x] 25))) e;clear h g e m;go_wp2_with fail;refine Cv (jE qN rfl w rfl [.slice u d x] (hH.l7 ((G.jy 0 _).ext (jw _))) rfl) rfl ?_;exact⟨c.1,⟨_,Zm,c.o.2.1⟩,c.o.2.2⟩
def sQ(rb bz:Nat)(n:Int)(s:Nat->Value):Act:={tmps:=#[.pointer (some ⟨rb,0,none⟩),.int .i64 n,undef,undef,.pointer (some ⟨bz,0,none⟩),s 14,undef,undef,undef,undef,s 0,s 1,s 2,s 3,s 4,s 5,s 6,s 7,s 8,s 9,s 10,s 11,s 12,s 13,undef,undef,undef,undef,undef,undef,undef,undef,undef,undef,undef,undef,undef,undef,undef,undef,undef,undef,undef,undef,undef,undef,undef,undef,undef,undef,undef,undef,undef,undef,undef,undef,undef,undef,undef,undef,undef,undef,undef,undef,undef,undef,undef,undef,undef,undef,undef,undef,undef,undef,undef,undef,undef,undef,undef,undef,undef,undef,undef,undef,undef,undef,undef,undef,undef,undef,undef,undef,undef,undef,undef,undef,undef,undef,undef,undef,undef,undef,undef,undef,undef,undef,undef,undef,undef,undef,undef,undef,undef,undef,undef,undef,undef,undef],defers:=[]}
def xN(z rb:Nat)(i:Nat)(W:World)(x:Value):Prop:=match i with
 |0=>x=.pointer (some ⟨rb,0,none⟩)
 |1=>∃k:Nat,k<4/\x=.int .i64 k
 |2=>∃k:Int,x=.int .i64 k
 |3=>∃b,x=.slice (some ⟨b,0,none⟩) 4 4/\hZ W b 3 #[.int .i64 0,.int .i64 0,.int .i64 1,.int .i64 2]/\z<=b
 |4=>x=.pointer (some ⟨rb,0,none⟩)
 |5=>∃k:Nat,k<4/\x=.int .i64 k
 |6=>∃b k u,x=.pointer (some ⟨b,k,none⟩)/\W.cell? ⟨b,k,none⟩=some (.int .i64 u)/\z<=b
 |7=>∃u:Int,x=.int .i64 u
 |8=>∃b,x=.slice (some ⟨b,0,none⟩) 5 5/\hZ W b 9 #[.string ⟨#[116,111,112]⟩,.string ⟨#[99,101,108,108]⟩,.string ⟨#[109,97,105,110]⟩,.string ⟨#[110,111,110,101]⟩,.string ⟨#[111,116,104,101,114]⟩]/\z<=b
 |9=>x=.pointer (some ⟨rb,0,none⟩)
 |10=>∃k:Nat,k<5/\x=.int .i64 k
 |11=>∃b k u,x=.pointer (some ⟨b,k,none⟩)/\W.cell? ⟨b,k,none⟩=some (.string u)/\z<=b
 |12=>∃u,x=.string u
 |13=>∃kd kp nm,x=.agg #[.int .i64 kd,.int .i64 kp,.string nm,.int .i64 0,.string ⟨#[]⟩,.string ⟨#[]⟩,.slice none 0 0,.slice none 0 0]
 |14=>∃b,x=.pointer (some ⟨b,0,none⟩)/\hZ W b 49 #[.int .i64 0,.int .i64 0,.string ⟨#[]⟩,.int .i64 0,.string ⟨#[]⟩,.string ⟨#[]⟩,.slice none 0 0,.slice none 0 0]/\z<=b
 |_=>True
theorem xN.kp{f: Nat}{k: World}(g:Kp (·=f) W k)(l:f<z)(i:Nat)(x:Value)(e:xN z f i W x):xN z f i k x:=by
 unfold xN at*;split at e
 case h_4=>obtain⟨a,c,b,d⟩:=e;exact⟨a,c,b.kp g Zm,d⟩
 case h_7=>obtain⟨a,h,j,c,b,d⟩:=e;exact⟨a,h,j,c,(Un (g.block _ (jc b) (by show¬a=f;omega))).trans b,d⟩
 case h_9=>obtain⟨a,c,b,d⟩:=e;exact⟨a,c,b.kp g Zm,d⟩
 case h_12=>obtain⟨a,h,j,c,b,d⟩:=e;exact⟨a,h,j,c,(Un (g.block _ (jc b) (by show¬a=f;omega))).trans b,d⟩
 case h_15=>obtain⟨a,c,b,d⟩:=e;exact⟨a,c,b.kp g Zm,d⟩
 all_goals exact e
def qV(D:Nat->Bool):Nat:=(D 1).toNat+(D 5).toNat+(D 10).toNat
structure Hj(P:(Nat->Bool)->Nat)(w1:World)(rb p:Nat)(v:Value)(zs:List Int)(D:Nat->Bool)(W:World):Prop where
 rd:oh W rb v zs (p+P D)
 kp:Kp (·=rb) w1 W
theorem Hj.ext{P:(Nat->Bool)->Nat}{d: Nat}{f:List Int}{D D':Nat->Bool}(b:Hj P e d p v f D W)(c:Ext W a)(g:P D'=P D):Hj P e d p v f D' a:=
 ⟨by rw[g];exact b.rd.ext c,b.kp.trans c.any⟩
theorem Oi(D:Nat->Bool):qV D<=3:=by
 unfold qV;cases D 1<;>cases D 5<;>cases D 10<;>decide
theorem Kp.KL{D': Nat->Prop}{b: World}(d:Kp D w a)(e:Kp D' a b)(h:∀c,D' c->D c\/w.heap.size<=c):Kp D w b:=
 ⟨e.os.trans d.os,e.tape.trans d.tape,e.output.trans d.output,TL d.size e.size,
  fun c f g=>(e.block c (Tx f d.size) (fun i=>(h c i).elim g fun j=>absurd j (Nat.not_le.2 f))).trans (d.block c f g)⟩
abbrev K6(kd kp:Int)(nm:ByteArray)(dst:Int)(x:Class)(a1:Option Addr)(m1:Nat)(a2:Option Addr)(m2:Nat):Array Value:=#[.int .i64 kd,.int .i64 kp,.string nm,.int .i64 dst,.string x.name,.string x.jl,.slice a1 x.fields.length m1,.slice a2 x.methods.length m2]
def vM(w1:World)(rb b p:Nat)(v:Value)(zs:List Int)(W:World):Prop:=∃kd kp nm dst x a1 m1 a2 m2 q,hZ W b 49 (K6 kd kp nm dst x a1 m1 a2 m2)/\
 jh W (fun k=>w1.heap.size<=k/\k≠b) x [.string x.name,.string x.jl,.slice a1 x.fields.length m1,.slice a2 x.methods.length m2]/\q<=p/\oh W rb v zs q/\Kp (·=rb) w1 W
theorem vM.put{g: World}{f: Nat}{o:List Int}{s t r:Int}{x:Class}{h i:Option Addr}{m: Nat}(hl:f<a/\(o.length≠0->∀c l j,v=.slice (some c) l j->c.block<a))(E:a<=b)(k:Kp (·=b) W g)(z:hZ g b 49 (K6 s t u r x h m i n)) (A:jh W (fun e=>a<=e/\e≠b) x [x.name,x.jl,.slice h x.fields.length m,.slice i x.methods.length n]) (D:q<=p) (hR:oh W f v o q) (B:Kp (·=f) a W):vM a f b p v o g:=
 ⟨s,t,u,r,x,h,m,i,n,q,z,jh.stays _ _ _ _ _ _ (k.same fun e C d=>C.2 d) (fun _ w=>w) A,D,hR.turn k Zm (fun y c l j d=>SX (hl.2 y c l j d)),B.KL k (fun e d=>.inr Zm)⟩
def OX(w w':World)(e:Ending):Prop:=∃kd kp nm dst x a1 m1 a2 m2,e=.returned (.agg (K6 kd kp nm dst x a1 m1 a2 m2))/\
 jh w' (fun k=>w.heap.size<=k) x [.string x.name,.string x.jl,.slice a1 x.fields.length m1,.slice a2 x.methods.length m2]
theorem hZ.SB{u0 u1 u2 u3 u4 u5 u6 u7:Value}(g:hZ w b t #[u0,u1,u2,u3,u4,u5,u6,u7])(a c d e f:Value):hZ (((((w.setCell (b,4) a).setCell (b,5) c).setCell (b,6) d).setCell (b,7) e).setCell (b,2) f) b t #[u0,u1,f,u3,a,c,d,e]/\Kp (·=b) w (((((w.setCell (b,4) a).setCell (b,5) c).setCell (b,6) d).setCell (b,7) e).setCell (b,2) f):=by
 have h:hZ (w.setCell (b,4) a) b t #[u0,u1,u2,u3,a,u5,u6,u7]:=g.jy 4 a;have i:hZ ((w.setCell (b,4) a).setCell (b,5) c) b t #[u0,u1,u2,u3,a,c,u6,u7]:=h.jy 5 c;have j:hZ (((w.setCell (b,4) a).setCell (b,5) c).setCell (b,6) d) b t #[u0,u1,u2,u3,a,c,d,u7]:=i.jy 6 d;have k:hZ ((((w.setCell (b,4) a).setCell (b,5) c).setCell (b,6) d).setCell (b,7) e) b t #[u0,u1,u2,u3,a,c,d,e]:=j.jy 7 e;have l:hZ (((((w.setCell (b,4) a).setCell (b,5) c).setCell (b,6) d).setCell (b,7) e).setCell (b,2) f) b t #[u0,u1,f,u3,a,c,d,e]:=k.jy 2 f;exact⟨l,nH⟩
theorem hZ.SA{u0 u1 u2 u3 u4 u5 u6 u7:Value}(f:hZ w b t #[u0,u1,u2,u3,u4,u5,u6,u7])(a c d e:Value):hZ ((((w.setCell (b,4) a).setCell (b,5) c).setCell (b,6) d).setCell (b,7) e) b t #[u0,u1,u2,u3,a,c,d,e]/\Kp (·=b) w ((((w.setCell (b,4) a).setCell (b,5) c).setCell (b,6) d).setCell (b,7) e):=by
 have g:hZ (w.setCell (b,4) a) b t #[u0,u1,u2,u3,a,u5,u6,u7]:=f.jy 4 a;have h:hZ ((w.setCell (b,4) a).setCell (b,5) c) b t #[u0,u1,u2,u3,a,c,u6,u7]:=g.jy 5 c;have i:hZ (((w.setCell (b,4) a).setCell (b,5) c).setCell (b,6) d) b t #[u0,u1,u2,u3,a,c,d,u7]:=h.jy 6 d;have j:hZ ((((w.setCell (b,4) a).setCell (b,5) c).setCell (b,6) d).setCell (b,7) e) b t #[u0,u1,u2,u3,a,c,d,e]:=i.jy 7 e;exact⟨j,nH⟩
def zI(z rb b:Nat)(u:ByteArray)(i:Nat)(W:World)(x:Value):Prop:=match i with
 |0=>x=.pointer (some ⟨b,2,none⟩)
 |1=>x=.string u
 |2=>∃b,x=.slice (some ⟨b,0,none⟩) 2 2/\hZ W b 9 #[.string ⟨#[]⟩,.string ⟨#[116,111,112]⟩]/\z<=b
 |3=>x=.pointer (some ⟨rb,0,none⟩)
 |4=>∃k:Nat,k<2/\x=.int .i64 k
 |5=>∃b k u,x=.pointer (some ⟨b,k,none⟩)/\W.cell? ⟨b,k,none⟩=some (.string u)/\z<=b
 |6=>∃u,x=.string u
 |7=>∃s,x=.agg #[.string u,.string s,.slice none 0 0,.slice none 0 0]
 |8=>x=.pointer (some ⟨b,4,none⟩)
 |_=>True
theorem zI.kp{a: Nat}{e:ByteArray}{h: World}(j:Kp (·=a) W h)(l:a<z)(i:Nat)(x:Value)(c:zI z a b e i W x):zI z a b e i h x:=by
 unfold zI at*;split at c
 case h_3=>obtain⟨b,f,d,g⟩:=c;exact⟨b,f,d.kp j Zm,g⟩
 case h_6=>obtain⟨b,k,e,f,d,g⟩:=c;exact⟨b,k,e,f,(Un (j.block _ (jc d) (by show¬b=a;omega))).trans d,g⟩
 all_goals exact c
def El(D:Nat->Bool):Nat:=(D 4).toNat
theorem Oh(D:Nat->Bool):El D<=1:=by
 unfold El;cases D 4<;>decide
def grown(k:Nat)(pl:iZ):Prop:=(k=0->pl=[])/\(k=1->pl=[⟨[],[]⟩])/\(2<=k->∃q,pl=[q]/\q.owns≠[])
def Bl(r:List ByteArray):Bool:=decide (r.length<=40)&&r.all (fun u=>decide (u.size<=40)&& !(u.toList==[107,101,101,112,101,114]))&&(match r with
 |u::_=>match M.words u with
  |x::_=>x.toList==[99,108,97,115,115]
  |[]=>false
 |[]=>false)
theorem KW:(M.blocks.all Bl)=true:=by decide+kernel
theorem JK(j:Bl r=true)(k:Nat)(pl g:iZ)(x:ByteArray)(c:((⟨#[107,101,101,112,101,114]⟩:ByteArray)::r)[k]?=some x)(a:grown k pl)(v:Ku x pl g):grown (k+1) g:=by
 obtain⟨t,p,u⟩:=a;obtain⟨s,o,-⟩:=v;unfold Bl at j;simp only[Ty,TY,Tq]at j;obtain⟨⟨-,q⟩,e⟩:=j;match k with
 |0=>
  simp at c;subst c;have:=s (by decide+kernel);rw[t rfl]at this;exact⟨fun a=>Zm,fun _=>by simpa using this,fun a=>Zm⟩
 | 1 =>
  cases r with
  |nil=>simp at c
  | cons m r =>
   simp at c;subst c;have d:=(q m Zl).2;simp only[Vl]at d;change(match M.words m with|x::_=>x.toList==[99,108,97,115,115]|[]=>false)=true at e;cases f:M.words m with
   |nil=>rw[f]at e;simp at e
   |cons n B=>
    rw[f]at e;obtain⟨i,l,b,h⟩:=o d 0 ⟨[],[]⟩ n (by rw[p rfl];rfl) (by rw[p rfl];rfl) (by rw[f];rfl);refine⟨fun a=>Zm,fun a=>Zm,fun _=>⟨l,?_,h.2 e⟩⟩;match g,i,b with
    |[z],_,b=>simpa using b
 | k + 2 =>
  obtain⟨A,rfl,w⟩:=u Zm;have y:x∈r:=by
   have:r[k+1]?=some x:=by simpa using c
   exact RA this
  have d:=(q x y).2;simp only[Vl]at d;obtain⟨n,B,f⟩:=M.Ab x;obtain⟨i,l,b,h⟩:=o d 0 A n rfl rfl (by rw[f];rfl);refine⟨fun a=>Zm,fun a=>Zm,fun _=>⟨l,?_,h.1 w⟩⟩;match g,i,b with
  |[z],_,b=>simpa using b
theorem G7(w:World)(g p:Nat)(v:Value)(o:List Int)(n:Int)(a:oh w g v o p)(hp:p<=600000)(hn:n<=1000000)(iG: -1000000<=n):Calls prog 40 #[some g,n] w fun d w'=>OX w w' d/\(∃O,O<=p+20/\oh w' g v o O)/\Kp (·=g) w w':=by
 have aF:=a.below;obtain⟨u,aY⟩:=SS (w.alloc (.cells #[Tc,Tc, "",Tc, "", "",(),()] 49));have aB:Ext w u:=by rw[aY];exact Zx
 have fe:Zz (hZ u w 49 #[Tc,Tc, "",Tc, "", "",(),()]):=Zy (by rw[aY];exact hZ.new _ _ _);have fM:=Zy (a.ext aB);have h:Zz (g<u/\(o.length≠0->∀Q V R,v=.slice (some Q) V R->Q.block<u)):=Zy ⟨SY aF.1 aB.size,fun S Q V R d=>SY (aF.2 S Q V R d) aB.size⟩;have dH:=Zy aF.1;have fI:=Zy aF.2;have⟨dK,fu⟩:=jf aY aB;clear aY aB a aF;go_enter func40,ntmps40;go_upto_region 1 with(fail);rw[<-dK.o];go_cut [5] (fun s5 P=>∃c kd kp nm,s5=.pointer (some ⟨c,0,none⟩)/\hZ P c 49 (K6 kd kp nm 0 ⟨⟨#[]⟩,⟨#[]⟩,[],[]⟩ none 0 none 0)/\u.heap.size<=c/\(∃O,O<=p+3/\oh P g v o O)/\Kp (·=g) u P)
 case first =>
  have F:=Oi;refine Rl 15 [[],[0],[1],[],[],[4],[3,5],[6],[],[],[9],[8,10],[11],[2,7,12],[]] (sQ g w n) (xN u g) (Hj qV u g p v o) rfl ⟨fM.ext jg,jg⟩ ?_ ?_
  . intro D T aa f U hD e l gI b;obtain rfl|rfl|rfl|rfl|rfl|rfl|rfl|rfl|rfl|rfl|rfl|rfl|rfl|rfl|rfl:f=0\/f=1\/f=2\/f=3\/f=4\/f=5\/f=6\/f=7\/f=8\/f=9\/f=10\/f=11\/f=12\/f=13\/f=14:=Zm
    . refine js ?_;simp (decide:=true)only[sQ,upd,U2,TA]at b |-;go_wp2_with fail;exact⟨fun _ _ a=>a,e.ext Kp.rr rfl,rfl⟩
    . have A:T 0=.pointer (some ⟨g,0,none⟩):=l 0 Zl;have ai:=Zy (jQ aa g (_+qV D) v o 4 e.rd (SX (F D)) Zm);have i:qV (qL D 1)=qV D+1:=by unfold qV qL;simp[hD];try omega
      refine js ?_;simp (decide:=true)only[sQ,upd,U2,TA]at b |-;rw[A]at b |-;clear l F;go_wp2_with fail;refine ai.mono ?_;rintro d W' ⟨⟨k,rfl,m⟩,ay,J⟩;go_wp2_with fail;exact⟨xN.kp J h.1,⟨by rw[i];exact ay,e.kp.trans J⟩,k,Zm,rfl⟩
    . obtain⟨k1,-,A⟩:=l 1 Zl;refine js ?_;simp (decide:=true)only[sQ,upd,U2,TA]at b |-;rw[A]at b |-;go_wp2_with fail;exact⟨fun _ _ a=>a,e.ext Kp.rr rfl,_,rfl⟩
    . have E:=e.kp.size;refine js ?_;simp (decide:=true)only[sQ,upd,U2,TA]at b |-;go_wp2_with fail;exact⟨xN.kp (jw _) h.1,e.ext (jw _) rfl,_,rfl,hZ.new _ _ _,E⟩
    . refine js ?_;simp (decide:=true)only[sQ,upd,U2,TA]at b |-;go_wp2_with fail;exact⟨fun _ _ a=>a,e.ext Kp.rr rfl,rfl⟩
    . have A:T 4=.pointer (some ⟨g,0,none⟩):=l 4 Zl;have ai:=Zy (jQ aa g (_+qV D) v o 4 e.rd (SX (F D)) Zm);have i:qV (qL D 5)=qV D+1:=by unfold qV qL;simp[hD];try omega
      refine js ?_;simp (decide:=true)only[sQ,upd,U2,TA]at b |-;rw[A]at b |-;clear l F;go_wp2_with fail;refine ai.mono ?_;rintro d W' ⟨⟨k,rfl,m⟩,ay,J⟩;go_wp2_with fail;exact⟨xN.kp J h.1,⟨by rw[i];exact ay,e.kp.trans J⟩,k,Zm,rfl⟩
    . obtain⟨c,i,j,E⟩:=l 3 Zl;obtain⟨k,m,G⟩:=l 5 Zl;obtain⟨s,y,-⟩:=uT (k:=k) j (by simpa using m) Zn;refine js ?_;simp (decide:=true)only[sQ,upd,U2,TA]at b |-;rw[i,G]at b |-;go_wp2_with fail;exact⟨fun _ _ a=>a,e.ext Kp.rr rfl,c,k,s,by simp,y,E⟩
    . obtain⟨c,k,s,i,hc,-⟩:=l 6 Zl;have aX:=jc hc;refine js ?_;simp (decide:=true)only[sQ,upd,U2,TA]at b |-;rw[i]at b |-;go_wp2_with fail;exact⟨fun _ _ a=>a,e.ext Kp.rr rfl,_,rfl⟩
    . have E:=e.kp.size;refine js ?_;simp (decide:=true)only[sQ,upd,U2,TA]at b |-;go_wp2_with fail;exact⟨xN.kp (jw _) h.1,e.ext (jw _) rfl,_,rfl,hZ.new _ _ _,E⟩
    . refine js ?_;simp (decide:=true)only[sQ,upd,U2,TA]at b |-;go_wp2_with fail;exact⟨fun _ _ a=>a,e.ext Kp.rr rfl,rfl⟩
    . have A:T 9=.pointer (some ⟨g,0,none⟩):=l 9 Zl;have ai:=Zy (jQ aa g (_+qV D) v o 5 e.rd (SX (F D)) Zm);have i:qV (qL D 10)=qV D+1:=by unfold qV qL;simp[hD];try omega
      refine js ?_;simp (decide:=true)only[sQ,upd,U2,TA]at b |-;rw[A]at b |-;clear l F;go_wp2_with fail;refine ai.mono ?_;rintro d W' ⟨⟨k,rfl,m⟩,ay,J⟩;go_wp2_with fail;exact⟨xN.kp J h.1,⟨by rw[i];exact ay,e.kp.trans J⟩,k,Zm,rfl⟩
    . obtain⟨c,i,j,E⟩:=l 8 Zl;obtain⟨k,m,G⟩:=l 10 Zl;obtain⟨s,y,-⟩:=qP (k:=k) j (by simpa using m) Zn;refine js ?_;simp (decide:=true)only[sQ,upd,U2,TA]at b |-;rw[i,G]at b |-;go_wp2_with fail;exact⟨fun _ _ a=>a,e.ext Kp.rr rfl,c,k,s,by simp,y,E⟩
    . obtain⟨c,k,s,i,hc,-⟩:=l 11 Zl;have aX:=jc hc;refine js ?_;simp (decide:=true)only[sQ,upd,U2,TA]at b |-;rw[i]at b |-;go_wp2_with fail;exact⟨fun _ _ a=>a,e.ext Kp.rr rfl,_,rfl⟩
    . obtain⟨k1,A⟩:=l 2 Zl;obtain⟨k2,i⟩:=l 7 Zl;obtain⟨k3,G⟩:=l 12 Zl;refine js ?_;simp (decide:=true)only[sQ,upd,U2,TA]at b |-;rw[A,i,G]at b |-;go_wp2_with fail;exact⟨fun _ _ a=>a,e.ext Kp.rr rfl,_,_,_,rfl⟩
    . have E:=e.kp.size;refine js ?_;simp (decide:=true)only[sQ,upd,U2,TA]at b |-;go_wp2_with fail;exact⟨xN.kp (jw _) h.1,e.ext (jw _) rfl,_,rfl,hZ.new _ _ _,E⟩
  . intro D T aa bN e L;obtain⟨kd,kp,nm,i⟩:=L 13 Zm;obtain⟨c,G,j,aW⟩:=L 14 Zm;have gT:=F D;have⟨HW,HB⟩:=jf e j;have E:=HB.lt;unfold sQ;rw[i,G];clear L F bN e;obtain⟨-,c0,c1,c2,c3,c4,c5,c6,c7,-⟩:=j.ca;obtain⟨f0,f1,f2,f3,f4,f5,f6,f7,-⟩:=j.fz;clear j;go_wp2;go_meet;exact⟨c,kd,kp,nm,rfl,HB.AZ _ _ _ _ _ _ _ _,aW,⟨_,Zm,HW.o.rd.turn (Kp.AZ (D:=(·=c)) rfl _ _ _ _ _ _ _ _) (SX h.o.1) (fun S Q V R d=>SX (h.o.2 S Q V R d))⟩,HW.o.kp.KL (Kp.AZ (D:=(·=c)) rfl _ _ _ _ _ _ _ _) (fun k d=>.inr Zm)⟩
 obtain⟨c,kd,kp,nm,rfl,j,aW,⟨O,hq,B⟩,b⟩:=hcut;obtain⟨w2,rfl⟩:∃w2,w2=wc:=⟨_,rfl⟩;have t:Zz (g≠c/\u.heap.size<=c):=Zy ⟨SX h.1,aW⟩;have⟨bn,bE,cZ⟩:=jB j B b;clear j B b aW;go_wp2_with fail;refine(F8 w2).mono ?_;rintro d w3 ⟨⟨vb,rfl,hS⟩,aC⟩;obtain⟨gJ,R,rfl,-,-⟩:=hS.form;obtain⟨bb,bW,rfl⟩:∃c bW,gJ=some ⟨c,bW,none⟩:=by
  obtain⟨b',o',cs,d,-⟩:=hS.get (i:=0) (x:=_) rfl;exact⟨_,_,d⟩
 have⟨bG,aG,bF,bC⟩:=jU hS (bn.ext aC) (bE.ext aC) (cZ.trans aC.any);have bZ:Zz (c<w2.heap.size/\g<w2):=Zy ⟨bn.lt,bE.below.1⟩;have gH:=Zy aC.size;clear hS aC;simp only[show M.blocks.length=11 from rfl]at bG |-;obtain⟨cz,c0,-⟩:=aG.ca;go_upto_if 27 with(fail);go_cut [] (fun P=>vM u g c (O+4) v o P)
 case first =>
  cases iC:(kd==1)
  . go_wp2;go_meet;exact⟨_,_,_,_,_,_,_,_,_,_,aG,⟨_,_,rfl,SliceOf.nil _ _ _ _,SliceOf.nil _ _ _ _⟩,Nat.le_add_right _ _,bF,bC⟩
  have dz:=Zy (jQ w3 g O v o 11 bF Zm Zm);go_wp2_with fail;refine dz.mono ?_;rintro d W ⟨⟨k,rfl,m⟩,dW,aS⟩;have eB:k<11:=Zm
  obtain⟨xs,bQ⟩:∃xs,M.blocks[k]?=some xs:=⟨M.blocks[k]'eB,Ou eB⟩;have ed:=bG.keep xu.stays (aS.same fun c j d=>SX bZ.o) (fun _ a=>a);obtain⟨b',o',cs,d,-,⟨v',rfl,L⟩,-,S⟩:=ed.get bQ;cases d;obtain⟨la,lc,rfl,-,-⟩:=L.form;have hc:W.cell? ⟨bb,bW+k,none⟩=some (.slice la xs.length lc):=by simpa using S.one
  have aX:=jc hc;have aK:=Zy (TY.1 KW xs (RA bQ));have iN:xs.length<=40:=by
   have:=aK.o;unfold Bl at this;simp only[Ty,Tq]at this;exact this.1.1
  have gy:=Zy (fun s y=>by
   have:=aK.o;unfold Bl at this;simp only[Ty,Tq,TY]at this;exact(this.1.2 s y).1)
  obtain⟨w5,eO,aO,b5⟩:=nu W #[.string ⟨#[107,101,101,112,101,114]⟩] 9;have bD:Zz (w5.ownsRow W 9 1 (.slice (some ⟨W,0,none⟩) 1 1) 1 [.string ⟨#[107,101,101,112,101,114]⟩]):=Zy ⟨rfl,.inr ⟨W,1,_,rfl,T9 _,b5,T9 _,by unfold maxLen;omega,by simp,by simp⟩⟩;have⟨cK,eY,fQ,fC,dL,fw⟩:=nE (SliceOf.toFlat (enc:=og) (fun _ _ _ _ a=>a) (fun _=>rfl) yY (L.ext kV.stays aO)) (aG.kp aS (SX t.1)) dW (bC.o.trans aS) eO aO;have gV:(W:Nat)<=w5:=aO.size;clear dW aS ed L S eO aO b5 m bQ c0 cz dz;go_upto_region 5 with(fail);go_wp2_with (rw[<-dL.o];refine jK Ao w5 rfl (.tmp 36) (.tmp 37) rfl W (.slice (some ⟨W,0,none⟩) 1 1) 1 _ rfl bD la xs.length lc _ rfl cK Zm gV ?_;intro v6 w6 dS dR;have fJ:=Zy dS;have fD:=Zy dR;clear dS dR hc aX);have aN:=fw.own fD (fun c j=>(bD.lt c j).1);have eG:SliceOf 1 kV w6 (fun c=>W.heap.size<=c) v6 (⟨#[107,101,101,112,101,114]⟩::xs):=SliceOf.lS og fJ (Vf _ _) rfl (fun _ _=>rfl) (fun _ _=>rfl) (fun _ a _=>a) Zr;have⟨dw,bY,fT,df⟩:=jU (A8 grown w6 _ v6 _ eG (fun s y=>(Ud.1 y).elim (fun d=>by subst d;decide) (fun a=>SX (gy.o s a))) ⟨fun _=>rfl,fun a=>Zm,fun a=>Zm⟩ (JK aK.o)) (eY.o.ext aN) (fQ.o.ext aN) (fC.o.trans aN.any);clear aN eG;refine dw.mono ?_;rintro d w7 ⟨⟨pl,vp,nn,rfl,bP,-,eF⟩,aP⟩;obtain⟨pa,pc,rfl,-,-⟩:=bP.form;obtain⟨w8,eP,aD,b8⟩:=nu w7 #[.slice pa pl.length pc] 25;have⟨aA,dG,dh,dB,dC⟩:=ni ((bY.ext aP).ext aD) ((fT.ext aP).ext aD) (df.trans (aP.trans aD).any) b8 (bP.ext ja.stays aD);have bH:Zz (c<w6.heap.size/\u.heap.size<=w6):=Zy ⟨bY.lt,df.size⟩;have dM:=Zy eP;clear eP aD aP b8 bP dw;go_upto_region 6 with(fail);rw[<-dM.o];obtain⟨pz,p0,-⟩:=dB.ca;go_upto_if 45 with(fail);go_cut [] (fun P=>vM u g c (O+1) v o P)
  case first=>
   rcases eF with rfl|⟨-,-,hg⟩
   . go_wp2;go_meet;exact⟨_,_,_,_,_,_,_,_,_,_,aA,⟨_,_,rfl,SliceOf.nil _ _ _ _,SliceOf.nil _ _ _ _⟩,T9 _,dG,dh⟩
   obtain⟨kq,rfl,eD⟩:=hg (by have:=aK.o;unfold Bl at this;cases xs with
    |nil=>simp at this
    |cons _ _=>simp)
   obtain⟨bk,ok,ks,rfl,-,gL,-,ek⟩:=dC.get (i:=0) (x:=kq) rfl;obtain⟨vo,va,rfl,hO,-⟩:=gL;obtain⟨oa,oc,rfl,-,-⟩:=hO.form;have iF:(0:Int)<(([kq].length:Nat):Int):=by simp
   obtain⟨x,C⟩:∃x,kq.owns[0]?=some x:=by
    cases gU:kq.owns with
    |nil=>exact absurd gU eD
    |cons ic _=>exact⟨ic,rfl⟩
   have iI:(0:Int)<kq.owns.length:=SX ((Tw.1 C).1)
   obtain⟨bo,oo,cs,rfl,gN,bL,-,eu⟩:=hO.get C;obtain⟨xa,xb,xc,xd,rfl⟩:=bL.form;obtain⟨k0,-⟩:=ek.two;obtain⟨x0,x1,x2,x3⟩:=eu.four;have iH:bo≠c:=SY bH.o gN
   have fq:Zz (jh w8 (fun k=>u.heap.size<=k/\k≠c) x [.string x.name,.string x.jl,.slice xa x.fields.length xb,.slice xc x.methods.length xd]):=Zy (jh.stays _ _ _ _ _ _ (fun _ _ _ _ a=>a) (fun k m=>⟨SX bH.o,SX bH.o⟩) bL);have bz:=aA.lt;have kz:=jc k0;have xz:=jc x0;obtain⟨-,-,-,y2,-,y4,y5,y6,y7,-⟩:=aA.ca;obtain⟨-,-,f2,-,f4,f5,f6,f7,-⟩:=aA.fz;clear hO bL ek eu C eD hg;simp only[Ua,U3]at k0 x0 x1 x2 x3;go_wp2;go_meet;have h5:=aA.SB (.string x.name) (.string x.jl) (.slice xa x.fields.length xb) (.slice xc x.methods.length xd) (.string x.name);exact vM.put h t.2 h5.2 h5.1 fq (T9 _) dG dh
  clear dM dL bD cK dB dC p0 pz eF;obtain⟨kd,kp,nm,gK,x,a1,m1,a2,m2,q2,j,C,iJ,B,b⟩:=hcut;obtain⟨w9,rfl⟩:∃w9,w9=wc:=⟨_,rfl⟩;have⟨eZ,gu,fE,ig,dA⟩:=ni j C b B (jQ w9 g q2 v o 4 B Zm Zm);clear j C b B;go_wp2_with fail;refine dA.mono ?_;rintro d gZ ⟨⟨gX,rfl,-⟩,dU,aQ⟩;have⟨bX,gq,dF,bB⟩:=jU (eZ.kp aQ (SX t.1)) (jh.stays _ _ _ _ _ _ (aQ.same fun k m d=>SX h.o.1) (fun _ a=>a) gu.o) dU (fE.o.trans aQ);clear dU aQ;cases iB:((gX:Int)==0)
  . go_wp2;go_meet;exact⟨_,_,_,_,_,_,_,_,_,_,bX,gq,Zm,dF.o,bB.o⟩
  obtain⟨ib,eH,aM,dQ⟩:=nu gZ #[.string ⟨#[110,111,110,101]⟩,.string ⟨#[111,116,104,101,114]⟩] 9;have⟨dx,eX,fA,fH⟩:=jU (jQ ib g (q2+1) v o 2 (dF.ext aM) Zm Zm) (bX.ext aM) (bB.trans aM.any) dQ;have gF:=Zy bB.o.size;have gm:=Zy eH;clear eH aM dQ dA;go_wp2_with fail;rw[<-gm.o];refine dx.mono ?_;rintro d eT ⟨⟨eQ,rfl,gP⟩,dV,aR⟩;obtain⟨s,y,-⟩:=qP (k:=eQ) (fH.kp aR (SY h.1 gF.o)) Zr Zn;have iD:eQ<2:=Zm
  have⟨bf,fO,fB⟩:=jB (eX.kp aR (SX t.1)) dV (fA.o.trans aR);obtain⟨az,aZ⟩:=SS (eT.setCell ⟨c,2,none⟩ s);have bM:Kp (·=c) eT az:=by rw[aZ];exact nH
  have bg:Zz (hZ az c 49 (K6 kd kp s gK x a1 m1 a2 m2)):=Zy (by rw[aZ];exact bf.jy 2 _);have⟨fP,cO,gp⟩:=jB (fO.turn bM (SX t.o) (fun S Q V R d=>SY (h.o.2 S Q V R d) t.o)) (fB.o.KL bM (fun k d=>.inr (SX t.o))) aZ;have uz:=jc y;obtain⟨Y,-,-,y2,-⟩:=bf.ca;have f2:=bf.frozen 2;clear dV aR aZ bM dx gP;go_upto_region 11 with(fail);rw[<-gp.o];clear y uz y2 f2 Y;have gG:Zz (u.heap.size<=az/\c<az.heap.size):=Zy ⟨cO.size,bg.lt⟩;have F:=Oh;refine PU 9 [[],[0],[],[],[3],[2,4],[5],[1,6],[]] [67,68,69,70,71,72,73,74,75] (zI u g c s) (Hj El az g (q2+1+1) v o) ⟨fP.ext jg,jg⟩ ?_ ?_
  . intro D T aa f U hD e l gI b;have gW:u.heap.size<=aa:=SY e.kp.size gG.o
    obtain rfl|rfl|rfl|rfl|rfl|rfl|rfl|rfl|rfl:f=0\/f=1\/f=2\/f=3\/f=4\/f=5\/f=6\/f=7\/f=8:=Zm
    . refine js ?_;simp (decide:=true)only[mG,upd,U2,TA,Tu,Tk,Ti,Nat.reduceAdd]at b |-;go_wp2_with fail;exact⟨fun _ _ a=>a,e.ext Kp.rr rfl,rfl⟩
    . have A:T 0=.pointer (some ⟨c,2,none⟩):=l 0 Zl;have gM:=bg.kp e.kp (SX t.1);obtain⟨Y,-,-,y2,-⟩:=gM.ca;refine js ?_;simp (decide:=true)only[mG,upd,U2,TA,Tu,Tk,Ti,Nat.reduceAdd]at b |-;rw[A]at b |-;go_wp2_with fail;exact⟨fun _ _ a=>a,e.ext Kp.rr rfl,rfl⟩
    . have E:=gW;refine js ?_;simp (decide:=true)only[mG,upd,U2,TA,Tu,Tk,Ti,Nat.reduceAdd]at b |-;go_wp2_with fail;exact⟨zI.kp (jw _) h.1,e.ext (jw _) rfl,_,rfl,hZ.new _ _ _,E⟩
    . refine js ?_;simp (decide:=true)only[mG,upd,U2,TA,Tu,Tk,Ti,Nat.reduceAdd]at b |-;go_wp2_with fail;exact⟨fun _ _ a=>a,e.ext Kp.rr rfl,rfl⟩
    . have A:T 3=.pointer (some ⟨g,0,none⟩):=l 3 Zl;have ai:=Zy (jQ aa g (_+El D) v o 2 e.rd (SX (F D)) Zm);have i:El (qL D 4)=El D+1:=by unfold El qL;simp[hD];try omega
      refine js ?_;simp (decide:=true)only[mG,upd,U2,TA,Tu,Tk,Ti,Nat.reduceAdd]at b |-;rw[A]at b |-;clear l F;go_wp2_with fail;refine ai.mono ?_;rintro d W' ⟨⟨k,rfl,m⟩,ay,J⟩;go_wp2_with fail;exact⟨zI.kp J h.1,⟨by rw[i];exact ay,e.kp.trans J⟩,k,Zm,rfl⟩
    . obtain⟨c,i,j,E⟩:=l 2 Zl;obtain⟨k,m,G⟩:=l 4 Zl;obtain⟨s,y,-⟩:=qP (k:=k) j (by simpa using m) Zn;refine js ?_;simp (decide:=true)only[mG,upd,U2,TA,Tu,Tk,Ti,Nat.reduceAdd]at b |-;rw[i,G]at b |-;go_wp2_with fail;exact⟨fun _ _ a=>a,e.ext Kp.rr rfl,c,k,s,by simp,y,E⟩
    . obtain⟨c,k,s,i,hc,-⟩:=l 5 Zl;have aX:=jc hc;refine js ?_;simp (decide:=true)only[mG,upd,U2,TA,Tu,Tk,Ti,Nat.reduceAdd]at b |-;rw[i]at b |-;go_wp2_with fail;exact⟨fun _ _ a=>a,e.ext Kp.rr rfl,_,rfl⟩
    . have A:T 1=.string s:=l 1 Zl;obtain⟨k2,i⟩:=l 6 Zl;refine js ?_;simp (decide:=true)only[mG,upd,U2,TA,Tu,Tk,Ti,Nat.reduceAdd]at b |-;rw[A,i]at b |-;go_wp2_with fail;exact⟨fun _ _ a=>a,e.ext Kp.rr rfl,_,rfl⟩
    . refine js ?_;simp (decide:=true)only[mG,upd,U2,TA,Tu,Tk,Ti,Nat.reduceAdd]at b |-;go_wp2_with fail;exact⟨fun _ _ a=>a,e.ext Kp.rr rfl,rfl⟩
  . intro D T aa bN e L;obtain⟨sp,i⟩:=L 7 Zm;have G:T 8=.pointer (some ⟨c,4,none⟩):=L 8 Zm;have gT:=F D;have⟨HW,bq⟩:=jf e (bg.kp e.kp (SX t.1));obtain⟨Y,-,-,-,-,y4,y5,y6,y7,-⟩:=bq.ca;obtain⟨-,-,-,-,f4,f5,f6,f7,-⟩:=bq.fz;simp (decide:=true)only[mG,Tu,Tk,Ti,Nat.reduceAdd];rw[i,G];clear L F bN e i G;go_wp2;go_meet;have h4:=bq.SA s sp () ();exact vM.put (x:=⟨s,sp,[],[]⟩) h t.2 h4.2 h4.1 ⟨_,_,rfl,SliceOf.nil _ _ _ _,SliceOf.nil _ _ _ _⟩ Zm HW.rd (cO.trans HW.kp)
 clear bG aG bF bC bn bE cZ bZ gH;obtain⟨gY,iP,iW,iy,xa,ik,iR,iq,iU,qa,j,C,iK,B,b⟩:=hcut;obtain⟨wa,rfl⟩:∃wa,wa=wc:=⟨_,rfl⟩;have⟨bu,dN,di,dI⟩:=jU j C b B;clear j C b B;obtain⟨cz,c0,-⟩:=bu.ca;go_upto_if 78 with(fail);go_cut [] (fun P=>vM u g c (O+5) v o P)
 case first=>
  cases iE:(gY==3)
  . go_wp2;go_meet;exact⟨_,_,_,_,_,_,_,_,_,_,bu,dN,Zm,dI.o,di.o⟩
  have fK:=Zy (jQ wa g qa v o 3 dI Zm Zm);go_wp2_with fail;refine fK.mono ?_;rintro d wb ⟨⟨k,rfl,-⟩,dX,aT⟩;have⟨bA,gz,fU,fF⟩:=jU (bu.kp aT (SX t.1)) (jh.stays _ _ _ _ _ _ (aT.same fun k m d=>SX h.o.1) (fun _ a=>a) dN.o) dX (di.o.trans aT);obtain⟨Y,-,-,-,y3,-⟩:=bA.ca;have f3:=bA.frozen 3;clear dX aT c0 cz;go_wp2;go_meet;exact vM.put h t.2 ((Kp.refl (·=c) wb).setCell (p:=⟨c,3,none⟩) (fun _=>rfl) _) (bA.jy 3 _) gz Zm fU fF
 clear c0 cz;obtain⟨iO,iQ,iX,iA,xc,il,iT,iw,iV,qc,j,C,iL,B,b⟩:=hcut;obtain⟨wd,rfl⟩:∃wd,wd=wc:=⟨_,rfl⟩;have⟨fo,gB,fG,fV⟩:=jU j C b B;clear j C b B;have dD:=Zy (J2 wd g qc v o n fV Zm Zm Zm);go_wp2_with fail;refine dD.mono ?_;rintro d wf ⟨⟨od,rfl⟩,dY,aU⟩;have⟨cB,dO,dJ,dn⟩:=jU (fo.kp aU (SX t.1)) (jh.stays _ _ _ _ _ _ (aU.same fun k m d=>SX h.o.1) (fun _ a=>a) gB.o) dY (fG.o.trans aU);clear dY aU dD;go_upto_if 84 with(fail);go_cut [] (fun P=>vM u g c (O+8) v o P)
 case first=>
  cases od
  . go_wp2;go_meet;exact⟨_,_,_,_,_,_,_,_,_,_,cB,dO,Zm,dJ.o,dn.o⟩
  have dE:=Zy (jQ wf g (qc+1) v o 4 dJ Zm Zm);go_wp2_with fail;refine dE.mono ?_;rintro d wg ⟨⟨k,rfl,m⟩,dZ,aV⟩;have⟨aI,aL,aJ,Z⟩:=jU (cB.kp aV (SX t.1)) (jh.stays _ _ _ _ _ _ (aV.same fun k m d=>SX h.o.1) (fun _ a=>a) dO.o) dZ (dn.o.trans aV);have gQ:k=0\/k=1\/k=2\/k=3:=Zm
  clear dZ aV m dE;rcases gQ with rfl|rfl|rfl|rfl
  . obtain⟨wh,N,q,I⟩:=nu wg #[Tc,.int .i64 5] 3;have⟨H,ae,au,af,ah⟩:=ni (jQ wh g (qc+1+1) v o 2 (aJ.ext q) Zm Zm) (aI.ext q) (jh.stays _ _ _ _ _ _ (Ext.same q) (fun _ a=>a) aL) (Z.trans q.any) I;have ax:=Zy Z.o.size;have ak:=Zy N;clear N q I;go_wp2_with fail;rw[<-ak.o];refine H.mono ?_;rintro d wi ⟨⟨f,rfl,U⟩,K,r⟩;obtain⟨s,y,-⟩:=uT (k:=f) (ah.kp r (SY h.1 ax.o)) Zr Zn;have bO:f<2:=Zm
    have⟨z,av,aj,ag⟩:=jU (ae.kp r (SX t.1)) (jh.stays _ _ _ _ _ _ (r.same fun k m d=>SX h.o.1) (fun _ a=>a) au.o) K (af.o.trans r);have uz:=jc y;obtain⟨Y,y0,-⟩:=z.ca;have f0:=z.frozen 0;clear K r U H;go_wp2;go_meet;exact vM.put h t.2 ((Kp.refl (·=c) wi).setCell (p:=⟨c,0,none⟩) (fun _=>rfl) _) (z.jy 0 _) av Zm aj ag
  . obtain⟨wh,N,q,I⟩:=nu wg #[.int .i64 (-1),.int .i64 3] 3;have⟨H,ae,au,af,ah⟩:=ni (jQ wh g (qc+1+1) v o 2 (aJ.ext q) Zm Zm) (aI.ext q) (jh.stays _ _ _ _ _ _ (Ext.same q) (fun _ a=>a) aL) (Z.trans q.any) I;have ax:=Zy Z.o.size;have ak:=Zy N;clear N q I;go_wp2_with fail;rw[<-ak.o];refine H.mono ?_;rintro d wi ⟨⟨f,rfl,U⟩,K,r⟩;obtain⟨s,y,-⟩:=uT (k:=f) (ah.kp r (SY h.1 ax.o)) Zr Zn;have bO:f<2:=Zm
    have⟨z,av,aj,ag⟩:=jU (ae.kp r (SX t.1)) (jh.stays _ _ _ _ _ _ (r.same fun k m d=>SX h.o.1) (fun _ a=>a) au.o) K (af.o.trans r);have uz:=jc y;obtain⟨Y,-,y0,-⟩:=z.ca;have f0:=z.frozen 1;clear K r U H;go_wp2;go_meet;exact vM.put h t.2 ((Kp.refl (·=c) wi).setCell (p:=⟨c,1,none⟩) (fun _=>rfl) _) (z.jy 1 _) av Zm aj ag
  . obtain⟨wh,N,q,I⟩:=nu wg #["",.string ⟨#[65]⟩] 9;have⟨H,ae,au,af,ah⟩:=ni (jQ wh g (qc+1+1) v o 2 (aJ.ext q) Zm Zm) (aI.ext q) (jh.stays _ _ _ _ _ _ (Ext.same q) (fun _ a=>a) aL) (Z.trans q.any) I;have ax:=Zy Z.o.size;have ak:=Zy N;clear N q I;go_wp2_with fail;rw[<-ak.o];refine H.mono ?_;rintro d wi ⟨⟨f,rfl,U⟩,K,r⟩;obtain⟨s,y,-⟩:=qP (k:=f) (ah.kp r (SY h.1 ax.o)) Zr Zn;have bO:f<2:=Zm
    have⟨z,av,aj,ag⟩:=jU (ae.kp r (SX t.1)) (jh.stays _ _ _ _ _ _ (r.same fun k m d=>SX h.o.1) (fun _ a=>a) au.o) K (af.o.trans r);have uz:=jc y;obtain⟨Y,-,-,y0,-⟩:=z.ca;have f0:=z.frozen 2;clear K r U H;go_wp2;go_meet;exact vM.put h t.2 ((Kp.refl (·=c) wi).setCell (p:=⟨c,2,none⟩) (fun _=>rfl) _) (z.jy 2 _) av Zm aj ag
  . obtain⟨wh,N,q,I⟩:=nu wg #[.int .i64 (-1),.int .i64 3,.int .i64 1] 3;have⟨H,ae,au,af,ah⟩:=ni (jQ wh g (qc+1+1) v o 3 (aJ.ext q) Zm Zm) (aI.ext q) (jh.stays _ _ _ _ _ _ (Ext.same q) (fun _ a=>a) aL) (Z.trans q.any) I;have ax:=Zy Z.o.size;have ak:=Zy N;clear N q I;go_wp2_with fail;rw[<-ak.o];refine H.mono ?_;rintro d wi ⟨⟨f,rfl,U⟩,K,r⟩;obtain⟨s,y,-⟩:=uT (k:=f) (ah.kp r (SY h.1 ax.o)) Zr Zn;have bO:f<3:=Zm
    have⟨z,av,aj,ag⟩:=jU (ae.kp r (SX t.1)) (jh.stays _ _ _ _ _ _ (r.same fun k m d=>SX h.o.1) (fun _ a=>a) au.o) K (af.o.trans r);have uz:=jc y;obtain⟨Y,-,-,-,y0,-⟩:=z.ca;have f0:=z.frozen 3;clear K r U H;go_wp2;go_meet;exact vM.put h t.2 ((Kp.refl (·=c) wi).setCell (p:=⟨c,3,none⟩) (fun _=>rfl) _) (z.jy 3 _) av Zm aj ag
 obtain⟨bR,bS,bV,bK,X,bI,bT,bJ,bU,qe,j,C,iM,B,b⟩:=hcut;obtain⟨we,rfl⟩:∃we,we=wc:=⟨_,rfl⟩;have⟨cu,gD,dm,fZ⟩:=jU j C b B;clear j C b B;have aH:=Zy (fe.kp dm (SX dH.o));obtain⟨-,y0,y1,y2,y3,y4,y5,y6,y7,-⟩:=cu.ca;obtain⟨-,z0,z1,z2,z3,z4,z5,z6,z7,-⟩:=aH.ca;obtain⟨g0,g1,g2,g3,g4,g5,g6,g7,-⟩:=aH.fz;have Y:=cu.lt;have zz:=aH.lt;have eU:Zz (∀v0 v1 v2 v3 v4 v5 v6 v7,Kp (·=w) we ((((((((we.setCell w v0).setCell (w,1) v1).setCell (w,2) v2).setCell (w,3) v3).setCell (w,4) v4).setCell (w,5) v5).setCell (w,6) v6).setCell (w,7) v7)):=Zy (fun _ _ _ _ _ _ _ _=>Kp.AZ (D:=(·=w)) rfl _ _ _ _ _ _ _ _);have dP:Zz (u.heap.size=w+1):=Zy (by have:=dK.o;rw[this];simp);go_wp2_with fail;refine Cv (jE O1 rfl w rfl [bR,bS,bV,bK,X.name,X.jl,.slice bI X.fields.length bT,.slice bJ X.methods.length bU] (hH.l7 (aH.AZ _ _ _ _ _ _ _ _)) rfl) rfl ?_;have hP:=eU.o bR bS bV bK X.name X.jl (.slice bI X.fields.length bT) (.slice bJ X.methods.length bU);exact⟨⟨bR,bS,bV,bK,X,bI,bT,bJ,bU,rfl,jh.stays _ _ _ _ _ _ (hP.same fun k m d=>SX dP.o) (fun k m=>SX dP.o) gD.o⟩,⟨qe,Zm,fZ.o.turn hP (SX dH.o) (fun S Q V R d=>SX (fI.o S Q V R d))⟩,(fu.o.any.trans dm.o).KL hP (fun k d=>.inr Zm)⟩
theorem Na:Elem 27 51 8:=kP (z:=.agg #[Tc,Tc, "",Tc, "", "",(),()]) (bytes:=120) underlying27 Zo rfl Zn Zn
structure M.Ev where
 kind:Int
 keeper:Int
 name:ByteArray
 dst:Int
 cls:Class
def EvL:lZ Ev:=fun w I x cs=>∃a1 m1 a2 m2,cs=[.int .i64 x.kind,.int .i64 x.keeper,.string x.name,.int .i64 x.dst,.string x.cls.name,.string x.cls.jl,.slice a1 x.cls.fields.length m1,.slice a2 x.cls.methods.length m2]/\
 jh w I x.cls [.string x.cls.name,.string x.cls.jl,.slice a1 x.cls.fields.length m1,.slice a2 x.cls.methods.length m2]
theorem EvL.stays:jM EvL:=fun _ _ _ _ _ _ c b ⟨a,m1,a2,m2,h1,h2⟩=>⟨a,m1,a2,m2,h1,jh.stays _ _ _ _ _ _ c b h2⟩
theorem EvL.inside{x:Ev}{cs:List Value}(d:EvL w I x cs):EvL w (fun a=>I a/\a<w) x cs:=by
 obtain⟨b,g,c,h,e,f⟩:=d;exact⟨b,g,c,h,e,jh.inside f⟩
def OY(w:World)(n:Nat)(e:Ending)(w':World):Prop:=∃(v:Value) (evs:List Ev),e=.returned v/\evs.length<=n/\SliceOf 8 EvL w' (fun b=>w.heap.size<=b) v evs
theorem OD(w:World)(l p:Nat)(v:Value)(u:List Int)(n:Nat)(d:oh w l v u p)(hp:p<=590000)(hn:n<=100):Calls prog 16 #[some l,n] w fun c w'=>OY w n c w'/\Kp (·=l) w w':=by
 have aM:=d.below;obtain⟨G,E⟩:=SS (w.alloc (.cells #[] 51));have aa:Ext w G:=by rw[E];exact kx
 have aN:G.ownsRow w 51 8 (.slice (some ⟨w,0,none⟩) 0 0) 0 []:=by rw[E];exact kG w _ _ _ (T9 _) rfl
 have⟨bz,y,bF,aW,bf⟩:=ni (jQ G l p v u n (d.ext aa) Zm Zm) aM E aa aN;clear d E aa aN aM;go_enter func16,ntmps16;go_upto_region 2 with(fail);rw[<-bF.o];go_wp2_with fail;refine bz.mono ?_;rintro c w2 ⟨⟨au,rfl,hk⟩,aH,af⟩;have bO:au<=n:=Zm
 have⟨bB,aX,bg⟩:=jB aH (aW.any.trans af) (jb bf af fun aD hg _ c=>by cases hg;have:=y.1;omega);clear aH af hk;go_wp2;go_loopw [5,6] (fun s5 s6 wr=>∃(g o q:Nat) (A:List (List Value)) (H:List Ev),g+o=au/\s6=.int .i64 o/\Zz (H.length=g)/\kv 51 8 EvL wr (fun b=>w<=b/\b<wr/\¬s5.ownBlock=some b) w s5 A H/\oh wr l v u q/\q<=p+1+30*g/\Kp (·=l) w wr) (fun _ s6 _=>(intOf s6).toNat)
 case atStart=>exact⟨0,au,p+1,[],[],Zm,rfl,Zy rfl,⟨bg.o,by simp,trivial⟩,bB.o,Zm,aX.o⟩
 case round =>
  obtain⟨g,o,q,A,H,bP,rfl,s,B,O,hq,N⟩:=hrel;obtain⟨J,K,e5⟩:=jA B.own;rw[s.o]at e5;subst e5;by_cases hj:0<o
  . obtain⟨F,rfl⟩:∃F,o=F+1:=⟨o - 1,Zm⟩;obtain⟨w3,aQ,ae,b3⟩:=nu wr #[Tc,Tc, "",Tc, "", "",(),()] 51;have⟨bA,bG,z,r,ax,aR⟩:=nE (jQ w3 l q v u 4 (O.ext ae) Zm Zm) aQ B N ae b3;have az:=Zy O.below.1;clear aQ B O N ae b3;go_upto_region 6 with(fail);rw[<-bG.o];go_wp2_with fail;refine bA.mono ?_;rintro c w4 ⟨⟨k4,rfl,bJ⟩,ai,ag⟩;have aJ:=aR.kp ag (SX az.o);have⟨bD,Q,ay,aT⟩:=jU ai aJ ag (G7 w4 l (q+1) v u 40 ai Zm Zm Zm);clear ai ag bJ aJ;by_cases h4:k4=0;focus
     subst h4
     go_wp2_with fail
     refine aT.mono ?_
     rintro c w5 ⟨⟨kd,kp,nm,aC,a,a3,m3,a4,m4,rfl,aL⟩,⟨q5,bL,aI⟩,ah⟩
     have aU:=Zy (jh.inside aL)
     have aB:=Zy Q.o.lt
     clear aL
     have P:=Q.kp ah (SX az.o)
     obtain⟨f0,f1,f2,f3,f4,f5,f6,f7,-⟩:=P.fz
     obtain⟨S,T,U,V,W,X,Y,Z,g7,-⟩:=P.ca
     have⟨aS,bE,aY⟩:=jB P aI (ay.trans ah)
     clear P aI ah
     simp only[K6]
     go_upto_region 8 with(fail)
     obtain⟨e,m,C,D⟩:=SI aS kd kp nm aC a.name a.jl (.slice a3 a.fields.length m3) (.slice a4 a.methods.length m4)
     rw[<-m]
     have av:Zz (∃(a:Ev) (h:Option Addr) (j:Nat) (i:Option Addr) (k:Nat),hZ e wr 51 #[a.kind,a.keeper,a.name,a.dst,a.cls.name,a.cls.jl,.slice h a.cls.fields.length j,.slice i a.cls.methods.length k]/\jh e (fun b=>wr<b/\b<e) a.cls [a.cls.name,a.cls.jl,.slice h a.cls.fields.length j,.slice i a.cls.methods.length k]):=Zy ⟨⟨kd,kp,nm,aC,a⟩,_,_,_,_,C,jh.stays _ _ _ _ _ _ (D.same fun b f c=>SX aB.o) (fun b f=>⟨SX aB.o,SX D.size⟩) aU.o⟩
     have⟨aA,x⟩:=jf (lI (P:=(·=wr)) bE y (D.weak fun b _ c=>⟨by rw[c];exact r.size,c⟩)) ((ax.any.trans aY).own D fun b c=>Zm)
     clear m D C f0 f1 f2 f3 f4 f5 f6 f7 S T U V W X Y Z g7
    rotate_left;focus
     have bH:((k4:Int)==0)=false:=by simp;omega
     go_upto_region 8 with(fail)
     clear bH h4
     obtain⟨e,m⟩:∃e,e=w4:=⟨_,rfl⟩
     obtain⟨q5,aO⟩:∃q5,q5=q+1:=⟨_,rfl⟩
     have bL:q5<=q+1+20:=Zm
     have av:Zz (∃(a:Ev) (h:Option Addr) (j:Nat) (i:Option Addr) (k:Nat),hZ e wr 51 #[a.kind,a.keeper,a.name,a.dst,a.cls.name,a.cls.jl,.slice h a.cls.fields.length j,.slice i a.cls.methods.length k]/\jh e (fun b=>wr<b/\b<e) a.cls [a.cls.name,a.cls.jl,.slice h a.cls.fields.length j,.slice i a.cls.methods.length k]):=Zy ⟨⟨0,0,⟨#[]⟩,0,⟨⟨#[]⟩,⟨#[]⟩,[],[]⟩⟩,none,0,none,0,by rw[m];exact Q,⟨_,_,rfl,SliceOf.nil _ _ _ _,SliceOf.nil _ _ _ _⟩⟩
     have aA:Zz (oh e l v u q5):=Zy (by rw[m,aO];exact bD)
     have x:Zz (Kp (·=l) wr e):=Zy (by rw[m];exact ax.any.trans ay)
     rw[<-m]
     clear m aO
    all_goals
     obtain⟨a,h,j,i,k,C,aK⟩:=av.o;obtain⟨S,T,U,V,W,X,Y,Z,g7,-⟩:=C.ca;have bM:=x.size;have ak:=z.keep (J:=fun b=>w<=b/\b<e/\¬(Value.slice J g K).ownBlock=some b) EvL.stays x (fun aD hg c=>SY ((z.own.lt aD hg).1) y.1) (fun b f c=>SX y.o.1) fun b f=>⟨f.1,Zm,f.2.2⟩;have⟨bu,aV⟩:=jf ak aK;have bq:Zz ((e.alloc (.cells #[a.kind,a.keeper,a.name,a.dst,a.cls.name,a.cls.jl,.slice h a.cls.fields.length j,.slice i a.cls.methods.length k] 51)).ownsRow w 51 8 (.slice J g K) g A.flatten):=Zy (by
      have d:=jb (D:=fun _=>False) ak.own ((Kp.refl _ e).alloc (.cells #[a.kind,a.keeper,a.name,a.dst,a.cls.name,a.cls.jl,.slice h a.cls.fields.length j,.slice i a.cls.methods.length k] 51)) fun _ _ _ a=>a;rw[s.o]at d;exact d)
     have bK:g+1<=4294967296:=Zm
     have bI:w.heap.size<=(e.alloc (.cells #[a.kind,a.keeper,a.name,a.dst,a.cls.name,a.cls.jl,.slice h a.cls.fields.length j,.slice i a.cls.methods.length k] 51)).heap.size:=by have:=r.size;have:=x.size;simp;omega
     have I:=Zy fun b c=>z.own.lt b c;clear C aK ak bM;go_wp2_with (at_builtin;refine jo Na rfl _ _ rfl w (.slice J g K) g A.flatten rfl bq e 1 [a.kind,a.keeper,a.name,a.dst,a.cls.name,a.cls.jl,.slice h a.cls.fields.length j,.slice i a.cls.methods.length k] rfl rfl (hH.nL _ _ rfl) Zt bK bI ?_);intro L c2 W2 aG aF aj;have t:=((Kp.refl _ e).alloc _:Ext e _).any.trans aF;have bN:=t.size;have aP:kv 51 8 EvL W2 (fun b=>w<=b/\b<W2/\¬(Value.slice (some ⟨L,0,none⟩) (g+1) c2).ownBlock=some b) w (L,g+1,c2) (A++[_]) (H++[a]):=bu.snoc EvL.stays t (fun b f=>f.2.2) (fun b f=>⟨f.1,Zm,fun c=>by
         have R:L=b:=by simpa [Value.ownBlock]using c
         subst R;rcases aj with d|d
         . exact f.2.2 d
         . (try simp at d);omega⟩) (by rw[s.o];exact aG) rfl ⟨h,j,i,k,rfl,jh.stays _ _ _ _ _ _ (t.same fun b f c=>SX (I.o b c)) (fun b f=>⟨SX r.o.size,Zm,fun c=>by
         have R:L=b:=by simpa [Value.ownBlock]using c
         subst R;rcases aj with d|d
         . have:=I.o _ d;omega
         . (try simp at d);omega⟩) aV.o⟩
     have bn:=Zy aP;have bC:=Zy (lI (P:=fun b=>(Value.slice J g K).ownBlock=some b) aA y (t.weak fun b _ c=>⟨(I b c).1,c⟩));have aZ:=Zy ((r.trans x).own t fun b c=>(I b c).1);clear aG aF aj t aP bN S T U V W X Y Z g7;have E:IntKind.i64.wrap ((F:Int)+1 - 1)=F:=by rw[TK _ Zm];omega
     go_wp2_with fail;exact⟨⟨g+1,F,q5,_,_,Zm,by go_num,Zy (by rw[TP,s.o];rfl),bn,bC,Zm,aZ.o⟩,by simp[intOf]⟩
  . obtain rfl:o=0:=Zm
    have⟨r,z⟩:=jf N B;clear O N B;go_wp2;go_ret;exact⟨⟨_,H,rfl,by rw[s.o];omega,by have d:=(z.o.keep (D:=fun _=>False) (J:=fun b=>w<=b) EvL.stays Kp.rr (fun _ _ d=>d) (fun _ _ d=>d) fun b f=>f.1).slice Zn (fun b d _=>d) (by rw[s.o];omega);exact d⟩,r⟩
theorem GY{t: Nat}(d:yH t k){fn:Func}{p q r s c:Tmp}(f:fn.results=#[.cell p t,.tmp q,.tmp r,.tmp s,.tmp c]){a:Array Value}{w:World}(b:Nat)(g:a.getD p undef=.pointer (some ⟨b,0,none⟩))(cs:List Value)(e:hH w b 0 cs)(hl:cs.length=k):(results fn a).run prog w=.ok (.tuple #[.agg cs.toArray,a.getD q undef,a.getD r undef,a.getD s undef,a.getD c undef]) w:=by
 have h:a[p]?.getD undef=.pointer (some ⟨b,0,none⟩):=by simpa using g
 simp[results,f,h,asAddr,qR d e hl]
def QA(w w':World)(e:Ending):Prop:=∃(pl:iZ) (pa:Option Addr) (pc:Nat) (n m:ByteArray) (a:Option Addr) (c:Nat) (args:List Int) (g:Option Addr) (d:Nat) (evs:List Ev),e=.returned (.tuple #[.agg #[.slice pa pl.length pc],.string n,.string m,.slice a args.length c,.slice g evs.length d])/\
 SliceOf 2 ja w' (fun b=>w.heap.size<=b/\b<w'.heap.size) (.slice pa pl.length pc) pl/\SliceOf 1 oW w' (fun b=>w.heap.size<=b) (.slice a args.length c) args/\evs.length<=90/\SliceOf 8 EvL w' (fun b=>w.heap.size<=b) (.slice g evs.length d) evs
theorem A7(w:World)(v:Value)(zs:List Int)(c:BytesAt w v zs):Calls prog 5 #[v] w fun b w'=>QA w w' b/\Ext w w':=by
 obtain⟨va,vc,rfl⟩:=c.form;obtain⟨w1,L,G,V⟩:=nu w #[()] 25;have g:Zz ((w1:Nat)=w+1):=Zy (by rw[L];simp);have⟨R,ay,aN,aF⟩:=jU (PT w1 zs (c.ext G)) V L G;clear c L G V;go_enter func5,ntmps5;go_wp2_with fail;rw[<-aN.o];refine R.mono ?_;rintro b k ⟨⟨j,N,O,rfl,au,I⟩,H⟩;have f:=Zy au;have T:=Zy I.below.1;have⟨A,aG,S⟩:=jB (ay.ext H) (aF.trans H) (J8 k j 0 N O 3 I Zm Zm Zm);clear au I H R;go_wp2_with fail;refine S.mono ?_;rintro b y ⟨⟨q,vp,rfl,K⟩,⟨aV,hq,J⟩,t⟩;obtain⟨o,p,rfl,-,-⟩:=K.form;have af:=aG.own t fun a b=>SY f.o g.o
 obtain⟨w4,M,l,W⟩:=nu y #[.slice o q.length p] 25;have⟨az,aB,aO,aH,aK,aM⟩:=nE W ((A.kp t (SY f.o g.o)).ext l) M (af.trans l) ((K.keep (J:=fun a=>k<=a) ja.stays (fun _ _ _ _ c=>c) (fun a d=>d.1)).ext ja.stays l) (J.ext l);have s:Zz ((y:Nat)<w4/\j<y/\(k:Nat)<=y/\j<k):=Zy ⟨by rw[M];simp,J.below.1,t.size,T⟩;clear K J t af l M W S;go_wp2_with fail;rw[<-aO.o];refine(Mr w4 j aV N O aM Zm).mono ?_;rintro b z ⟨⟨aU,aT,U,Z,E,rfl,ha,-,-,-⟩,⟨q5,bf,ai⟩,i⟩;have ag:=aH.own i fun a b=>SY f.o g.o
 have X:=az.kp i (SX s.o);have Y:=aB.kp i (SY f.o g.o);have aL:=Zy (aK.keep ja.stays (i.same fun a d b=>SX s.o) (fun _ c=>c));have av:=i.size;have bg:(w:Nat)<k:=A.lt;obtain⟨aX,aY,aZ,C⟩:=qC.ex (fun W'=>Kp (fun a=>a=j\/a=w) z W') _ Kp.rr;obtain⟨-,r0,-⟩:=hZ.lC fun aW=>X.kp (C.jv aW) (SX s.o);have⟨r,HG,ax,aI,aC,aP⟩:=nE C (OD z.drew j q5 N O 90 (ai.ext jg) Zm Zm) ha ag Y av;clear ha i ag X Y C ai av;go_upto_region 4 with(fail);refine jW r 10 [([0,1,2,3,4],5),([],6)] [7,8,9] ?_ ?_
 . exact jg
 refine lJ ?_;intro D m;go_wp2_with fail;refine HG.mono ?_;rintro b w6 ⟨⟨vg,F,rfl,hk,n⟩,ah⟩;obtain⟨ae,aa,rfl,-,-⟩:=n.form;have aJ:=Zy (n.inside (fun _ _ _ _ c=>EvL.inside c) Zn);clear n;have B:=Zy (((Kp.refl _ z).drew:Ext z _).any.trans ah);have x:=aC.kp B (SY f.o g.o);obtain⟨cz,c0,-⟩:=x.ca;have cf:=x.frozen 0;have aD:=Zy x;clear ah x;go_wp2_with fail;refine kk r m (B.weak fun a _ b=>.inl b) ?_;clear m D;clear r0;refine kN rfl fun D m=>?_;go_wp2_with fail;obtain⟨h,u⟩:=SS (w6.setCell w (.slice o q.length p));have ak:Kp (·=w) w6 h:=by rw[u];exact nH
 have aj:hZ h w 25 #[.slice o q.length p]:=by rw[u];exact aD.jy 0 _
 rw[<-u];have⟨Q,aA⟩:=jf ak aj;clear u ak aj c0 cf cz;have e:=(B.weak fun a _ b=>Or.inl b).trans (Q.weak fun a _ b=>Or.inr b);have P:=Zy e;clear e;refine kk r m P ?_;clear m D;clear r;refine r9 [_,_,_] rfl fun aQ e=>?_;(repeat (go_big_quiet_step (fail)));refine qn e ?_;clear e aQ;go_wp2_with fail;refine Cv (GY qN rfl w rfl [.slice o q.length p] (hH.l7 aA) rfl) rfl ?_;have hz:(w:Nat)<k:=A.lt;have z4:=s.o;have z5:=aP.o;have zr:=f.o;have z1:=g.o;have e:=P.o;have zl:=T.o;have aS:=(aL.keep (J:=fun a=>w<=a) ja.stays (e.same fun a d b=>Zm) (fun a d=>Zm)).inside (fun _ _ _ _ c=>ja.inside c) Zm;have aR:SliceOf 1 oW h (fun a=>w<=a) (.slice U E.length Z) E:=ax.keep oW.stays (e.same fun a d b=>Zm) (fun a d=>Zm);have n:SliceOf 8 EvL h (fun a=>w<=a) (.slice ae F.length aa) F:=aJ.keep EvL.stays (Q.same fun a d b=>by have:=d.1;simp at this;omega) (fun a d=>by have:=d.1;simp at this;omega);exact⟨⟨q,o,p,aU,aT,U,Z,E,ae,aa,F,rfl,aS,aR,Zm,n⟩,(aI.o.own e fun a b=>Zm)⟩
def Sv(x:Ev)(cs:List Value)(e:Ending):Prop:=e=.returned .nilIface\/((0<=x.keeper/\x.keeper<3)/\
 (e=.returned (.iface 311 (.agg (cs.drop 4).toArray))\/e=.returned (.iface 313 (.agg #[.string x.name,.int .i64 x.dst]))\/e=.returned (.iface 315 (.agg #[.string x.name]))\/e=.returned (.iface 316 (.agg #[.string x.name]))))
theorem Qa(w:World):jh w (fun _=>False) P9 ["", "",(),()]:=⟨_,_,rfl,SliceOf.nil _ _ _ _,SliceOf.nil _ _ _ _⟩
theorem K3(w:World)(I:Nat->Prop)(x:Ev){cs:List Value}(p:EvL w I x cs):Calls prog 161 #[.agg cs.toArray] w fun i w'=>Sv x cs i/\Ext w w':=by
 obtain⟨S,m1,T,m2,rfl,r⟩:=p;obtain⟨a,g,n,c,cls⟩:=x;simp only at r;obtain⟨u,G,q,o⟩:=nu w #[a,g,n,c,cls.name,cls.jl,.slice S cls.fields.length m1,.slice T cls.methods.length m2] 49;have s:=jh.stays _ _ _ _ _ _ (Ext.same q) (fun _ p=>p) r;have⟨N,O⟩:=jf (zM u _ _ _ s) (Es u _ _ s (Qa u));have P:=fun R=>Zy (mf n R);obtain⟨L,y,z,A,B,C,D,E,F,-⟩:=o.ca;have⟨Q,f,v⟩:=jB G q o;clear G q o r s;go_enter func161,ntmps161;go_upto_region 1 with(fail);rw[<-Q.o];by_cases H:g<0
 . go_wp2;go_ret;exact⟨.inl rfl,f⟩
 by_cases J:3<=g
 . go_wp2;go_ret;exact⟨.inl rfl,f⟩
 go_wp2_with fail;refine(P _).o.mono ?_;rintro i K ⟨rfl,rfl⟩;have h:Zz (0<=g/\g<3):=Zy ⟨Zm,Zm⟩;clear H J;cases jJ n
 . go_wp2;go_ret;exact⟨.inl rfl,f⟩
 by_cases j:a=1
 . have aa:(a==1)=true:=Uq.2 j;clear j;by_cases d:c=0;rotate_left
   . have t:(c !=0)=true:=TI.2 d;clear d;go_wp2;go_ret;exact⟨.inl rfl,f⟩
   have t:(c !=0)=false:=by rw[d];rfl
   clear d;go_wp2_with fail;refine N.mono ?_;rintro i K ⟨rfl,e⟩;obtain⟨z',U,V,W,X,Y,Z,d6,d7,-⟩:=(v.ext e).ca;have b:=Zy (f.trans e);clear e L y z A B C D E F;cases rP cls
   . go_wp2;go_ret;exact⟨.inl rfl,b⟩
   cases ah:(cls.name.toList==n.toList)
   . go_wp2;go_ret;exact⟨.inl rfl,b⟩
   . go_wp2;go_ret;exact⟨.inr ⟨h,.inl rfl⟩,b⟩
 . have aa:(a==1)=false:=SF.2 j;clear j;go_wp2_with fail;refine O.mono ?_;rintro i K ⟨rfl,e⟩;obtain⟨z',U,V,W,X,Y,Z,d6,d7,-⟩:=(v.ext e).ca;have b:=Zy (f.trans e);clear e L y z A B C D E F;cases decide (cls=P9)
   . go_wp2;go_ret;exact⟨.inl rfl,b⟩
   by_cases l:a=3
   . have af:(a==3)=true:=Uq.2 l;clear l;by_cases H:c<0
     . go_wp2;go_ret;exact⟨.inl rfl,b⟩
     by_cases J:3<=c
     . go_wp2;go_ret;exact⟨.inl rfl,b⟩
     go_wp2;go_ret;exact⟨.inr ⟨h,.inr (.inl rfl)⟩,b⟩
   . have af:(a==3)=false:=SF.2 l;clear l;by_cases d:c=0;rotate_left
     . have t:(c !=0)=true:=TI.2 d;clear d;go_wp2;go_ret;exact⟨.inl rfl,b⟩
     have t:(c !=0)=false:=by rw[d];rfl
     clear d;by_cases k:a=2
     . have ae:(a==2)=true:=Uq.2 k;clear k;go_wp2;go_ret;exact⟨.inr ⟨h,.inr (.inr (.inl rfl))⟩,b⟩
     have ae:(a==2)=false:=SF.2 k;clear k;by_cases m:a=4
     . have ag:(a==4)=true:=Uq.2 m;clear m;go_wp2;go_ret;exact⟨.inr ⟨h,.inr (.inr (.inr rfl))⟩,b⟩
     have ag:(a==4)=false:=SF.2 m;clear m;go_wp2;go_ret;exact⟨.inl rfl,b⟩
end Go.Proofs.YtlhgbjbkjalfjaaGreat
