/- Walks. -/
import Derived.Test.YtenhnldnpdlniaaGreatOtCoreLk
import Derived.Test.YtenhnldnpdlniaaGreatOtCoreLl
set_option maxRecDepth 100000
set_option maxHeartbeats 4000000
set_option linter.all false
namespace Go.Proofs.YtenhnldnpdlniaaGreat
open Go Go.RowKit Tryz M
def NU(w':World)(e:Ending):Prop:=∃v xs I,e=.returned v/\SliceOf 1 kF w' I v xs/\∀u∈xs,u.size<=30000
theorem oM.more{Z a:Nat}{w:World}{base:Nat}{v:Value}{n:Nat}(b:oM Z w base v n)(f:Z<=a):oM a w base v n:=by
 obtain⟨h,c,d⟩:=b;exact⟨h,c,fun g e=>TD (d g e) f⟩
theorem sW{W:World}{base:Nat}{v:Value}{n:Nat}(a:oM 30000 W base v n)(d:n<=100000):NU W (.returned v):=by
 obtain⟨e,b,-,c⟩:=a.o d;exact⟨v,e,_,rfl,b,c⟩
theorem sZ{w d:World}{c:Nat}{I:Nat->Prop}{v:Value}{xs:List ByteArray}(a:SliceOf 1 kF w I v xs)(hI:∀b,I b->b≠c)(e:Kp (·=c) w d):SliceOf 1 kF d I v xs:=a.keep kF.stays (e.same hI) (fun _ a=>a)
theorem lC{W e:World}{P:Nat->Prop}{base c q:Nat}{v:Value}{d:List Int}(a:qh W c v d q)(hl:c<base/\(d.length≠0->∀f l b,v=.slice (some f) l b->f.block<base))(i:Kp (fun g=>base<=g/\P g) W e):qh e c v d q:=
 ⟨a.blk.kp i (fun h=>Zm),a.Rj.kp i fun k j m b h n=>SK (hl.2 k j m b h),a.own,a.len⟩
theorem Lb(w:World)(n p:Nat)(v:Value)(S:List Int)(aW:qh w n v S p){I:Nat->Prop}(vl:Value)(xs:List ByteArray)(hl:SliceOf 1 kF w I vl xs)(hI:∀A,I A->A≠n)(bR:1<=xs.length/\xs.length<=1000)(hz:∀ae∈xs,ae.size<=1000)(hp:p<=700000):Calls prog 36 #[some n,vl] w fun q w'=>NU w' q/\(∃aJ,aJ<=p+20/\qh w' n v S aJ)/\Kp (·=n) w w':=by
 obtain⟨a,c,rfl,cz,cB⟩:=hl.form;obtain⟨x0,bn⟩:∃x0,xs[0]?=some x0:=⟨xs[0]'Zm,Dj Zm⟩;obtain⟨A,R,rfl,-⟩:=kF.at_ hl bn;have⟨aS,HL,M⟩:=jr (kH w n p v S xs.length aW Zm Zm) hl hI;have U:Zz (∀ae∈xs,ae.size<=30000):=Zy (fun ae hu=>SK (hz ae hu));have HZ:=Zy hz;obtain⟨l1,l2⟩:=bR;clear aW hl hI hz bn;go_enter func36,ntmps36;go_wp2_with fail;refine aS.mono ?_;rintro q w1 ⟨⟨g,rfl,hk⟩,aX,aC⟩;have X:g<xs.length:=Zm
 have⟨aT,aQ,aO⟩:=jr (kH w1 n (p+1) v S 5 aX Zm Zm) (sZ HL M aC) aC;clear aX aC hk aS;go_wp2_with fail;refine aT.mono ?_;rintro q f ⟨⟨aa,rfl,ht⟩,aD,b⟩;have⟨O,K,D⟩:=jr (sZ aQ M b) (aO.trans b) aD;have au:=Zy aD.below.1;have bU:aa=0\/aa=1\/aa=2\/(3<=aa/\aa<5):=Zm
 have dh:(g:Int)<xs.length:=Zm
 have di:(0:Int)<=(g:Int):=Zm
 obtain⟨y,bg⟩:∃y,g+1=y:=⟨_,rfl⟩;have bN:(y:Int)<=xs.length:=Zm
 have bO:IntKind.i64.wrap ((g:Int)+1)=(y:Int):=by rw[Tg _ Zm];omega
 have bP:(g:Int)+1=(y:Int):=Zm
 have bQ:(0:Int)<=(y:Int):=Zm
 have bB:=Zy bg;have N:Zz (∀l,Kp (·=n) f l->pQ 30000 l (.slice (some ⟨A,R,none⟩) g c) g):=Zy fun l H=>pQ.take (sZ O M H) U Zm;clear bg;clear aD b ht aT aQ aO;have aF:g<c:=Zm
 rcases bU with rfl|rfl|rfl|⟨t3,t5⟩
 . have bK:Kp (·=n) f f:=Kp.rr;obtain⟨wa,o,j,t,E,m⟩:=oM.fresh (Z:=1000) bK;replace m:=Zy m;have⟨bH,bu⟩:=jc o (pQ.all (O.ext kF.stays E) HZ);clear o bO bP bQ bN;go_wp2_with (first|(rw[<-bH.o];refine ku _ rfl (.tmp 15) (.tmp 16) rfl t rfl bu rfl Zm j fun v9 J i h kb=>?_;rw[Tq]at i;obtain⟨V,c9,rfl,cK,cO,cZ,aZ⟩:=oM.form i Zm Zm;obtain⟨s,hs,dw⟩:=aZ g X;have aR:=Zy i;have bE:=Zy (lC (D.ext E) D.below kb);have bq:=Zy h;have bT:=iV hs;clear aZ i t h kb j E)|fail);have bS:V≠n:=SK au.o
   refine(Qv J n (p+1+1) v S s bE Zm Zm).mono ?_;rintro q w5 ⟨⟨tx,rfl,bV⟩,⟨aJ,hq,W⟩,G⟩;have d1:=aR.kp G (fun A q=>SK au.o);have df:=d1.frozen g;obtain⟨_,_,e9,-,d2,-,aY⟩:=oM.form d1 Zm Zm;cases e9;obtain⟨s5,dn,-⟩:=aY g X;have⟨bC,ay,bz⟩:=jr (oM.put (aR.more (show 1000<=30000 by omega)) G bS (s:=tx) Zm X) W (bq.o.trans G);have aP:Zz (Kp (·=V) w5 (w5.setCell (V,g) tx)):=Zy ((Kp.refl (·=V) w5).setCell (p:=⟨V,g,none⟩) (fun _=>rfl) _);clear d1 aY W G hs bT;go_wp2;go_ret;exact⟨sW bC Zm,⟨_,Zm,ay.o.turn aP.o Zm (fun h0 ad bY c q=>SK (D.o.below.2 h0 ad bY c q))⟩,K.o.trans (bz.o.own aP.o (fun A q=>Zm))⟩
 . rcases(show c=y\/y<c by have:=bB.o;omega)with aF|aF
   . subst aF;have av:Zz (∀l,Kp (·=n) f l->pQ 30000 l (.slice (some ⟨A,R,none⟩) 0 0) 0):=Zy fun l H=>by
      have:=pQ.none_ (Z:=30000) (w:=l) (c:=0) (a:=⟨A,R,none⟩) (Tz c);rwa[Nat.sub_self]at this
     obtain⟨az,aA,aG,z⟩:=mJ f;have e:=Zy z;clear z;go_upto_region 8 with(fail);refine kT e 10 [([1,2,3,5,6,7,8],0),([],4),([],9)] [] ?_ ?_
     . exact jg
     have u:Ext f f.drew:=jg;generalize f.drew=wd at u |-;refine mP ?_;intro d b;go_wp2_with fail;obtain⟨wa,o,j,t,E,m⟩:=oM.fresh (Z:=30000) u;replace m:=Zy m;rw[<-o];clear o;refine kk e b j ?_;clear b d;refine lK rfl fun d b=>?_;refine ku _ rfl (.tmp 30) (.tmp 33) rfl t rfl (N _ j.any) rfl Zm j fun aK J i h aj=>?_;change d _ _;refine kk e b h ?_;clear b d;refine lK rfl fun d b=>?_;refine ku _ rfl (.tmp 34) (.tmp 38) rfl i rfl (av _ h.any) rfl Zm h fun af wf C k Q=>?_;change d _ _;refine kk e b k ?_;clear b d;refine kG ?_;go_wp2;go_ret;exact⟨sW C Zm,⟨_,Zm,D.o.ext k⟩,K.o.trans k.any⟩
   . have av:Zz (∀l,Kp (·=n) f l->pQ 30000 l (.slice (some ⟨A,R+y,none⟩) (xs.length - y) (c - y)) (xs.length - y)):=Zy fun l H=>pQ.drop (sZ O M H) U y;obtain⟨az,aA,aG,z⟩:=mJ f;have e:=Zy z;clear z;go_upto_region 8 with(fail);refine kT e 10 [([1,2,3,5,6,7,8],0),([],4),([],9)] [] ?_ ?_
     . exact jg
     have u:Ext f f.drew:=jg;generalize f.drew=wd at u |-;refine mP ?_;intro d b;go_wp2_with fail;obtain⟨wa,o,j,t,E,m⟩:=oM.fresh (Z:=30000) u;replace m:=Zy m;rw[<-o];clear o;refine kk e b j ?_;clear b d;refine lK rfl fun d b=>?_;refine ku _ rfl (.tmp 30) (.tmp 33) rfl t rfl (N _ j.any) rfl Zm j fun aK J i h aj=>?_;change d _ _;refine kk e b h ?_;clear b d;refine lK rfl fun d b=>?_;refine ku _ rfl (.tmp 34) (.tmp 38) rfl i rfl (av _ h.any) rfl Zm h fun af wf C k Q=>?_;change d _ _;refine kk e b k ?_;clear b d;refine kG ?_;go_wp2;go_ret;exact⟨sW C Zm,⟨_,Zm,D.o.ext k⟩,K.o.trans k.any⟩
 . have T:Zz (∀l,Kp (·=n) f l->pQ 30000 l (.slice (some ⟨A,R+g,none⟩) (xs.length - g) (c - g)) (xs.length - g)):=Zy fun l H=>pQ.drop (sZ O M H) U g;obtain⟨F,aH⟩:∃F,xs[g]?=some F:=⟨xs[g]'X,Dj X⟩;obtain⟨_,_,bJ,gk⟩:=kF.at_ O aH;cases bJ;have P:=Zy (U F (Sy aH));obtain⟨az,aA,aG,z⟩:=mJ f;have e:=Zy z;have yk:=fun cu=>(z.jv cu).iW gk;clear z gk aH;go_upto_region 10 with(fail);refine ve e 15 (.two [1,2,3,5,6,7,8,11,12,13] 0 9 (.two [] 4 9 (.one [] 9 (.one [] 10 (.one [] 14 (.fin [])))) (.one [] 4 (.one [] 10 (.one [] 14 (.fin []))))) (.one [] 0 (.one [] 4 (.one [] 10 (.one [] 14 (.fin [])))))) ?_ ?_
   . exact jg
   refine two [_,_,_,_,_,_,_,_,_,_] rfl rfl rfl fun bI hK=>?_;(repeat (go_big_quiet_step (fail)));((refine JE hK (fun d b=>?_) fun d b=>?_)<;>clear hK bI)
   . have u:Ext f f.drew:=jg;generalize f.drew=wd at u |-;go_wp2_with fail;obtain⟨wa,o,j,t,E,m⟩:=oM.fresh (Z:=30000) u;replace m:=Zy m;rw[<-o];clear o;refine kk e b j ?_;clear b d;refine FJ rfl rfl (fun d b=>?_) fun d b=>?_
     . refine ku _ rfl (.tmp 42) (.tmp 45) rfl t rfl (N _ j.any) rfl Zm j fun aK J i h aj=>?_;change d _ _;refine kk e b h ?_;clear b d;refine jX rfl fun d b=>?_;go_wp2_with fail;obtain⟨wc,Z,B,x,ah,aN⟩:=pQ.fresh (Z:=30000) h F P;rw[<-Z];clear Z aN;refine kk e b B ?_;clear b d;have i:=i.ext ah;refine jX rfl fun d b=>?_;refine ku _ rfl (.tmp 46) (.tmp 51) rfl i rfl (pQ.lit (n:=1) [F] x rfl (by simpa using P.o)) rfl Zm B fun aL aM L r ak=>?_;change d _ _;refine kk e b r ?_;clear b d;refine jX rfl fun d b=>?_;refine ku _ rfl (.tmp 52) (.tmp 55) rfl L rfl (T _ r.any) rfl Zm r fun af wf C k Q=>?_;change d _ _;refine kk e b k ?_;clear b d;refine kJ ?_;go_wp2;go_ret;exact⟨sW C Zm,⟨_,Zm,D.o.ext k⟩,K.o.trans k.any⟩
     . go_wp2_with fail;obtain⟨J,Y,h,x,aB,ag⟩:=pQ.fresh (Z:=30000) j F P;replace ag:=Zy ag;rw[<-Y];clear Y;refine kk e b h ?_;clear b d;have t:=t.ext aB;refine jX rfl fun d b=>?_;refine ku _ rfl (.tmp 42) (.tmp 45) rfl t rfl (N _ h.any) rfl Zm h fun bZ wc i B aI=>?_;change d _ _;refine kk e b B ?_;clear b d;have x:=x.kp aI (fun q=>by have:=m.o;have:=q.2;simp[Value.ownBlock]at this;omega);refine jX rfl fun d b=>?_;refine ku _ rfl (.tmp 46) (.tmp 51) rfl i rfl (pQ.lit (n:=1) [F] x rfl (by simpa using P.o)) rfl Zm B fun aL aM L r ak=>?_;change d _ _;refine kk e b r ?_;clear b d;refine jX rfl fun d b=>?_;refine ku _ rfl (.tmp 52) (.tmp 55) rfl L rfl (T _ r.any) rfl Zm r fun af wf C k Q=>?_;change d _ _;refine kk e b k ?_;clear b d;refine kJ ?_;go_wp2;go_ret;exact⟨sW C Zm,⟨_,Zm,D.o.ext k⟩,K.o.trans k.any⟩
   . have u:Ext f f.drew:=jg;generalize f.drew=wd at u |-;go_wp2_with fail;obtain⟨wa,o,j,x,E,m⟩:=pQ.fresh (Z:=30000) u F P;replace m:=Zy m;rw[<-o];clear o;refine kk e b j ?_;clear b d;refine jX rfl fun d b=>?_;go_wp2_with fail;obtain⟨J,Y,h,t,aB,ag⟩:=oM.fresh (Z:=30000) j;replace ag:=Zy ag;rw[<-Y];clear Y;refine kk e b h ?_;clear b d;have x:=x.ext aB;refine jX rfl fun d b=>?_;refine ku _ rfl (.tmp 42) (.tmp 45) rfl t rfl (N _ h.any) rfl Zm h fun bZ wc i B aI=>?_;change d _ _;refine kk e b B ?_;clear b d;have x:=x.kp aI (fun q=>by have:=m.o;have:=q.2;simp[Value.ownBlock]at this;omega);refine jX rfl fun d b=>?_;refine ku _ rfl (.tmp 46) (.tmp 51) rfl i rfl (pQ.lit (n:=1) [F] x rfl (by simpa using P.o)) rfl Zm B fun aL aM L r ak=>?_;change d _ _;refine kk e b r ?_;clear b d;refine jX rfl fun d b=>?_;refine ku _ rfl (.tmp 52) (.tmp 55) rfl L rfl (T _ r.any) rfl Zm r fun af wf C k Q=>?_;change d _ _;refine kk e b k ?_;clear b d;refine kJ ?_;go_wp2;go_ret;exact⟨sW C Zm,⟨_,Zm,D.o.ext k⟩,K.o.trans k.any⟩
 . have T:Zz (∀l,Kp (·=n) f l->pQ 30000 l (.slice (some ⟨A,R+g,none⟩) (xs.length - g) (c - g)) (xs.length - g)):=Zy fun l H=>pQ.drop (sZ O M H) U g;obtain⟨az,aA,aG,z⟩:=uD.ex (fun W'=>Kp (·=n) f W') f Kp.rr;have e:=Zy z;clear z;have ax:=Zy D.o.below;go_upto_region 11 with(fail);refine kT e 14 [([1,2,3,5,10,11,12],0),([],4),([],6),([],7),([],8),([],9),([],13)] [] ?_ ?_
   . exact jg
   have aV:Ext f f.drew:=jg;have u:Kp (·=n) f f.drew:=jg;have aU:=Zy (D.ext aV);generalize f.drew=wd at u aV aU |-;refine mP ?_;intro d b;go_wp2_with fail;obtain⟨wa,o,j,t,E,m⟩:=oM.fresh (Z:=30000) u;replace m:=Zy m;rw[<-o];clear o;refine kk e b j ?_;clear b d;refine lK rfl fun d b=>?_;refine ku _ rfl (.tmp 57) (.tmp 60) rfl t rfl (N _ j) rfl Zm j fun aK J i h aj=>?_;change d _ _;refine kk e b h ?_;clear b d;have bF:=Zy (lC (aU.ext E) ax aj);have bA:=Zy (Nu J n (p+1+1) v S 99999 bF Zm Zm Zm);refine lK rfl fun d b=>?_;go_wp2_with fail;refine bA.mono ?_;rintro q w5 ⟨⟨op,ia,bX,bW,rfl,bf,bM,bL⟩,⟨q5,dm,W⟩,G⟩;have e5:=h.trans G;have ay:=Zy W;have i:=i.kp G (fun A q=>SK au.o);have bG:=Zy (JJ op ia bX bW w5 bf Zm Zm);clear W G bf bM bL;go_wp2_with fail;refine kk e b e5 ?_;clear b d;refine lK rfl fun d b=>?_;go_wp2_with fail;refine bG.mono ?_;rintro q w6 ⟨⟨tx,rfl,bV⟩,ai⟩;have e6:=e5.trans ai.any;have bD:=Zy (ay.ext ai);have i:=i.ext ai;clear ai;go_wp2_with fail;refine kk e b e6 ?_;clear b d;refine lK rfl fun d b=>?_;go_wp2_with fail;obtain⟨wc,Z,B,x,ah,aN⟩:=pQ.fresh (Z:=30000) e6 tx Zm;rw[<-Z];clear Z aN;refine kk e b B ?_;clear b d;have i:=i.ext ah;refine lK rfl fun d b=>?_;refine ku _ rfl (.tmp 61) (.tmp 65) rfl i rfl (pQ.lit (n:=1) [tx] x rfl Zr) rfl Zm B fun aL aM L r ak=>?_;change d _ _;refine kk e b r ?_;clear b d;refine lK rfl fun d b=>?_;refine ku _ rfl (.tmp 66) (.tmp 69) rfl L rfl (T _ r) rfl Zm r fun af wf C k Q=>?_;change d _ _;refine kk e b k ?_;clear b d;refine kG ?_;go_wp2;go_ret;exact⟨sW C Zm,⟨_,Zm,lC (lC (bD.o.ext ah) ax.o ak) ax.o Q⟩,K.o.trans k⟩
def NW(w:World)(base:Nat)(v:Value)(n:Nat):Prop:=(∃a c,v=.slice a n c)/\n<=40/\∃xs,SliceOf 1 kF w (fun b=>base<=b) v xs/\xs.length=n/\∀u∈xs,u.size<=40
theorem NW.kp{w c:World}{base b n:Nat}{v:Value}(a:NW w base v n)(h:Kp (·=b) w c)(l:b<base):NW c base v n:=by
 obtain⟨d,e,i,f,g⟩:=a;exact⟨d,e,i,f.keep kF.stays (h.same fun j m k=>Zm) (fun _ a=>a),g⟩
theorem NW.any{w:World}{base n:Nat}{v:Value}(a:NW w base v n):pQ 1000 w v n:=by
 obtain⟨f,g,h,b,rfl,c⟩:=a;exact pQ.all b fun e d=>SK (c e d)
theorem Ap:(M.blocks.all fun a=>decide (a.length<=40)&&a.all fun b=>decide (b.size<=40))=true:=by decide+kernel
theorem Dk{w d:World}{base c:Nat}{v:Value}{l:List (List ByteArray)}(b:SliceOf 1 yB w (fun a=>base<=a) v l)(e:Kp (·=c) w d)(g:c<base):SliceOf 1 yB d (fun a=>base<=a) v l:=
 b.keep yB.stays (e.same fun a h f=>Zm) (fun _ b=>b)
theorem oM.one{Z:Nat}{D:Nat->Prop}{b W:World}(c:Kp D b W)(s:ByteArray)(d:s.size<=Z):∃a,a=W.alloc (.cells #[s] 9)/\Kp D b a/\oM Z a b (.slice (some ⟨W,0,none⟩) 1 1) 1/\Ext W a:=
 ⟨_,rfl,c.alloc _,oM.lit [s] (h9.new _ _ _) c.size rfl Zl (by simpa using d),jh _⟩
theorem pQ.two{Z:Nat}{D:Nat->Prop}{b W:World}(c:Kp D b W)(s t:ByteArray)(d:s.size<=Z)(e:t.size<=Z):∃a,a=W.alloc (.cells #[s,t] 9)/\Kp D b a/\hH a W 0 [s,t]/\Ext W a:=
 ⟨_,rfl,c.alloc _,hH.nC _ _ rfl,jh _⟩
def J7(w w':World)(e:Ending):Prop:=∃(n m:ByteArray) (a:Option Addr) (c:Nat) (args:List Int),e=.returned (.tuple #[.string n,.string m,.slice a args.length c])/\SliceOf 1 pR w' (fun b=>w.heap.size<=b) (.slice a args.length c) args/\args.length<=1/\n.size<=20/\m.size<=20
theorem Io{w d:World}{g:Nat}{n m:ByteArray}(b:n.size<=20)(a:m.size<=20):J7 w d (.returned (.tuple #[n,m,.slice (some ⟨g,0,none⟩) 0 0])):=
 ⟨n,m,_,_,[],rfl,⟨_,_,rfl,Tz _,by simp,fun e f c=>by simp at c⟩,by simp,b,a⟩
theorem zh{w a:World}{g c:Nat}{n m:ByteArray}{x:Int}(d:hH a g 0 [x])(e:w<=g)(b:1<=c)(h:n.size<=20)(f:m.size<=20):J7 w a (.returned (.tuple #[n,m,.slice (some ⟨g,0,none⟩) 1 c])):=
 ⟨n,m,_,_,[x],rfl,SliceOf.row (R:=pR) (xs:=[x]) [[x]] d rfl Zl ⟨rfl,trivial⟩ e b Zl,by simp,h,f⟩
theorem Qj{k:Nat}(cs:List Value)(e:k<cs.length)(c:cs.all L6=true):∃b:ByteArray,(∀c:k<cs.length,cs[k]'c=.string b)/\b.size<=20:=by
 have a:=Tx.1 c cs[k] Zl;unfold L6 at a;split at a
 . rename_i b d;exact⟨b,fun _=>d,by simpa using a⟩
 . cases a
theorem Nt(w:World)(a p:Nat)(v:Value)(j:List Int)(q:qh w a v j p)(hp:p<=700000):Calls prog 15 #[some a] w fun l B=>J7 w B l/\(∃Q,Q<=p+10/\qh B a v j Q)/\Kp (·=a) w B:=by
 have X:=Zy q.below;obtain⟨S,N,r,I⟩:=nu w #[SS,.int .i64 1,.int .i64 3,.int .i64 5,.int .i64 (-1),.int .i64 9999] 3;have⟨F,V,Y⟩:=jr (kH S a p v j 6 (q.ext r) Zm Zm) I N;have D:Zz (Kp (·=a) w S):=Zy r.any;clear q N r I;go_enter func15,ntmps15;go_wp2_with fail;rw[<-Y.o];refine F.o.mono ?_;rintro l T ⟨⟨k,rfl,hk⟩,u,m⟩;have aj:k<6:=by omega
 obtain⟨ag,P,-,-⟩:=Dg (k:=k) (V.o.kp m (by have:=X.o.1;omega)) Zr Zn;obtain⟨w3,O,s,J⟩:=nu T #[ag] 3;have af:=iV P;have⟨G,C,Z,W⟩:=kQ (kH w3 a (p+1) v j 12 (u.ext s) Zm Zm) J O ((D.o.trans m).trans s.any);obtain⟨d,M⟩:∃d,d=T.heap.size:=⟨_,rfl⟩;have i:Zz (w.heap.size<=d):=Zy (by have:=D.o.size;have:=m.size;omega);have o:Zz (d≠a):=Zy (by have:=u.below.1;omega);clear O s J u m hk F;go_wp2_with fail;rw[<-Z.o];refine G.o.mono ?_;rintro l g ⟨⟨f,rfl,ht⟩,K,t⟩;have ae:f=0\/f=1\/f=2\/f=3\/f=4\/f=5\/(6<=f/\f<12):=by omega
 rw[<-M]at C |-;have⟨h,b,c⟩:=jr (C.o.kp t o.o) (W.o.trans t) K;clear K t ht G P af M;rcases ae with rfl|rfl|rfl|rfl|rfl|rfl|⟨t6,au⟩
 . go_wp2_with fail;refine Px (v:=.tuple #[.string ⟨#[116,111,112]⟩,.string ⟨#[103,101,116]⟩,.slice (some ⟨g.heap.size,0,none⟩) 0 0]) (by simp[results,results15,go_sem]) rfl ?_;exact⟨Io Zn Zn,⟨_,by omega,c.o.ext (jh _)⟩,b.o.trans (jh _)⟩
 . go_wp2_with fail;refine Px (v:=.tuple #[.string ⟨#[99,101,108,108]⟩,.string ⟨#[103,101,116]⟩,.slice (some ⟨g.heap.size,0,none⟩) 0 0]) (by simp[results,results15,go_sem]) rfl ?_;exact⟨Io Zn Zn,⟨_,by omega,c.o.ext (jh _)⟩,b.o.trans (jh _)⟩
 . have aa:=Zy b.o.size;go_wp2_with fail;refine Px (v:=.tuple #[.string ⟨#[109,97,105,110]⟩,.string ⟨#[114,117,110]⟩,.slice (some ⟨g.heap.size,0,none⟩) 1 1]) (by simp[results,results15,go_sem]) rfl ?_;exact⟨zh (hH.nC _ _ rfl) aa.o (Tz _) Zn Zn,⟨_,by omega,c.o.ext (jh _)⟩,b.o.trans (jh _)⟩
 . go_wp2_with fail;refine Px (v:=.tuple #[.string ⟨#[109,97,105,110]⟩,.string ⟨#[110,111,110,101]⟩,.slice (some ⟨d,0,none⟩) 1 1]) (by simp[results,results15,go_sem]) rfl ?_;exact⟨zh (hH.mO h.o) i.o (Tz _) Zn Zn,⟨_,by omega,c.o⟩,b.o⟩
 . go_wp2_with fail;refine Px (v:=.tuple #[.string ⟨#[65]⟩,.string ⟨#[114,117,110]⟩,.slice (some ⟨d,0,none⟩) 1 1]) (by simp[results,results15,go_sem]) rfl ?_;exact⟨zh (hH.mO h.o) i.o (Tz _) Zn Zn,⟨_,by omega,c.o⟩,b.o⟩
 . go_wp2_with fail;refine Px (v:=.tuple #[.string ⟨#[116,111,112]⟩,.string ⟨#[98,117,109,112]⟩,.slice (some ⟨d,0,none⟩) 1 1]) (by simp[results,results15,go_sem]) rfl ?_;exact⟨zh (hH.mO h.o) i.o (Tz _) Zn Zn,⟨_,by omega,c.o⟩,b.o⟩
 . go_upto_region 15 with(fail);first|(go_region_with (go_at_call 37;refine(kH _ a (p+1+1) v j 4 (c.o.ext kx) Zm Zm).mono ?_;rintro l U ⟨⟨A,rfl,hj⟩,L,e⟩;(have ai:A<4:=by omega);have H:=Zy L;have ah:=Zy e;clear L hj;(first|(with_reducible change Kp (·=a) (g.alloc (.cells #[.string ⟨#[114,117,110]⟩,.string ⟨#[114,117,110]⟩,.string ⟨#[115,117,109]⟩,.string ⟨#[99,97,115,116]⟩] 9)).drew U at e;have E:=Zy (((jh _).drew).trans e);have y:=xm (k:=A) (((h9.new g 9 #[.string ⟨#[114,117,110]⟩,.string ⟨#[114,117,110]⟩,.string ⟨#[115,117,109]⟩,.string ⟨#[99,97,115,116]⟩]).ext (jg)).kp e (by have:=c.o.below.1;omega)) Zr Zn;clear e;obtain⟨R,x,z⟩:=y;have ak:=iV x)|(with_reducible change Kp (·=a) g.drew U at e;have E:=Zy ((jg).trans e);have y:=Qj (k:=A) [.string ⟨#[114,117,110]⟩,.string ⟨#[114,117,110]⟩,.string ⟨#[115,117,109]⟩,.string ⟨#[99,97,115,116]⟩] Zr Zn;clear e;obtain⟨R,x,z⟩:=y))))|fail
   all_goals
    go_wp2_with fail;refine Px (v:=.tuple #[.string ⟨#[109,97,105,110]⟩,R,.slice (some ⟨d,0,none⟩) 1 1]) (by simp[results,results15,go_sem,x]) rfl ?_;have n:=(Kp.refl (·=a) g).trans E.o;first
    |exact⟨zh (hH.mO (h.o.kp n o.o)) i.o (Tz _) Zn z,⟨_,by omega,H.o⟩,b.o.trans n⟩
    |exact⟨zh (hH.mO ((h.o.kp n o.o).ext (jh _))) i.o (Tz _) Zn z,⟨_,by omega,H.o.ext (jh _)⟩,(b.o.trans n).trans (jh _)⟩
theorem JN {w: World} (I : Nat -> Prop) {cs: List Value} (c : kC) (H : iX w I c cs) (p : hZ) (N : Int) (ax : N = p.length) (aM : 0 <= N) (aN : N <= 1000) :Calls prog 77 #[.agg cs.toArray,N] w fun o w'=>o=.returned (.bool (jC p c))/\Ext w w':=by
 have aB:=Zy ax;clear ax;obtain⟨vf,vm,rfl,T,A⟩:=H;obtain⟨a1,m1,rfl,aO,aK⟩:=T.form;obtain⟨a2,m2,rfl,aP,aL⟩:=A.form;obtain⟨w0,ay,aj,hb⟩:=nu w #[.slice a1 c.owns.length m1,.slice a2 c.asks.length m2] 32;obtain⟨cz,c2,c3,-⟩:=hb.ca;have⟨HF,HM,l,Q⟩:=kQ T A aj ay;clear aj hb ay T A;by_cases h5:5<c.owns.length
 . have ai:decide ((5:Int)<c.owns.length)=true:=SY Zm;go_enter func77,ntmps77;go_wp2_with fail;rw[<-Q.o];go_wp2;go_ret;exact⟨hQ (by unfold jC;rw[RN (show¬c.owns.length<=5 by omega)];rfl),l⟩
 have ai:decide ((5:Int)<c.owns.length)=false:=RN Zm;by_cases h4:4<c.asks.length
 . have ah:decide ((4:Int)<c.asks.length)=true:=SY Zm;go_enter func77,ntmps77;go_wp2_with fail;rw[<-Q.o];go_wp2;go_ret;exact⟨hQ (by unfold jC;rw[RN (show¬c.asks.length<=4 by omega)];simp),l⟩
 have ae:Zz (jC p c=(jw Class.name mY c.owns []&&jw M.Ask.name (fun g=>jf g.name&&has p g.keeper) c.asks [])):=Zy (by unfold jC;rw[SY (show c.owns.length<=5 by omega),SY (show c.asks.length<=4 by omega)];rfl);have ah:decide ((4:Int)<c.asks.length)=false:=RN Zm;go_enter func77,ntmps77;go_wp2_with fail;rw[<-Q.o];go_wp2;go_loopw [5] (fun i wr=>∃d:Nat,d<=c.owns.length/\i=.int .i64 d/\Ext w0 wr/\Zz (jw Class.name mY (c.owns.take d) []=true)) (fun i _=>c.owns.length - (intOf i).toNat)
 case atStart=>exact⟨0,T9 _,rfl,Kp.rr,Zy rfl⟩
 case round =>
  obtain⟨d,hk,rfl,u,t⟩:=hrel;have C:=Zy u;have S:=u.iW c2;have d3:=u.iW c3;have dz:=iV S;clear c2 c3 cz ai ah;by_cases au:d<c.owns.length
  . have dk:(d:Int)<c.owns.length:=Zm
    obtain⟨k,x⟩:∃k,c.owns[d]?=some k:=⟨c.owns[d]'au,Dj au⟩;obtain⟨R,aa,cs,rfl,hI,V,-,K⟩:=HF.get x;obtain⟨ma,mu,mb,mv,rfl⟩:=V.form;have ak:=jB.stays _ _ _ _ _ _ (Ext.same (l.trans C)) (fun _ H=>H) V;obtain⟨F,G,g2,g3⟩:=(K.ext (l.trans u)).four;have P:=Zy ((HF.take (i:=d) Zm).ext jB.stays (l.trans u));have L:(c.owns.take d).length=d:=by rw[Tf];omega
    obtain⟨aC,aF,aI,m⟩:=mJ wr;have y0:=fun f=>(m.jv f).iW F;have y1:=fun f=>(m.jv f).iW G;have y2:=fun f=>(m.jv f).iW g2;have y3:=fun f=>(m.jv f).iW g3;have ye:=fun f=>(m.jv f).iW S;have e:=Zy m;have aA:=Zy ak;have⟨az,r⟩:=jc L (wZ (name:=Class.name) (ok:=mY) x);have y:Zz (jw Class.name mY (c.owns.take (d+1)) []=false->jC p c=false):=Zy fun o=>by rw[ae.o,zn o];rfl
    clear m u K x F G g2 g3 dz L V ak;go_wp2_with fail;have h:Ext wr wr.drew:=jg;refine kT e 22 [([0,1,2,3,4],5),([6,7,8,9,10,11,12,13,14,15,16,17,18],19)] [20,21] ?_ ?_
    . exact jg
    refine mP ?_;intro b a;go_wp2_with fail;refine(PG I k (jB.stays _ _ _ _ _ _ (Ext.same h) (fun _ H=>H) aA)).mono ?_;rintro o w2 ⟨rfl,aG⟩;obtain⟨q2,v⟩:∃j,mY k=j:=⟨_,rfl⟩;have E:=Zy v;rw[v];clear v;have B:=h.trans aG;cases q2
    . go_wp2_with fail;refine kk e a B ?_;clear a b;refine mP ?_;intro b a;go_wp2_with fail;refine kk e a B ?_;clear a b;refine uG ?_;go_wp2;go_ret;exact⟨hQ (y (by rw[r.o,E.o];simp)).symm,(l.trans C).trans B⟩
    go_wp2_with fail;refine kk e a B ?_;clear a b;refine mP ?_;intro b a;go_wp2_with fail;refine(PI I (.slice (some ⟨R,aa,none⟩) d m1) () (c.owns.take d) (P.ext jB.stays B) k.name).mono ?_;rintro o w3 ⟨⟨Z,rfl,s⟩,U⟩;have q:=B.trans U;obtain⟨j,X⟩:∃j,decide (0<=Z)=j:=⟨_,rfl⟩;simp only[nU]at s;rw[X]at s;have D:=Zy s;clear s;cases j
    . go_wp2_with fail;refine kk e a q ?_;clear a b;refine uG ?_;go_wp2;go_round
      case rel=>exact⟨d+1,Zm,by go_num,C.o.trans q,Zy (by rw[r.o,t.o,E.o,<-D.o];rfl)⟩
      case measure=>simp[intOf];omega
    . go_wp2_with fail;refine kk e a q ?_;clear a b;refine uG ?_;go_wp2;go_ret;exact⟨hQ (y (by rw[r.o,<-D.o];simp)).symm,(l.trans C).trans q⟩
  . have dk : ¬ (d : Int) < c.owns.length := by omega
    obtain⟨wo,rfl⟩:∃wo:World,wo=wr:=⟨_,rfl⟩;have af:Zz (jC p c=jw M.Ask.name (fun g=>jf g.name&&has p g.keeper) c.asks []):=Zy (by have:=t.o;rw[Tu Zm]at this;rw[ae.o,this];rfl);clear u t;go_wp2;go_loopw [6] (fun i wr=>∃d:Nat,d<=c.asks.length/\i=.int .i64 d/\Ext wo wr/\Zz (jw M.Ask.name (fun g=>jf g.name&&has p g.keeper) (c.asks.take d) []=true)) (fun i _=>c.asks.length - (intOf i).toNat)
    case atStart=>exact⟨0,T9 _,rfl,Kp.rr,Zy rfl⟩
    case round =>
     obtain⟨n,aJ,rfl,J,t⟩:=hrel;have⟨z,aH⟩:=jc (C.trans J) J;have e3:=J.iW d3;have ez:=iV e3;clear S d3 dz;by_cases av:n<c.asks.length
     . have aD:(n:Int)<c.asks.length:=Zm
       obtain⟨k,x⟩:∃k,c.asks[n]?=some k:=⟨c.asks[n]'av,Dj av⟩;obtain⟨R,aa,cs,rfl,hI,rfl,-,K⟩:=HM.get x;obtain⟨F,G⟩:=(K.ext (l.trans z)).two;have P:=Zy ((HM.take (i:=n) Zm).ext uT.stays (l.trans z));have L:(c.asks.take n).length=n:=by rw[Tf];omega
       obtain⟨aC,aF,aI,m⟩:=mJ wr;have y0:=fun f=>(m.jv f).iW F;have y1:=fun f=>(m.jv f).iW G;have ye:=fun f=>(m.jv f).iW e3;have⟨e,az,r⟩:=jr m L (wZ (name:=M.Ask.name) (ok:=fun g=>jf g.name&&has p g.keeper) x);have y:Zz (jw M.Ask.name (fun g=>jf g.name&&has p g.keeper) (c.asks.take (n+1)) []=false->jC p c=false):=Zy fun o=>by rw[af.o,zn o]
       clear m J K x F G ez L;go_wp2_with fail;have h:Ext wr wr.drew:=jg;refine kT e 35 [([0,1,2,3,4,5],6),([7,8,9,10,11,12,13,14,15,16],17),([18,19,20,21,22,23,24,25,26,27,28,29,30,31],32)] [33,34] ?_ ?_
       . exact jg
       refine mP ?_;intro b a;go_wp2_with fail;refine(kg _ _).mono ?_;rintro o w1 ⟨rfl,rfl⟩;obtain⟨q1,Y⟩:∃j,jf k.name=j:=⟨_,rfl⟩;have ag:=Zy Y;rw[Y];clear Y;cases q1
       . go_wp2_with fail;refine kk e a h ?_;clear a b;refine mP ?_;intro b a;go_wp2_with fail;refine kk e a h ?_;clear a b;refine mP ?_;intro b a;go_wp2_with fail;refine kk e a h ?_;clear a b;refine uG ?_;go_wp2;go_ret;exact⟨hQ (y (by rw[r.o,ag.o];simp)).symm,(l.trans z).trans h⟩
       go_wp2_with fail;refine kk e a h ?_;clear a b;refine mP ?_;intro b a;go_wp2_with fail;refine(ry).mono ?_;rintro o w' ⟨rfl,rfl⟩;obtain⟨q2,v⟩:∃j,(decide ((0:Int)<=k.keeper)&&decide (k.keeper<=N - 1))=j:=⟨_,rfl⟩;have E:Zz (has p k.keeper=q2):=Zy (by
        rw[<-v];unfold has;congr 1;exact Ug.2 (SK aB.o))
       rw[v];clear v;cases q2
       . go_wp2_with fail;refine kk e a h ?_;clear a b;refine mP ?_;intro b a;go_wp2_with fail;refine kk e a h ?_;clear a b;refine uG ?_;go_wp2;go_ret;exact⟨hQ (y (by rw[r.o,E.o];simp)).symm,(l.trans z).trans h⟩
       go_wp2_with fail;refine kk e a h ?_;clear a b;refine mP ?_;intro b a;go_wp2_with fail;refine(NC I (.slice (some ⟨R,aa,none⟩) n m2) () (c.asks.take n) (P.ext uT.stays h) k.name).mono ?_;rintro o w3 ⟨⟨Z,rfl,s⟩,U⟩;have q:=h.trans U;obtain⟨j,X⟩:∃j,decide (0<=Z)=j:=⟨_,rfl⟩;have D:Zz (j=(c.asks.take n).any fun O=>decide (O.name=k.name)):=Zy (by
        simp only[nU]at s;rw[<-X];rcases s with⟨O,hy,W,rfl⟩|⟨W,rfl⟩
        . rw[V8.2 ⟨O,hy,W⟩];have A:=ug t O hy;simp only[S9]at A;exact SY (De.1 A.2).1
        . rw[W];rfl)
       clear s;cases j
       . go_wp2_with fail;refine kk e a q ?_;clear a b;refine uG ?_;go_wp2;go_round
         case rel=>exact⟨n+1,Zm,by go_num,aH.o.trans q,Zy (by rw[r.o,t.o,ag.o,E.o,<-D.o];rfl)⟩
         case measure=>simp[intOf];omega
       . go_wp2_with fail;refine kk e a q ?_;clear a b;refine uG ?_;go_wp2;go_ret;exact⟨hQ (y (by rw[r.o,<-D.o];simp)).symm,(l.trans z).trans q⟩
     . have aD:¬(n:Int)<c.asks.length:=Zm
       clear J;go_wp2;go_ret;exact⟨hQ (by have:=t.o;rw[Tu Zm]at this;rw[af.o,this]),l.trans z⟩
theorem JL(w:World){I:Nat->Prop}{v:Value}(p:hZ)(b:SliceOf 2 iX w I v p):Calls prog 30 #[.agg #[v]] w fun n N=>n=.returned (.bool (jY p))/\Ext w N:=by
 obtain⟨R,W,rfl,af,ae⟩:=b.form;obtain⟨X,L,F,H⟩:=nu w #[.slice R p.length W] 25;obtain⟨S,A,-⟩:=H.ca;have⟨O,c,Q⟩:=jr b F L;clear F H L b;go_enter func30,ntmps30;go_wp2_with fail;rw[<-Q.o];go_wp2_with fail;refine(ry).mono ?_;rintro n N ⟨rfl,rfl⟩;obtain⟨q1,j⟩:∃t,(decide ((1:Int)<=p.length)&&decide ((p.length:Int)<=3))=t:=⟨_,rfl⟩;have l:Zz (jY p=(q1&&p.all (jC p))):=Zy (by
  unfold jY;rw[<-j];congr 2
  . exact Ug.2 Zm
  . exact Ug.2 Zm)
 rw[j];cases q1
 . go_wp2;go_ret;exact⟨hQ (by rw[l.o];rfl),c⟩
 have ah:(p.length:Int)<=3:=by simp at j;omega
 clear j;go_wp2;go_loopw [3] (fun s wr=>∃a:Nat,a<=p.length/\s=.int .i64 a/\Ext X wr/\Zz ((p.take a).all (jC p)=true)) (fun s _=>p.length - (intOf s).toNat)
 case atStart=>exact⟨0,T9 _,rfl,Kp.rr,Zy Zl⟩
 case round =>
  obtain⟨a,hk,rfl,e,u⟩:=hrel;have g:=Zy e;have B:=e.iW A;have U:=iV B;clear A S;by_cases K:a<p.length
  . have T:(a:Int)<p.length:=Zm
    obtain⟨k,r⟩:∃k,p[a]?=some k:=⟨p[a]'K,Dj K⟩;obtain⟨Z,ai,cs,rfl,hI,o,-,J⟩:=O.get r;obtain⟨ma,mu,mb,mv,rfl⟩:=o.form;have G:=iX.stays _ _ _ _ _ _ (Ext.same (c.trans g)) (fun _ b=>b) o;obtain⟨C,D⟩:=(J.ext (c.trans e)).two;obtain⟨Y,aa,ag,d⟩:=mJ wr;have y0:=fun f=>(d.jv f).iW C;have y1:=fun f=>(d.jv f).iW D;have ye:=fun f=>(d.jv f).iW B;have m:=Zy d;have P:=Zy G;have y:=Zy r;clear d e J r C D U o G;go_wp2_with fail;have E:Ext wr wr.drew:=jg;refine kT m 10 [([0,1,2,3,4,5,6,7],8)] [9] ?_ ?_
    . exact jg
    refine mP ?_;intro z i;go_wp2_with fail;refine(JN I k (iX.stays _ _ _ _ _ _ (Ext.same E) (fun _ b=>b) P) p p.length rfl Zm Zm).mono ?_;rintro n w2 ⟨rfl,V⟩;obtain⟨q2,q⟩:∃t,jC p k=t:=⟨_,rfl⟩;have x:=Zy q;rw[q];clear q;have h:=E.trans V;cases q2
    . go_wp2_with fail;refine kk m i h ?_;clear i z;refine uG ?_;go_wp2;go_ret;exact⟨hQ (by rw[l.o,Da y.o x.o];rfl),(c.trans g).trans h⟩
    . go_wp2_with fail;refine kk m i h ?_;clear i z;refine uG ?_;go_wp2;go_round
      case rel=>exact⟨a+1,Zm,by go_num,g.o.trans h,Zy (Dt y.o x.o u.o)⟩
      case measure=>simp[intOf];omega
  . have T:¬(a:Int)<p.length:=Zm
    clear e;go_wp2;go_ret;exact⟨hQ (by have:=u.o;rw[Tu Zm]at this;rw[l.o,this];rfl),c.trans g⟩
namespace M
def rF:hZ->List ByteArray->Option hZ
 |p,[]=>some p
 |p,s::r=>if(line p s).2 then rF (line p s).1 r else none
def parse(l:List ByteArray):Option hZ:=
 if 400<l.length then none else
 match rF [] l with
 |none=>none
 |some p=>if jY p then some p else none
theorem Et{l:List ByteArray}{k:Nat}{x:ByteArray}(c:l[k]?=some x){p a:hZ}{b:Bool}(d:line p x=(a,b)):rF p (l.drop k)=if b then rF a (l.drop (k+1))else none:=by
 rw[drop_at c,rF,d]
theorem K3{l:List ByteArray}{k:Nat}{x:ByteArray}(a:l[k]?=some x){p d:hZ}(b:rF [] l=rF p (l.drop k))(c:line p x=(d,false)):parse l=none:=by
 unfold parse;rw[b,Et a c];split<;>rfl
theorem Nh{l:List ByteArray}{k:Nat}(a:k=l.length)(hl:¬400<l.length){p:hZ}(b:rF [] l=rF p (l.drop k)):parse l=if jY p then some p else none:=by
 unfold parse;rw[SX hl,b,a,List.drop_length,rF]
end M
def NV(lines:List ByteArray)(w w':World)(e:Ending):Prop:=∃p v n,e=.returned (.tuple #[.agg #[v],.int .i64 n])/\SliceOf 2 iX w' (fun b=>w.heap.size<=b/\b<w'.heap.size) v p/\0<=n/\((n=0/\M.parse lines=some p)\/(0<n/\M.parse lines=none))
theorem Ag{lines:List ByteArray}{w wc:World}(p:hZ){v:Value}(g:Ext w wc)(j:SliceOf 2 iX wc (fun a=>w+1<=a) v p)(n:Int)(h:0<=n)(i:(n=0/\M.parse lines=some p)\/(0<n/\M.parse lines=none))(d:Value):NV lines w (wc.setCell w d) (.returned (.tuple #[.agg #[v],n]))/\Ext w (wc.setCell w d):=by
 have e:Kp (·=w) wc (wc.setCell w d):=qA;have k:=j.keep (J:=fun a=>w+1<=a) iX.stays (e.same fun a b f=>Zm) (fun a b=>b);have l:=k.inside (fun _ _ _ _ c=>iX.inside c) Zm;exact⟨⟨p,v,n,rfl,l.keep iX.stays (fun _ _ _ _ c=>c) (fun a b=>⟨Zm,b.2⟩),h,i⟩,g.own e fun a f=>Zm⟩
theorem yS(w:World)(I:Nat->Prop)(v:Value)(lines:List ByteArray)(V:SliceOf 1 kF w I v lines)(aR:∀bH∈lines,bH.size<=1000000):Calls prog 35 #[v] w fun l w'=>NV lines w w' l/\Ext w w':=by
 obtain⟨bJ,bK,rfl,bN,bO⟩:=V.form;by_cases hl:400<lines.length
 . have bF:(400:Int)<lines.length:=Zm
   have ai:Zz (M.parse lines=none):=Zy (by unfold M.parse;rw[SV hl]);clear V;go_enter func35,ntmps35;go_wp2_with fail;refine Px (h7 rA rfl w rfl [()] (hH.nC _ _ rfl) rfl) rfl ?_;exact⟨⟨[],_,_,rfl,SliceOf.nil _ _ _ _,Zm,.inr ⟨Zm,ai.o⟩⟩,Zx⟩
 have bF:¬(400:Int)<lines.length:=Zm
 obtain⟨D,J⟩:=SH ((w.alloc (.cells #[()] 25)).alloc (.cells #[()] 25));have ay:Ext w D:=by rw[J];exact Zx
 have b2:h9 D w 25 #[()]:=by rw[J];exact(h9.new _ _ _).ext Zx
 have b4:h9 D (w+1) 25 #[()]:=by rw[J];exact h9.BK _ _ Zl
 have aT:D.heap.size=w+2:=by rw[J];simp
 have⟨bz,bA,aU,aW,aY,HV,bu,bn,aZ⟩:=Bz J aT b2 b4 ay (V.ext kF.stays ay) V aR hl;clear J aT b2 b4 ay V aR;go_enter func35,ntmps35;go_upto_region 4 with(fail);rw[<-bz.o];go_wp2;go_loopw [5] (fun aB wr=>∃(e:Nat) (o:hZ) (Q:Option Addr) (L W:Nat),e<=lines.length/\aB=.int .i64 e/\h9 wr (w+1) 25 #[.slice Q L W]/\SliceOf 2 iX wr (fun f=>w+2<=f) (.slice Q L W) o/\uu e o/\M.rF [] lines=M.rF o (lines.drop e)/\Kp (·=w+1) D wr) (fun aB _=>lines.length - (intOf aB).toNat)
 case atStart=>exact⟨0,[],_,_,_,T9 _,rfl,aW,SliceOf.nil _ _ _ _,⟨by simp,by simp⟩,rfl,Kp.rr⟩
 case round =>
  obtain⟨e,o,Q,L,W,hk,rfl,c,hs,aA,aQ,p⟩:=hrel;have aj:=Zy aQ;clear aQ;have⟨Y,HS,aI,HK⟩:=kQ c hs aA p;have aK:Zz ((w:Nat)+2<=(wr:Nat)):=Zy (SL p.size bA.o);have⟨ah,k⟩:=jc (aY.own p fun f l=>Zm) (aU.o.kp p Zm);by_cases aP:e<lines.length
  . have dk:(e:Int)<lines.length:=Zm
    obtain⟨N,hx⟩:∃N,lines[e]?=some N:=⟨lines[e]'aP,Dj aP⟩;have aS:=bn.o N (Sy hx);have aJ:=Zy hx;obtain⟨bl,ol,rfl,gl⟩:=kF.at_ bu hx;have aL:=ah.iW gl;obtain⟨bI,bM,bP,Z⟩:=mJ wr;have y0:=fun aC=>(Z.jv aC).iW aL;have y1:=fun aC=>(c.ext (Z.jv aC)).c 0 (.slice Q L W) rfl;have q:=Zy Z;obtain⟨cz,S,-⟩:=k.ca;have av:=k.frozen 0;obtain⟨ax,T,-⟩:=c.ca;have bC:=c.frozen 0;have aH:=Zy (hs.inside (fun _ _ _ _ a=>iX.inside a) Zm);clear c hs aA p Z hx gl aL;go_upto_region 7 with(fail);go_cut [6,7] (fun s6 s7 wx=>∃R n j r h x,s6=.pointer (some ⟨R,0,none⟩)/\s7=.bool n/\h9 wx R 25 #[.slice r h x]/\SliceOf 2 iX wx (fun f=>w+2<=f) (.slice r h x) j/\uu (e+1) j/\M.line o N=(j,n)/\Ext wr wx)
    case first=>
     refine ve q 11 (.two [0,1,2,3,4] 5 9 (.one [6,7,8] 9 (.one [] 10 (.fin []))) (.one [] 5 (.one [6,7,8] 10 (.fin [])))) ?_ ?_
     . exact jg
     refine two [_,_,_,_,_] rfl rfl rfl fun bB p=>?_;(repeat (go_big_quiet_step (fail)));((refine JE p (fun i b=>?_) fun i b=>?_)<;>clear p bB)
     . have s:Ext wr wr.drew:=jg;go_wp2_with fail;refine(Gl (fun _ a=>Tp a.2 s.size) o (aH.ext iX.stays s) N aS e Zm aI).mono ?_;rintro l E ⟨⟨j,v',n,rfl,g,H,u⟩,d⟩;have F:=Zy u;clear u;obtain⟨r,x,rfl,-,-⟩:=g.form;obtain⟨h,C⟩:∃h,List.length j=h:=⟨_,rfl⟩;rw[C]at g;simp only[C];clear C;have e4:=s.trans d;go_wp2_with fail;refine kk q b e4 ?_;clear b i;refine EF ?_;intro i b;go_wp2_with fail;obtain⟨w5,K,G,z⟩:=nu E #[()] 25;rw[<-K];have A:=e4.trans G;have⟨aF,au⟩:=jc A ((g.inside (fun _ _ _ _ a=>iX.inside a) Zm).ext iX.stays G);have aa:=Zy e4.size;have af:=Zy z;obtain⟨zz,z0,-⟩:=z.ca;have zf:=z.frozen 0;clear G z K g;refine kk q b aF ?_;clear b i;refine jX rfl fun i b=>?_;go_wp2_with fail;have t:Kp (·=E) w5 (w5.setCell E (.slice r h x)):=qA;have U:=aF.own t (fun f l=>SK aa.o);refine kk q b U ?_;clear b i;refine kJ ?_;go_wp2;go_meet;exact⟨_,_,j,_,_,_,rfl,rfl,af.jE 0 _,au.keep iX.stays (t.same fun f c l=>SK c.2) (fun f c=>c.1.elim (fun a=>a.1) (fun a=>SL s.size aK.o)),H,F.o,U⟩
     . have s:Ext wr wr.drew:=jg;generalize wr.drew=wd at s |-;go_wp2_with fail;obtain⟨w5,K,G,z⟩:=nu wd #[()] 25;rw[<-K];have aa:Zz ((w5:Nat)=wd+1):=Zy (by rw[K];simp);have A:=s.trans G;clear K G;refine kk q b A ?_;clear b i;refine jX rfl fun i b=>?_;go_wp2_with fail;refine(Gl (fun _ a=>Tp a.2 A.size) o (aH.ext iX.stays A) N aS e Zm aI).mono ?_;rintro l E ⟨⟨j,v',n,rfl,g,H,u⟩,d⟩;have F:=Zy u;clear u;obtain⟨r,x,rfl,-,-⟩:=g.form;obtain⟨h,C⟩:∃h,List.length j=h:=⟨_,rfl⟩;rw[C]at g;simp only[C];clear C;have ae:=z.ext d;have⟨af,P⟩:=jc ae (A.trans d);have au:=Zy g;have ag:=Zy s.size;obtain⟨zz,z0,-⟩:=ae.ca;have zf:=ae.frozen 0;clear z ae g d A;go_wp2_with fail;refine kk q b P ?_;clear b i;refine EF ?_;intro i b;go_wp2_with fail;have t:Kp (·=wd) E (E.setCell wd (.slice r h x)):=qA;have U:=P.own t (fun f l=>SK ag.o);refine kk q b U ?_;clear b i;refine kJ ?_;go_wp2;go_meet;exact⟨_,_,j,_,_,_,rfl,rfl,af.jE 0 _,au.keep iX.stays (t.same fun f c l=>c.elim (fun a=>SK ag.o) (fun a=>SK aa.o)) (fun f c=>c.elim (fun a=>a.1) (fun a=>SN aa.o ag.o aK.o)),H,F.o,U⟩
    obtain⟨R,n,j,r,h,x,rfl,rfl,aM,g,H,u,m⟩:=hcut;have F:=Zy u;clear u;have d1:=m.iW S;have bD:=(k.ext m).frozen 0;have dz:=(k.ext m).lt;have d4:=m.iW T;have bL:=(Y.ext m).frozen 0;have bE:=(Y.ext m).lt;obtain⟨bQ,x6,-⟩:=aM.ca;have⟨aV,aX⟩:=jc (k.ext m) (Y.ext m);have bq:=Zy g;have bg:=Zy H;have aG:=Zy m;have aN:R≠w.heap.size+1\/R=w.heap.size+1:=Zm
    clear S av cz T bC ax aM g H m q y0 y1;cases n
    . have ai:=Zy (M.K3 aJ aj F);have O:=Zy (fun(y:Int) (B:0<y) X=>Ag (lines:=lines) (w:=w) [] (ah.trans aG) (SliceOf.nil _ _ _ _) y (Int.le_of_lt B) (.inr ⟨B,ai⟩) X);clear aN;go_wp2_with fail;refine Px (h7 rA rfl w rfl [()] (hH.mO (aV.jE 0 _)) rfl) rfl ?_;exact O _ Zm _
    . clear aN;go_wp2_with fail;have t:Kp (·=w+1) wc (wc.setCell ⟨w+1,0,none⟩ (.slice r h x)):=qA;go_round
      case rel=>exact⟨e+1,j,_,_,_,Zm,by go_num,aX.o.jE 0 _,bq.o.keep iX.stays (t.same fun f c l=>Zm) (fun _ a=>a),bg.o,aj.o.trans (M.Et aJ.o F.o),(HK.o.trans aG.o.any).trans t⟩
      case measure=>simp[intOf];omega
  . have dk:¬(e:Int)<lines.length:=Zm
    have aO:e=lines.length:=Zm
    have ak:=Zy (M.Nh aO aZ aj);clear aO;obtain⟨cz,S,-⟩:=k.ca;have av:=k.frozen 0;obtain⟨ax,T,-⟩:=c.ca;clear c hs aA p;obtain⟨p6,bG⟩:∃p6:Nat,p6=L:=⟨_,rfl⟩;go_wp2_with fail;refine(JL _ o HS).mono ?_;rintro l E ⟨rfl,d⟩;obtain⟨n,az⟩:∃n,jY o=n:=⟨_,rfl⟩;rw[az]at ak;rw[az];clear az;have d1:=d.iW S;have bD:=(k.ext d).frozen 0;have dz:=(k.ext d).lt;have d4:=d.iW T;have bE:=(Y.ext d).lt;have⟨aD,P,bf⟩:=jr (k.ext d) (ah.trans d) ((HS.ext iX.stays d).keep (J:=fun f=>w+1<=f) iX.stays (fun _ _ _ _ a=>a) (fun f c=>Zm));clear d S av cz T ax bG;cases n
    . have O:=Zy (fun(y:Int) (B:0<y) X=>Ag (lines:=lines) (w:=w) [] P (SliceOf.nil _ _ _ _) y (Int.le_of_lt B) (.inr ⟨B,ak⟩) X);go_wp2_with fail;refine Px (h7 rA rfl w rfl [()] (hH.mO (aD.jE 0 _)) rfl) rfl ?_;exact O _ Zm _
    . have O:=Zy (fun(y:Int) (B:y=0) X=>Ag (lines:=lines) (w:=w) o P bf y Zm (.inl ⟨B,ak⟩) X);go_wp2_with fail;refine Px (h7 rA rfl w rfl [.slice Q L W] (hH.mO (aD.jE 0 _)) rfl) rfl ?_;exact O _ rfl _
end Go.Proofs.YtenhnldnpdlniaaGreat
namespace Go.Proofs.YtenhnldnpdlniaaGreat.M
open Go Tryz M
def bl(k:Nat):List ByteArray:=blocks.getD k []
abbrev ze:ByteArray:=⟨#[97,115,107,115,32,116,111,112,32,49]⟩
abbrev oP:ByteArray:=⟨#[97,115,107,115,32,99,101,108,108,32,49]⟩
abbrev zg:ByteArray:=⟨#[97,115,107,115,32,116,111,112,32,50]⟩
abbrev PX:ByteArray:=⟨#[97,115,107,115,32,116,111,112,32,48]⟩
abbrev N7:ByteArray:=⟨#[97,115,107,115,32,110,111,110,101,32,48]⟩
def NF:List Nat:=[0,7]
def cells:List Nat:=[1,8]
def Pd:List Nat:=[2,3,4,5,6,9,10]
def ways:List ByteArray:=[PX,oP,N7]
def QZ(t c m:Nat):List ByteArray:=[j6]++bl t++bl c++bl m
def Q0(t c m:Nat):List ByteArray:=[j6]++[ze,oP]++bl m++[j6]++bl t++bl c
def Q3(t c m u:Nat):List ByteArray:=[j6]++[oP]++bl u++bl m++[j6]++bl t++bl c
def Q4(t c m:Nat):List ByteArray:=[j6]++[oP,zg]++bl m++[j6,zg]++bl c++[j6]++bl t
def Q5(t c m:Nat)(s:ByteArray):List ByteArray:=[j6]++[ze,oP]++bl m++[j6,s]++bl t++bl c
def reads(l:List ByteArray):Bool:=(parse l).isSome
theorem Nk:(NF.all fun c=>cells.all fun a=>Pd.all fun b=>reads (QZ c a b)&&reads (Q0 c a b)&&(NF.all fun e=>reads (Q3 c a b e))&&reads (Q4 c a b)&&(ways.all fun d=>reads (Q5 c a b d)))=true:=by decide+kernel
end Go.Proofs.YtenhnldnpdlniaaGreat.M
namespace Go.Proofs.YtenhnldnpdlniaaGreat
open Go Go.RowKit Tryz M
def Sd(l:List Nat)(v:Value):Bool:=match v with
 | .int .i64 n=>l.any fun k=>decide (n=(k:Int))
 |_=>false
theorem GX(l:List Nat){w:World}{b k:Nat}{t:TypeId}{cs:Array Value}(g:h9 w b t cs)(h:k<cs.size)(f:cs.toList.all (Sd l)=true):∃c:Nat,w.cell? (b,k)=some (.int .i64 c)/\c∈l:=by
 have d:=g.cell k;rw[Ux h]at d;have a:=Tx.1 f cs[k] Zl;unfold Sd at a;split at a
 . rename_i m j;obtain⟨c,i,e⟩:=V8.1 a;exact⟨c,by rw[d,j,TE e],i⟩
 . cases a
def QX(l:List ByteArray)(v:Value):Bool:=match v with
 | .string s=>l.any fun k=>decide (s=k)
 |_=>false
theorem Qz(l:List ByteArray){w:World}{b k:Nat}{t:TypeId}{cs:Array Value}(g:h9 w b t cs)(h:k<cs.size)(f:cs.toList.all (QX l)=true):∃c:ByteArray,w.cell? (b,k)=some (.string c)/\c∈l:=by
 have d:=g.cell k;rw[Ux h]at d;have a:=Tx.1 f cs[k] Zl;unfold QX at a;split at a
 . rename_i c j;obtain⟨m,i,e⟩:=V8.1 a;exact⟨m,by rw[d,j,TE e],i⟩
 . cases a
def pU(xs:List ByteArray)(w:World)(base:Nat)(v:Value)(n:Nat):Prop:=w.ownsRow base 9 1 v n (xs.flatMap mE)/\xs.length=n
def AnyX(xs:List ByteArray)(w:World)(u:Value)(m:Nat):Prop:=(∃ad c,u=.slice ad m c)/\Flat w 1 u m (xs.flatMap mE)
theorem pU.ext{xs:List ByteArray}{w b:World}{base:Nat}{v:Value}{n:Nat}(a:pU xs w base v n)(c:Ext w b):pU xs b base v n:=
 ⟨iY (D:=fun _=>False) a.1 c fun _ _ _ d=>d,a.2⟩
theorem pU.kp{xs:List ByteArray}{D:Nat->Prop}{w c:World}{base:Nat}{v:Value}{n:Nat}(b:pU xs w base v n)(f:Kp D w c)(e:∀a,D a->a<base):pU xs c base v n:=
 ⟨iY b.1 f fun d _ h g=>SK (e d g),b.2⟩
theorem AnyX.ext{xs:List ByteArray}{w c:World}{b:Value}{m:Nat}(a:AnyX xs w b m)(d:Ext w c):AnyX xs c b m:=⟨a.1,a.2.ext d⟩
theorem AnyX.all{w:World}{I:Nat->Prop}{v:Value}{xs:List ByteArray}{n:Nat}(a:SliceOf 1 kF w I v xs)(d:xs.length=n):AnyX xs w v n:=by
 subst d;obtain⟨b,c,rfl,-,-⟩:=a.form;exact⟨⟨b,c,rfl⟩,SliceOf.toFlat (enc:=mE) (fun _ _ _ _ a=>a) (fun _=>rfl) xD a⟩
theorem AnyX.lit{w:World}{g n c:Nat}(xs:List ByteArray)(e:hH w g 0 (xs.map Value.string))(h:xs.length=n):AnyX xs w (g,n,c) n:=by
 subst h;have f:(xs.flatMap mE).length=xs.length*1:=nI (enc:=mE) (k:=1) (fun _=>rfl) _;refine⟨⟨_,_,rfl⟩,⟨f,⟨_,_,rfl,(fun a=>by cases a),fun k a i j b=>?_⟩,pW xD _⟩⟩;cases a;rw[<-vg]at b;have:=e i j b;unfold Addr.add;split
 . rename_i d;rw[d]at this;exact this
 . simpa using this
theorem jl{xs i:List ByteArray}(w:World){o:Array Oper}{rest:List Oper}{f:Oper}{a:Act}{Q:Exit->Act->World->Prop}(A:f.guard=none)(s x:Operand)
    (E:f.op=.call {callee:=.builtin .append,args:=#[s,x],argTypes:=#[55,55]}) {D:Nat->Prop} {d:World} {v:Value} {n:Nat} (F:pU xs w d v n) (G:a.eval s=v)
    {p:Value} {m:Nat} (H:AnyX i w p m) (I:a.eval x=p) (C:n+m<=8589934592) (l:Kp D d w)
    (t:∀g c,pU (xs++i) c d g (n+m)->Kp D d c->Kp (fun b=>d<=b/\v.ownBlock=some b) w c->wpList prog o Q rest (a.put f.dst g) c):
    wpList prog o Q (f::rest) a w:=by
 obtain⟨h,u⟩:=F;obtain⟨⟨q,r,rfl⟩,j⟩:=H;have B:i.length=m:=by
  obtain⟨y,-⟩:=j;rw[nI (enc:=mE) (k:=1) (fun _=>rfl)]at y;omega
 refine jJ Av w A s x E _ v n _ G h q m r _ I j C l.size fun g c z k=>t g c ⟨by simpa [TJ]using z,by simp[u,B]⟩ (l.own k fun b e=>(h.lt b e).1) (k.weak fun b _ e=>⟨(h.lt b e).1,e⟩)
def Me(w:World)(base:Nat)(v:Value)(k n:Nat):Prop:=(∃a c,v=.slice a n c)/\n<=40/\(bl k).length=n/\SliceOf 1 kF w (fun b=>base<=b) v (bl k)
theorem Me.kp{w c:World}{base b k n:Nat}{v:Value}(a:Me w base v k n)(d:Kp (·=b) w c)(g:b<base):Me c base v k n:=
 ⟨a.1,a.2.1,a.2.2.1,a.2.2.2.keep kF.stays (d.same fun e h f=>Zm) (fun _ a=>a)⟩
theorem Me.any{w:World}{base k n:Nat}{v:Value}(a:Me w base v k n):AnyX (bl k) w v n:=AnyX.all a.2.2.2 a.2.2.1
theorem A9{w:World}{base b h n c:Nat}(j:SliceOf 1 yB w (fun b=>base<=b) (.slice (some ⟨b,h,none⟩) n c) M.blocks){k:Nat}(s:k<11):∃e m,w.cell? (b,h+k)=some e/\Me w base e k m:=by
 have t:M.blocks.length=11:=rfl;obtain⟨a,d⟩:∃a,M.blocks[k]?=some a:=⟨M.blocks[k]'Zm,Dj Zm⟩;have f:bl k=a:=by unfold bl;rw[List.getD_eq_getElem?_getD,d];rfl
 obtain⟨p,u,r,i,-,⟨e,rfl,g⟩,-,l⟩:=j.get d;cases i;obtain⟨o,q,rfl,-,-⟩:=g.form;have:=Tx.1 Ap a (Sy d);simp only[S9,SF,Tx]at this;exact⟨_,_,by simpa using l.one,⟨_,_,rfl⟩,this.1,by rw[f],by rw[f];exact g⟩
theorem pU.one{D:Nat->Prop}{b W:World}(c:Kp D b W)(s:ByteArray):∃a,a=W.alloc (.cells #[s] 9)/\Kp D b a/\pU [s] a b (.slice (some ⟨W,0,none⟩) 1 1) 1/\Ext W a:=by
 refine⟨_,rfl,c.alloc _,⟨⟨rfl,.inr ⟨W,1,_,rfl,c.size,h9.new _ _ _,Tz _,by unfold maxLen;omega,by simp,?_⟩⟩,rfl⟩,jh _⟩;simp[mE]
theorem AnyX.two{D:Nat->Prop}{b W:World}(c:Kp D b W)(s t:ByteArray):∃a,a=W.alloc (.cells #[s,t] 9)/\Kp D b a/\hH a W 0 [s,t]/\Ext W a:=
 ⟨_,rfl,c.alloc _,hH.nC _ _ rfl,jh _⟩
theorem AnyX.fresh{D:Nat->Prop}{b W:World}(c:Kp D b W)(s:ByteArray):∃a,a=W.alloc (.cells #[s] 9)/\Kp D b a/\hH a W 0 [s]/\Ext W a:=
 ⟨_,rfl,c.alloc _,hH.nC _ _ rfl,jh _⟩
def NQ(w w':World)(e:Ending):Prop:=∃vl xs,e=.returned vl/\SliceOf 1 kF w' (fun b=>w.heap.size<=b) vl xs/\1<=xs.length/\xs.length<=1000/\(∀u∈xs,u.size<=1000)/\reads xs=true
theorem Nw{l:List (List ByteArray)}(d:∀c∈l,(∃f,c=bl f)\/∀b∈c,b.size<=1000):∀b∈l.flatten,b.size<=1000:=fun b g=>by
 obtain⟨c,h,a⟩:=List.mem_flatten.1 g;rcases d c h with⟨f,rfl⟩|d
 . unfold bl at a;rw[List.getD_eq_getElem?_getD]at a;cases e:M.blocks[f]? with
   |none=>rw[e]at a;simp at a
   |some i=>
    rw[e]at a;have:=Tx.1 Ap i (Sy e);simp only[S9,SF,Tx]at this;have:=this.2 b a;omega
 . exact d b a
theorem sU{w W:World}{base:Nat}{v:Value}{n:Nat}{xs:List ByteArray}(a:pU xs W base v n)(j:w<=base)(c:1<=n)(d:n<=1000)(h:∀i∈xs,i.size<=1000)(g:reads xs=true):NQ w W (.returned v):=by
 obtain⟨e,rfl⟩:=a;have f:SliceOf 1 kF W (fun b=>base<=b) v xs:=SliceOf.l5 mE e rfl rfl (fun _ _=>rfl) (fun _ _=>rfl) (fun _ a _=>a) Zm;exact⟨v,xs,rfl,f.keep kF.stays (fun _ _ _ _ a=>a) (fun b a=>Zm),c,d,h,g⟩
theorem wK{t c m:Nat}(e:t∈NF)(b:c∈cells)(d:m∈Pd):reads (QZ t c m)=true/\reads (Q0 t c m)=true/\(∀g∈NF,reads (Q3 t c m g)=true)/\reads (Q4 t c m)=true/\∀f∈M.ways,reads (Q5 t c m f)=true:=by
 have a:=Tx.1 (Tx.1 (Tx.1 Nk t e) c b) m d;simp only[S9,Tx]at a;exact⟨a.1.1.1.1,a.1.1.1.2,a.1.1.2,a.1.2,a.2⟩
theorem Ll{s:ByteArray}(a:s∈M.ways):s.size<=1000:=by
 have:M.ways.all (fun s=>decide (s.size<=1000))=true:=by decide
 exact TE (Tx.1 this s a)
theorem LQ{l:List Nat}(a:l.all (fun c=>decide (c<11))=true){n:Nat}(b:n∈l):n<11:=TE (Tx.1 a n b)
theorem l6{k:Nat}:∀b∈bl k,b.size<=1000:=by
 have:=Nw (l:=[bl k]) fun c a=>.inl ⟨k,by simpa using a⟩;simpa using this
theorem jW{a b:List ByteArray}(d:∀c∈a,c.size<=1000)(e:∀c∈b,c.size<=1000):∀c∈a++b,c.size<=1000:=fun c f=>(Ty.1 f).elim (d c) (e c)
theorem Ju(w:World)(r p:Nat)(v:Value)(zs:List Int)(bL:qh w r v zs p)(hp:p<=700000):Calls prog 33 #[some r] w fun o w'=>NQ w w' o/\(∃ed,ed<=p+20/\qh w' r v zs ed)/\Kp (·=r) w w':=by
 have b:=Zy bL.below;have HR:=Zy bL;clear bL;go_enter func33,ntmps33;go_wp2_with fail;refine(Ny w).mono ?_;rintro o w1 ⟨⟨vb,rfl,hS⟩,bM⟩;obtain⟨fT,gV,rfl,-,-⟩:=hS.form;obtain⟨aS,dZ,rfl⟩:∃aS dZ,fT=some ⟨aS,dZ,none⟩:=by
  obtain⟨b',o',cs,o,-⟩:=hS.get (i:=0) (x:=_) rfl;exact⟨_,_,o⟩
 have dE:=Zy hS;have eZ:Zz (Kp (·=r) w w1):=Zy bM.any;have dA:=Zy (HR.ext bM);clear hS bM;simp only[show M.blocks.length=11 from rfl]at dE |-;obtain⟨w2,bC⟩:∃K,K=w1.alloc (.cells #[SS,SS,SS,.int .i64 7] 3):=⟨_,rfl⟩;have bP:Ext w1 w2:=by rw[bC];exact jh _
 have eP:Zz (h9 w2 w1 3 #[SS,SS,SS,.int .i64 7]):=Zy (by rw[bC];exact h9.new _ _ _);have⟨dn,fH,cO⟩:=jr (kH w2 r (p) v zs 4 (dA.ext bP) Zm Zm) bC bP;have fO:=Zy dA.o.below.1;clear bC bP;go_wp2_with fail;rw[<-fH.o];refine dn.mono ?_;rintro o w3 ⟨⟨k3,rfl,gu⟩,dO,bA⟩;have ig:k3<4:=Zm
 obtain⟨gQ,gK,bU⟩:=GX NF (k:=k3) (eP.kp bA (SK fO.o)) Zr Zn;have dF:=Zy (Dk (dE.ext yB.stays cO) bA b.1);have gF:=LQ Zn bU;have az:=Zy bU;clear bU;obtain⟨rt,nt,fV,bY⟩:=A9 dF gF;obtain⟨⟨iM,iQ,rfl⟩,iy,-⟩:=id bY;have⟨fD,dB,fe⟩:=jr bY dO ((eZ.trans cO.any).trans bA);have iD:=iV gK;have gX:=iV fV;have iH:(gQ:Int)<11:=Zm
 clear bA dO gu bY dn;obtain⟨w4,bD⟩:∃K,K=w3.alloc (.cells #[.int .i64 1,.int .i64 1,.int .i64 1,.int .i64 8] 3):=⟨_,rfl⟩;have bQ:Ext w3 w4:=by rw[bD];exact jh _
 have eQ:Zz (h9 w4 w3 3 #[.int .i64 1,.int .i64 1,.int .i64 1,.int .i64 8]):=Zy (by rw[bD];exact h9.new _ _ _);have⟨dw,fI,bI⟩:=jr (kH w4 r (p+1) v zs 4 (dB.ext bQ) Zm Zm) bD bQ;have fP:=Zy dB.o.below.1;clear bD bQ;go_wp2_with fail;rw[<-fI.o];refine dw.mono ?_;rintro o w5 ⟨⟨k5,rfl,gy⟩,dP,aV⟩;have ik:k5<4:=Zm
 obtain⟨gN,gL,bV⟩:=GX cells (k:=k5) (eQ.kp aV (SK fP.o)) Zr Zn;have⟨dG,fE⟩:=jc (Dk (dF.ext yB.stays bI) aV b.1) ((fD.kp bI.any b.1).kp aV b.1);have gG:=LQ Zn bV;have aA:=Zy bV;clear bV;obtain⟨rc,nc,fZ,bZ⟩:=A9 dG gG;obtain⟨⟨iK,iO,rfl⟩,iq,-⟩:=id bZ;have⟨fC,dC,fo⟩:=jr bZ dP ((fe.trans bI.any).trans aV);have iE:=iV gL;have gY:=iV fZ;have iI:(gN:Int)<11:=Zm
 clear aV dP gy bZ dw;obtain⟨w6,bE⟩:∃K,K=w5.alloc (.cells #[.int .i64 2,.int .i64 3,.int .i64 4,.int .i64 5,.int .i64 6,.int .i64 3,.int .i64 9,.int .i64 10] 3):=⟨_,rfl⟩;have bR:Ext w5 w6:=by rw[bE];exact jh _
 have eT:Zz (h9 w6 w5 3 #[.int .i64 2,.int .i64 3,.int .i64 4,.int .i64 5,.int .i64 6,.int .i64 3,.int .i64 9,.int .i64 10]):=Zy (by rw[bE];exact h9.new _ _ _);have⟨dx,fJ,bq⟩:=jr (kH w6 r (p+1+1) v zs 8 (dC.ext bR) Zm Zm) bE bR;have fQ:=Zy dC.o.below.1;clear bE bR;go_wp2_with fail;rw[<-fJ.o];refine dx.mono ?_;rintro o w7 ⟨⟨k7,rfl,gB⟩,dQ,aJ⟩;have il:k7<8:=Zm
 obtain⟨gP,gM,bW⟩:=GX Pd (k:=k7) (eT.kp aJ (SK fQ.o)) Zr Zn;have⟨dH,aH,aF⟩:=jr (Dk (dG.ext yB.stays bq) aJ b.1) ((fE.kp bq.any b.1).kp aJ b.1) ((fC.kp bq.any b.1).kp aJ b.1);have gH:=LQ Zn bW;have aB:=Zy bW;clear bW;obtain⟨rm,nm,gm,cu⟩:=A9 dH gH;obtain⟨⟨iL,iP,rfl⟩,iw,-⟩:=id cu;have⟨aG,dD,ae⟩:=jr cu dQ ((fo.trans bq.any).trans aJ);have iF:=iV gM;have gZ:=iV gm;have iJ:(gP:Int)<11:=Zm
 clear aJ dQ gB cu dx;have a:=Zy dD.o.below;have aI:=Zy ae.o.size;have er:Kp (·=r) w7 w7:=Kp.rr;obtain⟨w8,dV,e8,o8,f8⟩:=pU.one er M.j6;have⟨dz,dJ,fw,eY⟩:=kQ (kH w8 r (p+1+1+1) v zs 6 (dD.ext f8) Zm Zm) dV o8 e8;clear dV e8 o8 f8 er;go_wp2_with fail;rw[<-dJ.o];refine dz.mono ?_;rintro o w9 ⟨⟨k,rfl,hk⟩,dR,bS⟩;have gz:k=0\/k=1\/k=2\/k=3\/k=4\/k=5:=Zm
 have⟨dh,aD,ay⟩:=jr (fw.kp bS (fun aS o=>SK a.1)) dR (eY.o.trans bS);obtain⟨bK,hg⟩:∃bK,bK=w7.heap.size:=⟨_,rfl⟩;have aC:Zz (pU [M.j6] w9 w7 (.slice (some ⟨bK,0,none⟩) 1 1) 1):=Zy (by rw[hg];exact dh);rw[<-hg];clear dR bS hk dz hg dh dJ;rcases gz with rfl|rfl|rfl|rfl|rfl|rfl
 . have x:=aD;have n:=ay;go_wp2_with (first
    |(refine jl _ rfl (.tmp 39) (.tmp 40) rfl aC rfl (aH.kp n b.1).any rfl Zm n fun gT bn aZ c aX=>?_;have s:=Zy aZ;have m:=Zy c;have u:=Zy (lC x a aX);clear aZ c aX)
    |(refine jl _ rfl (.tmp 41) (.tmp 42) rfl s rfl (aF.kp m b.1).any rfl Zm m fun bg Z f d e=>?_;have t:=Zy f;have g:=Zy d;have q:=Zy (lC u a e);clear f d e)
    |(refine jl _ rfl (.tmp 43) (.tmp 44) rfl t rfl (aG.kp g b.1).any rfl Zm g fun bF D l i j=>?_;have I:=Zy l;have H:=Zy i;have F:=Zy (lC q a j);clear l i j)
    |fail)
   go_ret;exact⟨sU I aI Zm Zm (jW (jW (jW Zn (l6)) (l6)) (l6)) (wK az aA aB).1,⟨_,Zm,F.o⟩,ae.o.trans H.o⟩
 . have x:=aD;have n:=ay;go_wp2_with (first
    |(refine jl _ rfl (.tmp 39) (.tmp 40) rfl aC rfl (aH.kp n b.1).any rfl Zm n fun gT bn aZ c aX=>?_;have s:=Zy aZ;have m:=Zy c;have u:=Zy (lC x a aX);clear aZ c aX)
    |(refine jl _ rfl (.tmp 41) (.tmp 42) rfl s rfl (aF.kp m b.1).any rfl Zm m fun bg Z f d e=>?_;have t:=Zy f;have g:=Zy d;have q:=Zy (lC u a e);clear f d e)
    |(refine jl _ rfl (.tmp 43) (.tmp 44) rfl t rfl (aG.kp g b.1).any rfl Zm g fun bF D l i j=>?_;have I:=Zy l;have H:=Zy i;have F:=Zy (lC q a j);clear l i j)
    |fail)
   go_ret;exact⟨sU I aI Zm Zm (jW (jW (jW Zn (l6)) (l6)) (l6)) (wK az aA aB).1,⟨_,Zm,F.o⟩,ae.o.trans H.o⟩
 . have x:=aD;have n:=ay;go_wp2_with (first
    |(obtain⟨bn,B,c,y,h⟩:=AnyX.two n ze oP;rw[<-B];have s:=Zy (aC.ext h);have m:=Zy c;have u:=Zy (x.ext h);have aa:=Zy y;clear B c y h;refine jl _ rfl (.tmp 48) (.tmp 49) rfl s rfl (AnyX.lit (n:=2) [ze,oP] aa rfl) rfl Zm m fun bg Z f d e=>?_;have t:=Zy f;have g:=Zy d;have q:=Zy (lC u a e);clear f d e)
    |(refine jl _ rfl (.tmp 50) (.tmp 51) rfl t rfl (aG.kp g b.1).any rfl Zm g fun bF D l i j=>?_;have I:=Zy l;have H:=Zy i;have F:=Zy (lC q a j);clear l i j)
    |(obtain⟨aK,G,J,aT,au⟩:=AnyX.fresh H M.j6;rw[<-G];have aM:=Zy (I.ext au);have aL:=Zy J;have aP:=Zy (F.ext au);have bG:=Zy aT;clear G J aT au;refine jl _ rfl (.tmp 53) (.tmp 54) rfl aM rfl (AnyX.lit (n:=1) [M.j6] bG rfl) rfl Zm aL fun ek cz V P C=>?_;have af:=Zy V;have E:=Zy P;have ai:=Zy (lC aP a C);clear V P C)
    |(refine jl _ rfl (.tmp 55) (.tmp 56) rfl af rfl (aH.kp E b.1).any rfl Zm E fun eu cB W z S=>?_;have ag:=Zy W;have L:=Zy z;have aj:=Zy (lC ai a S);clear W z S)
    |(refine jl _ rfl (.tmp 57) (.tmp 58) rfl ag rfl (aF.kp L b.1).any rfl Zm L fun gU cK bf A aY=>?_;have ah:=Zy bf;have N:=Zy A;have ak:=Zy (lC aj a aY);clear bf A aY)
    |fail)
   go_ret;exact⟨sU ah aI Zm Zm (jW (jW (jW (jW (jW Zn Zn) (l6)) Zn) (l6)) (l6)) (wK az aA aB).2.1,⟨_,Zm,ak.o⟩,ae.o.trans N.o⟩
 . have x:=aD;have n:=ay;go_wp2_with (first
    |(obtain⟨bn,B,c,y,h⟩:=AnyX.fresh n oP;rw[<-B];have s:=Zy (aC.ext h);have m:=Zy c;have u:=Zy (x.ext h);have aa:=Zy y;clear B c y h;refine jl _ rfl (.tmp 62) (.tmp 63) rfl s rfl (AnyX.lit (n:=1) [oP] aa rfl) rfl Zm m fun bg Z f d e=>?_;have t:=Zy f;have g:=Zy d;have q:=Zy (lC u a e);clear f d e)
    |fail)
   obtain⟨D,bB⟩:∃K,K=Z.alloc (.cells #[SS,.int .i64 7] 3):=⟨_,rfl⟩;have bN:Ext Z D:=by rw[bB];exact jh _
   have eH:Zz (h9 D Z 3 #[SS,.int .i64 7]):=Zy (by rw[bB];exact h9.new _ _ _);have⟨di,fF,cZ⟩:=jr (kH D r (p+1+1+1+1) v zs 2 (q.ext bN) Zm Zm) bB bN;have fK:=Zy q.o.below.1;clear bB bN;rw[<-fF.o];refine di.mono ?_;rintro o aK ⟨⟨dW,rfl,gp⟩,dM,bu⟩;have ib:dW<2:=Zm
   obtain⟨ux,gI,bT⟩:=GX NF (k:=dW) (eH.kp bu (SK fK.o)) Zr Zn;have J:=(g.trans cZ.any).trans bu;have gD:=LQ Zn bT;have fq:=Zy bT;clear bT;obtain⟨rx,nx,fU,bX⟩:=A9 (Dk dH J b.1) gD;obtain⟨⟨iN,iR,rfl⟩,iA,-⟩:=id bX;have fB:=Zy bX.any;have⟨aM,aP,aL⟩:=jr ((t.ext cZ).kp bu (fun aS o=>SK a.1)) dM J;have iB:=iV gI;have gW:=iV fU;have iG:(ux:Int)<11:=Zm
   clear bu dM gp bX di J;go_wp2_with (first
    |(refine jl _ rfl (.tmp 64) (.tmp 72) rfl aM rfl fB rfl Zm aL fun ek cz V P C=>?_;have af:=Zy V;have E:=Zy P;have ai:=Zy (lC aP a C);clear V P C)
    |(refine jl _ rfl (.tmp 73) (.tmp 74) rfl af rfl (aG.kp E b.1).any rfl Zm E fun eu cB W z S=>?_;have ag:=Zy W;have L:=Zy z;have aj:=Zy (lC ai a S);clear W z S)
    |(obtain⟨cK,aW,A,aU,av⟩:=AnyX.fresh L M.j6;rw[<-aW];have ah:=Zy (ag.ext av);have N:=Zy A;have ak:=Zy (aj.ext av);have bH:=Zy aU;clear aW A aU av;refine jl _ rfl (.tmp 76) (.tmp 77) rfl ah rfl (AnyX.lit (n:=1) [M.j6] bH rfl) rfl Zm N fun eB eF X Q T=>?_;have aN:=Zy X;have O:=Zy Q;have aQ:=Zy (lC ak a T);clear X Q T)
    |(refine jl _ rfl (.tmp 78) (.tmp 79) rfl aN rfl (aH.kp O b.1).any rfl Zm O fun eD eG Y R U=>?_;have aO:=Zy Y;have ax:=Zy R;have aR:=Zy (lC aQ a U);clear Y R U)
    |(refine jl _ rfl (.tmp 80) (.tmp 81) rfl aO rfl (aF.kp ax b.1).any rfl Zm ax fun iT iU dY dL dX=>?_;have fu:=Zy dY;have eX:=Zy dL;have fA:=Zy (lC aR a dX);clear dY dL dX)
    |fail)
   go_ret;exact⟨sU fu aI Zm Zm (jW (jW (jW (jW (jW (jW Zn Zn) (l6)) (l6)) Zn) (l6)) (l6)) ((wK az aA aB).2.2.1 _ fq),⟨_,Zm,fA.o⟩,ae.o.trans eX.o⟩
 . have x:=aD;have n:=ay;go_wp2_with (first
    |(obtain⟨bn,B,c,y,h⟩:=AnyX.two n oP zg;rw[<-B];have s:=Zy (aC.ext h);have m:=Zy c;have u:=Zy (x.ext h);have aa:=Zy y;clear B c y h;refine jl _ rfl (.tmp 85) (.tmp 86) rfl s rfl (AnyX.lit (n:=2) [oP,zg] aa rfl) rfl Zm m fun bg Z f d e=>?_;have t:=Zy f;have g:=Zy d;have q:=Zy (lC u a e);clear f d e)
    |(refine jl _ rfl (.tmp 87) (.tmp 88) rfl t rfl (aG.kp g b.1).any rfl Zm g fun bF D l i j=>?_;have I:=Zy l;have H:=Zy i;have F:=Zy (lC q a j);clear l i j)
    |(obtain⟨aK,G,J,aT,au⟩:=AnyX.two H M.j6 zg;rw[<-G];have aM:=Zy (I.ext au);have aL:=Zy J;have aP:=Zy (F.ext au);have bG:=Zy aT;clear G J aT au;refine jl _ rfl (.tmp 90) (.tmp 91) rfl aM rfl (AnyX.lit (n:=2) [M.j6,zg] bG rfl) rfl Zm aL fun ek cz V P C=>?_;have af:=Zy V;have E:=Zy P;have ai:=Zy (lC aP a C);clear V P C)
    |(refine jl _ rfl (.tmp 92) (.tmp 93) rfl af rfl (aF.kp E b.1).any rfl Zm E fun eu cB W z S=>?_;have ag:=Zy W;have L:=Zy z;have aj:=Zy (lC ai a S);clear W z S)
    |(obtain⟨cK,aW,A,aU,av⟩:=AnyX.fresh L M.j6;rw[<-aW];have ah:=Zy (ag.ext av);have N:=Zy A;have ak:=Zy (aj.ext av);have bH:=Zy aU;clear aW A aU av;refine jl _ rfl (.tmp 95) (.tmp 96) rfl ah rfl (AnyX.lit (n:=1) [M.j6] bH rfl) rfl Zm N fun eB eF X Q T=>?_;have aN:=Zy X;have O:=Zy Q;have aQ:=Zy (lC ak a T);clear X Q T)
    |(refine jl _ rfl (.tmp 97) (.tmp 98) rfl aN rfl (aH.kp O b.1).any rfl Zm O fun eD eG Y R U=>?_;have aO:=Zy Y;have ax:=Zy R;have aR:=Zy (lC aQ a U);clear Y R U)
    |fail)
   go_ret;exact⟨sU aO aI Zm Zm (jW (jW (jW (jW (jW (jW Zn Zn) (l6)) Zn) (l6)) Zn) (l6)) (wK az aA aB).2.2.2.1,⟨_,Zm,aR.o⟩,ae.o.trans ax.o⟩
 . have x:=aD;have n:=ay;go_wp2_with (first
    |(obtain⟨bn,B,c,y,h⟩:=AnyX.two n ze oP;rw[<-B];have s:=Zy (aC.ext h);have m:=Zy c;have u:=Zy (x.ext h);have aa:=Zy y;clear B c y h;refine jl _ rfl (.tmp 100) (.tmp 101) rfl s rfl (AnyX.lit (n:=2) [ze,oP] aa rfl) rfl Zm m fun bg Z f d e=>?_;have t:=Zy f;have g:=Zy d;have q:=Zy (lC u a e);clear f d e)
    |(refine jl _ rfl (.tmp 102) (.tmp 103) rfl t rfl (aG.kp g b.1).any rfl Zm g fun bF D l i j=>?_;have I:=Zy l;have H:=Zy i;have F:=Zy (lC q a j);clear l i j)
    |fail)
   obtain⟨aK,G⟩:∃K,K=D.alloc (.cells #[.string ⟨#[97,115,107,115,32,116,111,112,32,48]⟩,.string ⟨#[97,115,107,115,32,99,101,108,108,32,49]⟩,.string ⟨#[97,115,107,115,32,110,111,110,101,32,48]⟩] 9):=⟨_,rfl⟩;have bO:Ext D aK:=by rw[G];exact jh _
   have eO:Zz (h9 aK D 9 #[.string ⟨#[97,115,107,115,32,116,111,112,32,48]⟩,.string ⟨#[97,115,107,115,32,99,101,108,108,32,49]⟩,.string ⟨#[97,115,107,115,32,110,111,110,101,32,48]⟩]):=Zy (by rw[G];exact h9.new _ _ _);have⟨dm,fG,df⟩:=jr (kH aK r (p+1+1+1+1) v zs 3 (F.ext bO) Zm Zm) G bO;have fM:=Zy F.o.below.1;clear G bO;rw[<-fG.o];refine dm.mono ?_;rintro o cz ⟨⟨C,rfl,gq⟩,dN,bz⟩;have ic:C<3:=Zm
   obtain⟨sx,gJ,dS⟩:=Qz M.ways (k:=C) (eO.kp bz (SK fM.o)) Zr Zn;have dI:=Zy dS;clear dS;have⟨af,ai,E⟩:=jr ((I.ext df).kp bz (fun aS o=>SK a.1)) dN ((H.o.trans df.o.any).trans bz);have iC:=iV gJ;clear bz dN gq dm;go_wp2_with (first
    |(obtain⟨cB,dU,z,dK,bJ⟩:=AnyX.two E M.j6 sx;rw[<-dU];have ag:=Zy (af.ext bJ);have L:=Zy z;have aj:=Zy (ai.ext bJ);have eU:=Zy dK;clear dU z dK bJ;refine jl _ rfl (.tmp 105) (.tmp 111) rfl ag rfl (AnyX.lit (n:=2) [M.j6,sx] eU rfl) rfl Zm L fun gU cK bf A aY=>?_;have ah:=Zy bf;have N:=Zy A;have ak:=Zy (lC aj a aY);clear bf A aY)
    |(refine jl _ rfl (.tmp 112) (.tmp 113) rfl ah rfl (aH.kp N b.1).any rfl Zm N fun eB eF X Q T=>?_;have aN:=Zy X;have O:=Zy Q;have aQ:=Zy (lC ak a T);clear X Q T)
    |(refine jl _ rfl (.tmp 114) (.tmp 115) rfl aN rfl (aF.kp O b.1).any rfl Zm O fun eD eG Y R U=>?_;have aO:=Zy Y;have ax:=Zy R;have aR:=Zy (lC aQ a U);clear Y R U)
    |fail)
   go_ret;exact⟨sU aO aI Zm Zm (jW (jW (jW (jW (jW Zn Zn) (l6)) (by simpa using⟨by decide,Ll dI.o⟩)) (l6)) (l6)) ((wK az.o aA.o aB.o).2.2.2.2 _ dI.o),⟨_,Zm,aR.o⟩,ae.o.trans ax.o⟩
def QP(w w':World)(e:Ending):Prop:=∃(pl:hZ) (v:Value),e=.returned (.agg #[v])/\SliceOf 2 iX w' (fun b=>w.heap.size<=b/\b<w'.heap.size) v pl/\jY pl=true
theorem BQ{w W:World}{b q:Nat}{v c:Value}{m:List Int}{pl:hZ}(p:jY pl=true)(o:Kp (·=b) w W)(r:SliceOf 2 iX W (fun a=>w+1<=a) c pl)(hR:qh W b v m q)(hl:b<w/\(m.length≠0->∀d l g,v=.slice (some d) l g->d.block<w))(f:World) (j:Ext (W.setCell w c) f):QP w f (.returned (.agg #[c]))/\qh f b v m q/\Kp (·=b) w f:=by
 have k:Kp (·=w) W (W.setCell w c):=qA;have s:=((r.keep (J:=fun a=>w+1<=a) iX.stays (k.same fun a e h=>Zm) (fun a e=>e)).ext iX.stays j).inside (fun _ _ _ _ i=>iX.inside i) Zm;exact⟨⟨pl,c,rfl,s.keep iX.stays (fun _ _ _ _ i=>i) (fun a e=>⟨Zm,e.2⟩),p⟩,(hR.turn k Zm (fun n d l g h=>SK (hl.2 n d l g h))).ext j,(o.own k fun a h=>Zm).trans j.any⟩
theorem Eu{xs:List ByteArray}{pl:hZ}{n:Int}(a:(n=0/\M.parse xs=some pl)\/(0<n/\M.parse xs=none))(b:n=0\/reads xs=true):jY pl=true:=by
 rcases a with⟨-,a⟩|⟨c,a⟩
 . unfold M.parse at a;split at a
   . cases a
   . split at a
     . cases a
     . split at a
       . cases a;assumption
       . cases a
 . rcases b with b|b
   . omega
   . unfold reads at b;rw[a]at b;cases b
theorem KS(w:World)(i p:Nat)(v:Value)(A:List Int)(n:Int)(b:qh w i v A p)(hp:p<=600000)(hn:n<=1000000)(bq: -1000000<=n):Calls prog 14 #[some i,n] w fun f X=>QP w X f/\(∃aL,aL<=p+60/\qh X i v A aL)/\Kp (·=i) w X:=by
 have j:=Zy b.below;obtain⟨k,U,O,b1⟩:=nu w #[()] 25;have N:Zz ((k:Nat)=w+1):=Zy (by rw[U];simp);have⟨ae,aM,aX⟩:=jr (Ju k i p v A (b.ext O) Zm) b1 U;have aO:Zz (Kp (·=i) w k):=Zy O.any;clear b U O b1;go_enter func14,ntmps14;go_wp2_with fail;rw[<-aX.o];refine ae.mono ?_;rintro f w2 ⟨⟨vl,E,rfl,R,bf,bg,aF,aB⟩,⟨q2,bu,ax⟩,Q⟩;obtain⟨V,W,rfl,-,-⟩:=R.form;have⟨aU,M,aj⟩:=jr R aF aB;clear aB;have⟨aN,aP⟩:=jc (aM.kp Q (SK j.1)) (aO.o.trans Q);have K:Zz (i<k):=Zy (SL j.1 N.o);have af:=Zy (Py w2 i q2 v A n ax Zm Zm Zm);obtain⟨u,S⟩:∃u,E.length=u:=⟨_,rfl⟩;have J:=Zy S;rw[S]at bf bg |-;clear R ax Q aF ae S;go_wp2_with fail;refine af.mono ?_;rintro f w3 ⟨⟨od,rfl⟩,ay,B⟩;have L:=Zy (by
  have:=aU.keep (J:=fun a=>k<=a) kF.stays (B.same fun a r f=>SK K.o) (fun _ b=>b);rwa[J.o]at this)
 have⟨F,H,ah⟩:=jr (aN.kp B (SK j.1)) (aP.o.trans B) ay;clear ay B af;cases od
 . have m:=Zy (yS w3 _ (.slice V u W) E L (fun z t=>SK (M.o z t)));go_wp2_with fail;refine m.mono ?_;rintro f Y ⟨⟨pl,vp,nn,rfl,h,T⟩,g⟩;obtain⟨x,y,rfl,-,-⟩:=h.form;obtain⟨d,s⟩:∃d,pl.length=d:=⟨_,rfl⟩;rw[s]at h |-;clear s;have e:=F.ext g;obtain⟨cz,c0,-⟩:=e.ca;have cf:=e.frozen 0;have⟨c,G⟩:=jc (BQ (w:=w) (W:=Y) (pl:=pl) (Eu T.2 (.inr aj)) (H.trans g.any) (h.keep (J:=fun a=>w+1<=a) iX.stays (fun _ _ _ _ b=>b) (fun a r=>SN H.size N.o F.lt)) (ah.o.ext g) j.o _ (jh (.cells #[.slice x d y] 25))) e;clear h g e m;go_wp2_with fail;refine Px (jA rA rfl w rfl [.slice x d y] (hH.mO ((G.jE 0 _).ext (jh _))) rfl) rfl ?_;exact⟨c.1,⟨_,Zm,c.o.2.1⟩,c.o.2.2⟩
 . have ak:=Zy (Lb w3 i (q2+1) v A ah (.slice V u W) E L (fun a r=>SK K.o) ⟨SK J.o,SK J.o⟩ M.o Zm);go_wp2_with fail;refine ak.mono ?_;rintro f w4 ⟨⟨v4,bn,I4,rfl,aC,aG⟩,⟨q4,bz,az⟩,C⟩;have⟨aV,Z,aa,aT,ag⟩:=qR (L.keep (J:=fun a=>k<=a) kF.stays (C.same fun a r f=>SK K.o) (fun _ b=>b)) (F.o.kp C (SK j.o.1)) (H.o.trans C) az (yS w4 I4 v4 bn aC (fun z t=>SK (aG z t)));clear az C aC aG ak;go_wp2_with fail;refine ag.mono ?_;rintro f w5 ⟨⟨aJ,bA,n5,rfl,D,aZ⟩,av⟩;obtain⟨aH,aI,rfl,-,-⟩:=D.form;obtain⟨aK,aA⟩:∃d,aJ.length=d:=⟨_,rfl⟩;rw[aA]at D |-;clear aA;obtain⟨w6,aD,P,b6⟩:=nu w5 #[.slice aH aK aI] 25;have q:=av.trans P;have⟨aW,l,I,ai,au,aS,aQ⟩:=uA (aV.ext kF.stays q) (Z.ext q) (aa.trans q.any) (aT.ext q) aD ((D.keep (J:=fun a=>w+1<=a) iX.stays (fun _ _ _ _ b=>b) (fun a r=>SL aa.size Z.lt)).ext iX.stays P) b6;have aR:=Zy aZ.2;clear D av P q aD b6 ag;by_cases o:n5=0
   . have aY:=Ub.2 o;go_upto_region 4 with(fail);rw[<-au.o];obtain⟨cz,c0,-⟩:=l.ca;have cf:=l.frozen 0;obtain⟨yz,y0,-⟩:=aQ.ca;have c:=Zy (BQ (w:=w) (W:=w6) (pl:=aJ) (Eu aR (.inl o)) I aS ai j _ Kp.rr);clear o;go_wp2_with fail;refine Px (jA rA rfl w rfl [.slice aH aK aI] (hH.mO (l.jE 0 _)) rfl) rfl ?_;exact⟨c.1,⟨_,Zm,c.o.2.1⟩,c.o.2.2⟩
   . have aY:=SI.2 o;go_upto_region 4 with(fail);rw[<-au.o];clear o;have m:=Zy (yS w6 _ (.slice V u W) E aW (fun z t=>SK (M.o z t)));go_wp2_with fail;refine m.mono ?_;rintro f Y ⟨⟨pl,vp,nn,rfl,h,T⟩,g⟩;obtain⟨x,y,rfl,-,-⟩:=h.form;obtain⟨d,s⟩:∃d,pl.length=d:=⟨_,rfl⟩;rw[s]at h |-;clear s;have e:=l.ext g;obtain⟨cz,c0,-⟩:=e.ca;have cf:=e.frozen 0;have⟨c,G⟩:=jc (BQ (w:=w) (W:=Y) (pl:=pl) (Eu T.2 (.inr aj)) (I.trans g.any) (h.keep (J:=fun a=>w+1<=a) iX.stays (fun _ _ _ _ b=>b) (fun a r=>SN I.size N.o l.lt)) (ai.o.ext g) j.o _ (jh (.cells #[.slice x d y] 25))) e;clear h g e m;go_wp2_with fail;refine Px (jA rA rfl w rfl [.slice x d y] (hH.mO ((G.jE 0 _).ext (jh _))) rfl) rfl ?_;exact⟨c.1,⟨_,Zm,c.o.2.1⟩,c.o.2.2⟩
theorem Hx{t k:Nat}(c:Bj t k){fn:Func}{p q r s:Tmp}(e:fn.results=#[.cell p t,.tmp q,.tmp r,.tmp s]){a:Array Value}{w:World}(b:Nat)(f:a.getD p undef=.pointer (some ⟨b,0,none⟩))(cs:List Value)(d:hH w b 0 cs)(hl:cs.length=k):(results fn a).run prog w=.ok (.tuple #[.agg cs.toArray,a.getD q undef,a.getD r undef,a.getD s undef]) w:=by
 have g:a[p]?.getD undef=.pointer (some ⟨b,0,none⟩):=by simpa using f
 simp[results,e,g,asAddr,rG c d hl]
def Ra(w w':World)(e:Ending):Prop:=∃(pl:hZ) (pa:Option Addr) (pc:Nat) (n m:ByteArray) (a:Option Addr) (c:Nat) (args:List Int),e=.returned (.tuple #[.agg #[.slice pa pl.length pc],.string n,.string m,.slice a args.length c])/\
 SliceOf 2 iX w' (fun b=>w.heap.size<=b/\b<w'.heap.size) (.slice pa pl.length pc) pl/\SliceOf 1 pR w' (fun b=>w.heap.size<=b) (.slice a args.length c) args/\jY pl=true
theorem KR(w:World)(v:Value)(W:List Int)(c:BytesAt w v W):Calls prog 5 #[v] w fun b T=>Ra w T b/\Ext w T:=by
 obtain⟨va,vc,rfl⟩:=c.form;obtain⟨U,C,u,J⟩:=nu w #[()] 25;have o:Zz ((U:Nat)=w+1):=Zy (by rw[C];simp);have⟨G,Z,ax,af⟩:=kQ (Qw U W (c.ext u)) J C u;clear c C u J;go_enter func5,ntmps5;go_wp2_with fail;rw[<-ax.o];refine G.mono ?_;rintro b e ⟨⟨k,S,X,rfl,R,z⟩,x⟩;have n:=Zy R;have av:Zz (k<e):=Zy z.below.1;have⟨E,ag,H⟩:=jr (Z.ext x) (af.trans x) (KS e k 0 S X 2 z Zm Zm Zm);clear R z x G;go_wp2_with fail;refine H.mono ?_;rintro b l ⟨⟨d,vp,rfl,B,Q⟩,⟨aD,hq,A⟩,q⟩;obtain⟨g,h,rfl,-,-⟩:=B.form;have ai:=Zy Q;clear Q;have N:Ext w l:=ag.own q fun a b=>SL n.o o.o
 obtain⟨V,D,i,K⟩:=nu l #[.slice g d.length h] 25;have⟨F,aa,ay,r,aj,au⟩:=rX K ((E.kp q (SL n.o o.o)).ext i) D (N.trans i) ((B.keep (J:=fun a=>e<=a) iX.stays (fun _ _ _ _ c=>c) (fun a f=>f.1)).ext iX.stays i) (A.ext i);have s:Zz ((l:Nat)<V/\k<l/\(e:Nat)<=l/\k<e):=Zy ⟨by rw[D];simp,A.below.1,q.size,av⟩;clear B A q N i D K H;go_wp2_with fail;rw[<-ay.o];refine(Nt V k aD S X au Zm).mono ?_;rintro b m ⟨⟨aC,aB,I,M,t,rfl,P,-,-,-⟩,-,j⟩;have O:Ext w m:=r.own j fun a b=>SL n.o o.o
 have L:=F.kp j (SK s.o);have p:=aa.kp j (SL n.o o.o);have ak:Zz (SliceOf 2 iX m (fun a=>e<=a) (.slice g d.length h) d):=Zy (aj.keep iX.stays (j.same fun a f b=>SK s.o) (fun _ c=>c));have⟨Y,ah,ae⟩:=jr P O p;obtain⟨yz,y0,-⟩:=L.ca;obtain⟨cz,c0,-⟩:=p.ca;have cf:=p.frozen 0;clear P j O L p;go_wp2_with fail;refine Px (Hx rA rfl w rfl [.slice g d.length h] (hH.mO (ae.jE 0 _)) rfl) rfl ?_;have y:Kp (·=w) m (m.setCell w (.slice g d.length h)):=qA;have hz:(w:Nat)<e:=E.lt;have aA:=(ak.keep (J:=fun a=>w<=a) iX.stays (y.same fun a f b=>Zm) (fun a f=>Zm)).inside (fun _ _ _ _ c=>iX.inside c) Zm;have az:SliceOf 1 pR (m.setCell w (.slice g d.length h)) (fun a=>w<=a) (.slice I t.length M) t:=Y.keep pR.stays (y.same fun a f b=>SN r.size F.lt s.o) (fun a f=>SK r.o.size);exact⟨⟨d,g,h,aC,aB,I,M,t,rfl,aA,az,ai⟩,ah.own y fun a b=>Zm⟩
def Gt(xs:List ByteArray)(w w':World)(e:Ending):Prop:=∃v,e=.returned v/\SliceOf 1 kF w' (fun b=>w.heap.size<=b) v xs
theorem xh{w W:World}{base:Nat}{v:Value}{n:Nat}{xs:List ByteArray}(a:pU xs W base v n)(f:w<=base)(e:n<=100000):Gt xs w W (.returned v):=by
 obtain⟨c,rfl⟩:=a;have d:SliceOf 1 kF W (fun b=>base<=b) v xs:=SliceOf.l5 mE c rfl rfl (fun _ _=>rfl) (fun _ _=>rfl) (fun _ a _=>a) Zm;exact⟨v,rfl,d.keep kF.stays (fun _ _ _ _ a=>a) (fun b a=>Zm)⟩
namespace M
theorem q9{s:ByteArray}(a:jf s=true):s.size<=6:=by
 unfold jf at a;simp only[S9,SF]at a;exact a.1.2
theorem DT{k:Kind}(a:kY k=true):k.name.size<=6:=by
 unfold kY at a;simp only[V4,S9,SF]at a;rcases a with⟨-,a⟩|⟨-,a⟩
 . rw[a];exact T9 _
 . exact q9 a
theorem JQ{t:Tag}(a:oZ t=true):t.name.size<=6:=by
 unfold oZ at a;split at a
 . rw[TE a];exact T9 _
 . split at a
   . exact q9 a
   . cases a
theorem IX{i:Ins}(a:kE i=true):i.name.size<=6/\i.member.size<=6/\ -100000<=i.a/\i.a<=100000:=by
 have f:none_.size=0:=rfl;unfold kE at a;split at a
 . simp only[S9,SF]at a;obtain⟨⟨⟨d,e⟩,c⟩,b⟩:=a;unfold pX at c;unfold qG at b;rw[d,e];refine⟨Zm,Zm,by split at c<;>omega,?_⟩;split at b
   . omega
   . split at b<;>omega
 . split at a
   . simp only[S9,SF]at a;rw[a.1.2,a.1.1];exact⟨q9 a.2,Zm,Zm,Zm⟩
   . split at a
     . simp only[S9,SF]at a;rw[a.1.1];exact⟨q9 a.1.2,q9 a.2,Zm,Zm⟩
     . split at a
       . simp only[S9,SF]at a;rw[a.1.1,a.1.2,a.2];exact⟨Zm,Zm,Zm,Zm⟩
       . cases a
structure R5(f:SMap):Prop where
 Su:0<=f.at_
 Sv:f.at_<=16
 loc:f.locals.length<=6
 ky:f.stack.length<=5
 lt:∀t∈f.locals,t.name.size<=1000
 st:∀t∈f.stack,t.name.size<=1000
structure Sr(m:Method):Prop where
 name:m.name.size<=6
 args:m.args.length<=3
 arg:∀a∈m.args,a.name.size<=6
 ret:m.ret.name.size<=6
 l0:0<=m.locals
 l1:m.locals<=6
 s0:0<=m.stack
 s1:m.stack<=5
 code:m.code.length<=16
 ins:∀i∈m.code,kE i=true
 maps:m.maps.length<=5
 map:∀f∈m.maps,R5 f
theorem Ee{m:Method}(h0:0<=m.locals)(i:m.locals<=6)(j:m.stack<=5)(k:m.code.length<=16):∀(l:List SMap) (z:Int),0<=z->j3 m z l=true->∀b∈l,R5 b
 |[],_,_,_,b,a=>by cases a
 |g::l,z,hz,h,b,a=>by
  unfold j3 at h;simp only[S9,SF]at h;rcases TI.1 a with rfl|a
  . have:=h.1.2;unfold uF at this;simp only[S9,SF]at this;obtain⟨⟨⟨⟨n,o⟩,p⟩,e⟩,f⟩:=this;unfold qy at e f;exact⟨Zm,Zm,Zm,Zm,fun d c=>TD (JQ (Tx.1 e d c)) Zm,fun d c=>TD (JQ (Tx.1 f d c)) Zm⟩
  . exact Ee h0 i j k l _ Zm h.2 b a
theorem BJ{m:Method}(c:ng m=true):Sr m:=by
 unfold ng at c;simp only[S9,SF,Tx]at c;obtain⟨⟨⟨⟨⟨⟨⟨⟨⟨g,h⟩,i⟩,j⟩,o⟩,d⟩,p⟩,e⟩,a⟩,b⟩:=c;unfold codeOk at a;unfold qU at b;simp only[S9,SF,Tx]at a b;exact⟨q9 g,h,fun f k=>DT (j f k),DT i,Zm,d,Zm,e,a.1.2,fun n l=>by have:=a.2 n l;unfold nJ at this;simp only[S9]at this;exact this.1,b.1,Ee Zm d e a.1.2 _ 0 Zm b.2⟩
theorem pE{n:Int}(h0:0<=n)(a:n<=9223372036854775807):(qV n).size<=1000:=by
 have:=BM n Zm a;unfold yt at this;rwa[SX Zm]at this
theorem tV{l:List Tag}(a:∀c∈l,c.name.size<=1000)(hl:l.length<=6):(o9 l).size<=10000:=by
 have:=yX (z:=1000) qL l none_ fun d b=>xN (a d b) Zm;have f:=Nat.mul_le_mul_left 1001 hl;have e:none_.size=0:=rfl;unfold o9;omega
end M
theorem pU.val{xs:List ByteArray}{w:World}{base n:Nat}{v:Value}(b:pU xs w base v n):∃c d,v=.slice c n d:=by
 obtain⟨⟨-,b⟩,-⟩:=b;rcases b with⟨a,e⟩|⟨h,f,g,a,-⟩
 . exact⟨none,0,by rw[a,e]⟩
 . exact⟨_,_,a⟩
theorem Bc{α b:Type}{f:α->b}{l:List α}{k:Nat}{x:α}(a:l[k]?=some x):(l.take (k+1)).map f=(l.take k).map f++[f x]:=by
 rw[Tm,a,U0];rfl
set_option maxHeartbeats 8000000 in theorem En (w : World) (I : Nat -> Prop) {cs: List Value} (m : M.Method) (hI : ∀ H, I H -> H < w.heap.size) (bn : jb w I m cs) (bu : ng m = true) :Calls prog 90 #[.agg cs.toArray] w fun k w'=>Gt (qF m) w w' k/\Ext w w':=by
 obtain⟨va,vc,vm,rfl,h0,h1,N⟩:=bn;obtain⟨a1,u1,rfl,bI,bF⟩:=h0.form;obtain⟨a2,u2,rfl,bJ,bG⟩:=h1.form;obtain⟨a3,u3,rfl,bK,bH⟩:=N.form;have⟨d,HI⟩:=jc (M.BJ bu) hI;obtain⟨U,aL,O,Z⟩:=nu w #[m.name,.slice a1 m.args.length u1,m.ret.kind,m.ret.name,m.locals,m.stack,.slice a2 m.code.length u2,.slice a3 m.maps.length u3] 113;have⟨G,HA,HC,HM,aY,aB⟩:=rX Z (h0.ext oD.stays O) (h1.ext yw.stays O) (N.ext mW.stays O) aL O;obtain⟨bf,bg,bq,p⟩:=mJ U;obtain⟨-,r0,-,r2,r3,r4,r5,-⟩:=h9.qW fun z=>(Z.ext (p.jv z));have rz:=Z.lt;have aK:(ByteArray.mk #[32]).size=1:=rfl;have bA:(ByteArray.mk #[109,101,116,104,111,100,32]).size=7:=rfl;have sn:=d.name;have sl:=M.pE d.l0 (SK d.l1);have ss:=M.pE d.s0 (SK d.s1);have sr:=pI d.ret Zm;have HF:Zz (∀a,(tY (tQ m) (m.args.take a)).size<=100000):=Zy fun a=>by
  have:=yX (z:=6) og (m.args.take a) (tQ m) fun c g=>pI (d.arg c (U2 g)) Zm;have N:(m.args.take a).length<=3:=by have:=d.args;rw[Tf];omega
  have h3:=Nat.mul_le_mul_left 7 N;have h4:(tQ m).size<=10000:=by
   unfold tQ;simp only[Tj];have h:G5.size=7:=rfl;have r:M.Fe.size=1:=rfl;omega
  unfold tY;omega
 obtain⟨UR,av⟩:∃X,og m.ret=X:=⟨_,rfl⟩;rw[av]at sr;have⟨aD,j⟩:=jc av p;clear p O aL Z h0 h1 N av hI;go_enter func90,ntmps90;go_upto_region 1 with(fail);rw[<-aY.o];refine kT j 18 [([0,1,2,3,4,5,9,10,14,15],6),([7,8],11),([12,13],16)] [17] ?_ ?_
 . exact jg
 refine mP ?_;intro f b;go_wp2_with fail;refine(wH m.locals d.l0 (SK d.l1)).mono ?_;rintro k w1 ⟨rfl,P⟩;have h:Ext U w1:=(jg:Ext U U.drew).trans P;clear P;go_wp2_with fail;refine kk j b h ?_;clear b f;refine mP ?_;intro f b;go_wp2_with fail;refine(wH m.stack d.s0 (SK d.s1)).mono ?_;rintro k w2 ⟨rfl,Q⟩;have r:=h.trans Q;clear Q h;go_wp2_with fail;refine kk j b r ?_;clear b f;refine mP ?_;intro f b;go_wp2_with fail;refine(xB aD).mono ?_;rintro k w3 ⟨rfl,R⟩;have ag:=Zy (r.trans R);clear R r;go_wp2_with fail;refine kk j b ag ?_;clear b f;refine wG [_] rfl fun aZ hK=>?_;(repeat (go_big_quiet_step (fail)));refine qn hK ?_;clear hK aZ;obtain⟨ez,-,h,-⟩:=(G.ext ag).ca;clear r0 r2 r3 r4 r5 rz j;go_wp2_with fail;clear sl ss sr sn;have bB:=aK;clear h ez bA aK;go_loopw [3,4] (fun T n wr=>∃a:Nat,a<=m.args.length/\n=.int .i64 a/\T=.string (tY (tQ m) (m.args.take a))/\Ext U wr) (fun _ n _=>m.args.length - (intOf n).toNat)
 case atStart=>exact⟨0,T9 _,rfl,by rw[<-aD.o];rfl,ag⟩
 case round=>
  obtain⟨a,hk,rfl,rfl,e⟩:=hrel;have q:=Zy e;have hs:=HF.o a;obtain⟨Y,hX⟩:∃Y,tY (tQ m) (m.args.take a)=Y:=⟨_,rfl⟩;rw[hX]at hs |-;have W:=Zy hX;obtain⟨ez,-,h,-⟩:=(G.ext e).ca;have b3:=G.ext e;have af:=Zy b3;clear hX b3;by_cases t:a<m.args.length
  . have K:(a:Int)<m.args.length:=Zm
    obtain⟨c,g⟩:∃c,m.args[a]?=some c:=⟨m.args[a]'t,Dj t⟩;obtain⟨J,aA,cs,rfl,-,rfl,-,l⟩:=(HA.ext oD.stays e).get g;obtain⟨L,g1⟩:=l.two;have gz:=iV L;have v:=Zy g;have hu:=pI (d.arg c (Sy g)) Zm;obtain⟨X,hU⟩:∃X,og c=X:=⟨_,rfl⟩;rw[hU]at hu;have HU:=Zy hU;clear g l e hU;go_wp2_with fail;refine(xB HU).mono ?_;rintro k w5 ⟨rfl,B⟩;have ai:=Zy (q.trans B);clear B;go_wp2;go_round
    case rel=>exact⟨a+1,Zm,by go_num,by unfold tY;rw[FZ v.o];unfold tY at W;rw[<-W.o,<-HU.o],ai⟩
    case measure=>simp[intOf];omega
  . have K:¬(a:Int)<m.args.length:=Zm
    have v:Zz (Y=vN m):=Zy (by rw[<-W.o,Tu Zm];rfl);obtain⟨w6,C,A,o6,f6⟩:=pU.one (Kp.refl (fun _=>False) wr) Y;rw[v.o]at o6;have⟨V,au,aj⟩:=jr o6 C A;obtain⟨cz,-,-,-,-,-,-,-,c7,-⟩:=(af.ext A).ca;have aN:=q.size;have bD:=Zy aN;have y:=Zy q.o;have aI:(wr:Nat)<w6:=by rw[C];simp
    have aR:=Zy aI;clear e C A o6 f6 aN aI hs W bB;go_upto_region 7 with(fail);rw[<-au.o];clear h ez;go_wp2_with fail;clear c7 cz;obtain⟨aG,hg⟩:∃aG,wr.heap.size=aG:=⟨_,rfl⟩;rw[hg]at V aR |-;obtain⟨o,rfl⟩:∃o:World,o=wr:=⟨_,rfl⟩;go_loopw [5,6] (fun T n wr=>∃a:Nat,a<=m.maps.length/\n=.int .i64 a/\pU ([vN m]++(m.maps.take a).map vK) wr o T (1+a)/\Ext o wr) (fun _ n _=>m.maps.length - (intOf n).toNat)
    case atStart=>exact⟨0,T9 _,rfl,by simpa [hg]using V.o,aj.o⟩
    case round=>
     obtain⟨a,hk,rfl,x,e⟩:=hrel;have q:=Zy e;obtain⟨E,F,ax⟩:=x.val;subst ax;have u:=Zy x;have s:=(af.ext e);have HB:=Zy s;obtain⟨bz,-,-,-,-,-,-,-,c7,-⟩:=s.ca;clear x;by_cases t:a<m.maps.length
     . have K:(a:Int)<m.maps.length:=Zm
       obtain⟨c,g⟩:∃c,m.maps[a]?=some c:=⟨m.maps[a]'t,Dj t⟩;obtain⟨J,aA,cs,rfl,aa,⟨vl,vs,rfl,ay,az⟩,-,l⟩:=(HM.ext mW.stays (y.trans e)).get g;obtain⟨la,lc,rfl,-,-⟩:=ay.form;obtain⟨sa,sc,rfl,-,-⟩:=az.form;have⟨v,i⟩:=jc g (d.map c (Sy g));obtain⟨bf,bg,bq,p⟩:=uD.ex (fun W'=>Kp (fun H=>o.heap.size<=H/\(Value.slice E (1+a) F).ownBlock=some H) wr W') wr Kp.rr;have aH:¬((o:Nat)<=w/\(Value.slice E (1+a) F).ownBlock=some w.heap.size):=fun k=>SL y.size G.lt
       have ae:¬(o<=J/\(Value.slice E (1+a) F).ownBlock=some J):=fun k=>SN (HI.o _ aa) y.size G.lt
       have y7:=fun z=>(s.kp (p.jv z) aH).c 7 (.slice (some ⟨J,aA,none⟩) m.maps.length u3) rfl;have L:=fun z=>(l.kp (p.jv z) ae).three.1;have g1:=fun z=>(l.kp (p.jv z) ae).three.2.1;have g2:=fun z=>(l.kp (p.jv z) ae).three.2.2;have gz:=iV l.three.1;have⟨aW,aX,j⟩:=jr ay az p;have bC:=M.pE i.Su (SK i.Sv);have st2:=M.tV i.lt i.loc;have SA:=M.tV i.st (SK i.ky);have bN:(ByteArray.mk #[102,114,97,109,101,32]).size=6:=rfl;have bM:(ByteArray.mk #[32,47]).size=2:=rfl;clear g l e s p ay az aH ae aa;go_wp2_with fail;clear c7;refine kT j 28 [([0,1,2,3,4,5,6,9,10,11,12,13,14,18,19,20,21,22,23],7),([8],15),([16,17],24),([25],26),([],27)] [] ?_ ?_
       . exact jg
       refine mP ?_;intro f b;go_wp2_with fail;refine(wH c.at_ i.Su (SK i.Sv)).mono ?_;rintro k w1 ⟨rfl,P⟩;have h:Ext wr w1:=(jg:Ext wr wr.drew).trans P;clear P;go_wp2_with fail;refine kk j b h.any ?_;clear b f;refine mP ?_;intro f b;go_wp2_with fail;refine(LY w1 (aW.ext kU.stays h) (SK i.loc) i.o.lt).mono ?_;rintro k w2 ⟨rfl,Q⟩;have r:=h.trans Q;clear Q h;go_wp2_with fail;refine kk j b r.any ?_;clear b f;refine mP ?_;intro f b;go_wp2_with fail;refine(LY w2 (aX.ext kU.stays r) (SK i.ky) i.o.st).mono ?_;rintro k w3 ⟨rfl,R⟩;have e3:=r.trans R;clear R r;go_wp2_with fail;refine kk j b e3.any ?_;clear b f;refine mP ?_;intro f b;go_wp2_with fail;obtain⟨w4,aM,e4,c4,f4⟩:=AnyX.fresh e3 (⟨#[102,114,97,109,101,32]⟩++M.qV c.at_++o9 c.locals++⟨#[32,47]⟩++o9 c.stack);have aO:Zz (hH w4 w3 0 [.string (vK c)]):=Zy c4;have ah:=Zy e4;rw[<-aM];refine kk j b e4.any ?_;clear b f;refine lK rfl fun f b=>?_;clear bC st2 SA y7 L g1 g2 e3 c4 e4 f4 aM;refine jl _ rfl (.tmp 51) (.tmp 77) rfl (u.ext ah) rfl (AnyX.lit (n:=1) [vK c] aO rfl) rfl (SK d.maps) (q.o.trans ah.o) fun v5 w5 o5 e5 k5=>?_;have⟨aS,ai⟩:=jc o5 e5;clear o5;change f _ _;refine kk j b (ah.any.trans k5) ?_;clear b f;refine kG ?_;go_wp2;go_round
       case rel=>exact⟨a+1,Zm,by go_num,by rw[Bc v.o,<-Te];exact aS,ai⟩
       case measure=>simp[intOf];omega
     . have K:¬(a:Int)<m.maps.length:=Zm
       have S:a=m.maps.length:=Zm
       have aC:Zz (pU ([vN m]++m.maps.map vK) wr o (.slice E (1+a) F) (1+a)):=Zy (by have:=u.o;rwa[show m.maps.take a=m.maps by rw[S,TV]]at this);clear S u e;go_wp2_with fail;obtain⟨D,aJ⟩:∃D,1+a=D:=⟨_,rfl⟩;have bL:D<=6:=SK d.maps
       rw[aJ]at aC |-;obtain⟨wq,rfl⟩:∃wq:World,wq=wr:=⟨_,rfl⟩;clear aJ c7 bz s;go_loopw [5,7] (fun T n wr=>∃a:Nat,a<=m.code.length/\n=.int .i64 a/\pU ([vN m]++m.maps.map vK++(m.code.take a).map M.lY) wr o T (D+a)/\Ext o wr) (fun _ n _=>m.code.length - (intOf n).toNat)
       case atStart=>exact⟨0,T9 _,rfl,by simpa using aC.o,q.o⟩
       case round=>
        obtain⟨a,hk,rfl,x,e⟩:=hrel;have q:=Zy e;obtain⟨E,F,ax⟩:=x.val;subst ax;have u:=Zy x;have s:=(af.ext e);obtain⟨bz,-,-,-,-,-,-,c6,-⟩:=s.ca;clear x s;by_cases t:a<m.code.length
        . have K:(a:Int)<m.code.length:=Zm
          obtain⟨c,g⟩:∃c,m.code[a]?=some c:=⟨m.code[a]'t,Dj t⟩;obtain⟨J,aA,cs,rfl,aa,rfl,-,l⟩:=(HC.ext yw.stays (y.trans e)).get g;obtain⟨L,g1,g2,g3⟩:=l.four;have gz:=iV L;have⟨v,ak⟩:=jc g (M.IX (d.ins c (Sy g)));have aV:=Zy d.o.code;clear g l e aa;go_wp2_with fail;refine(qH (y:=M.lY c) rfl _ ak.2.2 (SK ak.1) (SK ak.o.2.1)).mono ?_;rintro k w5 ⟨rfl,B⟩;have e5:=q.trans B;obtain⟨w6,C,A,aF,f6⟩:=AnyX.fresh e5 (M.lY c);have⟨V,au⟩:=jc (u.ext (B.trans f6)) C;have aP:=Zy aF;have aj:=Zy A;clear B e5 C A aF f6;go_wp2_with (first|(rw[<-au.o];refine jl _ rfl (.tmp 86) (.tmp 93) rfl V rfl (AnyX.lit (n:=1) [M.lY c] aP rfl) rfl (SK aV.o) aj.o fun v7 w7 o7 e7 k7=>?_;have aT:=Zy o7;have aQ:=Zy e7;clear o7 e7 k7)|fail);go_round
          case rel=>exact⟨a+1,Zm,by go_num,by rw[Bc v.o,<-Te];exact aT,aQ⟩
          case measure=>simp[intOf];omega
        . have K:¬(a:Int)<m.code.length:=Zm
          have S:a=m.code.length:=Zm
          have aU:Zz (pU (qF m) wr o (.slice E (D+a) F) (D+a)):=Zy (by have:=u.o;rw[show m.code.take a=m.code by rw[S,TV]]at this;exact this);have bE:=d.code;clear S u e;go_wp2;go_ret;exact⟨xh aU (SL aB.size y.size) Zm,aB.o.trans (y.o.trans q.o)⟩
namespace M
structure Sn(c:Class):Prop where
 name:c.name.size<=6
 je:c.je.size<=6
 fs:c.fields.length<=3
 field:∀f∈c.fields,f.name.size<=6/\f.kind.name.size<=6
 ms:c.methods.length<=4
 SE:∀m∈c.methods,ng m=true
theorem FQ{c:Class}(b:mY c=true):Sn c:=by
 unfold mY at b;simp only[S9,V4,SF]at b;obtain⟨⟨⟨⟨⟨e,a⟩,f⟩,g⟩,h⟩,i⟩:=b;refine⟨q9 e,?_,f,fun d j=>?_,g,pg i⟩
 . rcases a with a|a
   . rw[a];exact T9 _
   . exact q9 a
 . have:=pg h d j;simp only[S9]at this;exact⟨q9 this.1,DT this.2⟩
theorem Jl{m:Method}(a:ng m=true):(qF m).length<=22:=by
 have:=BJ a;have b:=this.code;have c:=this.maps;unfold qF;simp only[TL,Uu,Tc,U6];omega
end M
theorem BZ{α b:Type}{f:α->List b}{l:List α}{k:Nat}{x:α}(a:l[k]?=some x):(l.take (k+1)).flatMap f=(l.take k).flatMap f++f x:=by
 rw[Tm,a,TJ];simp
set_option maxHeartbeats 8000000 in theorem FC(w:World)(I:Nat->Prop){cs:List Value}(m:Class)(hI:∀h,I h->h<w.heap.size)(aV:jB w I m cs)(aX:mY m=true):Calls prog 39 #[.agg cs.toArray] w fun u w'=>(Gt (qB m) w w' u/\(qB m).length<=100)/\Ext w w':=by
 obtain⟨va,vc,rfl,h0,h1⟩:=aV;obtain⟨a1,u1,rfl,bg,aZ⟩:=h0.form;obtain⟨a2,u2,rfl,bn,bf⟩:=h1.form;have⟨k,HI⟩:=jc (M.FQ aX) hI;obtain⟨O,aC,J,E⟩:=nu w #[m.name,m.je,.slice a1 m.fields.length u1,.slice a2 m.methods.length u2] 38;have⟨y,HA,HC,aS,P⟩:=qR E (h0.ext lq.stays J) (h1.ext jb.stays J) aC J;obtain⟨aT,aU,aW,f⟩:=mJ O;obtain⟨-,r0,r1,-⟩:=h9.qW fun p=>(E.ext (f.jv p));have rz:=E.lt;have bu:(ByteArray.mk #[32]).size=1:=rfl;have aB:(ByteArray.mk #[99,108,97,115,115,32]).size=6:=rfl;have sn:=k.name;have ss:=yY k.je Zm;have l:=Zy f;clear f J aC E h0 h1 hI;go_enter func39,ntmps39;go_upto_region 1 with(fail);rw[<-aS.o];refine kT l 9 [([0,1,2,3,4,5],6),([7],8)] [] ?_ ?_
 . exact jg
 refine mP ?_;intro g c;go_wp2_with fail;refine(Pn m.je).mono ?_;rintro u b ⟨rfl,ax⟩;have G:Ext O b:=(jg:Ext O O.drew).trans ax;clear ax;go_wp2_with fail;refine kk l c G ?_;clear c g;refine mP ?_;intro g c;go_wp2_with fail;obtain⟨w2,aD,V,o2,f2⟩:=pU.one (Kp.refl (fun _=>False) b) (⟨#[99,108,97,115,115,32]⟩++m.name++⟨#[32]⟩++rW m.je);have ak:Zz (pU [tN m] w2 b (.slice (some ⟨b,0,none⟩) 1 1) 1):=Zy o2;have⟨ai,j,aI⟩:=jr (G.trans V) G V;rw[<-aD];refine kk l c ai ?_;clear c g;refine kG ?_;clear G V o2 f2 aD r0 r1 rz ss sn aB l;obtain⟨cz,-,-,F,-⟩:=(y.ext ai).ca;go_wp2_with fail;clear F cz;obtain⟨Y,hg⟩:∃Y,b.heap.size=Y:=⟨_,rfl⟩;have aO:Zz (pU [tN m] w2 b (.slice (some ⟨Y,0,none⟩) 1 1) 1):=Zy (by rw[<-hg];exact ak);rw[hg];clear hg ak;go_loopw [3,4] (fun ag t wr=>∃a:Nat,a<=m.fields.length/\t=.int .i64 a/\pU ([tN m]++(m.fields.take a).map qD) wr b ag (1+a)/\Ext b wr) (fun _ t _=>m.fields.length - (intOf t).toNat)
 case atStart=>exact⟨0,T9 _,rfl,by simpa using aO.o,aI.o⟩
 case round=>
  obtain⟨a,hk,rfl,s,e⟩:=hrel;have z:=Zy e;obtain⟨v,x,ae⟩:=s.val;subst ae;have r:=Zy s;have o:=y.ext (j.trans e);have HB:=Zy o;obtain⟨bz,-,-,F,-⟩:=o.ca;clear s;by_cases B:a<m.fields.length
  . have U:(a:Int)<m.fields.length:=Zm
    obtain⟨d,i⟩:∃d,m.fields[a]?=some d:=⟨m.fields[a]'B,Dj B⟩;obtain⟨D,aG,cs,rfl,K,rfl,-,q⟩:=(HA.ext lq.stays (j.trans e)).get i;have S:=Zy i;have sf:=(k.field d (Sy i)).1;have sk:=pI (k.field d (Sy i)).2 Zm;obtain⟨T,hU⟩:∃T,og d.kind=T:=⟨_,rfl⟩;rw[hU]at sk;have HU:=Zy hU;obtain⟨aT,aU,aW,f⟩:=uD.ex (fun W'=>Kp (fun h=>b.heap.size<=h/\(Value.slice v (1+a) x).ownBlock=some h) wr W') wr Kp.rr;have az:¬((b:Nat)<=w/\(Value.slice v (1+a) x).ownBlock=some w.heap.size):=fun u=>SL j.size y.lt
    have L:¬(b<=D/\(Value.slice v (1+a) x).ownBlock=some D):=fun u=>SN (HI.o _ K) j.size y.lt
    have y2:=fun p=>(o.kp (f.jv p) az).c 2 (.slice (some ⟨D,aG,none⟩) m.fields.length u1) rfl;have H:=fun p=>(q.kp (f.jv p) L).three.1;have Z:=fun p=>(q.kp (f.jv p) L).three.2.1;have g2:=fun p=>(q.kp (f.jv p) L).three.2.2;have gz:=iV q.three.1;have l:=Zy f;have aB:(ByteArray.mk #[102,105,101,108,100,32]).size=6:=rfl;clear i q e o f az L K hU;go_wp2_with fail;clear F;refine kT l 19 [([0,1,2,3,4,5,6,7,8,9,10,11,12,13,14],15),([16],17),([],18)] [] ?_ ?_
    . exact jg
    refine mP ?_;intro g c;go_wp2_with fail;refine(xB HU).mono ?_;rintro u w3 ⟨rfl,ay⟩;have W:Ext wr w3:=(jg:Ext wr wr.drew).trans ay;clear ay;go_wp2_with fail;refine kk l c W.any ?_;clear c g;refine mP ?_;intro g c;go_wp2_with fail;obtain⟨w4,aF,X,c4,f4⟩:=AnyX.fresh W (⟨#[102,105,101,108,100,32]⟩++d.name++⟨#[32]⟩++T);have aH:Zz (hH w4 w3 0 [.string (qD d)]):=Zy (by unfold qD;rw[HU.o];exact c4);have Q:=Zy X;rw[<-aF];refine kk l c X.any ?_;clear c g;refine lK rfl fun g c=>?_;clear sf sk y2 H Z g2 W c4 X f4 aF;refine jl _ rfl (.tmp 22) (.tmp 39) rfl (r.ext Q) rfl (AnyX.lit (n:=1) [qD d] aH rfl) rfl (SK k.fs) (z.o.trans Q.o) fun v5 w5 o5 e5 k5=>?_;have⟨aP,aJ⟩:=jc o5 e5;clear o5;change g _ _;refine kk l c (Q.any.trans k5) ?_;clear c g;refine kG ?_;go_wp2;go_round
    case rel=>exact⟨a+1,Zm,by go_num,by rw[Bc S.o,<-Te];exact aP,aJ⟩
    case measure=>simp[intOf];omega
  . have U:¬(a:Int)<m.fields.length:=Zm
    have A:a=m.fields.length:=Zm
    have au:Zz (pU ([tN m]++m.fields.map qD) wr b (.slice v (1+a) x) (1+a)):=Zy (by have:=r.o;rwa[show m.fields.take a=m.fields by rw[A,TV]]at this);have c3:=o.c 3 (.slice a2 m.methods.length u2) rfl;clear A r e;go_wp2_with fail;obtain⟨N,aA⟩:∃N,1+a=N:=⟨_,rfl⟩;have bq:N<=4:=SK k.fs
    rw[aA]at au |-;obtain⟨wq,rfl⟩:∃wq:World,wq=wr:=⟨_,rfl⟩;clear aA F c3 bz o;go_loopw [3,5] (fun ag t wr=>∃a n:Nat,a<=m.methods.length/\t=.int .i64 a/\n<=4+22*a/\pU ([tN m]++m.fields.map qD++(m.methods.take a).flatMap qF) wr b ag n/\Ext b wr) (fun _ t _=>m.methods.length - (intOf t).toNat)
    case atStart=>exact⟨0,N,T9 _,rfl,Zm,by simpa using au.o,z.o⟩
    case round=>
     obtain⟨a,n,hk,rfl,hn,s,e⟩:=hrel;have z:=Zy e;obtain⟨v,x,ae⟩:=s.val;subst ae;have r:=Zy s;have o:=y.ext (j.trans e);obtain⟨bz,-,-,-,c3,-⟩:=o.ca;clear s o;by_cases B:a<m.methods.length
     . have U:(a:Int)<m.methods.length:=Zm
       obtain⟨d,i⟩:∃d,m.methods[a]?=some d:=⟨m.methods[a]'B,Dj B⟩;obtain⟨D,aG,cs,rfl,K,C,-,q⟩:=(HC.ext jb.stays (j.trans e)).get i;obtain⟨t1,t2,t3,t4,t5,t6,rfl⟩:=C.form;obtain⟨H,Z,g2,g3,g4,g5,g6,g7⟩:=q.eight;have gz:=iV H;have⟨S,aN,aj⟩:=jr i C (k.SE d (Sy i));have R:=Zy (M.Jl aj);have aM:Zz (∀h,I h->h<wr.heap.size):=Zy (fun h hb=>Tp (HI h hb) (P.trans (j.trans e)).size);clear i q e K C;go_wp2_with fail;refine(En wr I d aM aN aj).mono ?_;rintro u w5 ⟨⟨v5,rfl,af⟩,aa⟩;have⟨aQ,aK⟩:=jc (r.ext aa) (z.trans aa);obtain⟨sa,sc,rfl,-,-⟩:=af.form;have ah:=Zy (AnyX.all af rfl);clear af aa H Z g2 g3 g4 g5 g6 g7;obtain⟨ml,C⟩:∃ml,(qF d).length=ml:=⟨_,rfl⟩;rw[C]at ah R |-;go_wp2_with (first|(refine jl _ rfl (.tmp 48) (.tmp 54) rfl aQ rfl ah rfl (SL R.o k.ms) aK.o fun v7 w7 o7 e7 k7=>?_;have aR:=Zy o7;have aL:=Zy e7;clear o7 e7 k7)|fail);go_round
       case rel=>exact⟨a+1,n+ml,Zm,by go_num,SK R.o,by rw[BZ S.o,<-Te];exact aR,aL⟩
       case measure=>simp[intOf];omega
     . have U:¬(a:Int)<m.methods.length:=Zm
       have A:a=m.methods.length:=Zm
       have av:Zz (pU (qB m) wr b (.slice v n x) n):=Zy (by have:=r.o;rw[show m.methods.take a=m.methods by rw[A,TV]]at this;exact this);have aY:=k.ms;clear A r e;go_wp2;go_ret;exact⟨⟨xh av (SL P.size j.size) Zm,SK av.o.2⟩,P.o.trans (j.o.trans z.o)⟩
namespace M
structure RY(p:hZ)(k:kC):Prop where
 os:k.owns.length<=5
 ks:k.asks.length<=4
 cls:∀c∈k.owns,mY c=true
 ask:∀a∈k.asks,a.name.size<=6/\0<=a.keeper/\a.keeper<=100
theorem zo{p:hZ}(b:jY p=true):p.length<=3/\∀d∈p,RY p d:=by
 unfold jY at b;simp only[S9,SF,Tx]at b;refine⟨b.1.2,fun d h=>?_⟩;have a:=b.2 d h;unfold jC at a;simp only[S9,SF]at a;refine⟨a.1.1.1,a.1.1.2,pg a.1.2,fun e g=>?_⟩;have c:=pg a.2 e g;simp only[S9]at c;have f:=De.1 c.2;exact⟨q9 c.1,f.1,Zm⟩
end M
theorem pU.empty(W:World)(g:Nat)(a:W=g):pU [] (W.alloc (.cells #[] 9)) W (.slice (some ⟨g,0,none⟩) 0 0) 0:=
 ⟨lh W _ _ _ (Tz _) a,rfl⟩
set_option maxHeartbeats 8000000 in theorem Pm (w : World) (I : Nat -> Prop) {v: Value} (p : hZ) (hI : ∀ k, I k -> k < w.heap.size) (hp : SliceOf 2 iX w I v p) :Calls prog 16 #[.agg #[v]] w fun x w'=>(Gt (print p) w w' x/\(print p).length<=2000)/\Ext w w':=by
 obtain⟨aL,ax,rfl,bQ,bR⟩:=hp.form;have HI:=Zy hI;obtain⟨e,aD,ay,b0⟩:=nu w #[.slice aL p.length ax] 25;have⟨u,E⟩:=jc b0 ay;obtain⟨G,hg⟩:∃G,e.heap.size=G:=⟨_,rfl⟩;obtain⟨D,W⟩:=SH (e.alloc (.cells #[] 9));have T:Ext e D:=by rw[W];exact Zx
 have bD:Zz (pU [] D e (.slice (some ⟨G,0,none⟩) 0 0) 0):=Zy (by rw[W];exact pU.empty e G hg);have⟨bf,HP⟩:=jc T (hp.ext iX.stays ay);obtain⟨cz,l,-⟩:=(b0.ext T).ca;have bH:Zz (D=(w.alloc (.cells #[.slice aL p.length ax] 25)).alloc (.cells #[] 9)):=Zy (by rw[W,aD]);have au:=Zy (JL D p (HP.ext iX.stays T));have HG:Zz (w.heap.size+1=G):=Zy (by rw[<-hg,aD];simp);clear T aD W ay b0 hp hI hg;obtain⟨P,aC⟩:∃P,jY p=P:=⟨_,rfl⟩;have ah:=Zy aC;rw[aC]at au;clear aC;go_enter func16,ntmps16;go_upto_region 2 with(fail);rw[<-bH.o,HG.o];go_wp2_with fail;refine au.mono ?_;rintro x w2 ⟨rfl,az⟩;have⟨Z,aI⟩:=jc (bf.trans az) (bD.ext az);clear az l cz au;cases P
 . go_wp2;go_ret;have aU:print p=[]:=by unfold print;rw[ah.o];rfl
   exact⟨⟨by rw[aU];exact xh aI (SK E.size) Zm,by rw[aU];simp⟩,E.trans Z⟩
 have HS:=Zy (M.zo ah);obtain⟨cz,l,-⟩:=(u.ext Z).ca;go_wp2_with fail;clear l cz;go_loopw [3,4] (fun Q i wr=>∃d n:Nat,d<=p.length/\i=.int .i64 d/\n<=600*d/\pU ((p.take d).flatMap sG) wr e Q n/\Ext e wr) (fun _ i _=>p.length - (intOf i).toNat)
 case atStart=>exact⟨0,0,T9 _,rfl,Zm,aI.o,Z.o⟩
 case round=>
  obtain⟨d,n,hk,rfl,hn,h,c⟩:=hrel;have HE:=Zy c;obtain⟨oa,oc,K⟩:=h.val;subst K;have q:=Zy h;have g:=u.ext c;have HB:=Zy g;obtain⟨bz,l,-⟩:=g.ca;clear h g;by_cases aR:d<p.length
  . have dk:(d:Int)<p.length:=Zm
    obtain⟨b,X⟩:∃b,p[d]?=some b:=⟨p[d]'aR,Dj aR⟩;obtain⟨bk,P,cs,rfl,aN,⟨vo,va,rfl,ho,ha⟩,-,s⟩:=HP.get X;obtain⟨o1,o2,rfl,-,-⟩:=ho.form;obtain⟨a1,a2,rfl,-,-⟩:=ha.form;have⟨bI,o⟩:=jc X (HS.2 b (Sy X));have af:=Zy HS.o.1;have⟨bu,aG,bG,aX⟩:=kQ aN s ho ha;obtain⟨w3,aV,e3,d3,f3⟩:=AnyX.fresh c M.j6;have⟨bE,aK,aZ,bg⟩:=kQ (q.ext f3) aV d3 e3;clear X ho ha s c aN aV e3 d3 f3 q;go_wp2_with (first|(rw[<-aK.o];refine jl _ rfl (.tmp 19) (.tmp 20) rfl bE rfl (AnyX.lit (n:=1) [M.j6] aZ rfl) rfl (SK af.o) bg.o fun v4 w4 o4 e4 k4=>?_;have ai:=Zy o4;have bn:=Zy e4;clear o4 e4 k4)|fail);clear aK;have h4:=ai.o;obtain⟨bW,bX,bM⟩:=h4.val;subst bM;clear h4 l;obtain⟨j,aS⟩:∃j,n+1=j:=⟨_,rfl⟩;have bS:j<=600*d+1:=Zm
    rw[aS]at ai |-;clear aS;obtain⟨wo,rfl⟩:∃wo:World,wo=wr:=⟨_,rfl⟩;go_loopw [3,5] (fun Q i wr=>∃a:Nat,a<=b.asks.length/\i=.int .i64 a/\pU ((p.take d).flatMap sG++[M.j6]++(b.asks.take a).map tL) wr e Q (j+a)/\Ext e wr) (fun _ i _=>b.asks.length - (intOf i).toNat)
    case atStart=>exact⟨0,T9 _,rfl,by simpa using ai.o,bn.o⟩
    case round=>
     obtain⟨a,hj,rfl,h,c⟩:=hrel;have aH:=Zy c;obtain⟨N,O,K⟩:=h.val;subst K;have aj:=Zy h;have g:=u.ext c;obtain⟨bz,l,-⟩:=g.ca;have s:=aG.ext c;have g1:=s.two.2;have gz:=iV g1;clear h;by_cases H:a<b.asks.length
     . have dj:(a:Int)<b.asks.length:=Zm
       obtain⟨f,m⟩:∃f,b.asks[a]?=some f:=⟨b.asks[a]'H,Dj H⟩;obtain⟨b',bN,cs,rfl,U,rfl,-,y⟩:=(aX.ext uT.stays c).get m;have⟨av,F⟩:=jc m (o.ask f (Sy m));have sf:=F.1;have sk:=M.pE F.2.1 (SK F.2.2);obtain⟨bO,bP,bU,A⟩:=uD.ex (fun W'=>Kp (fun k=>e.heap.size<=k/\(Value.slice N (j+a) O).ownBlock=some k) wr W') wr Kp.rr;have aO:¬((e:Nat)<=w/\(Value.slice N (j+a) O).ownBlock=some w.heap.size):=fun x=>SK u.lt
       have aB:¬(e<=b'/\(Value.slice N (j+a) O).ownBlock=some b'):=fun x=>SL (HI.o _ U) u.lt
       have aP:¬(e<=bk/\(Value.slice N (j+a) O).ownBlock=some bk):=fun x=>SL (HI.o _ bu) u.lt
       have y0:=fun z=>(g.kp (A.jv z) aO).c 0 (.slice (some ⟨bk,P,none⟩) p.length ax) rfl;have y1:=fun z=>(s.kp (A.jv z) aP).two.2;have Y:=fun z=>(y.kp (A.jv z) aB).two.1;have k1:=fun z=>(y.kp (A.jv z) aB).two.2;have kz:=iV y.two.1;have S:=Zy A;have V:(ByteArray.mk #[97,115,107,115,32]).size=5:=rfl;have bV:(ByteArray.mk #[32]).size=1:=rfl;clear m y c g A aO aB aP U s;go_wp2_with fail;clear l g1;refine kT S 27 [([0,1,2,3,4,5,6,7,8,9,10,11,12,13,14,15,16,17,18,19,20,21,22],23),([24],25),([],26)] [] ?_ ?_
       . exact jg
       refine uZ [_,_,_,_,_,_,_,_,_,_,_,_,_,_,_,_,_,_,_,_,_,_,_] rfl rfl fun bJ hK=>?_;(repeat (go_big_quiet_step (fail)));refine qn hK fun B r=>?_;clear hK bJ;go_wp2_with fail;refine(wH f.keeper F.2.1 (SK F.2.2)).mono ?_;rintro x w6 ⟨rfl,aM⟩;have e6:Ext wr w6:=(jg:Ext wr wr.drew).trans aM;clear aM;go_wp2_with fail;refine kk S r e6.any ?_;clear r B;refine mP ?_;intro B r;go_wp2_with fail;obtain⟨w7,aW,C,c7,f7⟩:=AnyX.fresh e6 (⟨#[97,115,107,115,32]⟩++f.name++⟨#[32]⟩++M.qV f.keeper);have aY:Zz (hH w7 w6 0 [.string (tL f)]):=Zy c7;have aa:=Zy C;rw[<-aW];refine kk S r C.any ?_;clear r B;refine lK rfl fun B r=>?_;clear sf sk y0 y1 Y k1 e6 c7 C f7 aW;refine jl _ rfl (.tmp 33) (.tmp 58) rfl (aj.ext aa) rfl (AnyX.lit (n:=1) [tL f] aY rfl) rfl (SL o.ks af.o) (aH.o.trans aa.o) fun v8 w8 o8 e8 k8=>?_;have⟨ak,ae⟩:=jc o8 e8;clear o8;change B _ _;refine kk S r (aa.any.trans k8) ?_;clear r B;refine kG ?_;have bL:=o.ks;go_wp2;go_round
       case rel=>exact⟨a+1,Zm,by go_num,by rw[Bc av.o,<-Te];exact ak,ae⟩
       case measure=>simp[intOf];omega
     . have dj:¬(a:Int)<b.asks.length:=Zm
       have t:a=b.asks.length:=Zm
       have aJ:Zz (pU ((p.take d).flatMap sG++[M.j6]++b.asks.map tL) wr e (.slice N (j+a) O) (j+a)):=Zy (by have:=aj.o;rwa[show b.asks.take a=b.asks by rw[t,TV]]at this);have g0:=s.two.1;clear t aj;go_wp2_with fail;obtain⟨L,aT⟩:∃L,j+a=L:=⟨_,rfl⟩;have bT:L<=600*d+5:=SK o.ks
       rw[aT]at aJ |-;obtain⟨wq,rfl⟩:∃wq:World,wq=wr:=⟨_,rfl⟩;clear aT g0 g1 gz l bz g s c;go_loopw [3,6] (fun Q i wr=>∃a n:Nat,a<=b.owns.length/\i=.int .i64 a/\n<=L+100*a/\pU ((p.take d).flatMap sG++[M.j6]++b.asks.map tL++(b.owns.take a).flatMap qB) wr e Q n/\Ext e wr) (fun _ i _=>b.owns.length - (intOf i).toNat)
       case atStart=>exact⟨0,L,T9 _,rfl,Zm,by simpa using aJ.o,aH.o⟩
       case round=>
        obtain⟨a,n,hj,rfl,hn,h,c⟩:=hrel;have HEq:=Zy c;obtain⟨oa,oc,K⟩:=h.val;subst K;have q:=Zy h;have g:=u.ext c;obtain⟨bz,l,-⟩:=g.ca;have g0:=(aG.ext c).two.1;have gz:=iV g0;clear h g;by_cases H:a<b.owns.length
        . have dj:(a:Int)<b.owns.length:=Zm
          obtain⟨f,m⟩:∃f,b.owns[a]?=some f:=⟨b.owns[a]'H,Dj H⟩;obtain⟨b',bN,cs,rfl,U,J,-,y⟩:=(bG.ext jB.stays c).get m;obtain⟨t1,t2,t3,t4,rfl⟩:=J.form;obtain⟨Y,k1,k2,k3⟩:=y.four;have kz:=iV Y;have⟨av,bB,bC⟩:=jr m J (o.cls f (Sy m));have bA:Zz (∀k,I k->k<wr.heap.size):=Zy (fun k hb=>Tp (HI k hb) (E.trans c).size);clear m y c U J;go_wp2_with fail;refine(FC wr I f bA bB bC).mono ?_;rintro x w5 ⟨⟨⟨v5,rfl,V⟩,aQ⟩,aA⟩;have⟨ag,bF,bq⟩:=jr aQ (q.ext aA) (HEq.trans aA);obtain⟨sa,sc,rfl,-,-⟩:=V.form;have aF:=Zy (AnyX.all V rfl);clear V aA Y k1 k2 k3 aQ;obtain⟨ml,J⟩:∃ml,(qB f).length=ml:=⟨_,rfl⟩;rw[J]at aF ag |-;have bL:=o.os;go_wp2_with (first|(refine jl _ rfl (.tmp 71) (.tmp 81) rfl bF rfl aF rfl (SN ag.o af.o o.os) bq.o fun v7 w7 o7 C k7=>?_;have ak:=Zy o7;have ae:=Zy C;clear o7 C k7)|fail);go_round
          case rel=>exact⟨a+1,n+ml,Zm,by go_num,SK ag.o,by rw[BZ av.o,<-Te];exact ak,ae⟩
          case measure=>simp[intOf];omega
        . have dj:¬(a:Int)<b.owns.length:=Zm
          have t:a=b.owns.length:=Zm
          have R:Zz (pU ((p.take (d+1)).flatMap sG) wr e (.slice oa n oc) n):=Zy (by have:=q.o;rw[show b.owns.take a=b.owns by rw[t,TV]]at this;rw[BZ bI.o,show sG b=[M.j6]++b.asks.map tL++b.owns.flatMap qB from rfl];simpa only[Te]using this);have bK:=o.os;clear t q c;go_wp2;go_round
          case rel=>exact⟨d+1,n,Zm,by go_num,Zm,R.o,HEq.o⟩
          case measure=>simp[intOf];omega
  . have dk:¬(d:Int)<p.length:=Zm
    have t:d=p.length:=Zm
    have R:Zz (pU (print p) wr e (.slice oa n oc) n):=Zy (by have:=q.o;rw[show p.take d=p by rw[t,TV]]at this;unfold print;rw[ah.o];exact this);have bK:=HS.1;clear t q c;go_wp2;go_ret;exact⟨⟨xh R (SK E.size) Zm,SK R.o.2⟩,E.o.trans HE.o⟩
namespace M
theorem GR{i:Ins}(a:kE i=true):(lY i).size<=2000:=by
 obtain⟨b,c,d,e⟩:=IX a;rw[DL a];have h:=F7 i.op.toNat;have f:=BM i.a Zm Zm;have g:Fe.size=1:=rfl;split
 . simp only[Tj];omega
 . split
   . simp only[Tj];omega
   . split
     . simp only[Tj];omega
     . omega
theorem K7 {p : hZ} : ∀ l ∈ print p, l.size <= 200000 := fun l a => by
 have F:Fe.size=1:=rfl;unfold print at a;split at a
 . rename_i y; obtain ⟨B, w, a⟩ := List.mem_flatMap.1 a; have k := (zo y).2 B w; unfold sG at a; rcases Ty.1 a with a | a
   . rcases Ty.1 a with a|a
     . simp only[TU]at a;rw[a];decide
     . obtain⟨m,t,rfl⟩:=TM.1 a;obtain⟨e,f,s⟩:=k.ask m t;have:=pE f Zm;unfold tL;simp only[Tj];have g:QU.size=5:=rfl;omega
   . obtain ⟨r, u, a⟩ := List.mem_flatMap.1 a; have d := FQ (k.cls r u); unfold qB at a; rcases Ty.1 a with a | a
     . rcases Ty.1 a with a|a
       . simp only[TU]at a;rw[a];have e:=d.name;have f:=yY d.je Zm;have g:OO.size=6:=rfl;unfold tN;simp only[Tj];omega
       . obtain⟨i,j,rfl⟩:=TM.1 a;have e:=d.field i j;have f:=pI e.2 Zm;have g:OP.size=6:=rfl;unfold qD;simp only[Tj];omega
     . obtain⟨h,x,a⟩:=List.mem_flatMap.1 a;have b:=BJ (d.SE h x);unfold qF at a;rcases Ty.1 a with a|a
       . rcases Ty.1 a with a|a
         . simp only[TU]at a;rw[a];have e:=yX (z:=6) og h.args (tQ h) fun C z=>pI (b.arg C z) Zm;have f:=Nat.mul_le_mul_left 7 b.args;have s:(tQ h).size<=10000:=by
            have n:=b.name;have o:=pE b.l0 (SK b.l1);have q:=pE b.s0 (SK b.s1);have D:=pI b.ret Zm;have g:G5.size=7:=rfl;unfold tQ;simp only[Tj];omega
           unfold vN tY;omega
         . obtain⟨i,j,rfl⟩:=TM.1 a;have c:=b.map i j;have n:=pE c.Su (SK c.Sv);have o:=tV c.lt c.loc;have q:=tV c.st (SK c.ky);have g:OQ.size=6:=rfl;have E:Sg.size=2:=rfl;unfold vK;simp only[Tj];omega
       . obtain⟨A,v,rfl⟩:=TM.1 a;have:=GR (b.ins A v);omega
 . cases a
end M
def R6(p:hZ)(x:ByteArray)(e:Ending):Prop:=∃B,e=.returned (.bool B)/\(B=false->∀l∈print p,¬Has l x)
theorem Qm (w : World) {I: Nat -> Prop} {v: Value} (p : hZ) (hI : ∀ j, I j -> j < w.heap.size) (o : SliceOf 2 iX w I v p) (x : ByteArray) (hx : x.size <= 6) (ak : 1 <= x.size) :Calls prog 6 #[.agg #[v],x] w fun i Z=>R6 p x i/\Ext w Z:=by
 obtain⟨L,N,rfl,af,ag⟩:=o.form;obtain⟨w0,F,k,B⟩:=nu w #[.slice L p.length N] 25;have⟨u,K,G⟩:=jr (Pm w0 I p (fun j U=>Tp (hI j U) k.size) (o.ext iX.stays k)) F k;obtain⟨P,O,-⟩:=B.ca;clear F k B o hI;go_enter func6,ntmps6;go_upto_region 1 with(fail);rw[<-K.o];go_wp2_with fail;refine u.mono ?_;rintro i w1 ⟨⟨⟨v1,rfl,q⟩,V⟩,C⟩;obtain⟨sa,sc,rfl,-,-⟩:=q.form;have⟨y,t,A⟩:=jr q (G.trans C) (M.K7 (p:=p));obtain⟨d,m⟩:∃d,print p=d:=⟨_,rfl⟩;have J:=Zy m;rw[m]at y A V;simp only[m];clear q C O P m u;go_wp2;go_loopw [6] (fun h wr=>∃c:Nat,c<=d.length/\h=.int .i64 c/\wr=w1/\Zz (∀b∈d.take c,¬Has b x)) (fun h _=>d.length - (intOf h).toNat)
 case atStart=>exact⟨0,T9 _,rfl,rfl,Zy Zl⟩
 case round=>
  obtain⟨c,hk,rfl,rfl,r⟩:=hrel;by_cases D:c<d.length
  . have R:(c:Int)<d.length:=Zm
    obtain⟨b,l⟩:∃b,d[c]?=some b:=⟨d[c]'D,Dj D⟩;obtain⟨j,au,rfl,S⟩:=kF.at_ y l;have gz:=iV S;have ai:=A.o b (Sy l);have H:=Zy l;clear l;go_wp2;go_loopw [7] (fun h wx=>∃a:Nat,a<=b.size/\h=.int .i64 a/\wx=wr/\Zz (∀e,e<a->e+x.size<=b.size->b.extract e (e+x.size)≠x)) (fun h _=>b.size+1 - (intOf h).toNat)
    case atStart=>exact⟨0,T9 _,rfl,rfl,Zy Zm⟩
    case round=>
     obtain⟨a,hj,rfl,Y,s⟩:=hrel;subst Y;by_cases ah:a+x.size<=b.size
     . have Q:(a:Int)+x.size<=b.size:=Zm
       obtain⟨f,E⟩:∃f:Nat,a+x.size=f:=⟨_,rfl⟩;have hw:IntKind.i64.wrap ((a:Int)+(x.size:Int))=(f:Int):=by rw[Tg _ Zm];omega
       have ae:(a:Int)+(x.size:Int)=(f:Int):=Zm
       have h0:(0:Int)<=(a:Int):=Zm
       have h1:(a:Int)<=(f:Int):=Zm
       have h2:(f:Int)<=b.size:=Zm
       have h3:(0:Int)<=(f:Int):=Zm
       have z:=Zy E;clear E;cases n:((b.extract a f).toList==x.toList)
       . go_wp2_with fail;exact⟨⟨a+1,SK z.o,rfl,trivial,Zy (fun e aj W i=>by
          by_cases X:e=a
          . subst X;rw[z.o]at i;rw[i]at n;simp at n
          . exact s e Zm W i)⟩,by simp[intOf];omega⟩
       . go_wp2;go_ret;exact⟨⟨true,rfl,fun T=>by cases T⟩,t.o⟩
     . have Q:¬(a:Int)+x.size<=b.size:=Zm
       go_wp2_with fail;exact⟨⟨c+1,Zm,rfl,trivial,Zy (fun aa g=>by
        rw[Tm,H.o]at g;rcases Ty.1 g with g|g
        . exact r aa g
        . simp only[UD,TU]at g;subst g;exact Oy fun e n=>s.o e Zm n)⟩,by simp[intOf];omega⟩
  . have R:¬(c:Int)<d.length:=Zm
    go_wp2;go_ret;exact⟨⟨false,rfl,fun _=>by
     have:=r.o;rw[Tu Zm]at this;rw[J.o];exact this⟩,t⟩
end Go.Proofs.YtenhnldnpdlniaaGreat
