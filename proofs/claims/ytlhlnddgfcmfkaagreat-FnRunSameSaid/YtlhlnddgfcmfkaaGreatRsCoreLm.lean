/- Walks. -/
import Derived.Test.YtlhlnddgfcmfkaaGreatRsCoreLj
import Derived.Test.YtlhlnddgfcmfkaaGreatRsCoreLl
set_option maxRecDepth 100000
set_option maxHeartbeats 4000000
set_option linter.all false
namespace Go.Proofs.YtlhlnddgfcmfkaaGreat
open Go Go.RowKit Tryz
def LM(w':World)(e:Ending):Prop:=∃v xs I,e=.returned v∧SliceOf 1 kS w' I v xs∧∀u∈xs,u.size<=30000
theorem nS.more{Z a:Nat}{w:World}{base:Nat}{v:Value}{n:Nat}(b:nS Z w base v n)(f:Z<=a):nS a w base v n:=by
 obtain⟨h,c,d⟩:=b;exact⟨h,c,fun g e=>Nat.le_trans (d g e) f⟩
theorem rZ{W:World}{base:Nat}{v:Value}{n:Nat}(a:nS 30000 W base v n)(d:n<=100000):LM W (.returned v):=by
 obtain⟨e,b,-,c⟩:=a.o d;exact⟨v,e,_,rfl,b,c⟩
theorem r9{w d:World}{c:Nat}{I:Nat->Prop}{v:Value}{xs:List ByteArray}(a:SliceOf 1 kS w I v xs)(hI:∀b,I b->b≠c)(e:Kp (·=c) w d):SliceOf 1 kS d I v xs:=a.keep kS.stays (e.same hI) (fun _ a=>a)
theorem lu{W e:World}{P:Nat->Prop}{base c q:Nat}{v:Value}{d:List Int}(a:nT W c v d q)(hl:c<base∧(d.length≠0->∀f l b,v=.slice (some f) l b->f.block<base))(i:Kp (fun g=>base<=g∧P g) W e):nT e c v d q:=
 ⟨a.blk.kp i (fun h=>by omega),a.PE.kp i fun k j m b h n=>by have:=hl.2 k j m b h;omega,a.own,a.len⟩
theorem Jj(w:World)(n p:Nat)(v:Value)(S:List Int)(aW:nT w n v S p){I:Nat->Prop}(vl:Value)(xs:List ByteArray)(hl:SliceOf 1 kS w I vl xs)(hI:∀A,I A->A≠n)(bR:1<=xs.length∧xs.length<=1000)(hz:∀ae∈xs,ae.size<=1000)(hp:p<=700000):Calls prog 37 #[some n,vl] w fun q w'=>LM w' q∧(∃aJ,aJ<=p+20∧nT w' n v S aJ)∧Kp (·=n) w w':=by
 obtain⟨a,c,rfl,cz,cB⟩:=hl.form;obtain⟨x0,bn⟩:∃x0,xs[0]?=some x0:=⟨xs[0]'Zm,List.getElem?_eq_getElem Zm⟩;obtain⟨A,R,rfl,-⟩:=kS.at_ hl bn;have⟨aS,HL,M⟩:=jy (jO w n p v S xs.length aW Zm Zm) hl hI;have U:Zz (∀ae∈xs,ae.size<=30000):=Zy (fun ae hu=>by have:=hz ae hu;omega);have HZ:=Zy hz;obtain⟨l1,l2⟩:=bR;clear aW hl hI hz bn;go_enter func37,ntmps37;go_wp2_with fail;refine aS.mono ?_;rintro q w1 ⟨⟨g,rfl,hk⟩,aX,aC⟩;have X:g<xs.length:=by omega
 have⟨aT,aQ,aO⟩:=jy (jO w1 n (p+1) v S 5 aX Zm Zm) (r9 HL M aC) aC;clear aX aC hk aS;go_wp2_with fail;refine aT.mono ?_;rintro q f ⟨⟨aa,rfl,ht⟩,aD,b⟩;have⟨O,K,D⟩:=jy (r9 aQ M b) (aO.trans b) aD;have au:=Zy aD.below.1;have bU:aa=0∨aa=1∨aa=2∨(3<=aa∧aa<5):=by omega
 have dh:(g:Int)<xs.length:=by omega
 have di:(0:Int)<=(g:Int):=by omega
 obtain⟨y,bg⟩:∃y,g+1=y:=⟨_,rfl⟩;have bN:(y:Int)<=xs.length:=by omega
 have bO:IntKind.i64.wrap ((g:Int)+1)=(y:Int):=by rw[IntWalk.i64_in _ Zm];omega
 have bP:(g:Int)+1=(y:Int):=by omega
 have bQ:(0:Int)<=(y:Int):=by omega
 have bB:=Zy bg;have N:Zz (∀l,Kp (·=n) f l->mf 30000 l (.slice (some ⟨A,R,none⟩) g c) g):=Zy fun l H=>mf.take (r9 O M H) U Zm;clear bg;clear aD b ht aT aQ aO;have aF:g<c:=by omega
 rcases bU with rfl|rfl|rfl|⟨t3,t5⟩
 . have bK:Kp (·=n) f f:=Kp.rr;obtain⟨wa,o,j,t,E,m⟩:=nS.fresh (Z:=1000) bK;replace m:=Zy m;have⟨bH,bu⟩:=je o (mf.all (O.ext kS.stays E) HZ);clear o bO bP bQ bN;go_wp2_with (first|(rw[<-bH.o];refine jq _ rfl (.tmp 15) (.tmp 16) rfl t rfl bu rfl Zm j fun v9 J i h kb=>?_;rw[Nat.zero_add]at i;obtain⟨V,c9,rfl,cK,cO,cZ,aZ⟩:=nS.form i Zm Zm;obtain⟨s,hs,dw⟩:=aZ g X;have aR:=Zy i;have bE:=Zy (lu (D.ext E) D.below kb);have bq:=Zy h;have bT:=iY hs;clear aZ i t h kb j E)|fail);have bS:V≠n:=by have:=au.o;omega
   refine(OJ J n (p+1+1) v S s bE Zm Zm).mono ?_;rintro q w5 ⟨⟨tx,rfl,bV⟩,⟨aJ,hq,W⟩,G⟩;have d1:=aR.kp G (fun A q=>by have:=au.o;omega);have df:=d1.frozen g;obtain⟨_,_,e9,-,d2,-,aY⟩:=nS.form d1 Zm Zm;cases e9;obtain⟨s5,dn,-⟩:=aY g X;have⟨bC,ay,bz⟩:=jy (nS.put (aR.more (show 1000<=30000 by omega)) G bS (s:=tx) Zm X) W (bq.o.trans G);have aP:Zz (Kp (·=V) w5 (w5.setCell (V,g) tx)):=Zy ((Kp.refl (·=V) w5).setCell (p:=⟨V,g,none⟩) (fun _=>rfl) _);clear d1 aY W G hs bT;go_wp2_with fail;go_ret;exact⟨rZ bC Zm,⟨_,by omega,ay.o.turn aP.o Zm (fun h0 ad bY c q=>by have:=D.o.below.2 h0 ad bY c q;omega)⟩,K.o.trans (bz.o.own aP.o (fun A q=>by omega))⟩
 . rcases(show c=y∨y<c by have:=bB.o;omega)with aF|aF
   . subst aF;have av:Zz (∀l,Kp (·=n) f l->mf 30000 l (.slice (some ⟨A,R,none⟩) 0 0) 0):=Zy fun l H=>by
      have:=mf.none_ (Z:=30000) (w:=l) (c:=0) (a:=⟨A,R,none⟩) (Nat.le_refl c);rwa[Nat.sub_self]at this
     obtain⟨az,aA,aG,z⟩:=kY f;have e:=Zy z;clear z;go_upto_region 8 with(fail);refine kD e 10 [([1,2,3,5,6,7,8],0),([],4),([],9)] [] ?_ ?_
     . exact jf
     have u:Ext f f.drew:=jf;generalize f.drew=wd at u ⊢;refine lS ?_;intro d b;go_wp2_with fail;obtain⟨wa,o,j,t,E,m⟩:=nS.fresh (Z:=30000) u;replace m:=Zy m;rw[<-o];clear o;refine kk e b j ?_;clear b d;refine lF rfl fun d b=>?_;refine jq _ rfl (.tmp 30) (.tmp 33) rfl t rfl (N _ j.any) rfl Zm j fun aK J i h aj=>?_;change d _ _;refine kk e b h ?_;clear b d;refine lF rfl fun d b=>?_;refine jq _ rfl (.tmp 34) (.tmp 38) rfl i rfl (av _ h.any) rfl Zm h fun af wf C k Q=>?_;change d _ _;refine kk e b k ?_;clear b d;refine kC ?_;go_wp2_with fail;go_ret;exact⟨rZ C Zm,⟨_,by omega,D.o.ext k⟩,K.o.trans k.any⟩
   . have av:Zz (∀l,Kp (·=n) f l->mf 30000 l (.slice (some ⟨A,R+y,none⟩) (xs.length - y) (c - y)) (xs.length - y)):=Zy fun l H=>mf.drop (r9 O M H) U y;obtain⟨az,aA,aG,z⟩:=kY f;have e:=Zy z;clear z;go_upto_region 8 with(fail);refine kD e 10 [([1,2,3,5,6,7,8],0),([],4),([],9)] [] ?_ ?_
     . exact jf
     have u:Ext f f.drew:=jf;generalize f.drew=wd at u ⊢;refine lS ?_;intro d b;go_wp2_with fail;obtain⟨wa,o,j,t,E,m⟩:=nS.fresh (Z:=30000) u;replace m:=Zy m;rw[<-o];clear o;refine kk e b j ?_;clear b d;refine lF rfl fun d b=>?_;refine jq _ rfl (.tmp 30) (.tmp 33) rfl t rfl (N _ j.any) rfl Zm j fun aK J i h aj=>?_;change d _ _;refine kk e b h ?_;clear b d;refine lF rfl fun d b=>?_;refine jq _ rfl (.tmp 34) (.tmp 38) rfl i rfl (av _ h.any) rfl Zm h fun af wf C k Q=>?_;change d _ _;refine kk e b k ?_;clear b d;refine kC ?_;go_wp2_with fail;go_ret;exact⟨rZ C Zm,⟨_,by omega,D.o.ext k⟩,K.o.trans k.any⟩
 . have T:Zz (∀l,Kp (·=n) f l->mf 30000 l (.slice (some ⟨A,R+g,none⟩) (xs.length - g) (c - g)) (xs.length - g)):=Zy fun l H=>mf.drop (r9 O M H) U g;obtain⟨F,aH⟩:∃F,xs[g]?=some F:=⟨xs[g]'X,List.getElem?_eq_getElem X⟩;obtain⟨_,_,bJ,gk⟩:=kS.at_ O aH;cases bJ;have P:=Zy (U F (List.mem_of_getElem? aH));obtain⟨az,aA,aG,z⟩:=kY f;have e:=Zy z;have yk:=fun cu=>(z.jm cu).jb gk;clear z gk aH;go_upto_region 10 with(fail);refine qA e 15 (.two [1,2,3,5,6,7,8,11,12,13] 0 9 (.two [] 4 9 (.one [] 9 (.one [] 10 (.one [] 14 (.fin [])))) (.one [] 4 (.one [] 10 (.one [] 14 (.fin []))))) (.one [] 0 (.one [] 4 (.one [] 10 (.one [] 14 (.fin [])))))) ?_ ?_
   . exact jf
   refine two [_,_,_,_,_,_,_,_,_,_] rfl rfl rfl fun bI hK=>?_;(repeat (go_big_quiet_step (fail)));((refine Gf hK (fun d b=>?_) fun d b=>?_)<;>clear hK bI)
   . have u:Ext f f.drew:=jf;generalize f.drew=wd at u ⊢;go_wp2_with fail;obtain⟨wa,o,j,t,E,m⟩:=nS.fresh (Z:=30000) u;replace m:=Zy m;rw[<-o];clear o;refine kk e b j ?_;clear b d;refine EG rfl rfl (fun d b=>?_) fun d b=>?_
     . refine jq _ rfl (.tmp 42) (.tmp 45) rfl t rfl (N _ j.any) rfl Zm j fun aK J i h aj=>?_;change d _ _;refine kk e b h ?_;clear b d;refine jZ rfl fun d b=>?_;go_wp2_with fail;obtain⟨wc,Z,B,x,ah,aN⟩:=mf.fresh (Z:=30000) h F P;rw[<-Z];clear Z aN;refine kk e b B ?_;clear b d;have i:=i.ext ah;refine jZ rfl fun d b=>?_;refine jq _ rfl (.tmp 46) (.tmp 51) rfl i rfl (mf.lit (n:=1) [F] x rfl (by simpa using P.o)) rfl Zm B fun aL aM L r ak=>?_;change d _ _;refine kk e b r ?_;clear b d;refine jZ rfl fun d b=>?_;refine jq _ rfl (.tmp 52) (.tmp 55) rfl L rfl (T _ r.any) rfl Zm r fun af wf C k Q=>?_;change d _ _;refine kk e b k ?_;clear b d;refine kM ?_;go_wp2_with fail;go_ret;exact⟨rZ C Zm,⟨_,by omega,D.o.ext k⟩,K.o.trans k.any⟩
     . go_wp2_with fail;obtain⟨J,Y,h,x,aB,ag⟩:=mf.fresh (Z:=30000) j F P;replace ag:=Zy ag;rw[<-Y];clear Y;refine kk e b h ?_;clear b d;have t:=t.ext aB;refine jZ rfl fun d b=>?_;refine jq _ rfl (.tmp 42) (.tmp 45) rfl t rfl (N _ h.any) rfl Zm h fun bZ wc i B aI=>?_;change d _ _;refine kk e b B ?_;clear b d;have x:=x.kp aI (fun q=>by have:=m.o;have:=q.2;simp[Value.ownBlock]at this;omega);refine jZ rfl fun d b=>?_;refine jq _ rfl (.tmp 46) (.tmp 51) rfl i rfl (mf.lit (n:=1) [F] x rfl (by simpa using P.o)) rfl Zm B fun aL aM L r ak=>?_;change d _ _;refine kk e b r ?_;clear b d;refine jZ rfl fun d b=>?_;refine jq _ rfl (.tmp 52) (.tmp 55) rfl L rfl (T _ r.any) rfl Zm r fun af wf C k Q=>?_;change d _ _;refine kk e b k ?_;clear b d;refine kM ?_;go_wp2_with fail;go_ret;exact⟨rZ C Zm,⟨_,by omega,D.o.ext k⟩,K.o.trans k.any⟩
   . have u:Ext f f.drew:=jf;generalize f.drew=wd at u ⊢;go_wp2_with fail;obtain⟨wa,o,j,x,E,m⟩:=mf.fresh (Z:=30000) u F P;replace m:=Zy m;rw[<-o];clear o;refine kk e b j ?_;clear b d;refine jZ rfl fun d b=>?_;go_wp2_with fail;obtain⟨J,Y,h,t,aB,ag⟩:=nS.fresh (Z:=30000) j;replace ag:=Zy ag;rw[<-Y];clear Y;refine kk e b h ?_;clear b d;have x:=x.ext aB;refine jZ rfl fun d b=>?_;refine jq _ rfl (.tmp 42) (.tmp 45) rfl t rfl (N _ h.any) rfl Zm h fun bZ wc i B aI=>?_;change d _ _;refine kk e b B ?_;clear b d;have x:=x.kp aI (fun q=>by have:=m.o;have:=q.2;simp[Value.ownBlock]at this;omega);refine jZ rfl fun d b=>?_;refine jq _ rfl (.tmp 46) (.tmp 51) rfl i rfl (mf.lit (n:=1) [F] x rfl (by simpa using P.o)) rfl Zm B fun aL aM L r ak=>?_;change d _ _;refine kk e b r ?_;clear b d;refine jZ rfl fun d b=>?_;refine jq _ rfl (.tmp 52) (.tmp 55) rfl L rfl (T _ r.any) rfl Zm r fun af wf C k Q=>?_;change d _ _;refine kk e b k ?_;clear b d;refine kM ?_;go_wp2_with fail;go_ret;exact⟨rZ C Zm,⟨_,by omega,D.o.ext k⟩,K.o.trans k.any⟩
 . have T:Zz (∀l,Kp (·=n) f l->mf 30000 l (.slice (some ⟨A,R+g,none⟩) (xs.length - g) (c - g)) (xs.length - g)):=Zy fun l H=>mf.drop (r9 O M H) U g;obtain⟨az,aA,aG,z⟩:=rA.ex (fun W'=>Kp (·=n) f W') f Kp.rr;have e:=Zy z;clear z;have ax:=Zy D.o.below;go_upto_region 11 with(fail);refine kD e 14 [([1,2,3,5,10,11,12],0),([],4),([],6),([],7),([],8),([],9),([],13)] [] ?_ ?_
   . exact jf
   have aV:Ext f f.drew:=jf;have u:Kp (·=n) f f.drew:=jf;have aU:=Zy (D.ext aV);generalize f.drew=wd at u aV aU ⊢;refine lS ?_;intro d b;go_wp2_with fail;obtain⟨wa,o,j,t,E,m⟩:=nS.fresh (Z:=30000) u;replace m:=Zy m;rw[<-o];clear o;refine kk e b j ?_;clear b d;refine lF rfl fun d b=>?_;refine jq _ rfl (.tmp 57) (.tmp 60) rfl t rfl (N _ j) rfl Zm j fun aK J i h aj=>?_;change d _ _;refine kk e b h ?_;clear b d;have bF:=Zy (lu (aU.ext E) ax aj);have bA:=Zy (Lg J n (p+1+1) v S 99999 bF Zm Zm Zm);refine lF rfl fun d b=>?_;go_wp2_with fail;refine bA.mono ?_;rintro q w5 ⟨⟨op,ia,bX,bW,rfl,bf,bM,bL⟩,⟨q5,dm,W⟩,G⟩;have e5:=h.trans G;have ay:=Zy W;have i:=i.kp G (fun A q=>by have:=au.o;omega);have bG:=Zy (rq op ia bX bW w5 bf Zm Zm);clear W G bf bM bL;go_wp2_with fail;refine kk e b e5 ?_;clear b d;refine lF rfl fun d b=>?_;go_wp2_with fail;refine bG.mono ?_;rintro q w6 ⟨⟨tx,rfl,bV⟩,ai⟩;have e6:=e5.trans ai.any;have bD:=Zy (ay.ext ai);have i:=i.ext ai;clear ai;go_wp2_with fail;refine kk e b e6 ?_;clear b d;refine lF rfl fun d b=>?_;go_wp2_with fail;obtain⟨wc,Z,B,x,ah,aN⟩:=mf.fresh (Z:=30000) e6 tx Zm;rw[<-Z];clear Z aN;refine kk e b B ?_;clear b d;have i:=i.ext ah;refine lF rfl fun d b=>?_;refine jq _ rfl (.tmp 61) (.tmp 65) rfl i rfl (mf.lit (n:=1) [tx] x rfl Zr) rfl Zm B fun aL aM L r ak=>?_;change d _ _;refine kk e b r ?_;clear b d;refine lF rfl fun d b=>?_;refine jq _ rfl (.tmp 66) (.tmp 69) rfl L rfl (T _ r) rfl Zm r fun af wf C k Q=>?_;change d _ _;refine kk e b k ?_;clear b d;refine kC ?_;go_wp2_with fail;go_ret;exact⟨rZ C Zm,⟨_,by omega,lu (lu (bD.o.ext ah) ax.o ak) ax.o Q⟩,K.o.trans k⟩
def QU(v:Value):Bool:=match v with
 | .int .i64 n=>decide (0<=n)&&decide (n<11)
 |_=>false
theorem FU{w:World}{b k:Nat}{t:TypeId}{cs:Array Value}(f:hV w b t cs)(g:k<cs.size)(e:cs.toList.all QU=true):∃d:Nat,w.cell? (b,k)=some (.int .i64 d)∧d<11:=by
 have c:=f.cell k;rw[Array.getElem?_eq_getElem g]at c;have a:=List.all_eq_true.1 e cs[k] Zl;unfold QU at a;split at a
 . rename_i i h;simp at a;exact⟨i.toNat,by rw[c,h,Int.toNat_of_nonneg a.1],by omega⟩
 . cases a
def J2(w:World)(base:Nat)(v:Value)(n:Nat):Prop:=(∃a c,v=.slice a n c)∧n<=40∧∃xs,SliceOf 1 kS w (fun b=>base<=b) v xs∧xs.length=n∧∀u∈xs,u.size<=40
theorem J2.kp{w c:World}{base b n:Nat}{v:Value}(a:J2 w base v n)(h:Kp (·=b) w c)(l:b<base):J2 c base v n:=by
 obtain⟨d,e,i,f,g⟩:=a;exact⟨d,e,i,f.keep kS.stays (h.same fun j m k=>by omega) (fun _ a=>a),g⟩
theorem J2.any{w:World}{base n:Nat}{v:Value}(a:J2 w base v n):mf 1000 w v n:=by
 obtain⟨f,g,h,b,rfl,c⟩:=a;exact mf.all b fun e d=>by have:=c e d;omega
theorem FD:(M.blocks.all fun a=>decide (a.length<=40)&&a.all fun b=>decide (b.size<=40))=true:=by decide+kernel
theorem CG{w:World}{base b g n c:Nat}(i:SliceOf 1 wU w (fun b=>base<=b) (.slice (some ⟨b,g,none⟩) n c) M.blocks){k:Nat}(r:k<11):∃d l,w.cell? (b,g+k)=some d∧J2 w base d l:=by
 have s:M.blocks.length=11:=rfl;obtain⟨a,f⟩:∃a,M.blocks[k]?=some a:=⟨M.blocks[k]'Zm,List.getElem?_eq_getElem Zm⟩;obtain⟨o,t,q,h,-,⟨d,rfl,e⟩,-,j⟩:=i.get f;cases h;obtain⟨m,p,rfl,-,-⟩:=e.form;have:=List.all_eq_true.1 FD a (List.mem_of_getElem? f);simp only[Bool.and_eq_true,decide_eq_true_eq,List.all_eq_true]at this;exact⟨_,_,by simpa using j.one,⟨_,_,rfl⟩,this.1,a,e,rfl,this.2⟩
theorem CJ{w d:World}{base c:Nat}{v:Value}{l:List (List ByteArray)}(b:SliceOf 1 wU w (fun a=>base<=a) v l)(e:Kp (·=c) w d)(g:c<base):SliceOf 1 wU d (fun a=>base<=a) v l:=
 b.keep wU.stays (e.same fun a h f=>by omega) (fun _ b=>b)
theorem nS.one{Z:Nat}{D:Nat->Prop}{b W:World}(c:Kp D b W)(s:ByteArray)(d:s.size<=Z):∃a,a=W.alloc (.cells #[s] 9)∧Kp D b a∧nS Z a b (.slice (some ⟨W,0,none⟩) 1 1) 1∧Ext W a:=
 ⟨_,rfl,c.alloc _,nS.lit [s] (hV.new _ _ _) c.size rfl Zl (by simpa using d),jr _⟩
theorem mf.two{Z:Nat}{D:Nat->Prop}{b W:World}(c:Kp D b W)(s t:ByteArray)(d:s.size<=Z)(e:t.size<=Z):∃a,a=W.alloc (.cells #[s,t] 9)∧Kp D b a∧hH a W 0 [s,t]∧Ext W a:=
 ⟨_,rfl,c.alloc _,hH.ny _ _ rfl,jr _⟩
theorem Qt{Z:Nat}{s t:ByteArray}(a:s.size<=Z)(b:t.size<=Z):∀c∈[s,t],c.size<=Z:=by simpa using⟨a,b⟩
def LG(w w':World)(e:Ending):Prop:=∃vl xs,e=.returned vl∧SliceOf 1 kS w' (fun b=>w.heap.size<=b) vl xs∧1<=xs.length∧xs.length<=1000∧∀u∈xs,u.size<=1000
theorem ug{w W:World}{base:Nat}{v:Value}{n:Nat}(a:nS 1000 W base v n)(i:w<=base)(f:1<=n)(g:n<=1000):LG w W (.returned v):=by
 obtain⟨d,b,h,c⟩:=a.o Zm;exact⟨v,d,rfl,b.keep kS.stays (fun _ _ _ _ a=>a) (fun e a=>by omega),by omega,by omega,c⟩
theorem Ib(w:World)(r p:Nat)(v:Value)(zs:List Int)(bI:nT w r v zs p)(hp:p<=700000):Calls prog 34 #[some r] w fun o w'=>LG w w' o∧(∃dQ,dQ<=p+20∧nT w' r v zs dQ)∧Kp (·=r) w w':=by
 have b:=Zy bI.below;have HR:=Zy bI;clear bI;go_enter func34,ntmps34;go_wp2_with fail;refine(Fq w).mono ?_;rintro o w1 ⟨⟨vb,rfl,hS⟩,bJ⟩;obtain⟨fF,gI,rfl,-,-⟩:=hS.form;obtain⟨aP,dP,rfl⟩:∃aP dP,fF=some ⟨aP,dP,none⟩:=by
  obtain⟨b',o',cs,o,-⟩:=hS.get (i:=0) (x:=_) rfl;exact⟨_,_,o⟩
 have dw:=Zy hS;have eG:Zz (Kp (·=r) w w1):=Zy bJ.any;have dh:=Zy (HR.ext bJ);clear hS bJ;simp only[show M.blocks.length=11 from rfl]at dw ⊢;obtain⟨w2,bz⟩:∃K,K=w1.alloc (.cells #[.int .i64 0,.int .i64 0,.int .i64 0,.int .i64 7] 3):=⟨_,rfl⟩;have bM:Ext w1 w2:=by rw[bz];exact jr _
 have ed:Zz (hV w2 w1 3 #[.int .i64 0,.int .i64 0,.int .i64 0,.int .i64 7]):=Zy (by rw[bz];exact hV.new _ _ _);have⟨cK,fq,bX⟩:=jy (jO w2 r (p) v zs 4 (dh.ext bM) Zm Zm) bz bM;have fC:=Zy dh.o.below.1;clear bz bM;go_wp2_with fail;rw[<-fq.o];refine cK.mono ?_;rintro o w3 ⟨⟨k3,rfl,fO⟩,dG,bq⟩;have gQ:k3<4:=by omega
 obtain⟨gF,gu,fV⟩:=FU (k:=k3) (ed.kp bq (by have:=fC.o;omega)) Zr Zn;have dx:=Zy (CJ (dw.ext wU.stays bX) bq b.1);obtain⟨rt,nt,fH,bR⟩:=CG dx fV;obtain⟨⟨iD,iH,rfl⟩,gX,-⟩:=id bR;have⟨eY,di,eH⟩:=jy bR dG ((eG.trans bX.any).trans bq);have ig:=iY gu;have gK:=iY fH;have iw:(gF:Int)<11:=by omega
 clear bq dG fO bR cK;obtain⟨w4,bA⟩:∃K,K=w3.alloc (.cells #[.int .i64 1,.int .i64 1,.int .i64 1,.int .i64 8] 3):=⟨_,rfl⟩;have bN:Ext w3 w4:=by rw[bA];exact jr _
 have ek:Zz (hV w4 w3 3 #[.int .i64 1,.int .i64 1,.int .i64 1,.int .i64 8]):=Zy (by rw[bA];exact hV.new _ _ _);have⟨cO,fu,bF⟩:=jy (jO w4 r (p+1) v zs 4 (di.ext bN) Zm Zm) bA bN;have fD:=Zy di.o.below.1;clear bA bN;go_wp2_with fail;rw[<-fu.o];refine cO.mono ?_;rintro o w5 ⟨⟨k5,rfl,fP⟩,dH,aS⟩;have gT:k5<4:=by omega
 obtain⟨gB,gy,fZ⟩:=FU (k:=k5) (ek.kp aS (by have:=fD.o;omega)) Zr Zn;have⟨dz,eZ⟩:=je (CJ (dx.ext wU.stays bF) aS b.1) ((eY.kp bF.any b.1).kp aS b.1);obtain⟨rc,nc,fI,bS⟩:=CG dz fZ;obtain⟨⟨iB,iF,rfl⟩,gV,-⟩:=id bS;have⟨eX,dm,eO⟩:=jy bS dH ((eH.trans bF.any).trans aS);have ik:=iY gy;have gL:=iY fI;have iy:(gB:Int)<11:=by omega
 clear aS dH fP bS cO;obtain⟨w6,bB⟩:∃K,K=w5.alloc (.cells #[.int .i64 2,.int .i64 3,.int .i64 4,.int .i64 5,.int .i64 6,.int .i64 3,.int .i64 9,.int .i64 10] 3):=⟨_,rfl⟩;have bO:Ext w5 w6:=by rw[bB];exact jr _
 have eu:Zz (hV w6 w5 3 #[.int .i64 2,.int .i64 3,.int .i64 4,.int .i64 5,.int .i64 6,.int .i64 3,.int .i64 9,.int .i64 10]):=Zy (by rw[bB];exact hV.new _ _ _);have⟨cZ,fw,bf⟩:=jy (jO w6 r (p+1+1) v zs 8 (dm.ext bO) Zm Zm) bB bO;have fE:=Zy dm.o.below.1;clear bB bO;go_wp2_with fail;rw[<-fw.o];refine cZ.mono ?_;rintro o w7 ⟨⟨k7,rfl,fT⟩,dI,aG⟩;have gU:k7<8:=by omega
 obtain⟨gD,gz,gm⟩:=FU (k:=k7) (eu.kp aG (by have:=fE.o;omega)) Zr Zn;have⟨dA,aD,aB⟩:=jy (CJ (dz.ext wU.stays bf) aG b.1) ((eZ.kp bf.any b.1).kp aG b.1) ((eX.kp bf.any b.1).kp aG b.1);obtain⟨rm,nm,fJ,bT⟩:=CG dA gm;obtain⟨⟨iC,iG,rfl⟩,gW,-⟩:=id bT;have⟨aC,dn,ae⟩:=jy bT dI ((eO.trans bf.any).trans aG);have il:=iY gz;have gM:=iY fJ;have iA:(gD:Int)<11:=by omega
 clear aG dI fT bT cZ;have a:=Zy dn.o.below;have aF:=Zy ae.o.size;have er:Kp (·=r) w7 w7:=Kp.rr;obtain⟨w8,dL,e8,o8,f8⟩:=nS.one (Z:=1000) er ⟨#[107,101,101,112,101,114]⟩ Zn;have⟨df,dB,eQ,eF⟩:=jV (jO w8 r (p+1+1+1) v zs 6 (dn.ext f8) Zm Zm) dL o8 e8;clear dL e8 o8 f8 er;go_wp2_with fail;rw[<-dB.o];refine df.mono ?_;rintro o w9 ⟨⟨k,rfl,hk⟩,dJ,bP⟩;have fQ:k=0∨k=1∨k=2∨k=3∨k=4∨k=5:=by omega
 have⟨cu,aA,ay⟩:=jy (eQ.kp bP (fun aP o=>by have:=a.1;omega)) dJ (eF.o.trans bP);obtain⟨bH,hg⟩:∃bH,bH=w7.heap.size:=⟨_,rfl⟩;have az:Zz (nS 1000 w9 w7 (.slice (some ⟨bH,0,none⟩) 1 1) 1):=Zy (by rw[hg];exact cu);rw[<-hg];clear dJ bP hk df hg cu dB;rcases fQ with rfl|rfl|rfl|rfl|rfl|rfl
 . have x:=aA;have n:=ay;go_wp2_with (first
    |(refine jq _ rfl (.tmp 39) (.tmp 40) rfl az rfl (aD.kp n b.1).any rfl Zm n fun gG aZ aW c aU=>?_;have s:=Zy aW;have m:=Zy c;have u:=Zy (lu x a aU);clear aW c aU)
    |(refine jq _ rfl (.tmp 41) (.tmp 42) rfl s rfl (aB.kp m b.1).any rfl Zm m fun aY Z f d e=>?_;have t:=Zy f;have g:=Zy d;have q:=Zy (lu u a e);clear f d e)
    |(refine jq _ rfl (.tmp 43) (.tmp 44) rfl t rfl (aC.kp g b.1).any rfl Zm g fun bC D l i j=>?_;have I:=Zy l;have H:=Zy i;have F:=Zy (lu q a j);clear l i j)
    |fail)
   go_ret;exact⟨ug I aF Zm Zm,⟨_,by omega,F.o⟩,ae.o.trans H.o⟩
 . have x:=aA;have n:=ay;go_wp2_with (first
    |(refine jq _ rfl (.tmp 39) (.tmp 40) rfl az rfl (aD.kp n b.1).any rfl Zm n fun gG aZ aW c aU=>?_;have s:=Zy aW;have m:=Zy c;have u:=Zy (lu x a aU);clear aW c aU)
    |(refine jq _ rfl (.tmp 41) (.tmp 42) rfl s rfl (aB.kp m b.1).any rfl Zm m fun aY Z f d e=>?_;have t:=Zy f;have g:=Zy d;have q:=Zy (lu u a e);clear f d e)
    |(refine jq _ rfl (.tmp 43) (.tmp 44) rfl t rfl (aC.kp g b.1).any rfl Zm g fun bC D l i j=>?_;have I:=Zy l;have H:=Zy i;have F:=Zy (lu q a j);clear l i j)
    |fail)
   go_ret;exact⟨ug I aF Zm Zm,⟨_,by omega,F.o⟩,ae.o.trans H.o⟩
 . have x:=aA;have n:=ay;go_wp2_with (first
    |(obtain⟨aZ,B,c,y,h⟩:=mf.two (Z:=1000) n ⟨#[97,115,107,115,32,116,111,112,32,49]⟩ ⟨#[97,115,107,115,32,99,101,108,108,32,49]⟩ Zn Zn;rw[<-B];have s:=Zy (az.ext h);have m:=Zy c;have u:=Zy (x.ext h);have aa:=Zy y;clear B c y h;refine jq _ rfl (.tmp 48) (.tmp 49) rfl s rfl (mf.lit (n:=2) [⟨#[97,115,107,115,32,116,111,112,32,49]⟩,⟨#[97,115,107,115,32,99,101,108,108,32,49]⟩] aa rfl Zn) rfl Zm m fun aY Z f d e=>?_;have t:=Zy f;have g:=Zy d;have q:=Zy (lu u a e);clear f d e)
    |(refine jq _ rfl (.tmp 50) (.tmp 51) rfl t rfl (aC.kp g b.1).any rfl Zm g fun bC D l i j=>?_;have I:=Zy l;have H:=Zy i;have F:=Zy (lu q a j);clear l i j)
    |(obtain⟨aH,G,J,aQ,au,-⟩:=mf.fresh (Z:=1000) H ⟨#[107,101,101,112,101,114]⟩ Zn;rw[<-G];have aJ:=Zy (I.ext au);have aI:=Zy J;have aM:=Zy (F.ext au);have bD:=Zy aQ;clear G J aQ au;refine jq _ rfl (.tmp 53) (.tmp 54) rfl aJ rfl (mf.lit (n:=1) [⟨#[107,101,101,112,101,114]⟩] bD rfl Zn) rfl Zm aI fun dR bU V P C=>?_;have af:=Zy V;have E:=Zy P;have ai:=Zy (lu aM a C);clear V P C)
    |(refine jq _ rfl (.tmp 55) (.tmp 56) rfl af rfl (aD.kp E b.1).any rfl Zm E fun dS bV W z S=>?_;have ag:=Zy W;have L:=Zy z;have aj:=Zy (lu ai a S);clear W z S)
    |(refine jq _ rfl (.tmp 57) (.tmp 58) rfl ag rfl (aB.kp L b.1).any rfl Zm L fun gH bW aX A aV=>?_;have ah:=Zy aX;have N:=Zy A;have ak:=Zy (lu aj a aV);clear aX A aV)
    |fail)
   go_ret;exact⟨ug ah aF Zm Zm,⟨_,by omega,ak.o⟩,ae.o.trans N.o⟩
 . have x:=aA;have n:=ay;go_wp2_with (first
    |(obtain⟨aZ,B,c,y,h,-⟩:=mf.fresh (Z:=1000) n ⟨#[97,115,107,115,32,99,101,108,108,32,49]⟩ Zn;rw[<-B];have s:=Zy (az.ext h);have m:=Zy c;have u:=Zy (x.ext h);have aa:=Zy y;clear B c y h;refine jq _ rfl (.tmp 62) (.tmp 63) rfl s rfl (mf.lit (n:=1) [⟨#[97,115,107,115,32,99,101,108,108,32,49]⟩] aa rfl Zn) rfl Zm m fun aY Z f d e=>?_;have t:=Zy f;have g:=Zy d;have q:=Zy (lu u a e);clear f d e)
    |fail)
   obtain⟨D,bu⟩:∃K,K=Z.alloc (.cells #[.int .i64 0,.int .i64 7] 3):=⟨_,rfl⟩;have bK:Ext Z D:=by rw[bu];exact jr _
   have dY:Zz (hV D Z 3 #[.int .i64 0,.int .i64 7]):=Zy (by rw[bu];exact hV.new _ _ _);have⟨cz,fe,bY⟩:=jy (jO D r (p+1+1+1+1) v zs 2 (q.ext bK) Zm Zm) bu bK;have fA:=Zy q.o.below.1;clear bu bK;rw[<-fe.o];refine cz.mono ?_;rintro o aH ⟨⟨dM,rfl,fK⟩,dE,bg⟩;have gN:dM<2:=by omega
   obtain⟨ux,gp,fU⟩:=FU (k:=dM) (dY.kp bg (by have:=fA.o;omega)) Zr Zn;have J:=(g.trans bY.any).trans bg;obtain⟨rx,nx,fG,bQ⟩:=CG (CJ dA J b.1) fU;obtain⟨⟨iE,iI,rfl⟩,gY,-⟩:=id bQ;have eU:=Zy bQ.any;have⟨aJ,aM,aI⟩:=jy ((t.ext bY).kp bg (fun aP o=>by have:=a.1;omega)) dE J;have ib:=iY gp;have gJ:=iY fG;have iq:(ux:Int)<11:=by omega
   clear bg dE fK bQ cz J;go_wp2_with (first
    |(refine jq _ rfl (.tmp 64) (.tmp 72) rfl aJ rfl eU rfl Zm aI fun dR bU V P C=>?_;have af:=Zy V;have E:=Zy P;have ai:=Zy (lu aM a C);clear V P C)
    |(refine jq _ rfl (.tmp 73) (.tmp 74) rfl af rfl (aC.kp E b.1).any rfl Zm E fun dS bV W z S=>?_;have ag:=Zy W;have L:=Zy z;have aj:=Zy (lu ai a S);clear W z S)
    |(obtain⟨bW,aT,A,aR,av,-⟩:=mf.fresh (Z:=1000) L ⟨#[107,101,101,112,101,114]⟩ Zn;rw[<-aT];have ah:=Zy (ag.ext av);have N:=Zy A;have ak:=Zy (aj.ext av);have bE:=Zy aR;clear aT A aR av;refine jq _ rfl (.tmp 76) (.tmp 77) rfl ah rfl (mf.lit (n:=1) [⟨#[107,101,101,112,101,114]⟩] bE rfl Zn) rfl Zm N fun dU dW X Q T=>?_;have aK:=Zy X;have O:=Zy Q;have aN:=Zy (lu ak a T);clear X Q T)
    |(refine jq _ rfl (.tmp 78) (.tmp 79) rfl aK rfl (aD.kp O b.1).any rfl Zm O fun dV dX Y R U=>?_;have aL:=Zy Y;have ax:=Zy R;have aO:=Zy (lu aN a U);clear Y R U)
    |(refine jq _ rfl (.tmp 80) (.tmp 81) rfl aL rfl (aB.kp ax b.1).any rfl Zm ax fun iJ iK dO dD dN=>?_;have eP:=Zy dO;have eD:=Zy dD;have eT:=Zy (lu aO a dN);clear dO dD dN)
    |fail)
   go_ret;exact⟨ug eP aF Zm Zm,⟨_,by omega,eT.o⟩,ae.o.trans eD.o⟩
 . have x:=aA;have n:=ay;go_wp2_with (first
    |(obtain⟨aZ,B,c,y,h⟩:=mf.two (Z:=1000) n ⟨#[97,115,107,115,32,99,101,108,108,32,49]⟩ ⟨#[97,115,107,115,32,116,111,112,32,50]⟩ Zn Zn;rw[<-B];have s:=Zy (az.ext h);have m:=Zy c;have u:=Zy (x.ext h);have aa:=Zy y;clear B c y h;refine jq _ rfl (.tmp 85) (.tmp 86) rfl s rfl (mf.lit (n:=2) [⟨#[97,115,107,115,32,99,101,108,108,32,49]⟩,⟨#[97,115,107,115,32,116,111,112,32,50]⟩] aa rfl Zn) rfl Zm m fun aY Z f d e=>?_;have t:=Zy f;have g:=Zy d;have q:=Zy (lu u a e);clear f d e)
    |(refine jq _ rfl (.tmp 87) (.tmp 88) rfl t rfl (aC.kp g b.1).any rfl Zm g fun bC D l i j=>?_;have I:=Zy l;have H:=Zy i;have F:=Zy (lu q a j);clear l i j)
    |(obtain⟨aH,G,J,aQ,au⟩:=mf.two (Z:=1000) H ⟨#[107,101,101,112,101,114]⟩ ⟨#[97,115,107,115,32,116,111,112,32,50]⟩ Zn Zn;rw[<-G];have aJ:=Zy (I.ext au);have aI:=Zy J;have aM:=Zy (F.ext au);have bD:=Zy aQ;clear G J aQ au;refine jq _ rfl (.tmp 90) (.tmp 91) rfl aJ rfl (mf.lit (n:=2) [⟨#[107,101,101,112,101,114]⟩,⟨#[97,115,107,115,32,116,111,112,32,50]⟩] bD rfl Zn) rfl Zm aI fun dR bU V P C=>?_;have af:=Zy V;have E:=Zy P;have ai:=Zy (lu aM a C);clear V P C)
    |(refine jq _ rfl (.tmp 92) (.tmp 93) rfl af rfl (aB.kp E b.1).any rfl Zm E fun dS bV W z S=>?_;have ag:=Zy W;have L:=Zy z;have aj:=Zy (lu ai a S);clear W z S)
    |(obtain⟨bW,aT,A,aR,av,-⟩:=mf.fresh (Z:=1000) L ⟨#[107,101,101,112,101,114]⟩ Zn;rw[<-aT];have ah:=Zy (ag.ext av);have N:=Zy A;have ak:=Zy (aj.ext av);have bE:=Zy aR;clear aT A aR av;refine jq _ rfl (.tmp 95) (.tmp 96) rfl ah rfl (mf.lit (n:=1) [⟨#[107,101,101,112,101,114]⟩] bE rfl Zn) rfl Zm N fun dU dW X Q T=>?_;have aK:=Zy X;have O:=Zy Q;have aN:=Zy (lu ak a T);clear X Q T)
    |(refine jq _ rfl (.tmp 97) (.tmp 98) rfl aK rfl (aD.kp O b.1).any rfl Zm O fun dV dX Y R U=>?_;have aL:=Zy Y;have ax:=Zy R;have aO:=Zy (lu aN a U);clear Y R U)
    |fail)
   go_ret;exact⟨ug aL aF Zm Zm,⟨_,by omega,aO.o⟩,ae.o.trans ax.o⟩
 . have x:=aA;have n:=ay;go_wp2_with (first
    |(obtain⟨aZ,B,c,y,h⟩:=mf.two (Z:=1000) n ⟨#[97,115,107,115,32,116,111,112,32,49]⟩ ⟨#[97,115,107,115,32,99,101,108,108,32,49]⟩ Zn Zn;rw[<-B];have s:=Zy (az.ext h);have m:=Zy c;have u:=Zy (x.ext h);have aa:=Zy y;clear B c y h;refine jq _ rfl (.tmp 100) (.tmp 101) rfl s rfl (mf.lit (n:=2) [⟨#[97,115,107,115,32,116,111,112,32,49]⟩,⟨#[97,115,107,115,32,99,101,108,108,32,49]⟩] aa rfl Zn) rfl Zm m fun aY Z f d e=>?_;have t:=Zy f;have g:=Zy d;have q:=Zy (lu u a e);clear f d e)
    |(refine jq _ rfl (.tmp 102) (.tmp 103) rfl t rfl (aC.kp g b.1).any rfl Zm g fun bC D l i j=>?_;have I:=Zy l;have H:=Zy i;have F:=Zy (lu q a j);clear l i j)
    |fail)
   obtain⟨aH,G⟩:∃K,K=D.alloc (.cells #[.string ⟨#[97,115,107,115,32,116,111,112,32,48]⟩,.string ⟨#[97,115,107,115,32,99,101,108,108,32,49]⟩,.string ⟨#[97,115,107,115,32,110,111,110,101,32,48]⟩] 9):=⟨_,rfl⟩;have bL:Ext D aH:=by rw[G];exact jr _
   have dZ:Zz (hV aH D 9 #[.string ⟨#[97,115,107,115,32,116,111,112,32,48]⟩,.string ⟨#[97,115,107,115,32,99,101,108,108,32,49]⟩,.string ⟨#[97,115,107,115,32,110,111,110,101,32,48]⟩]):=Zy (by rw[G];exact hV.new _ _ _);have⟨cB,fo,bZ⟩:=jy (jO aH r (p+1+1+1+1) v zs 3 (F.ext bL) Zm Zm) G bL;have fB:=Zy F.o.below.1;clear G bL;rw[<-fo.o];refine cB.mono ?_;rintro o bU ⟨⟨C,rfl,fM⟩,dF,bn⟩;have gP:C<3:=by omega
   obtain⟨sx,gq,gZ⟩:=qG (k:=C) (dZ.kp bn (by have:=fB.o;omega)) Zr Zn;have⟨af,ai,E⟩:=jy ((I.ext bZ).kp bn (fun aP o=>by have:=a.1;omega)) dF ((H.o.trans bZ.o.any).trans bn);have ic:=iY gq;clear bn dF fM cB;go_wp2_with (first
    |(obtain⟨bV,dK,z,dC,bG⟩:=mf.two (Z:=1000) E ⟨#[107,101,101,112,101,114]⟩ sx Zn Zm;rw[<-dK];have ag:=Zy (af.ext bG);have L:=Zy z;have aj:=Zy (ai.ext bG);have eB:=Zy dC;clear dK z dC bG;refine jq _ rfl (.tmp 105) (.tmp 111) rfl ag rfl (mf.lit (n:=2) [⟨#[107,101,101,112,101,114]⟩,sx] eB rfl (Qt Zn Zm)) rfl Zm L fun gH bW aX A aV=>?_;have ah:=Zy aX;have N:=Zy A;have ak:=Zy (lu aj a aV);clear aX A aV)
    |(refine jq _ rfl (.tmp 112) (.tmp 113) rfl ah rfl (aD.kp N b.1).any rfl Zm N fun dU dW X Q T=>?_;have aK:=Zy X;have O:=Zy Q;have aN:=Zy (lu ak a T);clear X Q T)
    |(refine jq _ rfl (.tmp 114) (.tmp 115) rfl aK rfl (aB.kp O b.1).any rfl Zm O fun dV dX Y R U=>?_;have aL:=Zy Y;have ax:=Zy R;have aO:=Zy (lu aN a U);clear Y R U)
    |fail)
   go_ret;exact⟨ug aL aF Zm Zm,⟨_,by omega,aO.o⟩,ae.o.trans ax.o⟩
def IB(w w':World)(e:Ending):Prop:=∃(n m:ByteArray) (a:Option Addr) (c:Nat) (args:List Int),e=.returned (.tuple #[.string n,.string m,.slice a args.length c])∧SliceOf 1 oQ w' (fun b=>w.heap.size<=b) (.slice a args.length c) args∧args.length<=1∧n.size<=20∧m.size<=20
theorem GK{w d:World}{g:Nat}{n m:ByteArray}(b:n.size<=20)(a:m.size<=20):IB w d (.returned (.tuple #[n,m,.slice (some ⟨g,0,none⟩) 0 0])):=
 ⟨n,m,_,_,[],rfl,⟨_,_,rfl,Nat.le_refl _,by simp,fun e f c=>by simp at c⟩,by simp,b,a⟩
theorem yu{w a:World}{g c:Nat}{n m:ByteArray}{x:Int}(d:hH a g 0 [x])(e:w<=g)(b:1<=c)(h:n.size<=20)(f:m.size<=20):IB w a (.returned (.tuple #[n,m,.slice (some ⟨g,0,none⟩) 1 c])):=
 ⟨n,m,_,_,[x],rfl,SliceOf.row (R:=oQ) (xs:=[x]) [[x]] d rfl Zl ⟨rfl,trivial⟩ e b Zl,by simp,h,f⟩
theorem Ow{k:Nat}(cs:List Value)(e:k<cs.length)(c:cs.all JW=true):∃b:ByteArray,(∀c:k<cs.length,cs[k]'c=.string b)∧b.size<=20:=by
 have a:=List.all_eq_true.1 c cs[k] Zl;unfold JW at a;split at a
 . rename_i b d;exact⟨b,fun _=>d,by simpa using a⟩
 . cases a
theorem Lf(w:World)(a p:Nat)(v:Value)(j:List Int)(q:nT w a v j p)(hp:p<=700000):Calls prog 13 #[some a] w fun l B=>IB w B l∧(∃Q,Q<=p+10∧nT B a v j Q)∧Kp (·=a) w B:=by
 have X:=Zy q.below;obtain⟨S,N,r,I⟩:=nu w #[.int .i64 0,.int .i64 1,.int .i64 3,.int .i64 5,.int .i64 (-1),.int .i64 9999] 3;have⟨F,V,Y⟩:=jy (jO S a p v j 6 (q.ext r) Zm Zm) I N;have D:Zz (Kp (·=a) w S):=Zy r.any;clear q N r I;go_enter func13,ntmps13;go_wp2_with fail;rw[<-Y.o];refine F.o.mono ?_;rintro l T ⟨⟨k,rfl,hk⟩,u,m⟩;have aj:k<6:=by omega
 obtain⟨ag,P,-,-⟩:=uK (k:=k) (V.o.kp m (by have:=X.o.1;omega)) Zr Zn;obtain⟨w3,O,s,J⟩:=nu T #[ag] 3;have af:=iY P;have⟨G,C,Z,W⟩:=jV (jO w3 a (p+1) v j 12 (u.ext s) Zm Zm) J O ((D.o.trans m).trans s.any);obtain⟨d,M⟩:∃d,d=T.heap.size:=⟨_,rfl⟩;have i:Zz (w.heap.size<=d):=Zy (by have:=D.o.size;have:=m.size;omega);have o:Zz (d≠a):=Zy (by have:=u.below.1;omega);clear O s J u m hk F;go_wp2_with fail;rw[<-Z.o];refine G.o.mono ?_;rintro l g ⟨⟨f,rfl,ht⟩,K,t⟩;have ae:f=0∨f=1∨f=2∨f=3∨f=4∨f=5∨(6<=f∧f<12):=by omega
 rw[<-M]at C ⊢;have⟨h,b,c⟩:=jy (C.o.kp t o.o) (W.o.trans t) K;clear K t ht G P af M;rcases ae with rfl|rfl|rfl|rfl|rfl|rfl|⟨t6,au⟩
 . go_wp2_with fail;refine bodyPost_ret (v:=.tuple #[.string ⟨#[116,111,112]⟩,.string ⟨#[103,101,116]⟩,.slice (some ⟨g.heap.size,0,none⟩) 0 0]) (by simp[results,results13,go_sem]) rfl ?_;exact⟨GK Zn Zn,⟨_,by omega,c.o.ext (jr _)⟩,b.o.trans (jr _)⟩
 . go_wp2_with fail;refine bodyPost_ret (v:=.tuple #[.string ⟨#[99,101,108,108]⟩,.string ⟨#[103,101,116]⟩,.slice (some ⟨g.heap.size,0,none⟩) 0 0]) (by simp[results,results13,go_sem]) rfl ?_;exact⟨GK Zn Zn,⟨_,by omega,c.o.ext (jr _)⟩,b.o.trans (jr _)⟩
 . have aa:=Zy b.o.size;go_wp2_with fail;refine bodyPost_ret (v:=.tuple #[.string ⟨#[109,97,105,110]⟩,.string ⟨#[114,117,110]⟩,.slice (some ⟨g.heap.size,0,none⟩) 1 1]) (by simp[results,results13,go_sem]) rfl ?_;exact⟨yu (hH.ny _ _ rfl) aa.o (Nat.le_refl _) Zn Zn,⟨_,by omega,c.o.ext (jr _)⟩,b.o.trans (jr _)⟩
 . go_wp2_with fail;refine bodyPost_ret (v:=.tuple #[.string ⟨#[109,97,105,110]⟩,.string ⟨#[110,111,110,101]⟩,.slice (some ⟨d,0,none⟩) 1 1]) (by simp[results,results13,go_sem]) rfl ?_;exact⟨yu (hH.lV h.o) i.o (Nat.le_refl _) Zn Zn,⟨_,by omega,c.o⟩,b.o⟩
 . go_wp2_with fail;refine bodyPost_ret (v:=.tuple #[.string ⟨#[65]⟩,.string ⟨#[114,117,110]⟩,.slice (some ⟨d,0,none⟩) 1 1]) (by simp[results,results13,go_sem]) rfl ?_;exact⟨yu (hH.lV h.o) i.o (Nat.le_refl _) Zn Zn,⟨_,by omega,c.o⟩,b.o⟩
 . go_wp2_with fail;refine bodyPost_ret (v:=.tuple #[.string ⟨#[116,111,112]⟩,.string ⟨#[98,117,109,112]⟩,.slice (some ⟨d,0,none⟩) 1 1]) (by simp[results,results13,go_sem]) rfl ?_;exact⟨yu (hH.lV h.o) i.o (Nat.le_refl _) Zn Zn,⟨_,by omega,c.o⟩,b.o⟩
 . go_upto_region 15 with(fail);first|(go_region_with (go_at_call 38;refine(jO _ a (p+1+1) v j 4 (c.o.ext kx) Zm Zm).mono ?_;rintro l U ⟨⟨A,rfl,hj⟩,L,e⟩;(have ai:A<4:=by omega);have H:=Zy L;have ah:=Zy e;clear L hj;(first|(with_reducible change Kp (·=a) (g.alloc (.cells #[.string ⟨#[114,117,110]⟩,.string ⟨#[114,117,110]⟩,.string ⟨#[115,117,109]⟩,.string ⟨#[99,97,115,116]⟩] 9)).drew U at e;have E:=Zy (((jr _).drew).trans e);have y:=qG (k:=A) (((hV.new g 9 #[.string ⟨#[114,117,110]⟩,.string ⟨#[114,117,110]⟩,.string ⟨#[115,117,109]⟩,.string ⟨#[99,97,115,116]⟩]).ext (jf)).kp e (by have:=c.o.below.1;omega)) Zr Zn;clear e;obtain⟨R,x,z⟩:=y;have ak:=iY x)|(with_reducible change Kp (·=a) g.drew U at e;have E:=Zy ((jf).trans e);have y:=Ow (k:=A) [.string ⟨#[114,117,110]⟩,.string ⟨#[114,117,110]⟩,.string ⟨#[115,117,109]⟩,.string ⟨#[99,97,115,116]⟩] Zr Zn;clear e;obtain⟨R,x,z⟩:=y))))|fail
   all_goals
    go_wp2_with fail;refine bodyPost_ret (v:=.tuple #[.string ⟨#[109,97,105,110]⟩,R,.slice (some ⟨d,0,none⟩) 1 1]) (by simp[results,results13,go_sem,x]) rfl ?_;have n:=(Kp.refl (·=a) g).trans E.o;first
    |exact⟨yu (hH.lV (h.o.kp n o.o)) i.o (Nat.le_refl _) Zn z,⟨_,by omega,H.o⟩,b.o.trans n⟩
    |exact⟨yu (hH.lV ((h.o.kp n o.o).ext (jr _))) i.o (Nat.le_refl _) Zn z,⟨_,by omega,H.o.ext (jr _)⟩,(b.o.trans n).trans (jr _)⟩
theorem Ig {w: World} (I : Nat -> Prop) {cs: List Value} (c : M.nk) (H : jc w I c cs) (p : M.hZ) (N : Int) (ax : N = p.length) (aM : 0 <= N) (aN : N <= 1000) :Calls prog 142 #[.agg cs.toArray,N] w fun o w'=>o=.returned (.bool (M.kr p c))∧Ext w w':=by
 have aB:=Zy ax;clear ax;obtain⟨vf,vm,rfl,T,A⟩:=H;obtain⟨a1,m1,rfl,aO,aK⟩:=T.form;obtain⟨a2,m2,rfl,aP,aL⟩:=A.form;obtain⟨w0,ay,aj,hb⟩:=nu w #[.slice a1 c.owns.length m1,.slice a2 c.asks.length m2] 90;obtain⟨cz,c2,c3,-⟩:=hb.ca;have⟨HF,HM,l,Q⟩:=jV T A aj ay;clear aj hb ay T A;by_cases h5:5<c.owns.length
 . have ai:decide ((5:Int)<c.owns.length)=true:=decide_eq_true Zm;go_enter func142,ntmps142;go_wp2_with fail;rw[<-Q.o];go_wp2_with fail;go_ret;exact⟨hQ (by unfold M.kr;rw[decide_eq_false (show¬c.owns.length<=5 by omega)];rfl),l⟩
 have ai:decide ((5:Int)<c.owns.length)=false:=decide_eq_false Zm;by_cases h4:4<c.asks.length
 . have ah:decide ((4:Int)<c.asks.length)=true:=decide_eq_true Zm;go_enter func142,ntmps142;go_wp2_with fail;rw[<-Q.o];go_wp2_with fail;go_ret;exact⟨hQ (by unfold M.kr;rw[decide_eq_false (show¬c.asks.length<=4 by omega)];simp),l⟩
 have ae:Zz (M.kr p c=(M.jI M.Class.name M.nV c.owns []&&M.jI M.Ask.name (fun g=>M.jC g.name&&M.has p g.keeper) c.asks [])):=Zy (by unfold M.kr;rw[decide_eq_true (show c.owns.length<=5 by omega),decide_eq_true (show c.asks.length<=4 by omega)];rfl);have ah:decide ((4:Int)<c.asks.length)=false:=decide_eq_false Zm;go_enter func142,ntmps142;go_wp2_with fail;rw[<-Q.o];go_wp2_with fail;go_loopw [5] (fun i wr=>∃d:Nat,d<=c.owns.length∧i=.int .i64 d∧Ext w0 wr∧Zz (M.jI M.Class.name M.nV (c.owns.take d) []=true)) (fun i _=>c.owns.length - (intOf i).toNat)
 case atStart=>exact⟨0,Nat.zero_le _,rfl,Kp.rr,Zy rfl⟩
 case round =>
  obtain⟨d,hk,rfl,u,t⟩:=hrel;have C:=Zy u;have S:=u.jb c2;have d3:=u.jb c3;have dz:=iY S;clear c2 c3 cz ai ah;by_cases au:d<c.owns.length
  . have dk:(d:Int)<c.owns.length:=by omega
    obtain⟨k,x⟩:∃k,c.owns[d]?=some k:=⟨c.owns[d]'au,List.getElem?_eq_getElem au⟩;obtain⟨R,aa,cs,rfl,hI,V,-,K⟩:=HF.get x;obtain⟨ma,mu,mb,mv,rfl⟩:=V.form;have ak:=jv.stays _ _ _ _ _ _ (Ext.same (l.trans C)) (fun _ H=>H) V;obtain⟨F,G,g2,g3⟩:=(K.ext (l.trans u)).four;have P:=Zy ((HF.take (i:=d) Zm).ext jv.stays (l.trans u));have L:(c.owns.take d).length=d:=by rw[List.length_take];omega
    obtain⟨aC,aF,aI,m⟩:=kY wr;have y0:=fun f=>(m.jm f).jb F;have y1:=fun f=>(m.jm f).jb G;have y2:=fun f=>(m.jm f).jb g2;have y3:=fun f=>(m.jm f).jb g3;have ye:=fun f=>(m.jm f).jb S;have e:=Zy m;have aA:=Zy ak;have⟨az,r⟩:=je L (M.wC (name:=M.Class.name) (ok:=M.nV) x);have y:Zz (M.jI M.Class.name M.nV (c.owns.take (d+1)) []=false->M.kr p c=false):=Zy fun o=>by rw[ae.o,M.yD o];rfl
    clear m u K x F G g2 g3 dz L V ak;go_wp2_with fail;have h:Ext wr wr.drew:=jf;refine kD e 22 [([0,1,2,3,4],5),([6,7,8,9,10,11,12,13,14,15,16,17,18],19)] [20,21] ?_ ?_
    . exact jf
    refine lS ?_;intro b a;go_wp2_with fail;refine(ND I k (jv.stays _ _ _ _ _ _ (Ext.same h) (fun _ H=>H) aA)).mono ?_;rintro o w2 ⟨rfl,aG⟩;obtain⟨q2,v⟩:∃j,M.nV k=j:=⟨_,rfl⟩;have E:=Zy v;rw[v];clear v;have B:=h.trans aG;cases q2
    . go_wp2_with fail;refine kk e a B ?_;clear a b;refine lS ?_;intro b a;go_wp2_with fail;refine kk e a B ?_;clear a b;refine sK ?_;go_wp2_with fail;go_ret;exact⟨hQ (y (by rw[r.o,E.o];simp)).symm,(l.trans C).trans B⟩
    go_wp2_with fail;refine kk e a B ?_;clear a b;refine lS ?_;intro b a;go_wp2_with fail;refine(NH I (.slice (some ⟨R,aa,none⟩) d m1) () (c.owns.take d) (P.ext jv.stays B) k.name).mono ?_;rintro o w3 ⟨⟨Z,rfl,s⟩,U⟩;have q:=B.trans U;obtain⟨j,X⟩:∃j,decide (0<=Z)=j:=⟨_,rfl⟩;simp only[nC]at s;rw[X]at s;have D:=Zy s;clear s;cases j
    . go_wp2_with fail;refine kk e a q ?_;clear a b;refine sK ?_;go_wp2_with fail;go_round
      case rel=>exact⟨d+1,by omega,by go_num,C.o.trans q,Zy (by rw[r.o,t.o,E.o,<-D.o];rfl)⟩
      case measure=>simp[intOf];omega
    . go_wp2_with fail;refine kk e a q ?_;clear a b;refine sK ?_;go_wp2_with fail;go_ret;exact⟨hQ (y (by rw[r.o,<-D.o];simp)).symm,(l.trans C).trans q⟩
  . have dk : ¬ (d : Int) < c.owns.length := by omega
    obtain⟨wo,rfl⟩:∃wo:World,wo=wr:=⟨_,rfl⟩;have af:Zz (M.kr p c=M.jI M.Ask.name (fun g=>M.jC g.name&&M.has p g.keeper) c.asks []):=Zy (by have:=t.o;rw[List.take_of_length_le Zm]at this;rw[ae.o,this];rfl);clear u t;go_wp2_with fail;go_loopw [6] (fun i wr=>∃d:Nat,d<=c.asks.length∧i=.int .i64 d∧Ext wo wr∧Zz (M.jI M.Ask.name (fun g=>M.jC g.name&&M.has p g.keeper) (c.asks.take d) []=true)) (fun i _=>c.asks.length - (intOf i).toNat)
    case atStart=>exact⟨0,Nat.zero_le _,rfl,Kp.rr,Zy rfl⟩
    case round =>
     obtain⟨n,aJ,rfl,J,t⟩:=hrel;have⟨z,aH⟩:=je (C.trans J) J;have e3:=J.jb d3;have ez:=iY e3;clear S d3 dz;by_cases av:n<c.asks.length
     . have aD:(n:Int)<c.asks.length:=by omega
       obtain⟨k,x⟩:∃k,c.asks[n]?=some k:=⟨c.asks[n]'av,List.getElem?_eq_getElem av⟩;obtain⟨R,aa,cs,rfl,hI,rfl,-,K⟩:=HM.get x;obtain⟨F,G⟩:=(K.ext (l.trans z)).two;have P:=Zy ((HM.take (i:=n) Zm).ext rW.stays (l.trans z));have L:(c.asks.take n).length=n:=by rw[List.length_take];omega
       obtain⟨aC,aF,aI,m⟩:=kY wr;have y0:=fun f=>(m.jm f).jb F;have y1:=fun f=>(m.jm f).jb G;have ye:=fun f=>(m.jm f).jb e3;have⟨e,az,r⟩:=jy m L (M.wC (name:=M.Ask.name) (ok:=fun g=>M.jC g.name&&M.has p g.keeper) x);have y:Zz (M.jI M.Ask.name (fun g=>M.jC g.name&&M.has p g.keeper) (c.asks.take (n+1)) []=false->M.kr p c=false):=Zy fun o=>by rw[af.o,M.yD o]
       clear m J K x F G ez L;go_wp2_with fail;have h:Ext wr wr.drew:=jf;refine kD e 35 [([0,1,2,3,4,5],6),([7,8,9,10,11,12,13,14,15,16],17),([18,19,20,21,22,23,24,25,26,27,28,29,30,31],32)] [33,34] ?_ ?_
       . exact jf
       refine lS ?_;intro b a;go_wp2_with fail;refine(kF _ _).mono ?_;rintro o w1 ⟨rfl,rfl⟩;obtain⟨q1,Y⟩:∃j,M.jC k.name=j:=⟨_,rfl⟩;have ag:=Zy Y;rw[Y];clear Y;cases q1
       . go_wp2_with fail;refine kk e a h ?_;clear a b;refine lS ?_;intro b a;go_wp2_with fail;refine kk e a h ?_;clear a b;refine lS ?_;intro b a;go_wp2_with fail;refine kk e a h ?_;clear a b;refine sK ?_;go_wp2_with fail;go_ret;exact⟨hQ (y (by rw[r.o,ag.o];simp)).symm,(l.trans z).trans h⟩
       go_wp2_with fail;refine kk e a h ?_;clear a b;refine lS ?_;intro b a;go_wp2_with fail;refine(qC).mono ?_;rintro o w' ⟨rfl,rfl⟩;obtain⟨q2,v⟩:∃j,(decide ((0:Int)<=k.keeper)&&decide (k.keeper<=N - 1))=j:=⟨_,rfl⟩;have E:Zz (M.has p k.keeper=q2):=Zy (by
        rw[<-v];unfold M.has;congr 1;exact decide_eq_decide.2 (by have:=aB.o;omega))
       rw[v];clear v;cases q2
       . go_wp2_with fail;refine kk e a h ?_;clear a b;refine lS ?_;intro b a;go_wp2_with fail;refine kk e a h ?_;clear a b;refine sK ?_;go_wp2_with fail;go_ret;exact⟨hQ (y (by rw[r.o,E.o];simp)).symm,(l.trans z).trans h⟩
       go_wp2_with fail;refine kk e a h ?_;clear a b;refine lS ?_;intro b a;go_wp2_with fail;refine(Lp I (.slice (some ⟨R,aa,none⟩) n m2) () (c.asks.take n) (P.ext rW.stays h) k.name).mono ?_;rintro o w3 ⟨⟨Z,rfl,s⟩,U⟩;have q:=h.trans U;obtain⟨j,X⟩:∃j,decide (0<=Z)=j:=⟨_,rfl⟩;have D:Zz (j=(c.asks.take n).any fun O=>decide (O.name=k.name)):=Zy (by
        simp only[nC]at s;rw[<-X];rcases s with⟨O,hy,W,rfl⟩|⟨W,rfl⟩
        . rw[List.any_eq_true.2 ⟨O,hy,W⟩];have A:=M.qQ t O hy;simp only[Bool.and_eq_true]at A;exact decide_eq_true (M.Cy.1 A.2).1
        . rw[W];rfl)
       clear s;cases j
       . go_wp2_with fail;refine kk e a q ?_;clear a b;refine sK ?_;go_wp2_with fail;go_round
         case rel=>exact⟨n+1,by omega,by go_num,aH.o.trans q,Zy (by rw[r.o,t.o,ag.o,E.o,<-D.o];rfl)⟩
         case measure=>simp[intOf];omega
       . go_wp2_with fail;refine kk e a q ?_;clear a b;refine sK ?_;go_wp2_with fail;go_ret;exact⟨hQ (y (by rw[r.o,<-D.o];simp)).symm,(l.trans z).trans q⟩
     . have aD:¬(n:Int)<c.asks.length:=by omega
       clear J;go_wp2_with fail;go_ret;exact⟨hQ (by have:=t.o;rw[List.take_of_length_le Zm]at this;rw[af.o,this]),l.trans z⟩
theorem NF{w:World}{I:Nat->Prop}{v:Value}(p:M.hZ)(b:SliceOf 2 jc w I v p):Calls prog 93 #[.agg #[v]] w fun n N=>n=.returned (.bool (M.kU p))∧Ext w N:=by
 obtain⟨R,W,rfl,af,ae⟩:=b.form;obtain⟨X,L,F,H⟩:=nu w #[.slice R p.length W] 25;obtain⟨S,A,-⟩:=H.ca;have⟨O,c,Q⟩:=jy b F L;clear F H L b;go_enter func93,ntmps93;go_wp2_with fail;rw[<-Q.o];go_wp2_with fail;refine(qC).mono ?_;rintro n N ⟨rfl,rfl⟩;obtain⟨q1,j⟩:∃t,(decide ((1:Int)<=p.length)&&decide ((p.length:Int)<=3))=t:=⟨_,rfl⟩;have l:Zz (M.kU p=(q1&&p.all (M.kr p))):=Zy (by
  unfold M.kU;rw[<-j];congr 2
  . exact decide_eq_decide.2 Zm
  . exact decide_eq_decide.2 Zm)
 rw[j];cases q1
 . go_wp2_with fail;go_ret;exact⟨hQ (by rw[l.o];rfl),c⟩
 have ah:(p.length:Int)<=3:=by simp at j;omega
 clear j;go_wp2_with fail;go_loopw [3] (fun s wr=>∃a:Nat,a<=p.length∧s=.int .i64 a∧Ext X wr∧Zz ((p.take a).all (M.kr p)=true)) (fun s _=>p.length - (intOf s).toNat)
 case atStart=>exact⟨0,Nat.zero_le _,rfl,Kp.rr,Zy Zl⟩
 case round =>
  obtain⟨a,hk,rfl,e,u⟩:=hrel;have g:=Zy e;have B:=e.jb A;have U:=iY B;clear A S;by_cases K:a<p.length
  . have T:(a:Int)<p.length:=by omega
    obtain⟨k,r⟩:∃k,p[a]?=some k:=⟨p[a]'K,List.getElem?_eq_getElem K⟩;obtain⟨Z,ai,cs,rfl,hI,o,-,J⟩:=O.get r;obtain⟨ma,mu,mb,mv,rfl⟩:=o.form;have G:=jc.stays _ _ _ _ _ _ (Ext.same (c.trans g)) (fun _ b=>b) o;obtain⟨C,D⟩:=(J.ext (c.trans e)).two;obtain⟨Y,aa,ag,d⟩:=kY wr;have y0:=fun f=>(d.jm f).jb C;have y1:=fun f=>(d.jm f).jb D;have ye:=fun f=>(d.jm f).jb B;have m:=Zy d;have P:=Zy G;have y:=Zy r;clear d e J r C D U o G;go_wp2_with fail;have E:Ext wr wr.drew:=jf;refine kD m 10 [([0,1,2,3,4,5,6,7],8)] [9] ?_ ?_
    . exact jf
    refine lS ?_;intro z i;go_wp2_with fail;refine(Ig I k (jc.stays _ _ _ _ _ _ (Ext.same E) (fun _ b=>b) P) p p.length rfl Zm Zm).mono ?_;rintro n w2 ⟨rfl,V⟩;obtain⟨q2,q⟩:∃t,M.kr p k=t:=⟨_,rfl⟩;have x:=Zy q;rw[q];clear q;have h:=E.trans V;cases q2
    . go_wp2_with fail;refine kk m i h ?_;clear i z;refine sK ?_;go_wp2_with fail;go_ret;exact⟨hQ (by rw[l.o,M.Ct y.o x.o];rfl),(c.trans g).trans h⟩
    . go_wp2_with fail;refine kk m i h ?_;clear i z;refine sK ?_;go_wp2_with fail;go_round
      case rel=>exact⟨a+1,by omega,by go_num,g.o.trans h,Zy (M.CS y.o x.o u.o)⟩
      case measure=>simp[intOf];omega
  . have T:¬(a:Int)<p.length:=by omega
    clear e;go_wp2_with fail;go_ret;exact⟨hQ (by have:=u.o;rw[List.take_of_length_le Zm]at this;rw[l.o,this];rfl),c.trans g⟩
def LP(F:M.hZ->Prop)(w w':World)(e:Ending):Prop:=∃p v n,e=.returned (.tuple #[.agg #[v],.int .i64 n])∧SliceOf 2 jc w' (fun b=>w.heap.size<=b∧b<w'.heap.size) v p∧0<=n∧(p=[]∨(M.kU p=true∧F p))
theorem wI{F:M.hZ->Prop}{w wc:World}(p:M.hZ){v:Value}(g:Ext w wc)(j:SliceOf 2 jc wc (fun a=>w+1<=a) v p)(n:Int)(h:0<=n)(i:p=[]∨(M.kU p=true∧F p))(d:Value):LP F w (wc.setCell w d) (.returned (.tuple #[.agg #[v],n]))∧Ext w (wc.setCell w d):=by
 have e:Kp (·=w) wc (wc.setCell w d):=(Kp.refl (·=w) wc).setCell (p:=⟨w,0,none⟩) (fun _=>rfl) _;have k:=j.keep (J:=fun a=>w+1<=a) jc.stays (e.same fun a b f=>by omega) (fun a b=>b);have l:=k.inside (fun _ _ _ _ c=>jc.inside c) Zm;exact⟨⟨p,v,n,rfl,l.keep jc.stays (fun _ _ _ _ c=>c) (fun a b=>⟨by omega,b.2⟩),h,i⟩,g.own e fun a f=>by omega⟩
theorem Am(Q:Nat->M.hZ->Prop)(w:World)(I:Nat->Prop)(v:Value)(c:List ByteArray)(Y:SliceOf 1 kS w I v c)(aS:∀bK∈c,bK.size<=1000000)(aP:Q 0 [])(aR:∀b p d t,c[b]?=some t->Q b p->JG t p d->Q (b+1) d):Calls prog 36 #[v] w fun n w'=>LP (Q c.length) w w' n∧Ext w w':=by
 obtain⟨bM,bN,rfl,bQ,bR⟩:=Y.form;by_cases hl:400<c.length
 . have bI:(400:Int)<c.length:=by omega
   have J:=Zy (fun(l:Int) (E:0<=l) G=>wI (F:=Q c.length) (w:=w) (wc:=w.alloc (.cells #[()] 25)) [] (jr _) (SliceOf.nil _ _ _ _) l E (.inl rfl) G);clear Y;go_enter func36,ntmps36;go_wp2_with fail;refine bodyPost_ret (ja qE rfl w rfl [()] (hH.ny _ _ rfl) rfl) rfl ?_;exact⟨⟨[],_,_,rfl,SliceOf.nil _ _ _ _,by omega,.inl rfl⟩,Zx⟩
 have bI:¬(400:Int)<c.length:=by omega
 obtain⟨H,N⟩:=Ry ((w.alloc (.cells #[()] 25)).alloc (.cells #[()] 25));have au:Ext w H:=by rw[N];exact Zx
 have b2:hV H w 25 #[()]:=by rw[N];exact(hV.new _ _ _).ext Zx
 have b4:hV H (w+1) 25 #[()]:=by rw[N];exact hV.Ba _ _ Zl
 have aU:H.heap.size=w+2:=by rw[N];simp
 have⟨bC,bD,aV,aX,aZ,HV,bB,bz,bg⟩:=vL N aU b2 b4 au (Y.ext kS.stays au) Y aS aP;have bn:=Zy aR;clear N aU b2 b4 au Y aS aP aR;go_enter func36,ntmps36;go_upto_region 4 with(fail);rw[<-bC.o];go_wp2_with fail;go_loopw [5] (fun ay wr=>∃(b:Nat) (p:M.hZ) (T:Option Addr) (P Z:Nat),b<=c.length∧ay=.int .i64 b∧hV wr (w+1) 25 #[.slice T P Z]∧SliceOf 2 jc wr (fun h=>w+2<=h) (.slice T P Z) p∧sS b p∧Q b p∧Kp (·=w+1) H wr) (fun ay _=>c.length - (intOf ay).toNat)
 case atStart=>exact⟨0,[],_,_,_,Nat.zero_le _,rfl,aX,SliceOf.nil _ _ _ _,⟨by simp,by simp⟩,bg,Kp.rr⟩
 case round =>
  obtain⟨b,p,T,P,Z,hk,rfl,f,hs,ax,aQ,s⟩:=hrel;have aF:=Zy aQ;clear aQ;have⟨HB,HS,aH,HK⟩:=jV f hs ax s;have aJ:Zz ((w:Nat)+2<=(wr:Nat)):=Zy (by have:=s.size;have:=bD.o;omega);have⟨ah,m⟩:=je (aZ.own s fun h n=>by omega) (aV.o.kp s Zm);by_cases aO:b<c.length
  . have dk:(b:Int)<c.length:=by omega
    obtain⟨t,hx⟩:∃t,c[b]?=some t:=⟨c[b]'aO,List.getElem?_eq_getElem aO⟩;have aT:=bz.o t (List.mem_of_getElem? hx);have aI:=Zy (fun d=>bn.o b p d t hx aF);obtain⟨bl,ol,rfl,gl⟩:=kS.at_ bB hx;have aK:=ah.jb gl;obtain⟨bL,bP,bS,HT⟩:=kY wr;have y0:=fun az=>(HT.jm az).jb aK;have y1:=fun az=>(f.ext (HT.jm az)).c 0 (.slice T P Z) rfl;have u:=Zy HT;obtain⟨cz,V,-⟩:=m.ca;have aj:=m.frozen 0;obtain⟨ak,W,-⟩:=f.ca;have bF:=f.frozen 0;have aD:=Zy (hs.inside (fun _ _ _ _ a=>jc.inside a) Zm);clear f hs ax s HT hx gl aK;go_upto_region 7 with(fail);go_cut [6,7] (fun s6 s7 wx=>∃U q d x j B,s6=.pointer (some ⟨U,0,none⟩)∧s7=.bool q∧hV wx U 25 #[.slice x j B]∧SliceOf 2 jc wx (fun h=>w+2<=h) (.slice x j B) d∧sS (b+1) d∧(q=true->Q (b+1) d)∧Ext wr wx)
    case first=>
     refine qA u 11 (.two [0,1,2,3,4] 5 9 (.one [6,7,8] 9 (.one [] 10 (.fin []))) (.one [] 5 (.one [6,7,8] 10 (.fin [])))) ?_ ?_
     . exact jf
     refine two [_,_,_,_,_] rfl rfl rfl fun bE s=>?_;(repeat (go_big_quiet_step (fail)));((refine Gf s (fun k e=>?_) fun k e=>?_)<;>clear s bE)
     . have y:Ext wr wr.drew:=jf;go_wp2_with fail;refine(Fp (fun _ a=>Nat.lt_of_lt_of_le a.2 y.size) p (aD.ext jc.stays y) t aT b Zm aH).mono ?_;rintro n r ⟨⟨d,v',q,rfl,i,L,A⟩,g⟩;have S:=Zy (fun a=>aI.o d (A a));clear A;obtain⟨x,B,rfl,-,-⟩:=i.form;obtain⟨j,F⟩:∃j,List.length d=j:=⟨_,rfl⟩;rw[F]at i;simp only[F];clear F;have e4:=y.trans g;go_wp2_with fail;refine kk u e e4 ?_;clear e k;refine Cf ?_;intro k e;go_wp2_with fail;obtain⟨w5,O,K,C⟩:=nu r #[()] 25;rw[<-O];have D:=e4.trans K;have⟨aB,ai⟩:=je D ((i.inside (fun _ _ _ _ a=>jc.inside a) Zm).ext jc.stays K);have aa:=Zy e4.size;have af:=Zy C;obtain⟨zz,z0,-⟩:=C.ca;have zf:=C.frozen 0;clear K C O i;refine kk u e aB ?_;clear e k;refine jZ rfl fun k e=>?_;go_wp2_with fail;have z:Kp (·=r) w5 (w5.setCell r (.slice x j B)):=(Kp.refl (·=r) w5).setCell (p:=⟨r,0,none⟩) (fun _=>rfl) _;have X:=aB.own z (fun h n=>by have:=aa.o;omega);refine kk u e X ?_;clear e k;refine kM ?_;go_wp2_with fail;go_meet;exact⟨_,_,d,_,_,_,rfl,rfl,af.jk 0 _,ai.keep jc.stays (z.same fun h f n=>by have:=f.2;omega) (fun h f=>f.1.elim (fun a=>a.1) (fun a=>by have:=y.size;have:=aJ.o;omega)),L,S.o,X⟩
     . have y:Ext wr wr.drew:=jf;generalize wr.drew=wd at y ⊢;go_wp2_with fail;obtain⟨w5,O,K,C⟩:=nu wd #[()] 25;rw[<-O];have aa:Zz ((w5:Nat)=wd+1):=Zy (by rw[O];simp);have D:=y.trans K;clear O K;refine kk u e D ?_;clear e k;refine jZ rfl fun k e=>?_;go_wp2_with fail;refine(Fp (fun _ a=>Nat.lt_of_lt_of_le a.2 D.size) p (aD.ext jc.stays D) t aT b Zm aH).mono ?_;rintro n r ⟨⟨d,v',q,rfl,i,L,A⟩,g⟩;have S:=Zy (fun a=>aI.o d (A a));clear A;obtain⟨x,B,rfl,-,-⟩:=i.form;obtain⟨j,F⟩:∃j,List.length d=j:=⟨_,rfl⟩;rw[F]at i;simp only[F];clear F;have ae:=C.ext g;have⟨af,R⟩:=je ae (D.trans g);have ai:=Zy i;have ag:=Zy y.size;obtain⟨zz,z0,-⟩:=ae.ca;have zf:=ae.frozen 0;clear C ae i g D;go_wp2_with fail;refine kk u e R ?_;clear e k;refine Cf ?_;intro k e;go_wp2_with fail;have z:Kp (·=wd) r (r.setCell wd (.slice x j B)):=(Kp.refl (·=wd) r).setCell (p:=⟨wd,0,none⟩) (fun _=>rfl) _;have X:=R.own z (fun h n=>by have:=ag.o;omega);refine kk u e X ?_;clear e k;refine kM ?_;go_wp2_with fail;go_meet;exact⟨_,_,d,_,_,_,rfl,rfl,af.jk 0 _,ai.keep jc.stays (z.same fun h f n=>f.elim (fun a=>by have:=ag.o;omega) (fun a=>by have:=aa.o;omega)) (fun h f=>f.elim (fun a=>a.1) (fun a=>by have:=aa.o;have:=ag.o;have:=aJ.o;omega)),L,S.o,X⟩
    obtain⟨U,q,d,x,j,B,rfl,rfl,aL,i,L,A,o⟩:=hcut;have S:=Zy A;clear A;have d1:=o.jb V;have bG:=(m.ext o).frozen 0;have dz:=(m.ext o).lt;have d4:=o.jb W;have bO:=(HB.ext o).frozen 0;have bH:=(HB.ext o).lt;obtain⟨bT,x6,-⟩:=aL.ca;have⟨aW,aY⟩:=je (m.ext o) (HB.ext o);have bA:=Zy i;have bu:=Zy L;have aC:=Zy o;have aM:U≠w.heap.size+1∨U=w.heap.size+1:=by omega
    clear V aj cz W bF ak aL i L o u y0 y1;cases q
    . have J:=Zy (fun(l:Int) (E:0<=l) G=>wI (F:=Q c.length) (w:=w) [] (ah.trans aC) (SliceOf.nil _ _ _ _) l E (.inl rfl) G);clear aM;go_wp2_with fail;refine bodyPost_ret (ja qE rfl w rfl [()] (hH.lV (aW.jk 0 _)) rfl) rfl ?_;exact J _ Zm _
    . clear aM;go_wp2_with fail;have z:Kp (·=w+1) wc (wc.setCell ⟨w+1,0,none⟩ (.slice x j B)):=(Kp.refl (·=w+1) wc).setCell (p:=⟨w+1,0,none⟩) (fun _=>rfl) _;go_round
      case rel=>exact⟨b+1,d,_,_,_,by omega,by go_num,aY.o.jk 0 _,bA.o.keep jc.stays (z.same fun h f n=>by omega) (fun _ a=>a),bu.o,S.o rfl,(HK.o.trans aC.o.any).trans z⟩
      case measure=>simp[intOf];omega
  . have dk:¬(b:Int)<c.length:=by omega
    have aN:b=c.length:=by omega
    have aG:=aF;rw[aN]at aG;clear aN;obtain⟨cz,V,-⟩:=m.ca;have aj:=m.frozen 0;obtain⟨ak,W,-⟩:=f.ca;clear f hs ax s;obtain⟨p6,bJ⟩:∃p6:Nat,p6=P:=⟨_,rfl⟩;go_wp2_with fail;refine(NF p HS).mono ?_;rintro n r ⟨rfl,g⟩;obtain⟨q,av⟩:∃q,M.kU p=q:=⟨_,rfl⟩;have bf:=Zy av;rw[av];clear av;have d1:=g.jb V;have bG:=(m.ext g).frozen 0;have dz:=(m.ext g).lt;have d4:=g.jb W;have bH:=(HB.ext g).lt;have⟨aA,R,bq⟩:=jy (m.ext g) (ah.trans g) ((HS.ext jc.stays g).keep (J:=fun h=>w+1<=h) jc.stays (fun _ _ _ _ a=>a) (fun h f=>by omega));clear g V aj cz W ak bJ;cases q
    . have J:=Zy (fun(l:Int) (E:0<=l) G=>wI (F:=Q c.length) (w:=w) [] R (SliceOf.nil _ _ _ _) l E (.inl rfl) G);go_wp2_with fail;refine bodyPost_ret (ja qE rfl w rfl [()] (hH.lV (aA.jk 0 _)) rfl) rfl ?_;exact J _ Zm _
    . have J:=Zy (fun(l:Int) (E:0<=l) G=>wI (F:=Q c.length) (w:=w) p R bq l E (.inr ⟨bf,aG⟩) G);go_wp2_with fail;refine bodyPost_ret (ja qE rfl w rfl [.slice T P Z] (hH.lV (aA.jk 0 _)) rfl) rfl ?_;exact J _ Zm _
def Pv(w w':World)(e:Ending):Prop:=∃p v n,e=.returned (.tuple #[.agg #[v],.int .i64 n])∧SliceOf 2 jc w' (fun b=>w.heap.size<=b∧b<w'.heap.size) v p∧0<=n∧(p=[]∨M.kU p=true)
theorem x9(w:World)(I:Nat->Prop)(v:Value)(b:List ByteArray)(e:SliceOf 1 kS w I v b)(d:∀g∈b,g.size<=1000000):Calls prog 36 #[v] w fun a c=>Pv w c a∧Ext w c:=
 (Am (fun _ _=>True) w I v b e d trivial (fun _ _ _ _ _ _ _=>trivial)).mono fun _ _ ⟨⟨f,v,n,a,h,h0,hp⟩,hE⟩=>⟨⟨f,v,n,a,h,h0,hp.imp id And.left⟩,hE⟩
def Pb(w w':World)(e:Ending):Prop:=∃(pl:M.hZ) (v:Value),e=.returned (.agg #[v])∧SliceOf 2 jc w' (fun b=>w.heap.size<=b∧b<w'.heap.size) v pl∧(pl=[]∨M.kU pl=true)
theorem Bh{w W:World}{b q:Nat}{v c:Value}{m:List Int}{pl:M.hZ}(p:pl=[]∨M.kU pl=true)(o:Kp (·=b) w W)(r:SliceOf 2 jc W (fun a=>w+1<=a) c pl)(hR:nT W b v m q)(hl:b<w∧(m.length≠0->∀d l g,v=.slice (some d) l g->d.block<w))(f:World) (j:Ext (W.setCell w c) f):Pb w f (.returned (.agg #[c]))∧nT f b v m q∧Kp (·=b) w f:=by
 have k:Kp (·=w) W (W.setCell w c):=(Kp.refl (·=w) W).setCell (p:=⟨w,0,none⟩) (fun _=>rfl) _;have s:=((r.keep (J:=fun a=>w+1<=a) jc.stays (k.same fun a e h=>by omega) (fun a e=>e)).ext jc.stays j).inside (fun _ _ _ _ i=>jc.inside i) Zm;exact⟨⟨pl,c,rfl,s.keep jc.stays (fun _ _ _ _ i=>i) (fun a e=>⟨by omega,e.2⟩),p⟩,(hR.turn k Zm (fun n d l g h=>by have:=hl.2 n d l g h;omega)).ext j,(o.own k fun a h=>by omega).trans j.any⟩
theorem Jr(w:World)(i p:Nat)(v:Value)(z:List Int)(n:Int)(b:nT w i v z p)(hp:p<=600000)(hn:n<=1000000)(bg: -1000000<=n):Calls prog 12 #[some i,n] w fun f X=>Pb w X f∧(∃aJ,aJ<=p+60∧nT X i v z aJ)∧Kp (·=i) w X:=by
 have j:=Zy b.below;obtain⟨k,U,O,b1⟩:=nu w #[()] 25;have N:Zz ((k:Nat)=w+1):=Zy (by rw[U];simp);have⟨ae,aK,aV⟩:=jy (Ib k i p v z (b.ext O) Zm) b1 U;have aM:Zz (Kp (·=i) w k):=Zy O.any;clear b U O b1;go_enter func12,ntmps12;go_wp2_with fail;rw[<-aV.o];refine ae.mono ?_;rintro f w2 ⟨⟨vl,E,rfl,R,aY,aZ,aC⟩,⟨q2,bn,av⟩,Q⟩;obtain⟨V,W,rfl,-,-⟩:=R.form;have⟨aS,M,aL,aN⟩:=jV R aC (aK.kp Q (by have:=j.1;omega)) (aM.o.trans Q);have K:Zz (i<k):=Zy (by have:=j.1;have:=N.o;omega);have af:=Zy (Jg w2 i q2 v z n av Zm Zm Zm);obtain⟨t,S⟩:∃t,E.length=t:=⟨_,rfl⟩;have J:=Zy S;rw[S]at aY aZ ⊢;clear R av Q aC ae S;go_wp2_with fail;refine af.mono ?_;rintro f w3 ⟨⟨od,rfl⟩,ax,B⟩;have L:=Zy (by
  have:=aS.keep (J:=fun a=>k<=a) kS.stays (B.same fun a q f=>by have:=K.o;omega) (fun _ b=>b);rwa[J.o]at this)
 have⟨F,H,ah⟩:=jy (aL.kp B (by have:=j.1;omega)) (aN.o.trans B) ax;clear ax B af;cases od
 . have m:=Zy (x9 w3 _ (.slice V t W) E L (fun y s=>by have:=M.o y s;omega));go_wp2_with fail;refine m.mono ?_;rintro f Y ⟨⟨pl,vp,nn,rfl,h,T⟩,g⟩;obtain⟨u,x,rfl,-,-⟩:=h.form;obtain⟨d,r⟩:∃d,pl.length=d:=⟨_,rfl⟩;rw[r]at h ⊢;clear r;have e:=F.ext g;obtain⟨cz,c0,-⟩:=e.ca;have cf:=e.frozen 0;have⟨c,G⟩:=je (Bh (w:=w) (W:=Y) (pl:=pl) T.2 (H.trans g.any) (h.keep (J:=fun a=>w+1<=a) jc.stays (fun _ _ _ _ b=>b) (fun a q=>by have:=H.size;have:=N.o;have:=F.lt;omega)) (ah.o.ext g) j.o _ (jr (.cells #[.slice u d x] 25))) e;clear h g e m;go_wp2_with fail;refine bodyPost_ret (jw qE rfl w rfl [.slice u d x] (hH.lV ((G.jk 0 _).ext (jr _))) rfl) rfl ?_;exact⟨c.1,⟨_,by omega,c.o.2.1⟩,c.o.2.2⟩
 . have aj:=Zy (Jj w3 i (q2+1) v z ah (.slice V t W) E L (fun a q=>by have:=K.o;omega) ⟨by have:=J.o;omega,by have:=J.o;omega⟩ M.o Zm);go_wp2_with fail;refine aj.mono ?_;rintro f w4 ⟨⟨v4,bf,I4,rfl,aA,aD⟩,⟨q4,bq,ay⟩,C⟩;have⟨aT,Z,aa,aR,ag⟩:=mr (L.keep (J:=fun a=>k<=a) kS.stays (C.same fun a q f=>by have:=K.o;omega) (fun _ b=>b)) (F.o.kp C (by have:=j.o.1;omega)) (H.o.trans C) ay (x9 w4 I4 v4 bf aA (fun y s=>by have:=aD y s;omega));clear ay C aA aD aj;go_wp2_with fail;refine ag.mono ?_;rintro f w5 ⟨⟨aH,bu,n5,rfl,D,aX⟩,au⟩;obtain⟨aF,aG,rfl,-,-⟩:=D.form;obtain⟨aI,az⟩:∃d,aH.length=d:=⟨_,rfl⟩;rw[az]at D ⊢;clear az;obtain⟨w6,aB,P,b6⟩:=nu w5 #[.slice aF aI aG] 25;have o:=au.trans P;have⟨aU,l,I,ai,ak,aQ,aO⟩:=qh (aT.ext kS.stays o) (Z.ext o) (aa.trans o.any) (aR.ext o) aB ((D.keep (J:=fun a=>w+1<=a) jc.stays (fun _ _ _ _ b=>b) (fun a q=>by have:=aa.size;have:=Z.lt;omega)).ext jc.stays P) b6;have aP:=Zy aX.2;clear D au P o aB b6 ag;by_cases A:n5=0
   . have aW:=beq_iff_eq.2 A;go_upto_region 4 with(fail);rw[<-ak.o];obtain⟨cz,c0,-⟩:=l.ca;have cf:=l.frozen 0;obtain⟨yz,y0,-⟩:=aO.ca;have c:=Zy (Bh (w:=w) (W:=w6) (pl:=aH) aP I aQ ai j _ Kp.rr);clear A;go_wp2_with fail;refine bodyPost_ret (jw qE rfl w rfl [.slice aF aI aG] (hH.lV (l.jk 0 _)) rfl) rfl ?_;exact⟨c.1,⟨_,by omega,c.o.2.1⟩,c.o.2.2⟩
   . have aW:=beq_eq_false_iff_ne.2 A;go_upto_region 4 with(fail);rw[<-ak.o];clear A;have m:=Zy (x9 w6 _ (.slice V t W) E aU (fun y s=>by have:=M.o y s;omega));go_wp2_with fail;refine m.mono ?_;rintro f Y ⟨⟨pl,vp,nn,rfl,h,T⟩,g⟩;obtain⟨u,x,rfl,-,-⟩:=h.form;obtain⟨d,r⟩:∃d,pl.length=d:=⟨_,rfl⟩;rw[r]at h ⊢;clear r;have e:=l.ext g;obtain⟨cz,c0,-⟩:=e.ca;have cf:=e.frozen 0;have⟨c,G⟩:=je (Bh (w:=w) (W:=Y) (pl:=pl) T.2 (I.trans g.any) (h.keep (J:=fun a=>w+1<=a) jc.stays (fun _ _ _ _ b=>b) (fun a q=>by have:=I.size;have:=N.o;have:=l.lt;omega)) (ai.o.ext g) j.o _ (jr (.cells #[.slice u d x] 25))) e;clear h g e m;go_wp2_with fail;refine bodyPost_ret (jw qE rfl w rfl [.slice u d x] (hH.lV ((G.jk 0 _).ext (jr _))) rfl) rfl ?_;exact⟨c.1,⟨_,by omega,c.o.2.1⟩,c.o.2.2⟩
def sM(rb bz:Nat)(n:Int)(s:Nat->Value):Act:={tmps:=#[.pointer (some ⟨rb,0,none⟩),.int .i64 n,undef,undef,.pointer (some ⟨bz,0,none⟩),s 14,undef,undef,undef,undef,s 0,s 1,s 2,s 3,s 4,s 5,s 6,s 7,s 8,s 9,s 10,s 11,s 12,s 13,undef,undef,undef,undef,undef,undef,undef,undef,undef,undef,undef,undef,undef,undef,undef,undef,undef,undef,undef,undef,undef,undef,undef,undef,undef,undef,undef,undef,undef,undef,undef,undef,undef,undef,undef,undef,undef,undef,undef,undef,undef,undef,undef,undef,undef,undef,undef,undef,undef,undef,undef,undef,undef,undef,undef,undef,undef,undef,undef,undef,undef,undef,undef,undef,undef,undef,undef,undef,undef,undef,undef,undef,undef,undef,undef,undef,undef,undef,undef,undef,undef,undef,undef,undef,undef,undef,undef,undef,undef,undef,undef,undef,undef,undef],defers:=[]}
def xB(z rb:Nat)(i:Nat)(W:World)(x:Value):Prop:=match i with
 |0=>x=.pointer (some ⟨rb,0,none⟩)
 |1=>∃k:Nat,k<4∧x=.int .i64 k
 |2=>∃k:Int,x=.int .i64 k
 |3=>∃b,x=.slice (some ⟨b,0,none⟩) 4 4∧hV W b 3 #[.int .i64 0,.int .i64 0,.int .i64 1,.int .i64 2]∧z<=b
 |4=>x=.pointer (some ⟨rb,0,none⟩)
 |5=>∃k:Nat,k<4∧x=.int .i64 k
 |6=>∃b k u,x=.pointer (some ⟨b,k,none⟩)∧W.cell? ⟨b,k,none⟩=some (.int .i64 u)∧z<=b
 |7=>∃u:Int,x=.int .i64 u
 |8=>∃b,x=.slice (some ⟨b,0,none⟩) 5 5∧hV W b 9 #[.string ⟨#[116,111,112]⟩,.string ⟨#[99,101,108,108]⟩,.string ⟨#[109,97,105,110]⟩,.string ⟨#[110,111,110,101]⟩,.string ⟨#[111,116,104,101,114]⟩]∧z<=b
 |9=>x=.pointer (some ⟨rb,0,none⟩)
 |10=>∃k:Nat,k<5∧x=.int .i64 k
 |11=>∃b k u,x=.pointer (some ⟨b,k,none⟩)∧W.cell? ⟨b,k,none⟩=some (.string u)∧z<=b
 |12=>∃u,x=.string u
 |13=>∃kd kp nm,x=.agg #[.int .i64 kd,.int .i64 kp,.string nm,.int .i64 0,.string ⟨#[]⟩,.string ⟨#[]⟩,.slice none 0 0,.slice none 0 0]
 |14=>∃b,x=.pointer (some ⟨b,0,none⟩)∧hV W b 108 #[.int .i64 0,.int .i64 0,.string ⟨#[]⟩,.int .i64 0,.string ⟨#[]⟩,.string ⟨#[]⟩,.slice none 0 0,.slice none 0 0]∧z<=b
 |_=>True
theorem xB.kp{z f:Nat}{W k:World}(g:Kp (·=f) W k)(l:f<z)(i:Nat)(x:Value)(e:xB z f i W x):xB z f i k x:=by
 unfold xB at*;split at e
 case h_4=>obtain⟨a,c,b,d⟩:=e;exact⟨a,c,b.kp g Zm,d⟩
 case h_7=>obtain⟨a,h,j,c,b,d⟩:=e;exact⟨a,h,j,c,(World.cell?_of_block (g.block _ (iY b) (by show¬a=f;omega))).trans b,d⟩
 case h_9=>obtain⟨a,c,b,d⟩:=e;exact⟨a,c,b.kp g Zm,d⟩
 case h_12=>obtain⟨a,h,j,c,b,d⟩:=e;exact⟨a,h,j,c,(World.cell?_of_block (g.block _ (iY b) (by show¬a=f;omega))).trans b,d⟩
 case h_15=>obtain⟨a,c,b,d⟩:=e;exact⟨a,c,b.kp g Zm,d⟩
 all_goals exact e
def qN(D:Nat->Bool):Nat:=(D 1).toNat+(D 5).toNat+(D 10).toNat
structure GA(P:(Nat->Bool)->Nat)(w1:World)(rb p:Nat)(v:Value)(zs:List Int)(D:Nat->Bool)(W:World):Prop where
 rd:nT W rb v zs (p+P D)
 kp:Kp (·=rb) w1 W
theorem GA.ext{P:(Nat->Bool)->Nat}{e:World}{d p:Nat}{v:Value}{f:List Int}{D D':Nat->Bool}{W a:World}(b:GA P e d p v f D W)(c:Ext W a)(g:P D'=P D):GA P e d p v f D' a:=
 ⟨by rw[g];exact b.rd.ext c,b.kp.trans c.any⟩
theorem Nn(D:Nat->Bool):qN D<=3:=by
 unfold qN;cases D 1<;>cases D 5<;>cases D 10<;>decide
theorem Kp.JS{D D':Nat->Prop}{w a b:World}(d:Kp D w a)(e:Kp D' a b)(h:∀c,D' c->D c∨w.heap.size<=c):Kp D w b:=
 ⟨e.os.trans d.os,e.tape.trans d.tape,e.output.trans d.output,Nat.le_trans d.size e.size,
  fun c f g=>(e.block c (Nat.lt_of_lt_of_le f d.size) (fun i=>(h c i).elim g fun j=>absurd j (Nat.not_le.2 f))).trans (d.block c f g)⟩
abbrev J9(kd kp:Int)(nm:ByteArray)(dst:Int)(x:M.Class)(a1:Option Addr)(m1:Nat)(a2:Option Addr)(m2:Nat):Array Value:=#[.int .i64 kd,.int .i64 kp,.string nm,.int .i64 dst,.string x.name,.string x.jl,.slice a1 x.fields.length m1,.slice a2 x.methods.length m2]
def vD(w1:World)(rb b p:Nat)(v:Value)(zs:List Int)(W:World):Prop:=∃kd kp nm dst x a1 m1 a2 m2 q,hV W b 108 (J9 kd kp nm dst x a1 m1 a2 m2)∧
 jv W (fun k=>w1.heap.size<=k∧k≠b) x [.string x.name,.string x.jl,.slice a1 x.fields.length m1,.slice a2 x.methods.length m2]∧q<=p∧nT W rb v zs q∧Kp (·=rb) w1 W
theorem vD.put{a W g:World}{f b p q:Nat}{v:Value}{o:List Int}{s t r:Int}{u:ByteArray}{x:M.Class}{h i:Option Addr}{m n:Nat}(hl:f<a∧(o.length≠0->∀c l j,v=.slice (some c) l j->c.block<a))(E:a<=b)(k:Kp (·=b) W g)(z:hV g b 108 (J9 s t u r x h m i n)) (A:jv W (fun e=>a<=e∧e≠b) x [x.name,x.jl,.slice h x.fields.length m,.slice i x.methods.length n]) (D:q<=p) (hR:nT W f v o q) (B:Kp (·=f) a W):vD a f b p v o g:=
 ⟨s,t,u,r,x,h,m,i,n,q,z,jv.stays _ _ _ _ _ _ (k.same fun e C d=>C.2 d) (fun _ w=>w) A,D,hR.turn k Zm (fun y c l j d=>by have:=hl.2 y c l j d;omega),B.JS k (fun e d=>.inr Zm)⟩
def NV(w w':World)(e:Ending):Prop:=∃kd kp nm dst x a1 m1 a2 m2,e=.returned (.agg (J9 kd kp nm dst x a1 m1 a2 m2))∧
 jv w' (fun k=>w.heap.size<=k) x [.string x.name,.string x.jl,.slice a1 x.fields.length m1,.slice a2 x.methods.length m2]
theorem hV.Ro{w:World}{b:Nat}{t:TypeId}{u0 u1 u2 u3 u4 u5 u6 u7:Value}(g:hV w b t #[u0,u1,u2,u3,u4,u5,u6,u7])(a c d e f:Value):hV (((((w.setCell (b,4) a).setCell (b,5) c).setCell (b,6) d).setCell (b,7) e).setCell (b,2) f) b t #[u0,u1,f,u3,a,c,d,e]∧Kp (·=b) w (((((w.setCell (b,4) a).setCell (b,5) c).setCell (b,6) d).setCell (b,7) e).setCell (b,2) f):=by
 have h:hV (w.setCell (b,4) a) b t #[u0,u1,u2,u3,a,u5,u6,u7]:=g.jk 4 a;have i:hV ((w.setCell (b,4) a).setCell (b,5) c) b t #[u0,u1,u2,u3,a,c,u6,u7]:=h.jk 5 c;have j:hV (((w.setCell (b,4) a).setCell (b,5) c).setCell (b,6) d) b t #[u0,u1,u2,u3,a,c,d,u7]:=i.jk 6 d;have k:hV ((((w.setCell (b,4) a).setCell (b,5) c).setCell (b,6) d).setCell (b,7) e) b t #[u0,u1,u2,u3,a,c,d,e]:=j.jk 7 e;have l:hV (((((w.setCell (b,4) a).setCell (b,5) c).setCell (b,6) d).setCell (b,7) e).setCell (b,2) f) b t #[u0,u1,f,u3,a,c,d,e]:=k.jk 2 f;exact⟨l,(((((Kp.refl (·=b) w).setCell (p:=⟨b,4,none⟩) (fun _=>rfl) a).setCell (p:=⟨b,5,none⟩) (fun _=>rfl) c).setCell (p:=⟨b,6,none⟩) (fun _=>rfl) d).setCell (p:=⟨b,7,none⟩) (fun _=>rfl) e).setCell (p:=⟨b,2,none⟩) (fun _=>rfl) f⟩
theorem hV.Rn{w:World}{b:Nat}{t:TypeId}{u0 u1 u2 u3 u4 u5 u6 u7:Value}(f:hV w b t #[u0,u1,u2,u3,u4,u5,u6,u7])(a c d e:Value):hV ((((w.setCell (b,4) a).setCell (b,5) c).setCell (b,6) d).setCell (b,7) e) b t #[u0,u1,u2,u3,a,c,d,e]∧Kp (·=b) w ((((w.setCell (b,4) a).setCell (b,5) c).setCell (b,6) d).setCell (b,7) e):=by
 have g:hV (w.setCell (b,4) a) b t #[u0,u1,u2,u3,a,u5,u6,u7]:=f.jk 4 a;have h:hV ((w.setCell (b,4) a).setCell (b,5) c) b t #[u0,u1,u2,u3,a,c,u6,u7]:=g.jk 5 c;have i:hV (((w.setCell (b,4) a).setCell (b,5) c).setCell (b,6) d) b t #[u0,u1,u2,u3,a,c,d,u7]:=h.jk 6 d;have j:hV ((((w.setCell (b,4) a).setCell (b,5) c).setCell (b,6) d).setCell (b,7) e) b t #[u0,u1,u2,u3,a,c,d,e]:=i.jk 7 e;exact⟨j,((((Kp.refl (·=b) w).setCell (p:=⟨b,4,none⟩) (fun _=>rfl) a).setCell (p:=⟨b,5,none⟩) (fun _=>rfl) c).setCell (p:=⟨b,6,none⟩) (fun _=>rfl) d).setCell (p:=⟨b,7,none⟩) (fun _=>rfl) e⟩
def zg(z rb b:Nat)(u:ByteArray)(i:Nat)(W:World)(x:Value):Prop:=match i with
 |0=>x=.pointer (some ⟨b,2,none⟩)
 |1=>x=.string u
 |2=>∃b,x=.slice (some ⟨b,0,none⟩) 2 2∧hV W b 9 #[.string ⟨#[]⟩,.string ⟨#[116,111,112]⟩]∧z<=b
 |3=>x=.pointer (some ⟨rb,0,none⟩)
 |4=>∃k:Nat,k<2∧x=.int .i64 k
 |5=>∃b k u,x=.pointer (some ⟨b,k,none⟩)∧W.cell? ⟨b,k,none⟩=some (.string u)∧z<=b
 |6=>∃u,x=.string u
 |7=>∃s,x=.agg #[.string u,.string s,.slice none 0 0,.slice none 0 0]
 |8=>x=.pointer (some ⟨b,4,none⟩)
 |_=>True
theorem zg.kp{z a b:Nat}{e:ByteArray}{W h:World}(j:Kp (·=a) W h)(l:a<z)(i:Nat)(x:Value)(c:zg z a b e i W x):zg z a b e i h x:=by
 unfold zg at*;split at c
 case h_3=>obtain⟨b,f,d,g⟩:=c;exact⟨b,f,d.kp j Zm,g⟩
 case h_6=>obtain⟨b,k,e,f,d,g⟩:=c;exact⟨b,k,e,f,(World.cell?_of_block (j.block _ (iY d) (by show¬b=a;omega))).trans d,g⟩
 all_goals exact c
def DT(D:Nat->Bool):Nat:=(D 4).toNat
theorem Nl(D:Nat->Bool):DT D<=1:=by
 unfold DT;cases D 4<;>decide
def grown(k:Nat)(pl:M.hZ):Prop:=(k=0->pl=[])∧(k=1->pl=[⟨[],[]⟩])∧(2<=k->∃q,pl=[q]∧q.owns≠[])
def Ay(r:List ByteArray):Bool:=decide (r.length<=40)&&r.all (fun u=>decide (u.size<=40)&& !(u.toList==[107,101,101,112,101,114]))&&(match r with
 |u::_=>match M.words u with
  |x::_=>x.toList==[99,108,97,115,115]
  |[]=>false
 |[]=>false)
theorem J6:(M.blocks.all Ay)=true:=by decide+kernel
theorem I5{r:List ByteArray}(j:Ay r=true)(k:Nat)(pl g:M.hZ)(x:ByteArray)(c:((⟨#[107,101,101,112,101,114]⟩:ByteArray)::r)[k]?=some x)(a:grown k pl)(v:JG x pl g):grown (k+1) g:=by
 obtain⟨t,p,u⟩:=a;obtain⟨s,o,-⟩:=v;unfold Ay at j;simp only[Bool.and_eq_true,List.all_eq_true,decide_eq_true_eq]at j;obtain⟨⟨-,q⟩,e⟩:=j;match k with
 |0=>
  simp at c;subst c;have:=s (by decide+kernel);rw[t rfl]at this;exact⟨fun a=>by omega,fun _=>by simpa using this,fun a=>by omega⟩
 | 1 =>
  cases r with
  |nil=>simp at c
  | cons m r =>
   simp at c;subst c;have d:=(q m Zl).2;simp only[Bool.not_eq_true']at d;change(match M.words m with|x::_=>x.toList==[99,108,97,115,115]|[]=>false)=true at e;cases f:M.words m with
   |nil=>rw[f]at e;simp at e
   |cons n B=>
    rw[f]at e;obtain⟨i,l,b,h⟩:=o d 0 ⟨[],[]⟩ n (by rw[p rfl];rfl) (by rw[p rfl];rfl) (by rw[f];rfl);refine⟨fun a=>by omega,fun a=>by omega,fun _=>⟨l,?_,h.2 e⟩⟩;match g,i,b with
    |[z],_,b=>simpa using b
 | k + 2 =>
  obtain⟨A,rfl,w⟩:=u Zm;have y:x∈r:=by
   have:r[k+1]?=some x:=by simpa using c
   exact List.mem_of_getElem? this
  have d:=(q x y).2;simp only[Bool.not_eq_true']at d;obtain⟨n,B,f⟩:=M.zG x;obtain⟨i,l,b,h⟩:=o d 0 A n rfl rfl (by rw[f];rfl);refine⟨fun a=>by omega,fun a=>by omega,fun _=>⟨l,?_,h.1 w⟩⟩;match g,i,b with
  |[z],_,b=>simpa using b
theorem Gq(w:World)(g p:Nat)(v:Value)(o:List Int)(n:Int)(a:nT w g v o p)(hp:p<=600000)(hn:n<=1000000)(iG: -1000000<=n):Calls prog 39 #[some g,n] w fun d w'=>NV w w' d∧(∃O,O<=p+20∧nT w' g v o O)∧Kp (·=g) w w':=by
 have aF:=a.below;obtain⟨u,aY⟩:=Ry (w.alloc (.cells #[.int .i64 0,.int .i64 0, "",.int .i64 0, "", "",(),()] 108));have aB:Ext w u:=by rw[aY];exact Zx
 have fe:Zz (hV u w 108 #[.int .i64 0,.int .i64 0, "",.int .i64 0, "", "",(),()]):=Zy (by rw[aY];exact hV.new _ _ _);have fM:=Zy (a.ext aB);have h:Zz (g<u∧(o.length≠0->∀Q V R,v=.slice (some Q) V R->Q.block<u)):=Zy ⟨by have:=aF.1;have:=aB.size;omega,fun S Q V R d=>by have:=aF.2 S Q V R d;have:=aB.size;omega⟩;have dI:=Zy aF.1;have fI:=Zy aF.2;have⟨dL,fu⟩:=je aY aB;clear aY aB a aF;go_enter func39,ntmps39;go_upto_region 1 with(fail);rw[<-dL.o];go_cut [5] (fun s5 P=>∃c kd kp nm,s5=.pointer (some ⟨c,0,none⟩)∧hV P c 108 (J9 kd kp nm 0 ⟨⟨#[]⟩,⟨#[]⟩,[],[]⟩ none 0 none 0)∧u.heap.size<=c∧(∃O,O<=p+3∧nT P g v o O)∧Kp (·=g) u P)
 case first =>
  have F:=Nn;refine Qo 15 [[],[0],[1],[],[],[4],[3,5],[6],[],[],[9],[8,10],[11],[2,7,12],[]] (sM g w n) (xB u g) (GA qN u g p v o) rfl ⟨fM.ext jf,jf⟩ ?_ ?_
  . intro D T aa f U hD e l gI b;obtain rfl|rfl|rfl|rfl|rfl|rfl|rfl|rfl|rfl|rfl|rfl|rfl|rfl|rfl|rfl:f=0∨f=1∨f=2∨f=3∨f=4∨f=5∨f=6∨f=7∨f=8∨f=9∨f=10∨f=11∨f=12∨f=13∨f=14:=by omega
    . refine js ?_;simp (decide:=true)only[sM,upd,if_true,if_false]at b ⊢;go_wp2_with fail;exact⟨fun _ _ a=>a,e.ext Kp.rr rfl,rfl⟩
    . have A:T 0=.pointer (some ⟨g,0,none⟩):=l 0 Zl;have ai:=Zy (jO aa g (_+qN D) v o 4 e.rd (by have:=F D;omega) Zm);have i:qN (qB D 1)=qN D+1:=by unfold qN qB;simp[hD];try omega
      refine js ?_;simp (decide:=true)only[sM,upd,if_true,if_false]at b ⊢;rw[A]at b ⊢;clear l F;go_wp2_with fail;refine ai.mono ?_;rintro d W' ⟨⟨k,rfl,m⟩,ay,J⟩;go_wp2_with fail;exact⟨xB.kp J h.1,⟨by rw[i];exact ay,e.kp.trans J⟩,k,by omega,rfl⟩
    . obtain⟨k1,-,A⟩:=l 1 Zl;refine js ?_;simp (decide:=true)only[sM,upd,if_true,if_false]at b ⊢;rw[A]at b ⊢;go_wp2_with fail;exact⟨fun _ _ a=>a,e.ext Kp.rr rfl,_,rfl⟩
    . have E:=e.kp.size;refine js ?_;simp (decide:=true)only[sM,upd,if_true,if_false]at b ⊢;go_wp2_with fail;exact⟨xB.kp (jr _) h.1,e.ext (jr _) rfl,_,rfl,hV.new _ _ _,E⟩
    . refine js ?_;simp (decide:=true)only[sM,upd,if_true,if_false]at b ⊢;go_wp2_with fail;exact⟨fun _ _ a=>a,e.ext Kp.rr rfl,rfl⟩
    . have A:T 4=.pointer (some ⟨g,0,none⟩):=l 4 Zl;have ai:=Zy (jO aa g (_+qN D) v o 4 e.rd (by have:=F D;omega) Zm);have i:qN (qB D 5)=qN D+1:=by unfold qN qB;simp[hD];try omega
      refine js ?_;simp (decide:=true)only[sM,upd,if_true,if_false]at b ⊢;rw[A]at b ⊢;clear l F;go_wp2_with fail;refine ai.mono ?_;rintro d W' ⟨⟨k,rfl,m⟩,ay,J⟩;go_wp2_with fail;exact⟨xB.kp J h.1,⟨by rw[i];exact ay,e.kp.trans J⟩,k,by omega,rfl⟩
    . obtain⟨c,i,j,E⟩:=l 3 Zl;obtain⟨k,m,G⟩:=l 5 Zl;obtain⟨s,y,-⟩:=uK (k:=k) j (by simpa using m) Zn;refine js ?_;simp (decide:=true)only[sM,upd,if_true,if_false]at b ⊢;rw[i,G]at b ⊢;go_wp2_with fail;exact⟨fun _ _ a=>a,e.ext Kp.rr rfl,c,k,s,by simp,y,E⟩
    . obtain⟨c,k,s,i,hc,-⟩:=l 6 Zl;have aX:=iY hc;refine js ?_;simp (decide:=true)only[sM,upd,if_true,if_false]at b ⊢;rw[i]at b ⊢;go_wp2_with fail;exact⟨fun _ _ a=>a,e.ext Kp.rr rfl,_,rfl⟩
    . have E:=e.kp.size;refine js ?_;simp (decide:=true)only[sM,upd,if_true,if_false]at b ⊢;go_wp2_with fail;exact⟨xB.kp (jr _) h.1,e.ext (jr _) rfl,_,rfl,hV.new _ _ _,E⟩
    . refine js ?_;simp (decide:=true)only[sM,upd,if_true,if_false]at b ⊢;go_wp2_with fail;exact⟨fun _ _ a=>a,e.ext Kp.rr rfl,rfl⟩
    . have A:T 9=.pointer (some ⟨g,0,none⟩):=l 9 Zl;have ai:=Zy (jO aa g (_+qN D) v o 5 e.rd (by have:=F D;omega) Zm);have i:qN (qB D 10)=qN D+1:=by unfold qN qB;simp[hD];try omega
      refine js ?_;simp (decide:=true)only[sM,upd,if_true,if_false]at b ⊢;rw[A]at b ⊢;clear l F;go_wp2_with fail;refine ai.mono ?_;rintro d W' ⟨⟨k,rfl,m⟩,ay,J⟩;go_wp2_with fail;exact⟨xB.kp J h.1,⟨by rw[i];exact ay,e.kp.trans J⟩,k,by omega,rfl⟩
    . obtain⟨c,i,j,E⟩:=l 8 Zl;obtain⟨k,m,G⟩:=l 10 Zl;obtain⟨s,y,-⟩:=qG (k:=k) j (by simpa using m) Zn;refine js ?_;simp (decide:=true)only[sM,upd,if_true,if_false]at b ⊢;rw[i,G]at b ⊢;go_wp2_with fail;exact⟨fun _ _ a=>a,e.ext Kp.rr rfl,c,k,s,by simp,y,E⟩
    . obtain⟨c,k,s,i,hc,-⟩:=l 11 Zl;have aX:=iY hc;refine js ?_;simp (decide:=true)only[sM,upd,if_true,if_false]at b ⊢;rw[i]at b ⊢;go_wp2_with fail;exact⟨fun _ _ a=>a,e.ext Kp.rr rfl,_,rfl⟩
    . obtain⟨k1,A⟩:=l 2 Zl;obtain⟨k2,i⟩:=l 7 Zl;obtain⟨k3,G⟩:=l 12 Zl;refine js ?_;simp (decide:=true)only[sM,upd,if_true,if_false]at b ⊢;rw[A,i,G]at b ⊢;go_wp2_with fail;exact⟨fun _ _ a=>a,e.ext Kp.rr rfl,_,_,_,rfl⟩
    . have E:=e.kp.size;refine js ?_;simp (decide:=true)only[sM,upd,if_true,if_false]at b ⊢;go_wp2_with fail;exact⟨xB.kp (jr _) h.1,e.ext (jr _) rfl,_,rfl,hV.new _ _ _,E⟩
  . intro D T aa bN e L;obtain⟨kd,kp,nm,i⟩:=L 13 Zm;obtain⟨c,G,j,aW⟩:=L 14 Zm;have gT:=F D;have⟨HW,HB⟩:=je e j;have E:=HB.lt;unfold sM;rw[i,G];clear L F bN e;obtain⟨-,c0,c1,c2,c3,c4,c5,c6,c7,-⟩:=j.ca;obtain⟨f0,f1,f2,f3,f4,f5,f6,f7,-⟩:=j.fz;clear j;go_wp2_with fail;go_meet;exact⟨c,kd,kp,nm,rfl,HB.yQ _ _ _ _ _ _ _ _,aW,⟨_,by omega,HW.o.rd.turn (Kp.yQ (D:=(·=c)) rfl _ _ _ _ _ _ _ _) (by have:=h.o.1;omega) (fun S Q V R d=>by have:=h.o.2 S Q V R d;omega)⟩,HW.o.kp.JS (Kp.yQ (D:=(·=c)) rfl _ _ _ _ _ _ _ _) (fun k d=>.inr Zm)⟩
 obtain⟨c,kd,kp,nm,rfl,j,aW,⟨O,hq,B⟩,b⟩:=hcut;obtain⟨w2,rfl⟩:∃w2,w2=wc:=⟨_,rfl⟩;have t:Zz (g≠c∧u.heap.size<=c):=Zy ⟨by have:=h.1;omega,aW⟩;have⟨bn,bE,df⟩:=jy j B b;clear j B b aW;go_wp2_with fail;refine(Fq w2).mono ?_;rintro d w3 ⟨⟨vb,rfl,hS⟩,aC⟩;obtain⟨gJ,R,rfl,-,-⟩:=hS.form;obtain⟨bb,bW,rfl⟩:∃c bW,gJ=some ⟨c,bW,none⟩:=by
  obtain⟨b',o',cs,d,-⟩:=hS.get (i:=0) (x:=_) rfl;exact⟨_,_,d⟩
 have⟨bG,aG,bF,bC⟩:=jV hS (bn.ext aC) (bE.ext aC) (df.trans aC.any);have cu:Zz (c<w2.heap.size∧g<w2):=Zy ⟨bn.lt,bE.below.1⟩;have gH:=Zy aC.size;clear hS aC;simp only[show M.blocks.length=11 from rfl]at bG ⊢;obtain⟨cz,c0,-⟩:=aG.ca;go_upto_if 27 with(fail);go_cut [] (fun P=>vD u g c (O+4) v o P)
 case first =>
  cases iC:(kd==1)
  . go_wp2_with fail;go_meet;exact⟨_,_,_,_,_,_,_,_,_,_,aG,⟨_,_,rfl,SliceOf.nil _ _ _ _,SliceOf.nil _ _ _ _⟩,Nat.le_add_right _ _,bF,bC⟩
  have dA:=Zy (jO w3 g O v o 11 bF Zm Zm);go_wp2_with fail;refine dA.mono ?_;rintro d W ⟨⟨k,rfl,m⟩,dX,aS⟩;have eD:k<11:=by omega
  obtain⟨xs,bQ⟩:∃xs,M.blocks[k]?=some xs:=⟨M.blocks[k]'eD,List.getElem?_eq_getElem eD⟩;have ek:=bG.keep wU.stays (aS.same fun c j d=>by have:=cu.o;omega) (fun _ a=>a);obtain⟨b',o',cs,d,-,⟨v',rfl,L⟩,-,S⟩:=ek.get bQ;cases d;obtain⟨la,lc,rfl,-,-⟩:=L.form;have hc:W.cell? ⟨bb,bW+k,none⟩=some (.slice la xs.length lc):=by simpa using S.one
  have aX:=iY hc;have aK:=Zy (List.all_eq_true.1 J6 xs (List.mem_of_getElem? bQ));have iN:xs.length<=40:=by
   have:=aK.o;unfold Ay at this;simp only[Bool.and_eq_true,decide_eq_true_eq]at this;exact this.1.1
  have gy:=Zy (fun s y=>by
   have:=aK.o;unfold Ay at this;simp only[Bool.and_eq_true,decide_eq_true_eq,List.all_eq_true]at this;exact(this.1.2 s y).1)
  obtain⟨w5,eP,aO,b5⟩:=nu W #[.string ⟨#[107,101,101,112,101,114]⟩] 9;have bD:Zz (w5.ownsRow W 9 1 (.slice (some ⟨W,0,none⟩) 1 1) 1 [.string ⟨#[107,101,101,112,101,114]⟩]):=Zy ⟨rfl,.inr ⟨W,1,_,rfl,Nat.le_refl _,b5,Nat.le_refl _,by unfold maxLen;omega,by simp,by simp⟩⟩;have⟨cO,eY,fQ,fC,dM,fw⟩:=nZ (SliceOf.toFlat (enc:=nR) (fun _ _ _ _ a=>a) (fun _=>rfl) yK (L.ext kS.stays aO)) (aG.kp aS (by have:=t.1;omega)) dX (bC.o.trans aS) eP aO;have gV:(W:Nat)<=w5:=aO.size;clear dX aS ek L S eP aO b5 m bQ c0 cz dA;go_upto_region 5 with(fail);go_wp2_with (rw[<-dM.o];refine jJ zQ w5 rfl (.tmp 36) (.tmp 37) rfl W (.slice (some ⟨W,0,none⟩) 1 1) 1 _ rfl bD la xs.length lc _ rfl cO Zm gV ?_;intro v6 w6 dU dS;have fJ:=Zy dU;have fD:=Zy dS;clear dU dS hc aX);have aN:=fw.own fD (fun c j=>(bD.lt c j).1);have eH:SliceOf 1 kS w6 (fun c=>W.heap.size<=c) v6 (⟨#[107,101,101,112,101,114]⟩::xs):=SliceOf.lJ nR fJ (Nat.add_comm _ _) rfl (fun _ _=>rfl) (fun _ _=>rfl) (fun _ a _=>a) Zr;have⟨dx,bZ,fT,dh⟩:=jV (Am grown w6 _ v6 _ eH (fun s y=>(List.mem_cons.1 y).elim (fun d=>by subst d;decide) (fun a=>by have:=gy.o s a;omega)) ⟨fun _=>rfl,fun a=>by omega,fun a=>by omega⟩ (I5 aK.o)) (eY.o.ext aN) (fQ.o.ext aN) (fC.o.trans aN.any);clear aN eH;refine dx.mono ?_;rintro d w7 ⟨⟨pl,vp,nn,rfl,bP,-,eG⟩,aP⟩;obtain⟨pa,pc,rfl,-,-⟩:=bP.form;obtain⟨w8,eQ,aD,b8⟩:=nu w7 #[.slice pa pl.length pc] 25;have⟨aA,dH,di,dC,dD⟩:=mr ((bZ.ext aP).ext aD) ((fT.ext aP).ext aD) (dh.trans (aP.trans aD).any) b8 (bP.ext jc.stays aD);have bH:Zz (c<w6.heap.size∧u.heap.size<=w6):=Zy ⟨bZ.lt,dh.size⟩;have dN:=Zy eQ;clear eQ aD aP b8 bP dx;go_upto_region 6 with(fail);rw[<-dN.o];obtain⟨pz,p0,-⟩:=dC.ca;go_upto_if 45 with(fail);go_cut [] (fun P=>vD u g c (O+1) v o P)
  case first=>
   rcases eG with rfl|⟨-,-,-,hg⟩
   . go_wp2_with fail;go_meet;exact⟨_,_,_,_,_,_,_,_,_,_,aA,⟨_,_,rfl,SliceOf.nil _ _ _ _,SliceOf.nil _ _ _ _⟩,Nat.le_refl _,dH,di⟩
   obtain⟨kq,rfl,eF⟩:=hg (by have:=aK.o;unfold Ay at this;cases xs with
    |nil=>simp at this
    |cons _ _=>simp)
   obtain⟨bk,ok,ks,rfl,-,gL,-,eu⟩:=dD.get (i:=0) (x:=kq) rfl;obtain⟨vo,va,rfl,hO,-⟩:=gL;obtain⟨oa,oc,rfl,-,-⟩:=hO.form;have iF:(0:Int)<(([kq].length:Nat):Int):=by simp
   obtain⟨x,C⟩:∃x,kq.owns[0]?=some x:=by
    cases gU:kq.owns with
    |nil=>exact absurd gU eF
    |cons ic _=>exact⟨ic,rfl⟩
   have iI:(0:Int)<kq.owns.length:=by have:=(List.getElem?_eq_some_iff.1 C).1;omega
   obtain⟨bo,oo,cs,rfl,gN,bL,-,eB⟩:=hO.get C;obtain⟨xa,xb,xc,xd,rfl⟩:=bL.form;obtain⟨k0,-⟩:=eu.two;obtain⟨x0,x1,x2,x3⟩:=eB.four;have iH:bo≠c:=by have:=bH.o;have:=gN;omega
   have fq:Zz (jv w8 (fun k=>u.heap.size<=k∧k≠c) x [.string x.name,.string x.jl,.slice xa x.fields.length xb,.slice xc x.methods.length xd]):=Zy (jv.stays _ _ _ _ _ _ (fun _ _ _ _ a=>a) (fun k m=>⟨by have:=bH.o;omega,by have:=bH.o;omega⟩) bL);have bz:=aA.lt;have kz:=iY k0;have xz:=iY x0;obtain⟨-,-,-,y2,-,y4,y5,y6,y7,-⟩:=aA.ca;obtain⟨-,-,f2,-,f4,f5,f6,f7,-⟩:=aA.fz;clear hO bL eu eB C eF hg;simp only[Nat.zero_mul,Nat.add_zero]at k0 x0 x1 x2 x3;go_wp2_with fail;go_meet;have h5:=aA.Ro (.string x.name) (.string x.jl) (.slice xa x.fields.length xb) (.slice xc x.methods.length xd) (.string x.name);exact vD.put h t.2 h5.2 h5.1 fq (Nat.le_refl _) dH di
  clear dN dM bD cO dC dD p0 pz eG;obtain⟨kd,kp,nm,gK,x,a1,m1,a2,m2,q2,j,C,iJ,B,b⟩:=hcut;obtain⟨w9,rfl⟩:∃w9,w9=wc:=⟨_,rfl⟩;have⟨eZ,gu,fE,ig,dB⟩:=mr j C b B (jO w9 g q2 v o 4 B Zm Zm);clear j C b B;go_wp2_with fail;refine dB.mono ?_;rintro d gZ ⟨⟨gX,rfl,-⟩,dV,aQ⟩;have⟨bY,gq,dG,bB⟩:=jV (eZ.kp aQ (by have:=t.1;omega)) (jv.stays _ _ _ _ _ _ (aQ.same fun k m d=>by have:=h.o.1;omega) (fun _ a=>a) gu.o) dV (fE.o.trans aQ);clear dV aQ;cases iB:((gX:Int)==0)
  . go_wp2_with fail;go_meet;exact⟨_,_,_,_,_,_,_,_,_,_,bY,gq,by omega,dG.o,bB.o⟩
  obtain⟨ib,eO,aM,dR⟩:=nu gZ #[.string ⟨#[110,111,110,101]⟩,.string ⟨#[111,116,104,101,114]⟩] 9;have⟨dz,eX,fA,fH⟩:=jV (jO ib g (q2+1) v o 2 (dG.ext aM) Zm Zm) (bY.ext aM) (bB.trans aM.any) dR;have gF:=Zy bB.o.size;have gm:=Zy eO;clear eO aM dR dB;go_wp2_with fail;rw[<-gm.o];refine dz.mono ?_;rintro d bX ⟨⟨eT,rfl,gP⟩,dW,aR⟩;obtain⟨s,y,-⟩:=qG (k:=eT) (fH.kp aR (by have:=h.1;have:=gF.o;omega)) Zr Zn;have iD:eT<2:=by omega
  have⟨bf,fO,fB⟩:=jy (eX.kp aR (by have:=t.1;omega)) dW (fA.o.trans aR);obtain⟨az,aZ⟩:=Ry (bX.setCell ⟨c,2,none⟩ s);have bM:Kp (·=c) bX az:=by rw[aZ];exact(Kp.refl (·=c) bX).setCell (p:=⟨c,2,none⟩) (fun _=>rfl) _
  have bg:Zz (hV az c 108 (J9 kd kp s gK x a1 m1 a2 m2)):=Zy (by rw[aZ];exact bf.jk 2 _);have⟨fP,cZ,gp⟩:=jy (fO.turn bM (by have:=t.o;omega) (fun S Q V R d=>by have:=h.o.2 S Q V R d;have:=t.o;omega)) (fB.o.JS bM (fun k d=>.inr (by have:=t.o;omega))) aZ;have uz:=iY y;obtain⟨Y,-,-,y2,-⟩:=bf.ca;have f2:=bf.frozen 2;clear dW aR aZ bM dz gP;go_upto_region 11 with(fail);rw[<-gp.o];clear y uz y2 f2 Y;have gG:Zz (u.heap.size<=az∧c<az.heap.size):=Zy ⟨cZ.size,bg.lt⟩;have F:=Nl;refine OM 9 [[],[0],[],[],[3],[2,4],[5],[1,6],[]] [67,68,69,70,71,72,73,74,75] (zg u g c s) (GA DT az g (q2+1+1) v o) ⟨fP.ext jf,jf⟩ ?_ ?_
  . intro D T aa f U hD e l gI b;have gW:u.heap.size<=aa:=by have:=e.kp.size;have:=gG.o;omega
    obtain rfl|rfl|rfl|rfl|rfl|rfl|rfl|rfl|rfl:f=0∨f=1∨f=2∨f=3∨f=4∨f=5∨f=6∨f=7∨f=8:=by omega
    . refine js ?_;simp (decide:=true)only[mh,upd,if_true,if_false,List.setIfInBounds_toArray,List.set_cons_succ,List.set_cons_zero,Nat.reduceAdd]at b ⊢;go_wp2_with fail;exact⟨fun _ _ a=>a,e.ext Kp.rr rfl,rfl⟩
    . have A:T 0=.pointer (some ⟨c,2,none⟩):=l 0 Zl;have gM:=bg.kp e.kp (by have:=t.1;omega);obtain⟨Y,-,-,y2,-⟩:=gM.ca;refine js ?_;simp (decide:=true)only[mh,upd,if_true,if_false,List.setIfInBounds_toArray,List.set_cons_succ,List.set_cons_zero,Nat.reduceAdd]at b ⊢;rw[A]at b ⊢;go_wp2_with fail;exact⟨fun _ _ a=>a,e.ext Kp.rr rfl,rfl⟩
    . have E:=gW;refine js ?_;simp (decide:=true)only[mh,upd,if_true,if_false,List.setIfInBounds_toArray,List.set_cons_succ,List.set_cons_zero,Nat.reduceAdd]at b ⊢;go_wp2_with fail;exact⟨zg.kp (jr _) h.1,e.ext (jr _) rfl,_,rfl,hV.new _ _ _,E⟩
    . refine js ?_;simp (decide:=true)only[mh,upd,if_true,if_false,List.setIfInBounds_toArray,List.set_cons_succ,List.set_cons_zero,Nat.reduceAdd]at b ⊢;go_wp2_with fail;exact⟨fun _ _ a=>a,e.ext Kp.rr rfl,rfl⟩
    . have A:T 3=.pointer (some ⟨g,0,none⟩):=l 3 Zl;have ai:=Zy (jO aa g (_+DT D) v o 2 e.rd (by have:=F D;omega) Zm);have i:DT (qB D 4)=DT D+1:=by unfold DT qB;simp[hD];try omega
      refine js ?_;simp (decide:=true)only[mh,upd,if_true,if_false,List.setIfInBounds_toArray,List.set_cons_succ,List.set_cons_zero,Nat.reduceAdd]at b ⊢;rw[A]at b ⊢;clear l F;go_wp2_with fail;refine ai.mono ?_;rintro d W' ⟨⟨k,rfl,m⟩,ay,J⟩;go_wp2_with fail;exact⟨zg.kp J h.1,⟨by rw[i];exact ay,e.kp.trans J⟩,k,by omega,rfl⟩
    . obtain⟨c,i,j,E⟩:=l 2 Zl;obtain⟨k,m,G⟩:=l 4 Zl;obtain⟨s,y,-⟩:=qG (k:=k) j (by simpa using m) Zn;refine js ?_;simp (decide:=true)only[mh,upd,if_true,if_false,List.setIfInBounds_toArray,List.set_cons_succ,List.set_cons_zero,Nat.reduceAdd]at b ⊢;rw[i,G]at b ⊢;go_wp2_with fail;exact⟨fun _ _ a=>a,e.ext Kp.rr rfl,c,k,s,by simp,y,E⟩
    . obtain⟨c,k,s,i,hc,-⟩:=l 5 Zl;have aX:=iY hc;refine js ?_;simp (decide:=true)only[mh,upd,if_true,if_false,List.setIfInBounds_toArray,List.set_cons_succ,List.set_cons_zero,Nat.reduceAdd]at b ⊢;rw[i]at b ⊢;go_wp2_with fail;exact⟨fun _ _ a=>a,e.ext Kp.rr rfl,_,rfl⟩
    . have A:T 1=.string s:=l 1 Zl;obtain⟨k2,i⟩:=l 6 Zl;refine js ?_;simp (decide:=true)only[mh,upd,if_true,if_false,List.setIfInBounds_toArray,List.set_cons_succ,List.set_cons_zero,Nat.reduceAdd]at b ⊢;rw[A,i]at b ⊢;go_wp2_with fail;exact⟨fun _ _ a=>a,e.ext Kp.rr rfl,_,rfl⟩
    . refine js ?_;simp (decide:=true)only[mh,upd,if_true,if_false,List.setIfInBounds_toArray,List.set_cons_succ,List.set_cons_zero,Nat.reduceAdd]at b ⊢;go_wp2_with fail;exact⟨fun _ _ a=>a,e.ext Kp.rr rfl,rfl⟩
  . intro D T aa bN e L;obtain⟨sp,i⟩:=L 7 Zm;have G:T 8=.pointer (some ⟨c,4,none⟩):=L 8 Zm;have gT:=F D;have⟨HW,bq⟩:=je e (bg.kp e.kp (by have:=t.1;omega));obtain⟨Y,-,-,-,-,y4,y5,y6,y7,-⟩:=bq.ca;obtain⟨-,-,-,-,f4,f5,f6,f7,-⟩:=bq.fz;simp (decide:=true)only[mh,List.setIfInBounds_toArray,List.set_cons_succ,List.set_cons_zero,Nat.reduceAdd];rw[i,G];clear L F bN e i G;go_wp2_with fail;go_meet;have h4:=bq.Rn s sp () ();exact vD.put (x:=⟨s,sp,[],[]⟩) h t.2 h4.2 h4.1 ⟨_,_,rfl,SliceOf.nil _ _ _ _,SliceOf.nil _ _ _ _⟩ Zm HW.rd (cZ.trans HW.kp)
 clear bG aG bF bC bn bE df cu gH;obtain⟨gY,iP,iW,iy,xa,ik,iR,iq,iU,qa,j,C,iK,B,b⟩:=hcut;obtain⟨wa,rfl⟩:∃wa,wa=wc:=⟨_,rfl⟩;have⟨bu,dO,dm,dJ⟩:=jV j C b B;clear j C b B;obtain⟨cz,c0,-⟩:=bu.ca;go_upto_if 78 with(fail);go_cut [] (fun P=>vD u g c (O+5) v o P)
 case first=>
  cases iE:(gY==3)
  . go_wp2_with fail;go_meet;exact⟨_,_,_,_,_,_,_,_,_,_,bu,dO,by omega,dJ.o,dm.o⟩
  have fK:=Zy (jO wa g qa v o 3 dJ Zm Zm);go_wp2_with fail;refine fK.mono ?_;rintro d wb ⟨⟨k,rfl,-⟩,dY,aT⟩;have⟨bA,gz,fU,fF⟩:=jV (bu.kp aT (by have:=t.1;omega)) (jv.stays _ _ _ _ _ _ (aT.same fun k m d=>by have:=h.o.1;omega) (fun _ a=>a) dO.o) dY (dm.o.trans aT);obtain⟨Y,-,-,-,y3,-⟩:=bA.ca;have f3:=bA.frozen 3;clear dY aT c0 cz;go_wp2_with fail;go_meet;exact vD.put h t.2 ((Kp.refl (·=c) wb).setCell (p:=⟨c,3,none⟩) (fun _=>rfl) _) (bA.jk 3 _) gz Zm fU fF
 clear c0 cz;obtain⟨iO,iQ,iX,iA,xc,il,iT,iw,iV,qc,j,C,iL,B,b⟩:=hcut;obtain⟨wd,rfl⟩:∃wd,wd=wc:=⟨_,rfl⟩;have⟨fo,gB,fG,fV⟩:=jV j C b B;clear j C b B;have dE:=Zy (Jg wd g qc v o n fV Zm Zm Zm);go_wp2_with fail;refine dE.mono ?_;rintro d wf ⟨⟨od,rfl⟩,dZ,aU⟩;have⟨cK,dP,dK,dw⟩:=jV (fo.kp aU (by have:=t.1;omega)) (jv.stays _ _ _ _ _ _ (aU.same fun k m d=>by have:=h.o.1;omega) (fun _ a=>a) gB.o) dZ (fG.o.trans aU);clear dZ aU dE;go_upto_if 84 with(fail);go_cut [] (fun P=>vD u g c (O+8) v o P)
 case first=>
  cases od
  . go_wp2_with fail;go_meet;exact⟨_,_,_,_,_,_,_,_,_,_,cK,dP,by omega,dK.o,dw.o⟩
  have dF:=Zy (jO wf g (qc+1) v o 4 dK Zm Zm);go_wp2_with fail;refine dF.mono ?_;rintro d wg ⟨⟨k,rfl,m⟩,ed,aV⟩;have⟨aI,aL,aJ,Z⟩:=jV (cK.kp aV (by have:=t.1;omega)) (jv.stays _ _ _ _ _ _ (aV.same fun k m d=>by have:=h.o.1;omega) (fun _ a=>a) dP.o) ed (dw.o.trans aV);have gQ:k=0∨k=1∨k=2∨k=3:=by omega
  clear ed aV m dF;rcases gQ with rfl|rfl|rfl|rfl
  . obtain⟨wh,N,q,I⟩:=nu wg #[.int .i64 0,.int .i64 5] 3;have⟨H,ae,au,af,ah⟩:=mr (jO wh g (qc+1+1) v o 2 (aJ.ext q) Zm Zm) (aI.ext q) (jv.stays _ _ _ _ _ _ (Ext.same q) (fun _ a=>a) aL) (Z.trans q.any) I;have ax:=Zy Z.o.size;have ak:=Zy N;clear N q I;go_wp2_with fail;rw[<-ak.o];refine H.mono ?_;rintro d wi ⟨⟨f,rfl,U⟩,K,r⟩;obtain⟨s,y,-⟩:=uK (k:=f) (ah.kp r (by have:=h.1;have:=ax.o;omega)) Zr Zn;have bO:f<2:=by omega
    have⟨z,av,aj,ag⟩:=jV (ae.kp r (by have:=t.1;omega)) (jv.stays _ _ _ _ _ _ (r.same fun k m d=>by have:=h.o.1;omega) (fun _ a=>a) au.o) K (af.o.trans r);have uz:=iY y;obtain⟨Y,y0,-⟩:=z.ca;have f0:=z.frozen 0;clear K r U H;go_wp2_with fail;go_meet;exact vD.put h t.2 ((Kp.refl (·=c) wi).setCell (p:=⟨c,0,none⟩) (fun _=>rfl) _) (z.jk 0 _) av Zm aj ag
  . obtain⟨wh,N,q,I⟩:=nu wg #[.int .i64 (-1),.int .i64 3] 3;have⟨H,ae,au,af,ah⟩:=mr (jO wh g (qc+1+1) v o 2 (aJ.ext q) Zm Zm) (aI.ext q) (jv.stays _ _ _ _ _ _ (Ext.same q) (fun _ a=>a) aL) (Z.trans q.any) I;have ax:=Zy Z.o.size;have ak:=Zy N;clear N q I;go_wp2_with fail;rw[<-ak.o];refine H.mono ?_;rintro d wi ⟨⟨f,rfl,U⟩,K,r⟩;obtain⟨s,y,-⟩:=uK (k:=f) (ah.kp r (by have:=h.1;have:=ax.o;omega)) Zr Zn;have bO:f<2:=by omega
    have⟨z,av,aj,ag⟩:=jV (ae.kp r (by have:=t.1;omega)) (jv.stays _ _ _ _ _ _ (r.same fun k m d=>by have:=h.o.1;omega) (fun _ a=>a) au.o) K (af.o.trans r);have uz:=iY y;obtain⟨Y,-,y0,-⟩:=z.ca;have f0:=z.frozen 1;clear K r U H;go_wp2_with fail;go_meet;exact vD.put h t.2 ((Kp.refl (·=c) wi).setCell (p:=⟨c,1,none⟩) (fun _=>rfl) _) (z.jk 1 _) av Zm aj ag
  . obtain⟨wh,N,q,I⟩:=nu wg #["",.string ⟨#[65]⟩] 9;have⟨H,ae,au,af,ah⟩:=mr (jO wh g (qc+1+1) v o 2 (aJ.ext q) Zm Zm) (aI.ext q) (jv.stays _ _ _ _ _ _ (Ext.same q) (fun _ a=>a) aL) (Z.trans q.any) I;have ax:=Zy Z.o.size;have ak:=Zy N;clear N q I;go_wp2_with fail;rw[<-ak.o];refine H.mono ?_;rintro d wi ⟨⟨f,rfl,U⟩,K,r⟩;obtain⟨s,y,-⟩:=qG (k:=f) (ah.kp r (by have:=h.1;have:=ax.o;omega)) Zr Zn;have bO:f<2:=by omega
    have⟨z,av,aj,ag⟩:=jV (ae.kp r (by have:=t.1;omega)) (jv.stays _ _ _ _ _ _ (r.same fun k m d=>by have:=h.o.1;omega) (fun _ a=>a) au.o) K (af.o.trans r);have uz:=iY y;obtain⟨Y,-,-,y0,-⟩:=z.ca;have f0:=z.frozen 2;clear K r U H;go_wp2_with fail;go_meet;exact vD.put h t.2 ((Kp.refl (·=c) wi).setCell (p:=⟨c,2,none⟩) (fun _=>rfl) _) (z.jk 2 _) av Zm aj ag
  . obtain⟨wh,N,q,I⟩:=nu wg #[.int .i64 (-1),.int .i64 3,.int .i64 1] 3;have⟨H,ae,au,af,ah⟩:=mr (jO wh g (qc+1+1) v o 3 (aJ.ext q) Zm Zm) (aI.ext q) (jv.stays _ _ _ _ _ _ (Ext.same q) (fun _ a=>a) aL) (Z.trans q.any) I;have ax:=Zy Z.o.size;have ak:=Zy N;clear N q I;go_wp2_with fail;rw[<-ak.o];refine H.mono ?_;rintro d wi ⟨⟨f,rfl,U⟩,K,r⟩;obtain⟨s,y,-⟩:=uK (k:=f) (ah.kp r (by have:=h.1;have:=ax.o;omega)) Zr Zn;have bO:f<3:=by omega
    have⟨z,av,aj,ag⟩:=jV (ae.kp r (by have:=t.1;omega)) (jv.stays _ _ _ _ _ _ (r.same fun k m d=>by have:=h.o.1;omega) (fun _ a=>a) au.o) K (af.o.trans r);have uz:=iY y;obtain⟨Y,-,-,-,y0,-⟩:=z.ca;have f0:=z.frozen 3;clear K r U H;go_wp2_with fail;go_meet;exact vD.put h t.2 ((Kp.refl (·=c) wi).setCell (p:=⟨c,3,none⟩) (fun _=>rfl) _) (z.jk 3 _) av Zm aj ag
 obtain⟨bR,bS,bV,bK,X,bI,bT,bJ,bU,qe,j,C,iM,B,b⟩:=hcut;obtain⟨we,rfl⟩:∃we,we=wc:=⟨_,rfl⟩;have⟨cB,gD,dn,fZ⟩:=jV j C b B;clear j C b B;have aH:=Zy (fe.kp dn (by have:=dI.o;omega));obtain⟨-,y0,y1,y2,y3,y4,y5,y6,y7,-⟩:=cB.ca;obtain⟨-,z0,z1,z2,z3,z4,z5,z6,z7,-⟩:=aH.ca;obtain⟨g0,g1,g2,g3,g4,g5,g6,g7,-⟩:=aH.fz;have Y:=cB.lt;have zz:=aH.lt;have eU:Zz (∀v0 v1 v2 v3 v4 v5 v6 v7,Kp (·=w) we ((((((((we.setCell w v0).setCell (w,1) v1).setCell (w,2) v2).setCell (w,3) v3).setCell (w,4) v4).setCell (w,5) v5).setCell (w,6) v6).setCell (w,7) v7)):=Zy (fun _ _ _ _ _ _ _ _=>Kp.yQ (D:=(·=w)) rfl _ _ _ _ _ _ _ _);have dQ:Zz (u.heap.size=w+1):=Zy (by have:=dL.o;rw[this];simp);go_wp2_with fail;refine bodyPost_ret (jw NZ rfl w rfl [bR,bS,bV,bK,X.name,X.jl,.slice bI X.fields.length bT,.slice bJ X.methods.length bU] (hH.lV (aH.yQ _ _ _ _ _ _ _ _)) rfl) rfl ?_;have hP:=eU.o bR bS bV bK X.name X.jl (.slice bI X.fields.length bT) (.slice bJ X.methods.length bU);exact⟨⟨bR,bS,bV,bK,X,bI,bT,bJ,bU,rfl,jv.stays _ _ _ _ _ _ (hP.same fun k m d=>by have:=dQ.o;omega) (fun k m=>by have:=dQ.o;omega) gD.o⟩,⟨qe,by omega,fZ.o.turn hP (by have:=dI.o;omega) (fun S Q V R d=>by have:=fI.o S Q V R d;omega)⟩,(fu.o.any.trans dn.o).JS hP (fun k d=>.inr Zm)⟩
theorem Ma:Elem 27 110 8:=kN (z:=.agg #[.int .i64 0,.int .i64 0, "",.int .i64 0, "", "",(),()]) (bytes:=120) underlying27 Zo rfl Zn Zn
def NW(n:Nat)(e:Ending):Prop:=∃(a:Option Addr) (k c:Nat),e=.returned (.slice a k c)∧k<=n
theorem NB(w:World)(f p:Nat)(v:Value)(t:List Int)(n:Nat)(x:nT w f v t p)(hp:p<=590000)(hn:n<=100):Calls prog 14 #[some f,n] w fun a w'=>NW n a∧Kp (·=f) w w':=by
 have aH:=x.below;obtain⟨B,z⟩:=Ry (w.alloc (.cells #[] 110));have X:Ext w B:=by rw[z];exact kx
 have aI:B.ownsRow w 110 8 (.slice (some ⟨w,0,none⟩) 0 0) 0 []:=by rw[z];exact kG w _ _ _ (Nat.le_refl _) rfl
 have⟨aZ,D,bz,aQ,aU⟩:=mr (jO B f p v t n (x.ext X) Zm Zm) aH z X aI;clear x z X aI aH;go_enter func14,ntmps14;go_upto_region 2 with(fail);rw[<-bz.o];go_wp2_with fail;refine aZ.mono ?_;rintro a w2 ⟨⟨ai,rfl,hk⟩,aD,Z⟩;have bI:ai<=n:=by omega
 have⟨bg,aR,aV⟩:=jy aD (aQ.any.trans Z) (iZ aU Z fun aA hg _ a=>by cases hg;have:=D.1;omega);clear aD Z hk;go_wp2_with fail;go_loopw [5,6] (fun s5 s6 wr=>∃(e r s:Nat) (xs:List Value),e+r=ai∧s6=.int .i64 r∧wr.ownsRow w 110 8 s5 e xs∧nT wr f v t s∧s<=p+1+30*e∧Kp (·=f) w wr) (fun _ s6 _=>(intOf s6).toNat)
 case atStart=>exact⟨0,ai,p+1,[],by omega,rfl,aV.o,bg.o,by omega,aR.o⟩
 case round=>
  obtain⟨e,r,s,xs,bJ,rfl,F,G,hq,E⟩:=hrel;obtain⟨J,M,rfl⟩:=jB F;by_cases hj:0<r
  . obtain⟨A,rfl⟩:∃A,r=A+1:=⟨r - 1,by omega⟩;obtain⟨w3,aM,Y,b3⟩:=nu wr #[.int .i64 0,.int .i64 0, "",.int .i64 0, "", "",(),()] 110;have⟨bf,bA,I,u,av,aN⟩:=nZ (jO w3 f s v t 4 (G.ext Y) Zm Zm) aM F E Y b3;have ay:=Zy G.below.1;clear aM F G E Y b3;go_upto_region 6 with(fail);rw[<-bA.o];go_wp2_with fail;refine bf.mono ?_;rintro a w4 ⟨⟨k4,rfl,bE⟩,af,aa⟩;have aG:=aN.kp aa (by have:=ay.o;omega);have⟨bq,ak,ax,aP⟩:=jV af aG aa (Gq w4 f (s+1) v t 40 af Zm Zm Zm);clear af aa bE aG;by_cases h4:k4=0;focus
     subst h4
     go_wp2_with fail
     refine aP.mono ?_
     rintro a w5 ⟨⟨kd,kp,nm,N,c,K,m3,L,m4,rfl,-⟩,⟨q5,bG,aF⟩,ae⟩
     have H:=ak.kp ae (by have:=ay.o;omega)
     obtain⟨f0,f1,f2,f3,f4,f5,f6,f7,-⟩:=H.fz
     obtain⟨O,P,Q,R,S,T,U,V,W,-⟩:=H.ca
     have⟨aO,bu,aS⟩:=jy H aF (ax.trans ae)
     clear H aF ae
     simp only[J9]
     go_upto_region 8 with(fail)
     obtain⟨b,d⟩:=Ry ((((((((w5.setCell wr kd).setCell (wr,1) kp).setCell (wr,2) nm).setCell (wr,3) N).setCell (wr,4) c.name).setCell (wr,5) c.jl).setCell (wr,6) (.slice K c.fields.length m3)).setCell (wr,7) (.slice L c.methods.length m4))
     have ah:Kp (·=wr) w5 b:=by rw[d];exact(((((((((Kp.refl (·=wr) w5).setCell (p:=⟨wr,0,none⟩) (fun _=>rfl) _).setCell (p:=⟨wr,1,none⟩) (fun _=>rfl) _).setCell (p:=⟨wr,2,none⟩) (fun _=>rfl) _).setCell (p:=⟨wr,3,none⟩) (fun _=>rfl) _).setCell (p:=⟨wr,4,none⟩) (fun _=>rfl) _).setCell (p:=⟨wr,5,none⟩) (fun _=>rfl) _).setCell (p:=⟨wr,6,none⟩) (fun _=>rfl) _).setCell (p:=⟨wr,7,none⟩) (fun _=>rfl) _)
     have y:hV b wr 110 #[kd,kp,nm,N,c.name,c.jl,.slice K c.fields.length m3,.slice L c.methods.length m4]:=by rw[d];have x:=((((((((aO.jk 0 kd).jk 1 kp).jk 2 nm).jk 3 N).jk 4 c.name).jk 5 c.jl).jk 6 (.slice K c.fields.length m3)).jk 7 (.slice L c.methods.length m4));simpa using x
     rw[<-d]
     have au:Zz (∃h i j k l m o q,hV b wr 110 #[h,i,j,k,l,m,o,q]∧∀aj∈[h,i,j,k,l,m,o,q],aj.oneCell'=true):=Zy ⟨_,_,_,_,_,_,_,_,y,by simp[Value.oneCell']⟩
     have⟨az,C⟩:=je (lu (P:=(·=wr)) bu D (ah.weak fun g _ a=>⟨by rw[a];exact u.size,a⟩)) ((av.any.trans aS).own ah fun g a=>by omega)
     clear d ah y f0 f1 f2 f3 f4 f5 f6 f7 O P Q R S T U V W
    rotate_left;focus
     have bB:((k4:Int)==0)=false:=by simp;omega
     go_upto_region 8 with(fail)
     clear bB h4
     obtain⟨b,d⟩:∃b,b=w4:=⟨_,rfl⟩
     obtain⟨q5,aL⟩:∃q5,q5=s+1:=⟨_,rfl⟩
     have bG:q5<=s+1+20:=by omega
     have au:Zz (∃h i j k l m o q,hV b wr 110 #[h,i,j,k,l,m,o,q]∧∀aj∈[h,i,j,k,l,m,o,q],aj.oneCell'=true):=Zy ⟨_,_,_,_,_,_,_,_,by rw[d];exact ak,by simp[Value.oneCell']⟩
     have az:Zz (nT b f v t q5):=Zy (by rw[d,aL];exact bq)
     have C:Zz (Kp (·=f) wr b):=Zy (by rw[d];exact av.any.trans ax)
     rw[<-d]
     clear d aL
    all_goals
     obtain⟨h,i,j,k,l,m,o,q,y,aJ⟩:=au.o;obtain⟨O,P,Q,R,S,T,U,V,W,-⟩:=y.ca;have aK:=iZ I C fun aA hg _ a=>by have:=(I.lt aA hg).1;have:=D.1;omega
     have⟨aY,aX⟩:=je aK aJ;have bF:e+1<=4294967296:=by omega
     have bC:w.heap.size<=(b.alloc (.cells #[h,i,j,k,l,m,o,q] 110)).heap.size:=by have:=u.size;have:=C.size;simp;omega
     have HV:=Zy fun g a=>(I.lt g a).1;clear y aJ aK;go_wp2_with (at_builtin;refine jo Ma rfl _ _ rfl w (.slice J e M) e xs rfl (iZ (D:=fun _=>False) aY ((Kp.refl _ b).alloc _) fun _ _ _ c=>c) b 1 [h,i,j,k,l,m,o,q] rfl rfl (hH.ny _ _ rfl) aX bF bC ?_);intro bH c2 W2 aC aB bD;have ag:=((Kp.refl _ b).alloc _:Ext b _).any.trans aB;have aW:=Zy aC;have bn:=Zy (lu (P:=fun g=>(Value.slice J e M).ownBlock=some g) az D (ag.weak fun g _ a=>⟨HV g a,a⟩));have aT:=Zy ((u.trans C).own ag fun g a=>HV.o g a);clear aC aB bD ag O P Q R S T U V W;have z:IntKind.i64.wrap ((A:Int)+1 - 1)=A:=by rw[IntWalk.i64_in _ Zm];omega
     go_wp2_with fail;exact⟨⟨e+1,A,q5,_,by omega,by go_num,aW.o,bn.o,by omega,aT.o⟩,by simp[intOf]⟩
  . obtain rfl:r=0:=by omega
    have u:=Zy E;clear G E F;go_wp2_with fail;go_ret;exact⟨⟨J,e,M,rfl,by omega⟩,u.o⟩
theorem Gi{t k:Nat}(d:ym t k){fn:Func}{p q r s c:Tmp}(f:fn.results=#[.cell p t,.tmp q,.tmp r,.tmp s,.tmp c]){a:Array Value}{w:World}(b:Nat)(g:a.getD p undef=.pointer (some ⟨b,0,none⟩))(cs:List Value)(e:hH w b 0 cs)(hl:cs.length=k):(results fn a).run prog w=.ok (.tuple #[.agg cs.toArray,a.getD q undef,a.getD r undef,a.getD s undef,a.getD c undef]) w:=by
 have h:a[p]?.getD undef=.pointer (some ⟨b,0,none⟩):=by simpa using g
 simp[results,f,h,asAddr,qJ d e hl]
def Pw(w w':World)(e:Ending):Prop:=∃(pl:M.hZ) (pa:Option Addr) (pc:Nat) (n m:ByteArray) (a:Option Addr) (c:Nat) (args:List Int) (g:Option Addr) (k d:Nat),e=.returned (.tuple #[.agg #[.slice pa pl.length pc],.string n,.string m,.slice a args.length c,.slice g k d])∧
 SliceOf 2 jc w' (fun b=>w.heap.size<=b∧b<w'.heap.size) (.slice pa pl.length pc) pl∧SliceOf 1 oQ w' (fun b=>w.heap.size<=b) (.slice a args.length c) args∧k<=90
theorem Gn(w:World)(v:Value)(zs:List Int)(c:BytesAt w v zs):Calls prog 4 #[v] w fun b w'=>Pw w w' b∧Ext w w':=by
 obtain⟨va,vc,rfl⟩:=c.form;obtain⟨w1,J,E,T⟩:=nu w #[()] 25;have f:Zz ((w1:Nat)=w+1):=Zy (by rw[J];simp);have⟨P,ak,aJ,aA⟩:=jV (OL w1 zs (c.ext E)) T J E;clear c J E T;go_enter func4,ntmps4;go_wp2_with fail;rw[<-aJ.o];refine P.mono ?_;rintro b j ⟨⟨i,L,N,rfl,ah,G⟩,F⟩;have e:=Zy ah;have R:=Zy G.below.1;have⟨z,aB,Q⟩:=jy (ak.ext F) (aA.trans F) (Jr j i 0 L N 3 G Zm Zm Zm);clear ah G F P;go_wp2_with fail;refine Q.mono ?_;rintro b x ⟨⟨p,vp,rfl,I,-⟩,⟨aU,hq,H⟩,s⟩;obtain⟨n,o,rfl,-,-⟩:=I.form;have Y:=aB.own s fun a b=>by have:=e.o;have:=f.o;omega
 obtain⟨w4,K,l,U⟩:=nu x #[.slice n p.length o] 25;have⟨au,ax,aK,aC,aG,aI⟩:=nZ U ((z.kp s (by have:=e.o;have:=f.o;omega)).ext l) K (Y.trans l) ((I.keep (J:=fun a=>j<=a) jc.stays (fun _ _ _ _ c=>c) (fun a h=>h.1)).ext jc.stays l) (H.ext l);have r:Zz ((x:Nat)<w4∧i<x∧(j:Nat)<=x∧i<j):=Zy ⟨by rw[K];simp,H.below.1,s.size,R⟩;clear I H s Y l K U Q;go_wp2_with fail;rw[<-aK.o];refine(Lf w4 i aU L N aI Zm).mono ?_;rintro b y ⟨⟨aT,aS,S,X,D,rfl,ha,-,-,-⟩,⟨q5,aZ,ae⟩,g⟩;have Z:=aC.own g fun a b=>by have:=e.o;have:=f.o;omega
 have V:=au.kp g (by have:=r.o;omega);have W:=ax.kp g (by have:=e.o;have:=f.o;omega);have aH:=Zy (aG.keep jc.stays (g.same fun a h b=>by have:=r.o;omega) (fun _ c=>c));have ai:=g.size;have bf:(w:Nat)<j:=z.lt;obtain⟨aW,aX,aY,B⟩:=rA.ex (fun W'=>Kp (fun a=>a=i∨a=w) y W') _ Kp.rr;obtain⟨-,r0,-⟩:=hV.lL fun aV=>V.kp (B.jm aV) (by have:=r.o;omega);have⟨q,HG,aj,aD,ay,aL⟩:=nZ B (NB y.drew i q5 L N 90 (ae.ext jf) Zm Zm) ha Z W ai;clear ha g Z V W B ae ai;go_upto_region 4 with(fail);refine kD q 10 [([0,1,2,3,4],5),([],6)] [7,8,9] ?_ ?_
 . exact jf
 refine lS ?_;intro C m;go_wp2_with fail;refine HG.mono ?_;rintro b M ⟨⟨aO,aR,aN,rfl,hk⟩,aa⟩;have A:=Zy (((Kp.refl _ y).drew:Ext y _).any.trans aa);have u:=ay.kp A (by have:=e.o;have:=f.o;omega);obtain⟨cz,c0,-⟩:=u.ca;have cf:=u.frozen 0;have az:=Zy u;clear aa u;go_wp2_with fail;refine kk q m (A.weak fun a _ b=>.inl b) ?_;clear m C;clear r0;refine lF rfl fun C m=>?_;go_wp2_with fail;obtain⟨k,t⟩:=Ry (M.setCell w (.slice n p.length o));have ag:Kp (·=w) M k:=by rw[t];exact(Kp.refl (·=w) M).setCell (p:=⟨w,0,none⟩) (fun _=>rfl) _
 have af:hV k w 25 #[.slice n p.length o]:=by rw[t];exact az.jk 0 _
 rw[<-t];have⟨aF,av⟩:=je ag af;clear t ag af c0 cf cz;have d:=(A.weak fun a _ b=>Or.inl b).trans (aF.weak fun a _ b=>Or.inr b);have O:=Zy d;clear d;refine kk q m O ?_;clear m C;clear q;refine sP [_,_,_] rfl fun aM d=>?_;(repeat (go_big_quiet_step (fail)));refine qn d ?_;clear d aM;go_wp2_with fail;refine bodyPost_ret (Gi qE rfl w rfl [.slice n p.length o] (hH.lV av) rfl) rfl ?_;have hz:(w:Nat)<j:=z.lt;have z4:=r.o;have z5:=aL.o;have zr:=e.o;have z1:=f.o;have d:=O.o;have zl:=R.o;have aQ:=(aH.keep (J:=fun a=>w<=a) jc.stays (d.same fun a h b=>by omega) (fun a h=>by omega)).inside (fun _ _ _ _ c=>jc.inside c) Zm;have aP:SliceOf 1 oQ k (fun a=>w<=a) (.slice S D.length X) D:=aj.keep oQ.stays (d.same fun a h b=>by omega) (fun a h=>by omega);exact⟨⟨p,n,o,aT,aS,S,X,D,aO,aR,aN,rfl,aQ,aP,by omega⟩,(aD.o.own d fun a b=>by omega)⟩
end Go.Proofs.YtlhlnddgfcmfkaaGreat
