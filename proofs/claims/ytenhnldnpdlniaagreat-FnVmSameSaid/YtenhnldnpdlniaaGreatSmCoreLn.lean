/- Walks. -/
import Derived.Test.YtenhnldnpdlniaaGreatSmCoreLk
import Derived.Test.YtenhnldnpdlniaaGreatSmCoreLm
import Derived.Test.YtenhnldnpdlniaaGreatSmCoreLl
set_option maxRecDepth 100000
set_option maxHeartbeats 4000000
set_option linter.all false
namespace Go.Proofs.YtenhnldnpdlniaaGreat
open Go Go.RowKit Tryz M
def N9(w':World)(e:Ending):Prop:=∃v xs I,e=.returned v/\SliceOf 1 lQ w' I v xs/\∀u∈xs,u.size<=30000
theorem pg.more{Z a:Nat}{w:World}{base:Nat}{v:Value}{n:Nat}(b:pg Z w base v n)(f:Z<=a):pg a w base v n:=by
 obtain⟨h,c,d⟩:=b;exact⟨h,c,fun g e=>TV (d g e) f⟩
theorem tT{W:World}{base:Nat}{v:Value}{n:Nat}(a:pg 30000 W base v n)(d:n<=100000):N9 W (.returned v):=by
 obtain⟨e,b,-,c⟩:=a.o d;exact⟨v,e,_,rfl,b,c⟩
theorem tV{w d:World}{c:Nat}{I:Nat->Prop}{v:Value}{xs:List ByteArray}(a:SliceOf 1 lQ w I v xs)(hI:∀b,I b->b≠c)(e:Kp (·=c) w d):SliceOf 1 lQ d I v xs:=a.keep lQ.stays (e.same hI) (fun _ a=>a)
theorem mH{W e:World}{P:Nat->Prop}{base c q:Nat}{v:Value}{d:List Int}(a:qI W c v d q)(hl:c<base/\(d.length≠0->∀f l b,v=.slice (some f) l b->f.block<base))(i:Kp (fun g=>base<=g/\P g) W e):qI e c v d q:=
 ⟨a.blk.kp i (fun h=>Zm),a.Rp.kp i fun k j m b h n=>Te (hl.2 k j m b h),a.own,a.len⟩
theorem K8(w:World)(n p:Nat)(v:Value)(S:List Int)(aW:qI w n v S p){I:Nat->Prop}(vl:Value)(xs:List ByteArray)(hl:SliceOf 1 lQ w I vl xs)(hI:∀A,I A->A≠n)(bR:1<=xs.length/\xs.length<=1000)(hz:∀ae∈xs,ae.size<=1000)(hp:p<=700000):Calls prog 36 #[some n,vl] w fun q w'=>N9 w' q/\(∃aJ,aJ<=p+20/\qI w' n v S aJ)/\Kp (·=n) w w':=by
 obtain⟨a,c,rfl,cz,cB⟩:=hl.form;obtain⟨x0,bn⟩:∃x0,xs[0]?=some x0:=⟨xs[0]'Zm,CU Zm⟩;obtain⟨A,R,rfl,-⟩:=lQ.at_ hl bn;have⟨aS,HL,M⟩:=jI (lF w n p v S xs.length aW Zm Zm) hl hI;have U:Zz (∀ae∈xs,ae.size<=30000):=Zy (fun ae hu=>Te (hz ae hu));have HZ:=Zy hz;obtain⟨l1,l2⟩:=bR;clear aW hl hI hz bn;go_enter func36,ntmps36;go_wp2_with fail;refine aS.mono ?_;rintro q w1 ⟨⟨g,rfl,hk⟩,aX,aC⟩;have X:g<xs.length:=Zm
 have⟨aT,aQ,aO⟩:=jI (lF w1 n (p+1) v S 5 aX Zm Zm) (tV HL M aC) aC;clear aX aC hk aS;go_wp2_with fail;refine aT.mono ?_;rintro q f ⟨⟨aa,rfl,ht⟩,aD,b⟩;have⟨O,K,D⟩:=jI (tV aQ M b) (aO.trans b) aD;have au:=Zy aD.below.1;have bU:aa=0\/aa=1\/aa=2\/(3<=aa/\aa<5):=Zm
 have dh:(g:Int)<xs.length:=Zm
 have di:(0:Int)<=(g:Int):=Zm
 obtain⟨y,bg⟩:∃y,g+1=y:=⟨_,rfl⟩;have bN:(y:Int)<=xs.length:=Zm
 have bO:IntKind.i64.wrap ((g:Int)+1)=(y:Int):=by rw[TM _ Zm];omega
 have bP:(g:Int)+1=(y:Int):=Zm
 have bQ:(0:Int)<=(y:Int):=Zm
 have bB:=Zy bg;have N:Zz (∀l,Kp (·=n) f l->nG 30000 l (.slice (some ⟨A,R,none⟩) g c) g):=Zy fun l H=>nG.take (tV O M H) U Zm;clear bg;clear aD b ht aT aQ aO;have aF:g<c:=Zm
 rcases bU with rfl|rfl|rfl|⟨t3,t5⟩
 . have bK:Kp (·=n) f f:=Kp.rr;obtain⟨wa,o,j,t,E,m⟩:=pg.fresh (Z:=1000) bK;replace m:=Zy m;have⟨bH,bu⟩:=jw o (nG.all (O.ext lQ.stays E) HZ);clear o bO bP bQ bN;go_wp2_with (first|(rw[<-bH.o];refine jH _ rfl (.tmp 15) (.tmp 16) rfl t rfl bu rfl Zm j fun v9 J i h kb=>?_;rw[Tk]at i;obtain⟨V,c9,rfl,cK,cO,cZ,aZ⟩:=pg.form i Zm Zm;obtain⟨s,hs,dw⟩:=aZ g X;have aR:=Zy i;have bE:=Zy (mH (D.ext E) D.below kb);have bq:=Zy h;have bT:=jv hs;clear aZ i t h kb j E)|fail);have bS:V≠n:=Te au.o
   refine(QE J n (p+1+1) v S s bE Zm Zm).mono ?_;rintro q w5 ⟨⟨tx,rfl,bV⟩,⟨aJ,hq,W⟩,G⟩;have d1:=aR.kp G (fun A q=>Te au.o);have df:=d1.frozen g;obtain⟨_,_,e9,-,d2,-,aY⟩:=pg.form d1 Zm Zm;cases e9;obtain⟨s5,dn,-⟩:=aY g X;have⟨bC,ay,bz⟩:=jI (pg.put (aR.more (show 1000<=30000 by omega)) G bS (s:=tx) Zm X) W (bq.o.trans G);have aP:Zz (Kp (·=V) w5 (w5.setCell (V,g) tx)):=Zy ((Kp.refl (·=V) w5).setCell (p:=⟨V,g,none⟩) (fun _=>rfl) _);clear d1 aY W G hs bT;go_wp2;go_ret;exact⟨tT bC Zm,⟨_,Zm,ay.o.turn aP.o Zm (fun h0 ad bY c q=>Te (D.o.below.2 h0 ad bY c q))⟩,K.o.trans (bz.o.own aP.o (fun A q=>Zm))⟩
 . rcases(show c=y\/y<c by have:=bB.o;omega)with aF|aF
   . subst aF;have av:Zz (∀l,Kp (·=n) f l->nG 30000 l (.slice (some ⟨A,R,none⟩) 0 0) 0):=Zy fun l H=>by
      have:=nG.none_ (Z:=30000) (w:=l) (c:=0) (a:=⟨A,R,none⟩) (Tu c);rwa[Wh]at this
     obtain⟨az,aA,aG,z⟩:=lL f;have e:=Zy z;clear z;go_upto_region 8 with(fail);refine lq e 10 [([1,2,3,5,6,7,8],0),([],4),([],9)] [] ?_ ?_
     . exact jA
     have u:Ext f f.drew:=jA;generalize f.drew=wd at u |-;refine nE ?_;intro d b;go_wp2_with fail;obtain⟨wa,o,j,t,E,m⟩:=pg.fresh (Z:=30000) u;replace m:=Zy m;rw[<-o];clear o;refine kk e b j ?_;clear b d;refine mF rfl fun d b=>?_;refine jH _ rfl (.tmp 30) (.tmp 33) rfl t rfl (N _ j.any) rfl Zm j fun aK J i h aj=>?_;change d _ _;refine kk e b h ?_;clear b d;refine mF rfl fun d b=>?_;refine jH _ rfl (.tmp 34) (.tmp 38) rfl i rfl (av _ h.any) rfl Zm h fun af wf C k Q=>?_;change d _ _;refine kk e b k ?_;clear b d;refine lD ?_;go_wp2;go_ret;exact⟨tT C Zm,⟨_,Zm,D.o.ext k⟩,K.o.trans k.any⟩
   . have av:Zz (∀l,Kp (·=n) f l->nG 30000 l (.slice (some ⟨A,R+y,none⟩) (xs.length - y) (c - y)) (xs.length - y)):=Zy fun l H=>nG.drop (tV O M H) U y;obtain⟨az,aA,aG,z⟩:=lL f;have e:=Zy z;clear z;go_upto_region 8 with(fail);refine lq e 10 [([1,2,3,5,6,7,8],0),([],4),([],9)] [] ?_ ?_
     . exact jA
     have u:Ext f f.drew:=jA;generalize f.drew=wd at u |-;refine nE ?_;intro d b;go_wp2_with fail;obtain⟨wa,o,j,t,E,m⟩:=pg.fresh (Z:=30000) u;replace m:=Zy m;rw[<-o];clear o;refine kk e b j ?_;clear b d;refine mF rfl fun d b=>?_;refine jH _ rfl (.tmp 30) (.tmp 33) rfl t rfl (N _ j.any) rfl Zm j fun aK J i h aj=>?_;change d _ _;refine kk e b h ?_;clear b d;refine mF rfl fun d b=>?_;refine jH _ rfl (.tmp 34) (.tmp 38) rfl i rfl (av _ h.any) rfl Zm h fun af wf C k Q=>?_;change d _ _;refine kk e b k ?_;clear b d;refine lD ?_;go_wp2;go_ret;exact⟨tT C Zm,⟨_,Zm,D.o.ext k⟩,K.o.trans k.any⟩
 . have T:Zz (∀l,Kp (·=n) f l->nG 30000 l (.slice (some ⟨A,R+g,none⟩) (xs.length - g) (c - g)) (xs.length - g)):=Zy fun l H=>nG.drop (tV O M H) U g;obtain⟨F,aH⟩:∃F,xs[g]?=some F:=⟨xs[g]'X,CU X⟩;obtain⟨_,_,bJ,gk⟩:=lQ.at_ O aH;cases bJ;have P:=Zy (U F (Tx aH));obtain⟨az,aA,aG,z⟩:=lL f;have e:=Zy z;have yk:=fun cu=>(z.jC cu).jm gk;clear z gk aH;go_upto_region 10 with(fail);refine rQ e 15 (.two [1,2,3,5,6,7,8,11,12,13] 0 9 (.two [] 4 9 (.one [] 9 (.one [] 10 (.one [] 14 (.fin [])))) (.one [] 4 (.one [] 10 (.one [] 14 (.fin []))))) (.one [] 0 (.one [] 4 (.one [] 10 (.one [] 14 (.fin [])))))) ?_ ?_
   . exact jA
   refine two [_,_,_,_,_,_,_,_,_,_] rfl rfl rfl fun bI hK=>?_;(repeat (go_big_quiet_step (fail)));((refine EP hK (fun d b=>?_) fun d b=>?_)<;>clear hK bI)
   . have u:Ext f f.drew:=jA;generalize f.drew=wd at u |-;go_wp2_with fail;obtain⟨wa,o,j,t,E,m⟩:=pg.fresh (Z:=30000) u;replace m:=Zy m;rw[<-o];clear o;refine kk e b j ?_;clear b d;refine Ck rfl rfl (fun d b=>?_) fun d b=>?_
     . refine jH _ rfl (.tmp 42) (.tmp 45) rfl t rfl (N _ j.any) rfl Zm j fun aK J i h aj=>?_;change d _ _;refine kk e b h ?_;clear b d;refine j3 rfl fun d b=>?_;go_wp2_with fail;obtain⟨wc,Z,B,x,ah,aN⟩:=nG.fresh (Z:=30000) h F P;rw[<-Z];clear Z aN;refine kk e b B ?_;clear b d;have i:=i.ext ah;refine j3 rfl fun d b=>?_;refine jH _ rfl (.tmp 46) (.tmp 51) rfl i rfl (nG.lit (n:=1) [F] x rfl (by simpa using P.o)) rfl Zm B fun aL aM L r ak=>?_;change d _ _;refine kk e b r ?_;clear b d;refine j3 rfl fun d b=>?_;refine jH _ rfl (.tmp 52) (.tmp 55) rfl L rfl (T _ r.any) rfl Zm r fun af wf C k Q=>?_;change d _ _;refine kk e b k ?_;clear b d;refine kQ ?_;go_wp2;go_ret;exact⟨tT C Zm,⟨_,Zm,D.o.ext k⟩,K.o.trans k.any⟩
     . go_wp2_with fail;obtain⟨J,Y,h,x,aB,ag⟩:=nG.fresh (Z:=30000) j F P;replace ag:=Zy ag;rw[<-Y];clear Y;refine kk e b h ?_;clear b d;have t:=t.ext aB;refine j3 rfl fun d b=>?_;refine jH _ rfl (.tmp 42) (.tmp 45) rfl t rfl (N _ h.any) rfl Zm h fun bZ wc i B aI=>?_;change d _ _;refine kk e b B ?_;clear b d;have x:=x.kp aI (fun q=>by have:=m.o;have:=q.2;simp[Value.ownBlock]at this;omega);refine j3 rfl fun d b=>?_;refine jH _ rfl (.tmp 46) (.tmp 51) rfl i rfl (nG.lit (n:=1) [F] x rfl (by simpa using P.o)) rfl Zm B fun aL aM L r ak=>?_;change d _ _;refine kk e b r ?_;clear b d;refine j3 rfl fun d b=>?_;refine jH _ rfl (.tmp 52) (.tmp 55) rfl L rfl (T _ r.any) rfl Zm r fun af wf C k Q=>?_;change d _ _;refine kk e b k ?_;clear b d;refine kQ ?_;go_wp2;go_ret;exact⟨tT C Zm,⟨_,Zm,D.o.ext k⟩,K.o.trans k.any⟩
   . have u:Ext f f.drew:=jA;generalize f.drew=wd at u |-;go_wp2_with fail;obtain⟨wa,o,j,x,E,m⟩:=nG.fresh (Z:=30000) u F P;replace m:=Zy m;rw[<-o];clear o;refine kk e b j ?_;clear b d;refine j3 rfl fun d b=>?_;go_wp2_with fail;obtain⟨J,Y,h,t,aB,ag⟩:=pg.fresh (Z:=30000) j;replace ag:=Zy ag;rw[<-Y];clear Y;refine kk e b h ?_;clear b d;have x:=x.ext aB;refine j3 rfl fun d b=>?_;refine jH _ rfl (.tmp 42) (.tmp 45) rfl t rfl (N _ h.any) rfl Zm h fun bZ wc i B aI=>?_;change d _ _;refine kk e b B ?_;clear b d;have x:=x.kp aI (fun q=>by have:=m.o;have:=q.2;simp[Value.ownBlock]at this;omega);refine j3 rfl fun d b=>?_;refine jH _ rfl (.tmp 46) (.tmp 51) rfl i rfl (nG.lit (n:=1) [F] x rfl (by simpa using P.o)) rfl Zm B fun aL aM L r ak=>?_;change d _ _;refine kk e b r ?_;clear b d;refine j3 rfl fun d b=>?_;refine jH _ rfl (.tmp 52) (.tmp 55) rfl L rfl (T _ r.any) rfl Zm r fun af wf C k Q=>?_;change d _ _;refine kk e b k ?_;clear b d;refine kQ ?_;go_wp2;go_ret;exact⟨tT C Zm,⟨_,Zm,D.o.ext k⟩,K.o.trans k.any⟩
 . have T:Zz (∀l,Kp (·=n) f l->nG 30000 l (.slice (some ⟨A,R+g,none⟩) (xs.length - g) (c - g)) (xs.length - g)):=Zy fun l H=>nG.drop (tV O M H) U g;obtain⟨az,aA,aG,z⟩:=tN.ex (fun W'=>Kp (·=n) f W') f Kp.rr;have e:=Zy z;clear z;have ax:=Zy D.o.below;go_upto_region 11 with(fail);refine lq e 14 [([1,2,3,5,10,11,12],0),([],4),([],6),([],7),([],8),([],9),([],13)] [] ?_ ?_
   . exact jA
   have aV:Ext f f.drew:=jA;have u:Kp (·=n) f f.drew:=jA;have aU:=Zy (D.ext aV);generalize f.drew=wd at u aV aU |-;refine nE ?_;intro d b;go_wp2_with fail;obtain⟨wa,o,j,t,E,m⟩:=pg.fresh (Z:=30000) u;replace m:=Zy m;rw[<-o];clear o;refine kk e b j ?_;clear b d;refine mF rfl fun d b=>?_;refine jH _ rfl (.tmp 57) (.tmp 60) rfl t rfl (N _ j) rfl Zm j fun aK J i h aj=>?_;change d _ _;refine kk e b h ?_;clear b d;have bF:=Zy (mH (aU.ext E) ax aj);have bA:=Zy (Nt J n (p+1+1) v S 99999 bF Zm Zm Zm);refine mF rfl fun d b=>?_;go_wp2_with fail;refine bA.mono ?_;rintro q w5 ⟨⟨op,ia,bX,bW,rfl,bf,bM,bL⟩,⟨q5,dm,W⟩,G⟩;have e5:=h.trans G;have ay:=Zy W;have i:=i.kp G (fun A q=>Te au.o);have bG:=Zy (sP op ia bX bW w5 bf Zm Zm);clear W G bf bM bL;go_wp2_with fail;refine kk e b e5 ?_;clear b d;refine mF rfl fun d b=>?_;go_wp2_with fail;refine bG.mono ?_;rintro q w6 ⟨⟨tx,rfl,bV⟩,ai⟩;have e6:=e5.trans ai.any;have bD:=Zy (ay.ext ai);have i:=i.ext ai;clear ai;go_wp2_with fail;refine kk e b e6 ?_;clear b d;refine mF rfl fun d b=>?_;go_wp2_with fail;obtain⟨wc,Z,B,x,ah,aN⟩:=nG.fresh (Z:=30000) e6 tx Zm;rw[<-Z];clear Z aN;refine kk e b B ?_;clear b d;have i:=i.ext ah;refine mF rfl fun d b=>?_;refine jH _ rfl (.tmp 61) (.tmp 65) rfl i rfl (nG.lit (n:=1) [tx] x rfl Zr) rfl Zm B fun aL aM L r ak=>?_;change d _ _;refine kk e b r ?_;clear b d;refine mF rfl fun d b=>?_;refine jH _ rfl (.tmp 66) (.tmp 69) rfl L rfl (T _ r) rfl Zm r fun af wf C k Q=>?_;change d _ _;refine kk e b k ?_;clear b d;refine lD ?_;go_wp2;go_ret;exact⟨tT C Zm,⟨_,Zm,mH (mH (bD.o.ext ah) ax.o ak) ax.o Q⟩,K.o.trans k⟩
def Sm(v:Value):Bool:=match v with
 | .int .i64 n=>decide (0<=n)&&decide (n<11)
 |_=>false
theorem Hf{w:World}{b k:Nat}{t:TypeId}{cs:Array Value}(f:jq w b t cs)(g:k<cs.size)(e:cs.toList.all Sm=true):∃d:Nat,w.cell? (b,k)=some (.int .i64 d)/\d<11:=by
 have c:=f.cell k;rw[Vp g]at c;have a:=Tc.1 e cs[k] Zl;unfold Sm at a;split at a
 . rename_i i h;simp at a;exact⟨i.toNat,by rw[c,h,VP a.1],Zm⟩
 . cases a
def Mi(w:World)(base:Nat)(v:Value)(n:Nat):Prop:=(∃a c,v=.slice a n c)/\n<=40/\∃xs,SliceOf 1 lQ w (fun b=>base<=b) v xs/\xs.length=n/\∀u∈xs,u.size<=40
theorem Mi.kp{w c:World}{base b n:Nat}{v:Value}(a:Mi w base v n)(h:Kp (·=b) w c)(l:b<base):Mi c base v n:=by
 obtain⟨d,e,i,f,g⟩:=a;exact⟨d,e,i,f.keep lQ.stays (h.same fun j m k=>Zm) (fun _ a=>a),g⟩
theorem Mi.any{w:World}{base n:Nat}{v:Value}(a:Mi w base v n):nG 1000 w v n:=by
 obtain⟨f,g,h,b,rfl,c⟩:=a;exact nG.all b fun e d=>Te (c e d)
theorem G8:(M.blocks.all fun a=>decide (a.length<=40)&&a.all fun b=>decide (b.size<=40))=true:=by decide+kernel
theorem DD{w:World}{base b g n c:Nat}(i:SliceOf 1 yl w (fun b=>base<=b) (.slice (some ⟨b,g,none⟩) n c) M.blocks){k:Nat}(r:k<11):∃d l,w.cell? (b,g+k)=some d/\Mi w base d l:=by
 have s:M.blocks.length=11:=rfl;obtain⟨a,f⟩:∃a,M.blocks[k]?=some a:=⟨M.blocks[k]'Zm,CU Zm⟩;obtain⟨o,t,q,h,-,⟨d,rfl,e⟩,-,j⟩:=i.get f;cases h;obtain⟨m,p,rfl,-,-⟩:=e.form;have:=Tc.1 G8 a (Tx f);simp only[RV,Tv,Tc]at this;exact⟨_,_,by simpa using j.one,⟨_,_,rfl⟩,this.1,a,e,rfl,this.2⟩
theorem DF{w d:World}{base c:Nat}{v:Value}{l:List (List ByteArray)}(b:SliceOf 1 yl w (fun a=>base<=a) v l)(e:Kp (·=c) w d)(g:c<base):SliceOf 1 yl d (fun a=>base<=a) v l:=
 b.keep yl.stays (e.same fun a h f=>Zm) (fun _ b=>b)
theorem pg.one{Z:Nat}{D:Nat->Prop}{b W:World}(c:Kp D b W)(s:ByteArray)(d:s.size<=Z):∃a,a=W.alloc (.cells #[s] 9)/\Kp D b a/\pg Z a b (.slice (some ⟨W,0,none⟩) 1 1) 1/\Ext W a:=
 ⟨_,rfl,c.alloc _,pg.lit [s] (jq.new _ _ _) c.size rfl Zl (by simpa using d),jJ _⟩
theorem nG.two{Z:Nat}{D:Nat->Prop}{b W:World}(c:Kp D b W)(s t:ByteArray)(d:s.size<=Z)(e:t.size<=Z):∃a,a=W.alloc (.cells #[s,t] 9)/\Kp D b a/\hQ a W 0 [s,t]/\Ext W a:=
 ⟨_,rfl,c.alloc _,hQ.oI _ _ rfl,jJ _⟩
theorem RL{Z:Nat}{s t:ByteArray}(a:s.size<=Z)(b:t.size<=Z):∀c∈[s,t],c.size<=Z:=by simpa using⟨a,b⟩
def NY(w w':World)(e:Ending):Prop:=∃vl xs,e=.returned vl/\SliceOf 1 lQ w' (fun b=>w.heap.size<=b) vl xs/\1<=xs.length/\xs.length<=1000/\∀u∈xs,u.size<=1000
theorem uV{w W:World}{base:Nat}{v:Value}{n:Nat}(a:pg 1000 W base v n)(i:w<=base)(f:1<=n)(g:n<=1000):NY w W (.returned v):=by
 obtain⟨d,b,h,c⟩:=a.o Zm;exact⟨v,d,rfl,b.keep lQ.stays (fun _ _ _ _ a=>a) (fun e a=>Zm),Zm,Zm,c⟩
theorem JG(w:World)(r p:Nat)(v:Value)(zs:List Int)(bI:qI w r v zs p)(hp:p<=700000):Calls prog 33 #[some r] w fun o w'=>NY w w' o/\(∃dQ,dQ<=p+20/\qI w' r v zs dQ)/\Kp (·=r) w w':=by
 have b:=Zy bI.below;have HR:=Zy bI;clear bI;go_enter func33,ntmps33;go_wp2_with fail;refine(Nv w).mono ?_;rintro o w1 ⟨⟨vb,rfl,hS⟩,bJ⟩;obtain⟨fF,gI,rfl,-,-⟩:=hS.form;obtain⟨aP,dP,rfl⟩:∃aP dP,fF=some ⟨aP,dP,none⟩:=by
  obtain⟨b',o',cs,o,-⟩:=hS.get (i:=0) (x:=_) rfl;exact⟨_,_,o⟩
 have dw:=Zy hS;have eG:Zz (Kp (·=r) w w1):=Zy bJ.any;have dh:=Zy (HR.ext bJ);clear hS bJ;simp only[show M.blocks.length=11 from rfl]at dw |-;obtain⟨w2,bz⟩:∃K,K=w1.alloc (.cells #[Tj,Tj,Tj,.int .i64 7] 3):=⟨_,rfl⟩;have bM:Ext w1 w2:=by rw[bz];exact jJ _
 have ed:Zz (jq w2 w1 3 #[Tj,Tj,Tj,.int .i64 7]):=Zy (by rw[bz];exact jq.new _ _ _);have⟨cK,fq,bX⟩:=jI (lF w2 r (p) v zs 4 (dh.ext bM) Zm Zm) bz bM;have fC:=Zy dh.o.below.1;clear bz bM;go_wp2_with fail;rw[<-fq.o];refine cK.mono ?_;rintro o w3 ⟨⟨k3,rfl,fO⟩,dG,bq⟩;have gQ:k3<4:=Zm
 obtain⟨gF,gu,fV⟩:=Hf (k:=k3) (ed.kp bq (Te fC.o)) Zr Zn;have dx:=Zy (DF (dw.ext yl.stays bX) bq b.1);obtain⟨rt,nt,fH,bR⟩:=DD dx fV;obtain⟨⟨iD,iH,rfl⟩,gX,-⟩:=id bR;have⟨eY,di,eH⟩:=jI bR dG ((eG.trans bX.any).trans bq);have ig:=jv gu;have gK:=jv fH;have iw:(gF:Int)<11:=Zm
 clear bq dG fO bR cK;obtain⟨w4,bA⟩:∃K,K=w3.alloc (.cells #[.int .i64 1,.int .i64 1,.int .i64 1,.int .i64 8] 3):=⟨_,rfl⟩;have bN:Ext w3 w4:=by rw[bA];exact jJ _
 have ek:Zz (jq w4 w3 3 #[.int .i64 1,.int .i64 1,.int .i64 1,.int .i64 8]):=Zy (by rw[bA];exact jq.new _ _ _);have⟨cO,fu,bF⟩:=jI (lF w4 r (p+1) v zs 4 (di.ext bN) Zm Zm) bA bN;have fD:=Zy di.o.below.1;clear bA bN;go_wp2_with fail;rw[<-fu.o];refine cO.mono ?_;rintro o w5 ⟨⟨k5,rfl,fP⟩,dH,aS⟩;have gT:k5<4:=Zm
 obtain⟨gB,gy,fZ⟩:=Hf (k:=k5) (ek.kp aS (Te fD.o)) Zr Zn;have⟨dz,eZ⟩:=jw (DF (dx.ext yl.stays bF) aS b.1) ((eY.kp bF.any b.1).kp aS b.1);obtain⟨rc,nc,fI,bS⟩:=DD dz fZ;obtain⟨⟨iB,iF,rfl⟩,gV,-⟩:=id bS;have⟨eX,dm,eO⟩:=jI bS dH ((eH.trans bF.any).trans aS);have ik:=jv gy;have gL:=jv fI;have iy:(gB:Int)<11:=Zm
 clear aS dH fP bS cO;obtain⟨w6,bB⟩:∃K,K=w5.alloc (.cells #[.int .i64 2,.int .i64 3,.int .i64 4,.int .i64 5,.int .i64 6,.int .i64 3,.int .i64 9,.int .i64 10] 3):=⟨_,rfl⟩;have bO:Ext w5 w6:=by rw[bB];exact jJ _
 have eu:Zz (jq w6 w5 3 #[.int .i64 2,.int .i64 3,.int .i64 4,.int .i64 5,.int .i64 6,.int .i64 3,.int .i64 9,.int .i64 10]):=Zy (by rw[bB];exact jq.new _ _ _);have⟨cZ,fw,bf⟩:=jI (lF w6 r (p+1+1) v zs 8 (dm.ext bO) Zm Zm) bB bO;have fE:=Zy dm.o.below.1;clear bB bO;go_wp2_with fail;rw[<-fw.o];refine cZ.mono ?_;rintro o w7 ⟨⟨k7,rfl,fT⟩,dI,aG⟩;have gU:k7<8:=Zm
 obtain⟨gD,gz,gm⟩:=Hf (k:=k7) (eu.kp aG (Te fE.o)) Zr Zn;have⟨dA,aD,aB⟩:=jI (DF (dz.ext yl.stays bf) aG b.1) ((eZ.kp bf.any b.1).kp aG b.1) ((eX.kp bf.any b.1).kp aG b.1);obtain⟨rm,nm,fJ,bT⟩:=DD dA gm;obtain⟨⟨iC,iG,rfl⟩,gW,-⟩:=id bT;have⟨aC,dn,ae⟩:=jI bT dI ((eO.trans bf.any).trans aG);have il:=jv gz;have gM:=jv fJ;have iA:(gD:Int)<11:=Zm
 clear aG dI fT bT cZ;have a:=Zy dn.o.below;have aF:=Zy ae.o.size;have er:Kp (·=r) w7 w7:=Kp.rr;obtain⟨w8,dL,e8,o8,f8⟩:=pg.one (Z:=1000) er ⟨#[107,101,101,112,101,114]⟩ Zn;have⟨df,dB,eQ,eF⟩:=kD (lF w8 r (p+1+1+1) v zs 6 (dn.ext f8) Zm Zm) dL o8 e8;clear dL e8 o8 f8 er;go_wp2_with fail;rw[<-dB.o];refine df.mono ?_;rintro o w9 ⟨⟨k,rfl,hk⟩,dJ,bP⟩;have fQ:k=0\/k=1\/k=2\/k=3\/k=4\/k=5:=Zm
 have⟨cu,aA,ay⟩:=jI (eQ.kp bP (fun aP o=>Te a.1)) dJ (eF.o.trans bP);obtain⟨bH,hg⟩:∃bH,bH=w7.heap.size:=⟨_,rfl⟩;have az:Zz (pg 1000 w9 w7 (.slice (some ⟨bH,0,none⟩) 1 1) 1):=Zy (by rw[hg];exact cu);rw[<-hg];clear dJ bP hk df hg cu dB;rcases fQ with rfl|rfl|rfl|rfl|rfl|rfl
 . have x:=aA;have n:=ay;go_wp2_with (first
    |(refine jH _ rfl (.tmp 39) (.tmp 40) rfl az rfl (aD.kp n b.1).any rfl Zm n fun gG aZ aW c aU=>?_;have s:=Zy aW;have m:=Zy c;have u:=Zy (mH x a aU);clear aW c aU)
    |(refine jH _ rfl (.tmp 41) (.tmp 42) rfl s rfl (aB.kp m b.1).any rfl Zm m fun aY Z f d e=>?_;have t:=Zy f;have g:=Zy d;have q:=Zy (mH u a e);clear f d e)
    |(refine jH _ rfl (.tmp 43) (.tmp 44) rfl t rfl (aC.kp g b.1).any rfl Zm g fun bC D l i j=>?_;have I:=Zy l;have H:=Zy i;have F:=Zy (mH q a j);clear l i j)
    |fail)
   go_ret;exact⟨uV I aF Zm Zm,⟨_,Zm,F.o⟩,ae.o.trans H.o⟩
 . have x:=aA;have n:=ay;go_wp2_with (first
    |(refine jH _ rfl (.tmp 39) (.tmp 40) rfl az rfl (aD.kp n b.1).any rfl Zm n fun gG aZ aW c aU=>?_;have s:=Zy aW;have m:=Zy c;have u:=Zy (mH x a aU);clear aW c aU)
    |(refine jH _ rfl (.tmp 41) (.tmp 42) rfl s rfl (aB.kp m b.1).any rfl Zm m fun aY Z f d e=>?_;have t:=Zy f;have g:=Zy d;have q:=Zy (mH u a e);clear f d e)
    |(refine jH _ rfl (.tmp 43) (.tmp 44) rfl t rfl (aC.kp g b.1).any rfl Zm g fun bC D l i j=>?_;have I:=Zy l;have H:=Zy i;have F:=Zy (mH q a j);clear l i j)
    |fail)
   go_ret;exact⟨uV I aF Zm Zm,⟨_,Zm,F.o⟩,ae.o.trans H.o⟩
 . have x:=aA;have n:=ay;go_wp2_with (first
    |(obtain⟨aZ,B,c,y,h⟩:=nG.two (Z:=1000) n ⟨#[97,115,107,115,32,116,111,112,32,49]⟩ ⟨#[97,115,107,115,32,99,101,108,108,32,49]⟩ Zn Zn;rw[<-B];have s:=Zy (az.ext h);have m:=Zy c;have u:=Zy (x.ext h);have aa:=Zy y;clear B c y h;refine jH _ rfl (.tmp 48) (.tmp 49) rfl s rfl (nG.lit (n:=2) [⟨#[97,115,107,115,32,116,111,112,32,49]⟩,⟨#[97,115,107,115,32,99,101,108,108,32,49]⟩] aa rfl Zn) rfl Zm m fun aY Z f d e=>?_;have t:=Zy f;have g:=Zy d;have q:=Zy (mH u a e);clear f d e)
    |(refine jH _ rfl (.tmp 50) (.tmp 51) rfl t rfl (aC.kp g b.1).any rfl Zm g fun bC D l i j=>?_;have I:=Zy l;have H:=Zy i;have F:=Zy (mH q a j);clear l i j)
    |(obtain⟨aH,G,J,aQ,au,-⟩:=nG.fresh (Z:=1000) H ⟨#[107,101,101,112,101,114]⟩ Zn;rw[<-G];have aJ:=Zy (I.ext au);have aI:=Zy J;have aM:=Zy (F.ext au);have bD:=Zy aQ;clear G J aQ au;refine jH _ rfl (.tmp 53) (.tmp 54) rfl aJ rfl (nG.lit (n:=1) [⟨#[107,101,101,112,101,114]⟩] bD rfl Zn) rfl Zm aI fun dR bU V P C=>?_;have af:=Zy V;have E:=Zy P;have ai:=Zy (mH aM a C);clear V P C)
    |(refine jH _ rfl (.tmp 55) (.tmp 56) rfl af rfl (aD.kp E b.1).any rfl Zm E fun dS bV W z S=>?_;have ag:=Zy W;have L:=Zy z;have aj:=Zy (mH ai a S);clear W z S)
    |(refine jH _ rfl (.tmp 57) (.tmp 58) rfl ag rfl (aB.kp L b.1).any rfl Zm L fun gH bW aX A aV=>?_;have ah:=Zy aX;have N:=Zy A;have ak:=Zy (mH aj a aV);clear aX A aV)
    |fail)
   go_ret;exact⟨uV ah aF Zm Zm,⟨_,Zm,ak.o⟩,ae.o.trans N.o⟩
 . have x:=aA;have n:=ay;go_wp2_with (first
    |(obtain⟨aZ,B,c,y,h,-⟩:=nG.fresh (Z:=1000) n ⟨#[97,115,107,115,32,99,101,108,108,32,49]⟩ Zn;rw[<-B];have s:=Zy (az.ext h);have m:=Zy c;have u:=Zy (x.ext h);have aa:=Zy y;clear B c y h;refine jH _ rfl (.tmp 62) (.tmp 63) rfl s rfl (nG.lit (n:=1) [⟨#[97,115,107,115,32,99,101,108,108,32,49]⟩] aa rfl Zn) rfl Zm m fun aY Z f d e=>?_;have t:=Zy f;have g:=Zy d;have q:=Zy (mH u a e);clear f d e)
    |fail)
   obtain⟨D,bu⟩:∃K,K=Z.alloc (.cells #[Tj,.int .i64 7] 3):=⟨_,rfl⟩;have bK:Ext Z D:=by rw[bu];exact jJ _
   have dY:Zz (jq D Z 3 #[Tj,.int .i64 7]):=Zy (by rw[bu];exact jq.new _ _ _);have⟨cz,fe,bY⟩:=jI (lF D r (p+1+1+1+1) v zs 2 (q.ext bK) Zm Zm) bu bK;have fA:=Zy q.o.below.1;clear bu bK;rw[<-fe.o];refine cz.mono ?_;rintro o aH ⟨⟨dM,rfl,fK⟩,dE,bg⟩;have gN:dM<2:=Zm
   obtain⟨ux,gp,fU⟩:=Hf (k:=dM) (dY.kp bg (Te fA.o)) Zr Zn;have J:=(g.trans bY.any).trans bg;obtain⟨rx,nx,fG,bQ⟩:=DD (DF dA J b.1) fU;obtain⟨⟨iE,iI,rfl⟩,gY,-⟩:=id bQ;have eU:=Zy bQ.any;have⟨aJ,aM,aI⟩:=jI ((t.ext bY).kp bg (fun aP o=>Te a.1)) dE J;have ib:=jv gp;have gJ:=jv fG;have iq:(ux:Int)<11:=Zm
   clear bg dE fK bQ cz J;go_wp2_with (first
    |(refine jH _ rfl (.tmp 64) (.tmp 72) rfl aJ rfl eU rfl Zm aI fun dR bU V P C=>?_;have af:=Zy V;have E:=Zy P;have ai:=Zy (mH aM a C);clear V P C)
    |(refine jH _ rfl (.tmp 73) (.tmp 74) rfl af rfl (aC.kp E b.1).any rfl Zm E fun dS bV W z S=>?_;have ag:=Zy W;have L:=Zy z;have aj:=Zy (mH ai a S);clear W z S)
    |(obtain⟨bW,aT,A,aR,av,-⟩:=nG.fresh (Z:=1000) L ⟨#[107,101,101,112,101,114]⟩ Zn;rw[<-aT];have ah:=Zy (ag.ext av);have N:=Zy A;have ak:=Zy (aj.ext av);have bE:=Zy aR;clear aT A aR av;refine jH _ rfl (.tmp 76) (.tmp 77) rfl ah rfl (nG.lit (n:=1) [⟨#[107,101,101,112,101,114]⟩] bE rfl Zn) rfl Zm N fun dU dW X Q T=>?_;have aK:=Zy X;have O:=Zy Q;have aN:=Zy (mH ak a T);clear X Q T)
    |(refine jH _ rfl (.tmp 78) (.tmp 79) rfl aK rfl (aD.kp O b.1).any rfl Zm O fun dV dX Y R U=>?_;have aL:=Zy Y;have ax:=Zy R;have aO:=Zy (mH aN a U);clear Y R U)
    |(refine jH _ rfl (.tmp 80) (.tmp 81) rfl aL rfl (aB.kp ax b.1).any rfl Zm ax fun iJ iK dO dD dN=>?_;have eP:=Zy dO;have eD:=Zy dD;have eT:=Zy (mH aO a dN);clear dO dD dN)
    |fail)
   go_ret;exact⟨uV eP aF Zm Zm,⟨_,Zm,eT.o⟩,ae.o.trans eD.o⟩
 . have x:=aA;have n:=ay;go_wp2_with (first
    |(obtain⟨aZ,B,c,y,h⟩:=nG.two (Z:=1000) n ⟨#[97,115,107,115,32,99,101,108,108,32,49]⟩ ⟨#[97,115,107,115,32,116,111,112,32,50]⟩ Zn Zn;rw[<-B];have s:=Zy (az.ext h);have m:=Zy c;have u:=Zy (x.ext h);have aa:=Zy y;clear B c y h;refine jH _ rfl (.tmp 85) (.tmp 86) rfl s rfl (nG.lit (n:=2) [⟨#[97,115,107,115,32,99,101,108,108,32,49]⟩,⟨#[97,115,107,115,32,116,111,112,32,50]⟩] aa rfl Zn) rfl Zm m fun aY Z f d e=>?_;have t:=Zy f;have g:=Zy d;have q:=Zy (mH u a e);clear f d e)
    |(refine jH _ rfl (.tmp 87) (.tmp 88) rfl t rfl (aC.kp g b.1).any rfl Zm g fun bC D l i j=>?_;have I:=Zy l;have H:=Zy i;have F:=Zy (mH q a j);clear l i j)
    |(obtain⟨aH,G,J,aQ,au⟩:=nG.two (Z:=1000) H ⟨#[107,101,101,112,101,114]⟩ ⟨#[97,115,107,115,32,116,111,112,32,50]⟩ Zn Zn;rw[<-G];have aJ:=Zy (I.ext au);have aI:=Zy J;have aM:=Zy (F.ext au);have bD:=Zy aQ;clear G J aQ au;refine jH _ rfl (.tmp 90) (.tmp 91) rfl aJ rfl (nG.lit (n:=2) [⟨#[107,101,101,112,101,114]⟩,⟨#[97,115,107,115,32,116,111,112,32,50]⟩] bD rfl Zn) rfl Zm aI fun dR bU V P C=>?_;have af:=Zy V;have E:=Zy P;have ai:=Zy (mH aM a C);clear V P C)
    |(refine jH _ rfl (.tmp 92) (.tmp 93) rfl af rfl (aB.kp E b.1).any rfl Zm E fun dS bV W z S=>?_;have ag:=Zy W;have L:=Zy z;have aj:=Zy (mH ai a S);clear W z S)
    |(obtain⟨bW,aT,A,aR,av,-⟩:=nG.fresh (Z:=1000) L ⟨#[107,101,101,112,101,114]⟩ Zn;rw[<-aT];have ah:=Zy (ag.ext av);have N:=Zy A;have ak:=Zy (aj.ext av);have bE:=Zy aR;clear aT A aR av;refine jH _ rfl (.tmp 95) (.tmp 96) rfl ah rfl (nG.lit (n:=1) [⟨#[107,101,101,112,101,114]⟩] bE rfl Zn) rfl Zm N fun dU dW X Q T=>?_;have aK:=Zy X;have O:=Zy Q;have aN:=Zy (mH ak a T);clear X Q T)
    |(refine jH _ rfl (.tmp 97) (.tmp 98) rfl aK rfl (aD.kp O b.1).any rfl Zm O fun dV dX Y R U=>?_;have aL:=Zy Y;have ax:=Zy R;have aO:=Zy (mH aN a U);clear Y R U)
    |fail)
   go_ret;exact⟨uV aL aF Zm Zm,⟨_,Zm,aO.o⟩,ae.o.trans ax.o⟩
 . have x:=aA;have n:=ay;go_wp2_with (first
    |(obtain⟨aZ,B,c,y,h⟩:=nG.two (Z:=1000) n ⟨#[97,115,107,115,32,116,111,112,32,49]⟩ ⟨#[97,115,107,115,32,99,101,108,108,32,49]⟩ Zn Zn;rw[<-B];have s:=Zy (az.ext h);have m:=Zy c;have u:=Zy (x.ext h);have aa:=Zy y;clear B c y h;refine jH _ rfl (.tmp 100) (.tmp 101) rfl s rfl (nG.lit (n:=2) [⟨#[97,115,107,115,32,116,111,112,32,49]⟩,⟨#[97,115,107,115,32,99,101,108,108,32,49]⟩] aa rfl Zn) rfl Zm m fun aY Z f d e=>?_;have t:=Zy f;have g:=Zy d;have q:=Zy (mH u a e);clear f d e)
    |(refine jH _ rfl (.tmp 102) (.tmp 103) rfl t rfl (aC.kp g b.1).any rfl Zm g fun bC D l i j=>?_;have I:=Zy l;have H:=Zy i;have F:=Zy (mH q a j);clear l i j)
    |fail)
   obtain⟨aH,G⟩:∃K,K=D.alloc (.cells #[.string ⟨#[97,115,107,115,32,116,111,112,32,48]⟩,.string ⟨#[97,115,107,115,32,99,101,108,108,32,49]⟩,.string ⟨#[97,115,107,115,32,110,111,110,101,32,48]⟩] 9):=⟨_,rfl⟩;have bL:Ext D aH:=by rw[G];exact jJ _
   have dZ:Zz (jq aH D 9 #[.string ⟨#[97,115,107,115,32,116,111,112,32,48]⟩,.string ⟨#[97,115,107,115,32,99,101,108,108,32,49]⟩,.string ⟨#[97,115,107,115,32,110,111,110,101,32,48]⟩]):=Zy (by rw[G];exact jq.new _ _ _);have⟨cB,fo,bZ⟩:=jI (lF aH r (p+1+1+1+1) v zs 3 (F.ext bL) Zm Zm) G bL;have fB:=Zy F.o.below.1;clear G bL;rw[<-fo.o];refine cB.mono ?_;rintro o bU ⟨⟨C,rfl,fM⟩,dF,bn⟩;have gP:C<3:=Zm
   obtain⟨sx,gq,gZ⟩:=vS (k:=C) (dZ.kp bn (Te fB.o)) Zr Zn;have⟨af,ai,E⟩:=jI ((I.ext bZ).kp bn (fun aP o=>Te a.1)) dF ((H.o.trans bZ.o.any).trans bn);have ic:=jv gq;clear bn dF fM cB;go_wp2_with (first
    |(obtain⟨bV,dK,z,dC,bG⟩:=nG.two (Z:=1000) E ⟨#[107,101,101,112,101,114]⟩ sx Zn Zm;rw[<-dK];have ag:=Zy (af.ext bG);have L:=Zy z;have aj:=Zy (ai.ext bG);have eB:=Zy dC;clear dK z dC bG;refine jH _ rfl (.tmp 105) (.tmp 111) rfl ag rfl (nG.lit (n:=2) [⟨#[107,101,101,112,101,114]⟩,sx] eB rfl (RL Zn Zm)) rfl Zm L fun gH bW aX A aV=>?_;have ah:=Zy aX;have N:=Zy A;have ak:=Zy (mH aj a aV);clear aX A aV)
    |(refine jH _ rfl (.tmp 112) (.tmp 113) rfl ah rfl (aD.kp N b.1).any rfl Zm N fun dU dW X Q T=>?_;have aK:=Zy X;have O:=Zy Q;have aN:=Zy (mH ak a T);clear X Q T)
    |(refine jH _ rfl (.tmp 114) (.tmp 115) rfl aK rfl (aB.kp O b.1).any rfl Zm O fun dV dX Y R U=>?_;have aL:=Zy Y;have ax:=Zy R;have aO:=Zy (mH aN a U);clear Y R U)
    |fail)
   go_ret;exact⟨uV aL aF Zm Zm,⟨_,Zm,aO.o⟩,ae.o.trans ax.o⟩
def J8(w w':World)(e:Ending):Prop:=∃(n m:ByteArray)(a:Option Addr)(c:Nat)(args:List Int),e=.returned (.tuple #[.string n,.string m,.slice a args.length c])/\SliceOf 1 qx w' (fun b=>w.heap.size<=b) (.slice a args.length c) args/\args.length<=1/\n.size<=20/\m.size<=20
theorem IL{w d:World}{g:Nat}{n m:ByteArray}(b:n.size<=20)(a:m.size<=20):J8 w d (.returned (.tuple #[n,m,.slice (some ⟨g,0,none⟩) 0 0])):=
 ⟨n,m,_,_,[],rfl,⟨_,_,rfl,Tu _,Zl,fun e f c=>by simp at c⟩,Zl,b,a⟩
theorem zm{w a:World}{g c:Nat}{n m:ByteArray}{x:Int}(d:hQ a g 0 [x])(e:w<=g)(b:1<=c)(h:n.size<=20)(f:m.size<=20):J8 w a (.returned (.tuple #[n,m,.slice (some ⟨g,0,none⟩) 1 c])):=
 ⟨n,m,_,_,[x],rfl,SliceOf.row (R:=qx) (xs:=[x]) [[x]] d rfl Zl ⟨rfl,trivial⟩ e b Zl,Zl,h,f⟩
theorem Qr{k:Nat}(cs:List Value)(e:k<cs.length)(c:cs.all Me=true):∃b:ByteArray,(∀c:k<cs.length,cs[k]'c=.string b)/\b.size<=20:=by
 have a:=Tc.1 c cs[k] Zl;unfold Me at a;split at a
 . rename_i b d;exact⟨b,fun _=>d,by simpa using a⟩
 . cases a
theorem Ns(w:World)(a p:Nat)(v:Value)(j:List Int)(q:qI w a v j p)(hp:p<=700000):Calls prog 15 #[some a] w fun l B=>J8 w B l/\(∃Q,Q<=p+10/\qI B a v j Q)/\Kp (·=a) w B:=by
 have X:=Zy q.below;obtain⟨S,N,r,I⟩:=nu w #[Tj,.int .i64 1,.int .i64 3,.int .i64 5,.int .i64 (-1),.int .i64 9999] 3;have⟨F,V,Y⟩:=jI (lF S a p v j 6 (q.ext r) Zm Zm) I N;have D:Zz (Kp (·=a) w S):=Zy r.any;clear q N r I;go_enter func15,ntmps15;go_wp2_with fail;rw[<-Y.o];refine F.o.mono ?_;rintro l T ⟨⟨k,rfl,hk⟩,u,m⟩;have aj:k<6:=by omega
 obtain⟨ag,P,-,-⟩:=Dv (k:=k) (V.o.kp m (by have:=X.o.1;omega)) Zr Zn;obtain⟨w3,O,s,J⟩:=nu T #[ag] 3;have af:=jv P;have⟨G,C,Z,W⟩:=kD (lF w3 a (p+1) v j 12 (u.ext s) Zm Zm) J O ((D.o.trans m).trans s.any);obtain⟨d,M⟩:∃d,d=T.heap.size:=⟨_,rfl⟩;have i:Zz (w.heap.size<=d):=Zy (by have:=D.o.size;have:=m.size;omega);have o:Zz (d≠a):=Zy (by have:=u.below.1;omega);clear O s J u m hk F;go_wp2_with fail;rw[<-Z.o];refine G.o.mono ?_;rintro l g ⟨⟨f,rfl,ht⟩,K,t⟩;have ae:f=0\/f=1\/f=2\/f=3\/f=4\/f=5\/(6<=f/\f<12):=by omega
 rw[<-M]at C |-;have⟨h,b,c⟩:=jI (C.o.kp t o.o) (W.o.trans t) K;clear K t ht G P af M;rcases ae with rfl|rfl|rfl|rfl|rfl|rfl|⟨t6,au⟩
 . go_wp2_with fail;refine PG (v:=.tuple #[.string ⟨#[116,111,112]⟩,.string ⟨#[103,101,116]⟩,.slice (some ⟨g.heap.size,0,none⟩) 0 0]) (by simp[results,results15,go_sem]) rfl ?_;exact⟨IL Zn Zn,⟨_,by omega,c.o.ext (jJ _)⟩,b.o.trans (jJ _)⟩
 . go_wp2_with fail;refine PG (v:=.tuple #[.string ⟨#[99,101,108,108]⟩,.string ⟨#[103,101,116]⟩,.slice (some ⟨g.heap.size,0,none⟩) 0 0]) (by simp[results,results15,go_sem]) rfl ?_;exact⟨IL Zn Zn,⟨_,by omega,c.o.ext (jJ _)⟩,b.o.trans (jJ _)⟩
 . have aa:=Zy b.o.size;go_wp2_with fail;refine PG (v:=.tuple #[.string ⟨#[109,97,105,110]⟩,.string ⟨#[114,117,110]⟩,.slice (some ⟨g.heap.size,0,none⟩) 1 1]) (by simp[results,results15,go_sem]) rfl ?_;exact⟨zm (hQ.oI _ _ rfl) aa.o (Tu _) Zn Zn,⟨_,by omega,c.o.ext (jJ _)⟩,b.o.trans (jJ _)⟩
 . go_wp2_with fail;refine PG (v:=.tuple #[.string ⟨#[109,97,105,110]⟩,.string ⟨#[110,111,110,101]⟩,.slice (some ⟨d,0,none⟩) 1 1]) (by simp[results,results15,go_sem]) rfl ?_;exact⟨zm (hQ.kX h.o) i.o (Tu _) Zn Zn,⟨_,by omega,c.o⟩,b.o⟩
 . go_wp2_with fail;refine PG (v:=.tuple #[.string ⟨#[65]⟩,.string ⟨#[114,117,110]⟩,.slice (some ⟨d,0,none⟩) 1 1]) (by simp[results,results15,go_sem]) rfl ?_;exact⟨zm (hQ.kX h.o) i.o (Tu _) Zn Zn,⟨_,by omega,c.o⟩,b.o⟩
 . go_wp2_with fail;refine PG (v:=.tuple #[.string ⟨#[116,111,112]⟩,.string ⟨#[98,117,109,112]⟩,.slice (some ⟨d,0,none⟩) 1 1]) (by simp[results,results15,go_sem]) rfl ?_;exact⟨zm (hQ.kX h.o) i.o (Tu _) Zn Zn,⟨_,by omega,c.o⟩,b.o⟩
 . go_upto_region 15 with(fail);first|(go_region_with (go_at_call 37;refine(lF _ a (p+1+1) v j 4 (c.o.ext kx) Zm Zm).mono ?_;rintro l U ⟨⟨A,rfl,hj⟩,L,e⟩;(have ai:A<4:=by omega);have H:=Zy L;have ah:=Zy e;clear L hj;(first|(with_reducible change Kp (·=a) (g.alloc (.cells #[.string ⟨#[114,117,110]⟩,.string ⟨#[114,117,110]⟩,.string ⟨#[115,117,109]⟩,.string ⟨#[99,97,115,116]⟩] 9)).drew U at e;have E:=Zy (((jJ _).drew).trans e);have y:=vS (k:=A) (((jq.new g 9 #[.string ⟨#[114,117,110]⟩,.string ⟨#[114,117,110]⟩,.string ⟨#[115,117,109]⟩,.string ⟨#[99,97,115,116]⟩]).ext (jA)).kp e (by have:=c.o.below.1;omega)) Zr Zn;clear e;obtain⟨R,x,z⟩:=y;have ak:=jv x)|(with_reducible change Kp (·=a) g.drew U at e;have E:=Zy ((jA).trans e);have y:=Qr (k:=A) [.string ⟨#[114,117,110]⟩,.string ⟨#[114,117,110]⟩,.string ⟨#[115,117,109]⟩,.string ⟨#[99,97,115,116]⟩] Zr Zn;clear e;obtain⟨R,x,z⟩:=y))))|fail
   all_goals
    go_wp2_with fail;refine PG (v:=.tuple #[.string ⟨#[109,97,105,110]⟩,R,.slice (some ⟨d,0,none⟩) 1 1]) (by simp[results,results15,go_sem,x]) rfl ?_;have n:=(Kp.refl (·=a) g).trans E.o;first
    |exact⟨zm (hQ.kX (h.o.kp n o.o)) i.o (Tu _) Zn z,⟨_,by omega,H.o⟩,b.o.trans n⟩
    |exact⟨zm (hQ.kX ((h.o.kp n o.o).ext (jJ _))) i.o (Tu _) Zn z,⟨_,by omega,H.o.ext (jJ _)⟩,(b.o.trans n).trans (jJ _)⟩
theorem JJ{w:World}(I:Nat->Prop){cs:List Value}(c:mZ)(H:jo w I c cs)(p:jl)(N:Int)(ax:N=p.length)(aM:0<=N)(aN:N<=1000):Calls prog 77 #[.agg cs.toArray,N] w fun o w'=>o=.returned (.bool (kC p c))/\Ext w w':=by
 have aB:=Zy ax;clear ax;obtain⟨vf,vm,rfl,T,A⟩:=H;obtain⟨a1,m1,rfl,aO,aK⟩:=T.form;obtain⟨a2,m2,rfl,aP,aL⟩:=A.form;obtain⟨w0,ay,aj,hb⟩:=nu w #[.slice a1 c.owns.length m1,.slice a2 c.asks.length m2] 32;obtain⟨cz,c2,c3,-⟩:=hb.ca;have⟨HF,HM,l,Q⟩:=kD T A aj ay;clear aj hb ay T A;by_cases h5:5<c.owns.length
 . have ai:decide ((5:Int)<c.owns.length)=true:=Tw Zm;go_enter func77,ntmps77;go_wp2_with fail;rw[<-Q.o];go_wp2;go_ret;exact⟨hV (by unfold kC;rw[SS (show¬c.owns.length<=5 by omega)];rfl),l⟩
 have ai:decide ((5:Int)<c.owns.length)=false:=SS Zm;by_cases h4:4<c.asks.length
 . have ah:decide ((4:Int)<c.asks.length)=true:=Tw Zm;go_enter func77,ntmps77;go_wp2_with fail;rw[<-Q.o];go_wp2;go_ret;exact⟨hV (by unfold kC;rw[SS (show¬c.asks.length<=4 by omega)];simp),l⟩
 have ae:Zz (kC p c=(jU Class.name o9 c.owns []&&jU M.Ask.name (fun g=>jL g.name&&has p g.keeper) c.asks [])):=Zy (by unfold kC;rw[Tw (show c.owns.length<=5 by omega),Tw (show c.asks.length<=4 by omega)];rfl);have ah:decide ((4:Int)<c.asks.length)=false:=SS Zm;go_enter func77,ntmps77;go_wp2_with fail;rw[<-Q.o];go_wp2;go_loopw [5] (fun i wr=>∃d:Nat,d<=c.owns.length/\i=.int .i64 d/\Ext w0 wr/\Zz (jU Class.name o9 (c.owns.take d) []=true)) (fun i _=>c.owns.length - (intOf i).toNat)
 case atStart=>exact⟨0,Tz _,rfl,Kp.rr,Zy rfl⟩
 case round=>
  obtain⟨d,hk,rfl,u,t⟩:=hrel;have C:=Zy u;have S:=u.jm c2;have d3:=u.jm c3;have dz:=jv S;clear c2 c3 cz ai ah;by_cases au:d<c.owns.length
  . have dk:(d:Int)<c.owns.length:=Zm
    obtain⟨k,x⟩:∃k,c.owns[d]?=some k:=⟨c.owns[d]'au,CU au⟩;obtain⟨R,aa,cs,rfl,hI,V,-,K⟩:=HF.get x;obtain⟨ma,mu,mb,mv,rfl⟩:=V.form;have ak:=jT.stays _ _ _ _ _ _ (Ext.same (l.trans C)) (fun _ H=>H) V;obtain⟨F,G,g2,g3⟩:=(K.ext (l.trans u)).four;have P:=Zy ((HF.take (i:=d) Zm).ext jT.stays (l.trans u));have L:(c.owns.take d).length=d:=by rw[TN];omega
    obtain⟨aC,aF,aI,m⟩:=lL wr;have y0:=fun f=>(m.jC f).jm F;have y1:=fun f=>(m.jC f).jm G;have y2:=fun f=>(m.jC f).jm g2;have y3:=fun f=>(m.jC f).jm g3;have ye:=fun f=>(m.jC f).jm S;have e:=Zy m;have aA:=Zy ak;have⟨az,r⟩:=jw L (xe (name:=Class.name) (ok:=o9) x);have y:Zz (jU Class.name o9 (c.owns.take (d+1)) []=false->kC p c=false):=Zy fun o=>by rw[ae.o,zt o];rfl
    clear m u K x F G g2 g3 dz L V ak;go_wp2_with fail;have h:Ext wr wr.drew:=jA;refine lq e 22 [([0,1,2,3,4],5),([6,7,8,9,10,11,12,13,14,15,16,17,18],19)] [20,21] ?_ ?_
    . exact jA
    refine nE ?_;intro b a;go_wp2_with fail;refine(PQ I k (jT.stays _ _ _ _ _ _ (Ext.same h) (fun _ H=>H) aA)).mono ?_;rintro o w2 ⟨rfl,aG⟩;obtain⟨q2,v⟩:∃j,o9 k=j:=⟨_,rfl⟩;have E:=Zy v;rw[v];clear v;have B:=h.trans aG;cases q2
    . go_wp2_with fail;refine kk e a B ?_;clear a b;refine nE ?_;intro b a;go_wp2_with fail;refine kk e a B ?_;clear a b;refine uC ?_;go_wp2;go_ret;exact⟨hV (y (by rw[r.o,E.o];simp)).symm,(l.trans C).trans B⟩
    go_wp2_with fail;refine kk e a B ?_;clear a b;refine nE ?_;intro b a;go_wp2_with fail;refine(PT I (.slice (some ⟨R,aa,none⟩) d m1) () (c.owns.take d) (P.ext jT.stays B) k.name).mono ?_;rintro o w3 ⟨⟨Z,rfl,s⟩,U⟩;have q:=B.trans U;obtain⟨j,X⟩:∃j,decide (0<=Z)=j:=⟨_,rfl⟩;simp only[oP]at s;rw[X]at s;have D:=Zy s;clear s;cases j
    . go_wp2_with fail;refine kk e a q ?_;clear a b;refine uC ?_;go_wp2;go_round
      case rel=>exact⟨d+1,Zm,Zk,C.o.trans q,Zy (by rw[r.o,t.o,E.o,<-D.o];rfl)⟩
      case measure=>exact Zj
    . go_wp2_with fail;refine kk e a q ?_;clear a b;refine uC ?_;go_wp2;go_ret;exact⟨hV (y (by rw[r.o,<-D.o];simp)).symm,(l.trans C).trans q⟩
  . have dk:¬(d:Int)<c.owns.length:=Zm
    obtain⟨wo,rfl⟩:∃wo:World,wo=wr:=⟨_,rfl⟩;have af:Zz (kC p c=jU M.Ask.name (fun g=>jL g.name&&has p g.keeper) c.asks []):=Zy (by have:=t.o;rw[Tq Zm]at this;rw[ae.o,this];rfl);clear u t;go_wp2;go_loopw [6] (fun i wr=>∃d:Nat,d<=c.asks.length/\i=.int .i64 d/\Ext wo wr/\Zz (jU M.Ask.name (fun g=>jL g.name&&has p g.keeper) (c.asks.take d) []=true)) (fun i _=>c.asks.length - (intOf i).toNat)
    case atStart=>exact⟨0,Tz _,rfl,Kp.rr,Zy rfl⟩
    case round=>
     obtain⟨n,aJ,rfl,J,t⟩:=hrel;have⟨z,aH⟩:=jw (C.trans J) J;have e3:=J.jm d3;have ez:=jv e3;clear S d3 dz;by_cases av:n<c.asks.length
     . have aD:(n:Int)<c.asks.length:=Zm
       obtain⟨k,x⟩:∃k,c.asks[n]?=some k:=⟨c.asks[n]'av,CU av⟩;obtain⟨R,aa,cs,rfl,hI,rfl,-,K⟩:=HM.get x;obtain⟨F,G⟩:=(K.ext (l.trans z)).two;have P:=Zy ((HM.take (i:=n) Zm).ext vL.stays (l.trans z));have L:(c.asks.take n).length=n:=by rw[TN];omega
       obtain⟨aC,aF,aI,m⟩:=lL wr;have y0:=fun f=>(m.jC f).jm F;have y1:=fun f=>(m.jC f).jm G;have ye:=fun f=>(m.jC f).jm e3;have⟨e,az,r⟩:=jI m L (xe (name:=M.Ask.name) (ok:=fun g=>jL g.name&&has p g.keeper) x);have y:Zz (jU M.Ask.name (fun g=>jL g.name&&has p g.keeper) (c.asks.take (n+1)) []=false->kC p c=false):=Zy fun o=>by rw[af.o,zt o]
       clear m J K x F G ez L;go_wp2_with fail;have h:Ext wr wr.drew:=jA;refine lq e 35 [([0,1,2,3,4,5],6),([7,8,9,10,11,12,13,14,15,16],17),([18,19,20,21,22,23,24,25,26,27,28,29,30,31],32)] [33,34] ?_ ?_
       . exact jA
       refine nE ?_;intro b a;go_wp2_with fail;refine(kT _ _).mono ?_;rintro o w1 ⟨rfl,rfl⟩;obtain⟨q1,Y⟩:∃j,jL k.name=j:=⟨_,rfl⟩;have ag:=Zy Y;rw[Y];clear Y;cases q1
       . go_wp2_with fail;refine kk e a h ?_;clear a b;refine nE ?_;intro b a;go_wp2_with fail;refine kk e a h ?_;clear a b;refine nE ?_;intro b a;go_wp2_with fail;refine kk e a h ?_;clear a b;refine uC ?_;go_wp2;go_ret;exact⟨hV (y (by rw[r.o,ag.o];simp)).symm,(l.trans z).trans h⟩
       go_wp2_with fail;refine kk e a h ?_;clear a b;refine nE ?_;intro b a;go_wp2_with fail;refine(rD).mono ?_;rintro o w' ⟨rfl,rfl⟩;obtain⟨q2,v⟩:∃j,(decide ((0:Int)<=k.keeper)&&decide (k.keeper<=N - 1))=j:=⟨_,rfl⟩;have E:Zz (has p k.keeper=q2):=Zy (by
        rw[<-v];unfold has;congr 1;exact UH.2 (Te aB.o))
       rw[v];clear v;cases q2
       . go_wp2_with fail;refine kk e a h ?_;clear a b;refine nE ?_;intro b a;go_wp2_with fail;refine kk e a h ?_;clear a b;refine uC ?_;go_wp2;go_ret;exact⟨hV (y (by rw[r.o,E.o];simp)).symm,(l.trans z).trans h⟩
       go_wp2_with fail;refine kk e a h ?_;clear a b;refine nE ?_;intro b a;go_wp2_with fail;refine(NB I (.slice (some ⟨R,aa,none⟩) n m2) () (c.asks.take n) (P.ext vL.stays h) k.name).mono ?_;rintro o w3 ⟨⟨Z,rfl,s⟩,U⟩;have q:=h.trans U;obtain⟨j,X⟩:∃j,decide (0<=Z)=j:=⟨_,rfl⟩;have D:Zz (j=(c.asks.take n).any fun O=>decide (O.name=k.name)):=Zy (by
        simp only[oP]at s;rw[<-X];rcases s with⟨O,hy,W,rfl⟩|⟨W,rfl⟩
        . rw[VC.2 ⟨O,hy,W⟩];have A:=qc t O hy;simp only[RV]at A;exact Tw (Dr.1 A.2).1
        . rw[W];rfl)
       clear s;cases j
       . go_wp2_with fail;refine kk e a q ?_;clear a b;refine uC ?_;go_wp2;go_round
         case rel=>exact⟨n+1,Zm,Zk,aH.o.trans q,Zy (by rw[r.o,t.o,ag.o,E.o,<-D.o];rfl)⟩
         case measure=>exact Zj
       . go_wp2_with fail;refine kk e a q ?_;clear a b;refine uC ?_;go_wp2;go_ret;exact⟨hV (y (by rw[r.o,<-D.o];simp)).symm,(l.trans z).trans q⟩
     . have aD:¬(n:Int)<c.asks.length:=Zm
       clear J;go_wp2;go_ret;exact⟨hV (by have:=t.o;rw[Tq Zm]at this;rw[af.o,this]),l.trans z⟩
theorem Bj(w:World)(I:Nat->Prop){v:Value}(p:jl)(b:SliceOf 2 jo w I v p):Calls prog 30 #[.agg #[v]] w fun n N=>n=.returned (.bool (kv p))/\Ext w N:=by
 obtain⟨R,W,rfl,af,ae⟩:=b.form;obtain⟨X,L,F,H⟩:=nu w #[.slice R p.length W] 25;obtain⟨S,A,-⟩:=H.ca;have⟨O,c,Q⟩:=jI b F L;clear F H L b;go_enter func30,ntmps30;go_wp2_with fail;rw[<-Q.o];go_wp2_with fail;refine(rD).mono ?_;rintro n N ⟨rfl,rfl⟩;obtain⟨q1,j⟩:∃t,(decide ((1:Int)<=p.length)&&decide ((p.length:Int)<=3))=t:=⟨_,rfl⟩;have l:Zz (kv p=(q1&&p.all (kC p))):=Zy (by
  unfold kv;rw[<-j];congr 2
  . exact UH.2 Zm
  . exact UH.2 Zm)
 rw[j];cases q1
 . go_wp2;go_ret;exact⟨hV (by rw[l.o];rfl),c⟩
 have ah:(p.length:Int)<=3:=by simp at j;omega
 clear j;go_wp2;go_loopw [3] (fun s wr=>∃a:Nat,a<=p.length/\s=.int .i64 a/\Ext X wr/\Zz ((p.take a).all (kC p)=true)) (fun s _=>p.length - (intOf s).toNat)
 case atStart=>exact⟨0,Tz _,rfl,Kp.rr,Zy Zl⟩
 case round=>
  obtain⟨a,hk,rfl,e,u⟩:=hrel;have g:=Zy e;have B:=e.jm A;have U:=jv B;clear A S;by_cases K:a<p.length
  . have T:(a:Int)<p.length:=Zm
    obtain⟨k,r⟩:∃k,p[a]?=some k:=⟨p[a]'K,CU K⟩;obtain⟨Z,ai,cs,rfl,hI,o,-,J⟩:=O.get r;obtain⟨ma,mu,mb,mv,rfl⟩:=o.form;have G:=jo.stays _ _ _ _ _ _ (Ext.same (c.trans g)) (fun _ b=>b) o;obtain⟨C,D⟩:=(J.ext (c.trans e)).two;obtain⟨Y,aa,ag,d⟩:=lL wr;have y0:=fun f=>(d.jC f).jm C;have y1:=fun f=>(d.jC f).jm D;have ye:=fun f=>(d.jC f).jm B;have m:=Zy d;have P:=Zy G;have y:=Zy r;clear d e J r C D U o G;go_wp2_with fail;have E:Ext wr wr.drew:=jA;refine lq m 10 [([0,1,2,3,4,5,6,7],8)] [9] ?_ ?_
    . exact jA
    refine nE ?_;intro z i;go_wp2_with fail;refine(JJ I k (jo.stays _ _ _ _ _ _ (Ext.same E) (fun _ b=>b) P) p p.length rfl Zm Zm).mono ?_;rintro n w2 ⟨rfl,V⟩;obtain⟨q2,q⟩:∃t,kC p k=t:=⟨_,rfl⟩;have x:=Zy q;rw[q];clear q;have h:=E.trans V;cases q2
    . go_wp2_with fail;refine kk m i h ?_;clear i z;refine uC ?_;go_wp2;go_ret;exact⟨hV (by rw[l.o,Dn y.o x.o];rfl),(c.trans g).trans h⟩
    . go_wp2_with fail;refine kk m i h ?_;clear i z;refine uC ?_;go_wp2;go_round
      case rel=>exact⟨a+1,Zm,Zk,g.o.trans h,Zy (DT y.o x.o u.o)⟩
      case measure=>exact Zj
  . have T:¬(a:Int)<p.length:=Zm
    clear e;go_wp2;go_ret;exact⟨hV (by have:=u.o;rw[Tq Zm]at this;rw[l.o,this];rfl),c.trans g⟩
def Oa(F:jl->Prop)(w w':World)(e:Ending):Prop:=∃p v n,e=.returned (.tuple #[.agg #[v],.int .i64 n])/\SliceOf 2 jo w' (fun b=>w.heap.size<=b/\b<w'.heap.size) v p/\0<=n/\(p=[]\/(kv p=true/\F p))
theorem xy{F:jl->Prop}{w wc:World}(p:jl){v:Value}(g:Ext w wc)(j:SliceOf 2 jo wc (fun a=>w+1<=a) v p)(n:Int)(h:0<=n)(i:p=[]\/(kv p=true/\F p))(d:Value):Oa F w (wc.setCell w d) (.returned (.tuple #[.agg #[v],n]))/\Ext w (wc.setCell w d):=by
 have e:Kp (·=w) wc (wc.setCell w d):=qM;have k:=j.keep (J:=fun a=>w+1<=a) jo.stays (e.same fun a b f=>Zm) (fun a b=>b);have l:=k.inside (fun _ _ _ _ c=>jo.inside c) Zm;exact⟨⟨p,v,n,rfl,l.keep jo.stays (fun _ _ _ _ c=>c) (fun a b=>⟨Zm,b.2⟩),h,i⟩,g.own e fun a f=>Zm⟩
theorem Ij(Q:Nat->jl->Prop)(w:World)(I:Nat->Prop)(v:Value)(c:List ByteArray)(Y:SliceOf 1 lQ w I v c)(aS:∀bK∈c,bK.size<=1000000)(aP:Q 0 [])(aR:∀b i d s,c[b]?=some s->Q b i->NZ s i d->Q (b+1) d):Calls prog 35 #[v] w fun o w'=>Oa (Q c.length) w w' o/\Ext w w':=by
 obtain⟨bM,bN,rfl,bQ,bR⟩:=Y.form;by_cases hl:400<c.length
 . have bI:(400:Int)<c.length:=Zm
   have J:=Zy (fun(m:Int) (D:0<=m) F=>xy (F:=Q c.length) (w:=w) (wc:=w.alloc (.cells #[()] 25)) [] (jJ _) (SliceOf.nil _ _ _ _) m D (.inl rfl) F);clear Y;go_enter func35,ntmps35;go_wp2_with fail;refine PG (hU rU rfl w rfl [()] (hQ.oI _ _ rfl) rfl) rfl ?_;exact⟨⟨[],_,_,rfl,SliceOf.nil _ _ _ _,Zm,.inl rfl⟩,Zx⟩
 have bI:¬(400:Int)<c.length:=Zm
 obtain⟨G,N⟩:=S9 ((w.alloc (.cells #[()] 25)).alloc (.cells #[()] 25));have au:Ext w G:=by rw[N];exact Zx
 have b2:jq G w 25 #[()]:=by rw[N];exact(jq.new _ _ _).ext Zx
 have b4:jq G (w+1) 25 #[()]:=by rw[N];exact jq.BU _ _ Zl
 have aU:G.heap.size=w+2:=by rw[N];simp
 have⟨bC,bD,aV,aX,aZ,HV,bB,bz,bg⟩:=AV N aU b2 b4 au (Y.ext lQ.stays au) Y aS aP;have bn:=Zy aR;clear N aU b2 b4 au Y aS aP aR;go_enter func35,ntmps35;go_upto_region 4 with(fail);rw[<-bC.o];go_wp2;go_loopw [5] (fun ay wr=>∃(b:Nat)(i:jl)(T:Option Addr)(P Z:Nat),b<=c.length/\ay=.int .i64 b/\jq wr (w+1) 25 #[.slice T P Z]/\SliceOf 2 jo wr (fun h=>w+2<=h) (.slice T P Z) i/\uF b i/\Q b i/\Kp (·=w+1) G wr) (fun ay _=>c.length - (intOf ay).toNat)
 case atStart=>exact⟨0,[],_,_,_,Tz _,rfl,aX,SliceOf.nil _ _ _ _,⟨Zl,Zl⟩,bg,Kp.rr⟩
 case round=>
  obtain⟨b,i,T,P,Z,hk,rfl,f,hs,ax,aQ,r⟩:=hrel;have aF:=Zy aQ;clear aQ;have⟨HB,HS,aH,HK⟩:=kD f hs ax r;have aJ:Zz ((w:Nat)+2<=(wr:Nat)):=Zy (Tf r.size bD.o);have⟨ah,n⟩:=jw (aZ.own r fun h o=>Zm) (aV.o.kp r Zm);by_cases aO:b<c.length
  . have dk:(b:Int)<c.length:=Zm
    obtain⟨s,hx⟩:∃s,c[b]?=some s:=⟨c[b]'aO,CU aO⟩;have aT:=bz.o s (Tx hx);have aI:=Zy (fun d=>bn.o b i d s hx aF);obtain⟨bl,ol,rfl,gl⟩:=lQ.at_ bB hx;have aK:=ah.jm gl;obtain⟨bL,bP,bS,HT⟩:=lL wr;have y0:=fun az=>(HT.jC az).jm aK;have y1:=fun az=>(f.ext (HT.jC az)).c 0 (.slice T P Z) rfl;have t:=Zy HT;obtain⟨cz,V,-⟩:=n.ca;have aj:=n.frozen 0;obtain⟨ak,W,-⟩:=f.ca;have bF:=f.frozen 0;have aD:=Zy (hs.inside (fun _ _ _ _ a=>jo.inside a) Zm);clear f hs ax r HT hx gl aK;go_upto_region 7 with(fail);go_cut [6,7] (fun s6 s7 wx=>∃U q d u k A,s6=.pointer (some ⟨U,0,none⟩)/\s7=.bool q/\jq wx U 25 #[.slice u k A]/\SliceOf 2 jo wx (fun h=>w+2<=h) (.slice u k A) d/\uF (b+1) d/\(q=true->Q (b+1) d)/\Ext wr wx)
    case first=>
     refine rQ t 11 (.two [0,1,2,3,4] 5 9 (.one [6,7,8] 9 (.one [] 10 (.fin []))) (.one [] 5 (.one [6,7,8] 10 (.fin [])))) ?_ ?_
     . exact jA
     refine two [_,_,_,_,_] rfl rfl rfl fun bE r=>?_;(repeat (go_big_quiet_step (fail)));((refine EP r (fun l e=>?_) fun l e=>?_)<;>clear r bE)
     . have x:Ext wr wr.drew:=jA;go_wp2_with fail;refine(GK (fun _ a=>Ta a.2 x.size) i (aD.ext jo.stays x) s aT b Zm aH).mono ?_;rintro o H ⟨⟨d,v',q,rfl,j,L,z⟩,g⟩;have S:=Zy (fun a=>aI.o d (z a));clear z;obtain⟨u,A,rfl,-,-⟩:=j.form;obtain⟨k,E⟩:∃k,List.length d=k:=⟨_,rfl⟩;rw[E]at j;simp only[E];clear E;have e4:=x.trans g;go_wp2_with fail;refine kk t e e4 ?_;clear e l;refine Ac ?_;intro l e;go_wp2_with fail;obtain⟨w5,O,K,B⟩:=nu H #[()] 25;rw[<-O];have C:=e4.trans K;have⟨aB,ai⟩:=jw C ((j.inside (fun _ _ _ _ a=>jo.inside a) Zm).ext jo.stays K);have aa:=Zy e4.size;have af:=Zy B;obtain⟨zz,z0,-⟩:=B.ca;have zf:=B.frozen 0;clear K B O j;refine kk t e aB ?_;clear e l;refine j3 rfl fun l e=>?_;go_wp2_with fail;have y:Kp (·=H) w5 (w5.setCell H (.slice u k A)):=qM;have X:=aB.own y (fun h o=>Te aa.o);refine kk t e X ?_;clear e l;refine kQ ?_;go_wp2;go_meet;exact⟨_,_,d,_,_,_,rfl,rfl,af.jR 0 _,ai.keep jo.stays (y.same fun h f o=>Te f.2) (fun h f=>f.1.elim (fun a=>a.1) (fun a=>Tf x.size aJ.o)),L,S.o,X⟩
     . have x:Ext wr wr.drew:=jA;generalize wr.drew=wd at x |-;go_wp2_with fail;obtain⟨w5,O,K,B⟩:=nu wd #[()] 25;rw[<-O];have aa:Zz ((w5:Nat)=wd+1):=Zy (by rw[O];simp);have C:=x.trans K;clear O K;refine kk t e C ?_;clear e l;refine j3 rfl fun l e=>?_;go_wp2_with fail;refine(GK (fun _ a=>Ta a.2 C.size) i (aD.ext jo.stays C) s aT b Zm aH).mono ?_;rintro o H ⟨⟨d,v',q,rfl,j,L,z⟩,g⟩;have S:=Zy (fun a=>aI.o d (z a));clear z;obtain⟨u,A,rfl,-,-⟩:=j.form;obtain⟨k,E⟩:∃k,List.length d=k:=⟨_,rfl⟩;rw[E]at j;simp only[E];clear E;have ae:=B.ext g;have⟨af,R⟩:=jw ae (C.trans g);have ai:=Zy j;have ag:=Zy x.size;obtain⟨zz,z0,-⟩:=ae.ca;have zf:=ae.frozen 0;clear B ae j g C;go_wp2_with fail;refine kk t e R ?_;clear e l;refine Ac ?_;intro l e;go_wp2_with fail;have y:Kp (·=wd) H (H.setCell wd (.slice u k A)):=qM;have X:=R.own y (fun h o=>Te ag.o);refine kk t e X ?_;clear e l;refine kQ ?_;go_wp2;go_meet;exact⟨_,_,d,_,_,_,rfl,rfl,af.jR 0 _,ai.keep jo.stays (y.same fun h f o=>f.elim (fun a=>Te ag.o) (fun a=>Te aa.o)) (fun h f=>f.elim (fun a=>a.1) (fun a=>Tg aa.o ag.o aJ.o)),L,S.o,X⟩
    obtain⟨U,q,d,u,k,A,rfl,rfl,aL,j,L,z,p⟩:=hcut;have S:=Zy z;clear z;have d1:=p.jm V;have bG:=(n.ext p).frozen 0;have dz:=(n.ext p).lt;have d4:=p.jm W;have bO:=(HB.ext p).frozen 0;have bH:=(HB.ext p).lt;obtain⟨bT,x6,-⟩:=aL.ca;have⟨aW,aY⟩:=jw (n.ext p) (HB.ext p);have bA:=Zy j;have bu:=Zy L;have aC:=Zy p;have aM:U≠w.heap.size+1\/U=w.heap.size+1:=Zm
    clear V aj cz W bF ak aL j L p t y0 y1;cases q
    . have J:=Zy (fun(m:Int) (D:0<=m) F=>xy (F:=Q c.length) (w:=w) [] (ah.trans aC) (SliceOf.nil _ _ _ _) m D (.inl rfl) F);clear aM;go_wp2_with fail;refine PG (hU rU rfl w rfl [()] (hQ.kX (aW.jR 0 _)) rfl) rfl ?_;exact J _ Zm _
    . clear aM;go_wp2_with fail;have y:Kp (·=w+1) wc (wc.setCell ⟨w+1,0,none⟩ (.slice u k A)):=qM;go_round
      case rel=>exact⟨b+1,d,_,_,_,Zm,Zk,aY.o.jR 0 _,bA.o.keep jo.stays (y.same fun h f o=>Zm) (fun _ a=>a),bu.o,S.o rfl,(HK.o.trans aC.o.any).trans y⟩
      case measure=>exact Zj
  . have dk:¬(b:Int)<c.length:=Zm
    have aN:b=c.length:=Zm
    have aG:=aF;rw[aN]at aG;clear aN;obtain⟨cz,V,-⟩:=n.ca;have aj:=n.frozen 0;obtain⟨ak,W,-⟩:=f.ca;clear f hs ax r;obtain⟨p6,bJ⟩:∃p6:Nat,p6=P:=⟨_,rfl⟩;go_wp2_with fail;refine(Bj _ _ i HS).mono ?_;rintro o H ⟨rfl,g⟩;obtain⟨q,av⟩:∃q,kv i=q:=⟨_,rfl⟩;have bf:=Zy av;rw[av];clear av;have d1:=g.jm V;have bG:=(n.ext g).frozen 0;have dz:=(n.ext g).lt;have d4:=g.jm W;have bH:=(HB.ext g).lt;have⟨aA,R,bq⟩:=jI (n.ext g) (ah.trans g) ((HS.ext jo.stays g).keep (J:=fun h=>w+1<=h) jo.stays (fun _ _ _ _ a=>a) (fun h f=>Zm));clear g V aj cz W ak bJ;cases q
    . have J:=Zy (fun(m:Int) (D:0<=m) F=>xy (F:=Q c.length) (w:=w) [] R (SliceOf.nil _ _ _ _) m D (.inl rfl) F);go_wp2_with fail;refine PG (hU rU rfl w rfl [()] (hQ.kX (aA.jR 0 _)) rfl) rfl ?_;exact J _ Zm _
    . have J:=Zy (fun(m:Int) (D:0<=m) F=>xy (F:=Q c.length) (w:=w) i R bq m D (.inr ⟨bf,aG⟩) F);go_wp2_with fail;refine PG (hU rU rfl w rfl [.slice T P Z] (hQ.kX (aA.jR 0 _)) rfl) rfl ?_;exact J _ Zm _
def Rj(w w':World)(e:Ending):Prop:=∃p v n,e=.returned (.tuple #[.agg #[v],.int .i64 n])/\SliceOf 2 jo w' (fun b=>w.heap.size<=b/\b<w'.heap.size) v p/\0<=n/\(p=[]\/kv p=true)
theorem yY(w:World)(I:Nat->Prop)(v:Value)(b:List ByteArray)(e:SliceOf 1 lQ w I v b)(d:∀g∈b,g.size<=1000000):Calls prog 35 #[v] w fun a c=>Rj w c a/\Ext w c:=
 (Ij (fun _ _=>True) w I v b e d trivial (fun _ _ _ _ _ _ _=>trivial)).mono fun _ _ ⟨⟨f,v,n,a,h,h0,hp⟩,hE⟩=>⟨⟨f,v,n,a,h,h0,hp.imp id And.left⟩,hE⟩
def QY(w w':World)(e:Ending):Prop:=∃(pl:jl)(v:Value),e=.returned (.agg #[v])/\SliceOf 2 jo w' (fun b=>w.heap.size<=b/\b<w'.heap.size) v pl/\(pl=[]\/kv pl=true)
theorem Cb{w W:World}{b q:Nat}{v c:Value}{m:List Int}{pl:jl}(p:pl=[]\/kv pl=true)(o:Kp (·=b) w W)(r:SliceOf 2 jo W (fun a=>w+1<=a) c pl)(hR:qI W b v m q)(hl:b<w/\(m.length≠0->∀d l g,v=.slice (some d) l g->d.block<w))(f:World)(j:Ext (W.setCell w c) f):QY w f (.returned (.agg #[c]))/\qI f b v m q/\Kp (·=b) w f:=by
 have k:Kp (·=w) W (W.setCell w c):=qM;have s:=((r.keep (J:=fun a=>w+1<=a) jo.stays (k.same fun a e h=>Zm) (fun a e=>e)).ext jo.stays j).inside (fun _ _ _ _ i=>jo.inside i) Zm;exact⟨⟨pl,c,rfl,s.keep jo.stays (fun _ _ _ _ i=>i) (fun a e=>⟨Zm,e.2⟩),p⟩,(hR.turn k Zm (fun n d l g h=>Te (hl.2 n d l g h))).ext j,(o.own k fun a h=>Zm).trans j.any⟩
theorem Li(w:World)(i p:Nat)(v:Value)(z:List Int)(n:Int)(b:qI w i v z p)(hp:p<=600000)(hn:n<=1000000)(bg: -1000000<=n):Calls prog 14 #[some i,n] w fun f X=>QY w X f/\(∃aJ,aJ<=p+60/\qI X i v z aJ)/\Kp (·=i) w X:=by
 have j:=Zy b.below;obtain⟨k,U,O,b1⟩:=nu w #[()] 25;have N:Zz ((k:Nat)=w+1):=Zy (by rw[U];simp);have⟨ae,aK,aV⟩:=jI (JG k i p v z (b.ext O) Zm) b1 U;have aM:Zz (Kp (·=i) w k):=Zy O.any;clear b U O b1;go_enter func14,ntmps14;go_wp2_with fail;rw[<-aV.o];refine ae.mono ?_;rintro f w2 ⟨⟨vl,E,rfl,R,aY,aZ,aC⟩,⟨q2,bn,av⟩,Q⟩;obtain⟨V,W,rfl,-,-⟩:=R.form;have⟨aS,M,aL,aN⟩:=kD R aC (aK.kp Q (Te j.1)) (aM.o.trans Q);have K:Zz (i<k):=Zy (Tf j.1 N.o);have af:=Zy (PH w2 i q2 v z n av Zm Zm Zm);obtain⟨t,S⟩:∃t,E.length=t:=⟨_,rfl⟩;have J:=Zy S;rw[S]at aY aZ |-;clear R av Q aC ae S;go_wp2_with fail;refine af.mono ?_;rintro f w3 ⟨⟨od,rfl⟩,ax,B⟩;have L:=Zy (by
  have:=aS.keep (J:=fun a=>k<=a) lQ.stays (B.same fun a q f=>Te K.o) (fun _ b=>b);rwa[J.o]at this)
 have⟨F,H,ah⟩:=jI (aL.kp B (Te j.1)) (aN.o.trans B) ax;clear ax B af;cases od
 . have m:=Zy (yY w3 _ (.slice V t W) E L (fun y s=>Te (M.o y s)));go_wp2_with fail;refine m.mono ?_;rintro f Y ⟨⟨pl,vp,nn,rfl,h,T⟩,g⟩;obtain⟨u,x,rfl,-,-⟩:=h.form;obtain⟨d,r⟩:∃d,pl.length=d:=⟨_,rfl⟩;rw[r]at h |-;clear r;have e:=F.ext g;obtain⟨cz,c0,-⟩:=e.ca;have cf:=e.frozen 0;have⟨c,G⟩:=jw (Cb (w:=w) (W:=Y) (pl:=pl) T.2 (H.trans g.any) (h.keep (J:=fun a=>w+1<=a) jo.stays (fun _ _ _ _ b=>b) (fun a q=>Tg H.size N.o F.lt)) (ah.o.ext g) j.o _ (jJ (.cells #[.slice u d x] 25))) e;clear h g e m;go_wp2_with fail;refine PG (jM rU rfl w rfl [.slice u d x] (hQ.kX ((G.jR 0 _).ext (jJ _))) rfl) rfl ?_;exact⟨c.1,⟨_,Zm,c.o.2.1⟩,c.o.2.2⟩
 . have aj:=Zy (K8 w3 i (q2+1) v z ah (.slice V t W) E L (fun a q=>Te K.o) ⟨Te J.o,Te J.o⟩ M.o Zm);go_wp2_with fail;refine aj.mono ?_;rintro f w4 ⟨⟨v4,bf,I4,rfl,aA,aD⟩,⟨q4,bq,ay⟩,C⟩;have⟨aT,Z,aa,aR,ag⟩:=nC (L.keep (J:=fun a=>k<=a) lQ.stays (C.same fun a q f=>Te K.o) (fun _ b=>b)) (F.o.kp C (Te j.o.1)) (H.o.trans C) ay (yY w4 I4 v4 bf aA (fun y s=>Te (aD y s)));clear ay C aA aD aj;go_wp2_with fail;refine ag.mono ?_;rintro f w5 ⟨⟨aH,bu,n5,rfl,D,aX⟩,au⟩;obtain⟨aF,aG,rfl,-,-⟩:=D.form;obtain⟨aI,az⟩:∃d,aH.length=d:=⟨_,rfl⟩;rw[az]at D |-;clear az;obtain⟨w6,aB,P,b6⟩:=nu w5 #[.slice aF aI aG] 25;have o:=au.trans P;have⟨aU,l,I,ai,ak,aQ,aO⟩:=tq (aT.ext lQ.stays o) (Z.ext o) (aa.trans o.any) (aR.ext o) aB ((D.keep (J:=fun a=>w+1<=a) jo.stays (fun _ _ _ _ b=>b) (fun a q=>Tf aa.size Z.lt)).ext jo.stays P) b6;have aP:=Zy aX.2;clear D au P o aB b6 ag;by_cases A:n5=0
   . have aW:=Ue.2 A;go_upto_region 4 with(fail);rw[<-ak.o];obtain⟨cz,c0,-⟩:=l.ca;have cf:=l.frozen 0;obtain⟨yz,y0,-⟩:=aO.ca;have c:=Zy (Cb (w:=w) (W:=w6) (pl:=aH) aP I aQ ai j _ Kp.rr);clear A;go_wp2_with fail;refine PG (jM rU rfl w rfl [.slice aF aI aG] (hQ.kX (l.jR 0 _)) rfl) rfl ?_;exact⟨c.1,⟨_,Zm,c.o.2.1⟩,c.o.2.2⟩
   . have aW:=SK.2 A;go_upto_region 4 with(fail);rw[<-ak.o];clear A;have m:=Zy (yY w6 _ (.slice V t W) E aU (fun y s=>Te (M.o y s)));go_wp2_with fail;refine m.mono ?_;rintro f Y ⟨⟨pl,vp,nn,rfl,h,T⟩,g⟩;obtain⟨u,x,rfl,-,-⟩:=h.form;obtain⟨d,r⟩:∃d,pl.length=d:=⟨_,rfl⟩;rw[r]at h |-;clear r;have e:=l.ext g;obtain⟨cz,c0,-⟩:=e.ca;have cf:=e.frozen 0;have⟨c,G⟩:=jw (Cb (w:=w) (W:=Y) (pl:=pl) T.2 (I.trans g.any) (h.keep (J:=fun a=>w+1<=a) jo.stays (fun _ _ _ _ b=>b) (fun a q=>Tg I.size N.o l.lt)) (ai.o.ext g) j.o _ (jJ (.cells #[.slice u d x] 25))) e;clear h g e m;go_wp2_with fail;refine PG (jM rU rfl w rfl [.slice u d x] (hQ.kX ((G.jR 0 _).ext (jJ _))) rfl) rfl ?_;exact⟨c.1,⟨_,Zm,c.o.2.1⟩,c.o.2.2⟩
theorem H4{t k:Nat}(c:zQ t k){fn:Func}{p q r s:Tmp}(e:fn.results=#[.cell p t,.tmp q,.tmp r,.tmp s]){a:Array Value}{w:World}(b:Nat)(f:a.getD p undef=.pointer (some ⟨b,0,none⟩))(cs:List Value)(d:hQ w b 0 cs)(hl:cs.length=k):(results fn a).run prog w=.ok (.tuple #[.agg cs.toArray,a.getD q undef,a.getD r undef,a.getD s undef]) w:=by
 have g:a[p]?.getD undef=.pointer (some ⟨b,0,none⟩):=by simpa using f
 simp[results,e,g,asAddr,rZ c d hl]
def Rf(w w':World)(e:Ending):Prop:=∃(pl:jl)(pa:Option Addr)(pc:Nat)(n m:ByteArray)(a:Option Addr)(c:Nat)(args:List Int),e=.returned (.tuple #[.agg #[.slice pa pl.length pc],.string n,.string m,.slice a args.length c])/\
 SliceOf 2 jo w' (fun b=>w.heap.size<=b/\b<w'.heap.size) (.slice pa pl.length pc) pl/\SliceOf 1 qx w' (fun b=>w.heap.size<=b) (.slice a args.length c) args/\(pl=[]\/kv pl=true)
theorem Lb(w:World)(v:Value)(W:List Int)(c:BytesAt w v W):Calls prog 5 #[v] w fun b T=>Rf w T b/\Ext w T:=by
 obtain⟨va,vc,rfl⟩:=c.form;obtain⟨U,C,u,J⟩:=nu w #[()] 25;have o:Zz ((U:Nat)=w+1):=Zy (by rw[C];simp);have⟨G,Z,ax,af⟩:=kD (QF U W (c.ext u)) J C u;clear c C u J;go_enter func5,ntmps5;go_wp2_with fail;rw[<-ax.o];refine G.mono ?_;rintro b e ⟨⟨k,S,X,rfl,R,z⟩,x⟩;have n:=Zy R;have av:Zz (k<e):=Zy z.below.1;have⟨E,ag,H⟩:=jI (Z.ext x) (af.trans x) (Li e k 0 S X 2 z Zm Zm Zm);clear R z x G;go_wp2_with fail;refine H.mono ?_;rintro b l ⟨⟨d,vp,rfl,B,Q⟩,⟨aD,hq,A⟩,q⟩;obtain⟨g,h,rfl,-,-⟩:=B.form;have ai:=Zy Q;clear Q;have N:Ext w l:=ag.own q fun a b=>Tf n.o o.o
 obtain⟨V,D,i,K⟩:=nu l #[.slice g d.length h] 25;have⟨F,aa,ay,r,aj,au⟩:=pR K ((E.kp q (Tf n.o o.o)).ext i) D (N.trans i) ((B.keep (J:=fun a=>e<=a) jo.stays (fun _ _ _ _ c=>c) (fun a f=>f.1)).ext jo.stays i) (A.ext i);have s:Zz ((l:Nat)<V/\k<l/\(e:Nat)<=l/\k<e):=Zy ⟨by rw[D];simp,A.below.1,q.size,av⟩;clear B A q N i D K H;go_wp2_with fail;rw[<-ay.o];refine(Ns V k aD S X au Zm).mono ?_;rintro b m ⟨⟨aC,aB,I,M,t,rfl,P,-,-,-⟩,-,j⟩;have O:Ext w m:=r.own j fun a b=>Tf n.o o.o
 have L:=F.kp j (Te s.o);have p:=aa.kp j (Tf n.o o.o);have ak:Zz (SliceOf 2 jo m (fun a=>e<=a) (.slice g d.length h) d):=Zy (aj.keep jo.stays (j.same fun a f b=>Te s.o) (fun _ c=>c));have⟨Y,ah,ae⟩:=jI P O p;obtain⟨yz,y0,-⟩:=L.ca;obtain⟨cz,c0,-⟩:=p.ca;have cf:=p.frozen 0;clear P j O L p;go_wp2_with fail;refine PG (H4 rU rfl w rfl [.slice g d.length h] (hQ.kX (ae.jR 0 _)) rfl) rfl ?_;have y:Kp (·=w) m (m.setCell w (.slice g d.length h)):=qM;have hz:(w:Nat)<e:=E.lt;have aA:=(ak.keep (J:=fun a=>w<=a) jo.stays (y.same fun a f b=>Zm) (fun a f=>Zm)).inside (fun _ _ _ _ c=>jo.inside c) Zm;have az:SliceOf 1 qx (m.setCell w (.slice g d.length h)) (fun a=>w<=a) (.slice I t.length M) t:=Y.keep qx.stays (y.same fun a f b=>Tg r.size F.lt s.o) (fun a f=>Te r.o.size);exact⟨⟨d,g,h,aC,aB,I,M,t,rfl,aA,az,ai⟩,ah.own y fun a b=>Zm⟩
theorem M.I6{p:jl}{k:Int}{n:ByteArray}(a:has p k=false):find p k n=(q9,2):=by
 unfold find M.resolve path;rw[a];rfl
theorem M.Ox{p:jl}(h:kv p=true){k:Int}{n:ByteArray}(l:has p k=true)(c:jL n=false):find p k n=(q9,2):=by
 have j:ve p k n=none:=by
  unfold ve;cases f:mQ p k with
  |none=>rfl
  |some g=>
   show(g.asks.find? fun b=>decide (b.name=n)).map M.Ask.keeper=none
   rw[List.find?_eq_none.2]
   . rfl
   . intro b e;have a:=zu h f;unfold kC at a;simp only[RV,Tv]at a;have:=qc a.2 b e;simp only[RV]at this;intro d;rw[<-U0 d,this.1]at c;cases c
 have m:owned p ⟨k,n⟩=false:=by
  unfold owned cls?;cases f:mQ p k with
  |none=>rfl
  |some g=>
   show(g.owns.find? fun i=>decide (i.name=n)).isSome=false
   rw[List.find?_eq_none.2]
   . rfl
   . intro b e;have a:=zu h f;unfold kC at a;simp only[RV,Tv]at a;have:=qc a.1.2 b e;unfold o9 at this;simp only[RV]at this;intro d;rw[<-U0 d,this.1.1.1.1.1]at c;cases c
 have o:M.resolve p k n=(q9,2):=by
  rw[<-zg l n,uD,j];simp[m]
 unfold find;rw[o];rfl
theorem M.Ae{p:jl}{k:Int}{n:ByteArray}(a:(find p k n).2=1):owned p (find p k n).1=true:=by
 have e:has p k=true:=by
  cases c:has p k
  . rw[I6 c]at a;cases a
  . rfl
 unfold find at a |-;by_cases b:(M.resolve p k n).2=1
 . rw[Ty b]at a |-;cases d:(nk p (M.resolve p k n).1).isSome
   . rw[d]at a;simp at a
   . simp only[Uy];exact(Cf e b).1
 . rw[T9 b]at a;exact absurd a b
theorem M.yx{p:jl}{r:Ref}(e:owned p r=true):∀c∈(nk p r).getD [],owned p c=true:=by
 intro c a;cases b:nk p r with
 |none=>rw[b]at a;simp at a
 |some g=>
  rw[b]at a;obtain⟨f,d⟩:=zU _ _ _ b (sM e).2 c a;unfold owned;rw[d];rfl
theorem Ld(w:World)(I:Nat->Prop)(hI:∀f,I f->f<w.heap.size){v:Value}(p:jl)(n:SliceOf 2 jo w I v p)(m:kv p=true)(k:Int)(nm:ByteArray):Calls prog 119 #[.agg #[v],k,nm] w fun d w'=>d=.returned (.tuple #[.agg #[.int .i64 (find p k nm).1.keeper,.string (find p k nm).1.name],.int .i64 (find p k nm).2])/\Ext w w':=by
 obtain⟨E,F,rfl,hn,aa⟩:=n.form;obtain⟨a,i⟩:=S9 ((w.alloc (.cells #[.slice E p.length F] 25)).alloc (.cells #[Tj,""] 64));have g:Ext w a:=by rw[i];exact Zx
 have x:jq a w 25 #[.slice E p.length F]:=by rw[i];exact(jq.new _ _ _).ext Zx
 have P:Zz (jq a (w+1) 64 #[Tj,""]):=Zy (by rw[i];exact jq.after _ _ Zl);have t:=Zy (Bj a I p (n.ext jo.stays g));rw[m]at t;have⟨s,O,Q,T,U⟩:=nC (fun c (N:Ext a c) (hk:has p k=true)=>zM c I (fun f hb=>Tf (hI f hb) ((g.trans N).size)) _ p ((n.ext jo.stays g).ext jo.stays N) m k hk nm) x g m i;obtain⟨Z,W,-⟩:=x.ca;clear x g i n m hI;have q:Zz (∀c,Ext a c->∀z A,Ext w ((c.setCell ⟨w+1,0,none⟩ z).setCell ⟨w+1,1,none⟩ A)):=Zy (fun c hW z A=>(Q.trans hW).own (Kp.duo (D:=(·=w+1)) rfl z A) (fun f d=>Zm));have D:Zz ((decide ((0:Int)<=k)&&decide (k<=(p.length:Int) - 1))=has p k):=Zy (by unfold has;congr 1;exact UH.2 Zm);obtain⟨o,hF⟩:∃o,find p k nm=o:=⟨_,rfl⟩;have B:=Zy hF;rw[hF]at s |-;obtain⟨⟨fk,fn⟩,fc⟩:=o;clear hF;simp only at s |-;go_enter func119,ntmps119;go_upto_region 1 with(fail);rw[<-U.o];go_wp2_with fail;refine t.mono ?_;rintro d w1 ⟨rfl,l⟩;obtain⟨Y,X,-⟩:=(O.ext l).ca;have⟨j,b⟩:=jw l (P.ext l);have ae:(p.length:Int) - 1<=9223372036854775807:=Zm
 have af:(-9223372036854775808:Int)<=(p.length:Int) - 1:=Zm
 clear l W Z t;go_wp2_with fail;refine(rD).mono ?_;rintro d w2 ⟨rfl,rfl⟩;cases e:has p k
 . have S:Zz ((decide ((0:Int)<=k)&&decide (k<=(p.length:Int) - 1))=false):=Zy (D.trans e);have h:=B.o;rw[I6 e]at h;cases h;obtain⟨L,J,K,-⟩:=b.ca;obtain⟨G,H,-⟩:=b.fz;clear e;rw[S.o];go_wp2_with fail;refine PG (hU qF rfl (w+1) rfl [Tj,""] (hQ.kX (b.duo _ _)) rfl) rfl ?_;exact⟨rfl,q _ j _ _⟩
 . have V:Zz ((decide ((0:Int)<=k)&&decide (k<=(p.length:Int) - 1))=true):=Zy (D.trans e);have C:=Zy e;clear e;rw[V.o];go_wp2_with fail;refine(kT _ _).mono ?_;rintro d w3 ⟨rfl,rfl⟩;cases y:jL nm
   . have h:=B.o;rw[Ox T.o C.o y]at h;cases h;obtain⟨L,J,K,-⟩:=b.ca;obtain⟨G,H,-⟩:=b.fz;clear y;go_wp2_with fail;refine PG (hU qF rfl (w+1) rfl [Tj,""] (hQ.kX (b.duo _ _)) rfl) rfl ?_;exact⟨rfl,q _ j _ _⟩
   . clear y;go_wp2_with fail;refine(s _ j C).mono ?_;rintro d w4 ⟨rfl,u⟩;have⟨R,r⟩:=jw (j.trans u) (b.ext u);clear u X Y;obtain⟨L,J,K,-⟩:=r.ca;obtain⟨G,H,-⟩:=r.fz;go_wp2_with fail;refine PG (hU qF rfl (w+1) rfl [fk,fn] (hQ.kX (r.duo _ _)) rfl) rfl ?_;exact⟨rfl,q _ R _ _⟩
def IE(w w':World)(l:List Ref)(e:Ending):Prop:=∃v,e=.returned v/\SliceOf 2 qN w' (fun b=>w.heap.size<=b) v l
theorem BM{w W:World}{g:Nat}{l:List Ref}(hl:l=[]):IE w W l (.returned (.slice (some ⟨g,0,none⟩) 0 0)):=by
 subst hl;exact⟨_,rfl,_,_,rfl,Tu _,Zl,fun b c a=>by simp at a⟩
theorem CZ(w:World)(I:Nat->Prop)(hI:∀h,I h->h<w.heap.size){v:Value}(p:jl)(A:SliceOf 2 jo w I v p)(C:kv p=true)(r:Ref):Calls prog 79 #[.agg #[v],.agg #[r.keeper,r.name]] w fun e w'=>IE w w' (chain p r) e/\Ext w w':=by
 obtain⟨G,J,rfl,hn,ah⟩:=A.form;obtain⟨b,a⟩:=r;obtain⟨i,q⟩:=S9 ((w.alloc (.cells #[.slice G p.length J] 25)).alloc (.cells #[b,a] 64));have l:Ext w i:=by rw[q];exact Zx
 have D:Zz (jq i w 25 #[.slice G p.length J]):=Zy (by rw[q];exact(jq.new _ _ _).ext Zx);have E:Zz (jq i (w+1) 64 #[b,a]):=Zy (by rw[q];exact jq.after _ _ Zl);have⟨s,m,n,af⟩:=kD (Ld i I (fun h z=>Tf (hI h z) l.size) p (A.ext jo.stays l) C b a) (fun F (x:Ext i F) (ho:owned p ⟨b,a⟩=true)=>uo F I (fun h z=>Tf (hI h z) ((l.trans x).size)) p ((A.ext jo.stays l).ext jo.stays x) C ⟨b,a⟩ ho) l q;obtain⟨L,K,-⟩:=D.ca;obtain⟨Z,X,Y,-⟩:=E.ca;clear l q A C hI;obtain⟨c,hF⟩:∃c,find p b a=c:=⟨_,rfl⟩;have d:Zz (chain p ⟨b,a⟩=if(c.2=1/\c.1=⟨b,a⟩)then(nk p ⟨b,a⟩).getD []else []):=Zy (by
  unfold chain mE;simp only[hF];by_cases f:c.2=1<;>by_cases B:c.1=(⟨b,a⟩:Ref)<;>simp[f,B])
 have k:Zz (c.2=1->c.1=⟨b,a⟩->owned p ⟨b,a⟩=true):=Zy (fun f B=>by rw[<-B,<-hF];exact Ae (by rw[hF];exact f));simp only[hF]at s;clear hF;obtain⟨⟨o,u⟩,N⟩:=c;simp only at s d k;go_enter func79,ntmps79;go_upto_region 1 with(fail);rw[<-af.o];go_wp2_with fail;refine s.mono ?_;rintro e w1 ⟨rfl,O⟩;obtain⟨w2,W,P,H⟩:=nu w1 #[o,u] 64;have y:=O.trans P;have j:=Zy y;have R:=D.ext y;have S:=E.ext y;have t:=Zy W;clear K L X Y Z O P y W s;obtain⟨L,K,-⟩:=R.ca;obtain⟨Z,X,Y,-⟩:=S.ca;obtain⟨xz,x0,x1,-⟩:=H.ca;clear H R S;by_cases f:N=1
 . subst f;rcases Ak o b u a with⟨rfl,rfl⟩|⟨rfl,aj,U⟩|⟨ai,T⟩
   . have aa:=Zy (m w2 j (k Zl Zl));have g:Zz (chain p ⟨o,u⟩=(nk p ⟨o,u⟩).getD []):=Zy (by rw[d.o];simp);clear m d k;go_upto_region 2 with(fail);rw[<-t.o];go_wp2_with fail;refine aa.mono ?_;rintro e w3 ⟨⟨vl,rfl,V⟩,Q⟩;have⟨HS,ae⟩:=jw V Q;clear V Q;go_wp2;go_ret;exact⟨⟨vl,rfl,by rw[g.o];exact HS.keep qN.stays (fun _ _ _ _ x=>x) (fun h z=>Tf n.size j.size)⟩,(n.o.trans j.o).trans ae.o⟩
   . have g:Zz (chain p ⟨o,a⟩=[]):=Zy (by rw[d.o,T9 (fun e=>U (congrArg Ref.name e.2))]);clear U m d k;go_upto_region 2 with(fail);rw[<-t.o];go_wp2;go_ret;exact⟨BM g,(n.trans j).alloc _⟩
   . have g:Zz (chain p ⟨b,a⟩=[]):=Zy (by rw[d.o,T9 (fun e=>T (congrArg Ref.keeper e.2))]);clear T m d k;go_upto_region 2 with(fail);rw[<-t.o];go_wp2;go_ret;exact⟨BM g,(n.trans j).alloc _⟩
 . have g:Zz (chain p ⟨b,a⟩=[]):=Zy (by rw[d.o,T9 (fun e=>f e.1)]);have ag:(N !=1)=true:=by simpa using f
   clear f m d k;go_upto_region 2 with(fail);rw[<-t.o];go_wp2;go_ret;exact⟨BM g,(n.trans j).alloc _⟩
theorem IV{p:jl}{x:Ref}{l:List Ref}(a:l.all (mG p x)=false):kZ p (x::l)=false:=by rw[kZ,a,TB]
theorem Kq{p:jl}{x:Ref}{l:List Ref}(a:l.all (mG p x)=true):kZ p (x::l)=kZ p l:=by rw[kZ,a,TJ]
theorem GL(w:World)(I:Nat->Prop)(hI:∀c,I c->c<w.heap.size){v:Value}(p:jl)(t:SliceOf 2 jo w I v p)(H:kv p=true)(r:Ref)(J:owned p r=true):Calls prog 121 #[.agg #[v],.agg #[r.keeper,r.name]] w fun E w'=>E=.returned (.bool (kZ p ((nk p r).getD [])))/\Ext w w':=by
 obtain⟨C,D,rfl,hn,ay⟩:=t.form;have z:=Zy (yx J);obtain⟨e,n⟩:=S9 ((w.alloc (.cells #[.slice C p.length D] 25)).alloc (.cells #[r.keeper,r.name] 64));have h:Ext w e:=by rw[n];exact Zx
 have O:Zz (jq e w 25 #[.slice C p.length D]):=Zy (by rw[n];exact(jq.new _ _ _).ext Zx);have aa:Zz (jq e (w+1) 64 #[r.keeper,r.name]):=Zy (by rw[n];exact jq.after _ _ Zl);have⟨x,ae,R,af⟩:=kD (uo e I (fun c d=>Tf (hI c d) h.size) p (t.ext jo.stays h) H r J) (fun U (W:Ext e U) ag vc ak aj j ho=>NF U I (fun c d=>Tf (hI c d) ((h.trans W).size)) p ((t.ext jo.stays h).ext jo.stays W) H ag vc ak aj j ho) h n;obtain⟨cz,V,-⟩:=O.ca;obtain⟨rz,r0,r1,-⟩:=aa.ca;clear h n t H hI J;obtain⟨B,Y⟩:∃B,nk p r=B:=⟨_,rfl⟩;rw[Y]at x z |-;obtain⟨b,G⟩:∃b,B.getD []=b:=⟨_,rfl⟩;rw[G]at z |-;obtain⟨f,F⟩:∃f,kZ p b=f:=⟨_,rfl⟩;rw[F];have⟨HB,HL⟩:=jw F G;clear Y G F;go_enter func121,ntmps121;go_upto_region 1 with(fail);rw[<-af.o];go_wp2_with fail;refine x.mono ?_;rintro E w1 ⟨⟨vl,rfl,j⟩,X⟩;rw[HL.o]at j;obtain⟨la,L,rfl,aG,aF⟩:=j.form;have⟨T,q⟩:=jw j X;clear j X x V cz r0 r1 rz;go_wp2;go_loopw [7] (fun i wr=>∃a:Nat,a<=b.length/\i=.int .i64 a/\Ext w1 wr/\Zz (kZ p (b.drop a)=f)) (fun i _=>b.length - (intOf i).toNat)
 case atStart=>exact⟨0,Tz _,rfl,Kp.rr,Zy (by simpa using HB.o)⟩
 case round=>
  obtain⟨a,hk,rfl,g,u⟩:=hrel;have y:=Zy g;by_cases Z:a<b.length
  . have dk:(a:Int)<b.length:=Zm
    obtain⟨N,K⟩:∃N,b[a]?=some N:=⟨b[a]'Z,CU Z⟩;obtain⟨ax,aI,cs,rfl,-,-,-,-⟩:=T.get K;have s:=(mM K);have A:=T.drop (i:=a) Zm;rw[s]at A;have az:(0:Int)<=(a:Int):=Zm
    have aA:(a:Int)<=b.length:=Zm
    have aB:(b.length:Int)<=L:=Zm
    have aC:¬L=a:=Zm
    have aD:(a:Int)<=L:=Zm
    obtain⟨av,ah,aH,l⟩:=lL wr;have V:=fun o=>(O.ext ((q.trans g).trans (l.jC o))).c 0 (.slice C p.length D) rfl;have S:=Zy (fun o=>ae.o (ah o) ((q.trans g).trans (l.jC o)) _ _ _ _ (A.ext qN.stays (g.trans (l.jC o))) (fun au hy=>z.o au (Vk (s▸hy))));obtain⟨c,d⟩:∃c,(b.drop (a+1)).all (mG p N)=c:=⟨_,rfl⟩;rw[d]at S;have⟨P,m,Q⟩:=jI d l s;clear d l s A g K;go_wp2_with fail;refine zJ m ?_ ?_;rotate_left;(repeat (go_big_quiet_step ((go_at_call 158;refine(S _).mono ?_;rintro E w6 ⟨rfl,ai⟩;exact⟨rfl,m.o.o w6 ((m.jC _).trans ai)⟩))));refine TP ?_;(rintro _ ⟨sW,rfl⟩);rotate_left
    . exact jA
    cases c
    . have k:Zz (false=f):=Zy (by rw[<-u.o,Q.o,IV P.o]);go_wp2;go_ret;exact⟨by rw[<-k.o];rfl,((R.trans q).trans y).trans (m.jC sW)⟩
    . have k:Zz (kZ p (b.drop (a+1))=f):=Zy (by rw[<-u.o,Q.o,Kq P.o]);go_wp2;go_round
      case rel=>exact⟨a+1,Zm,Zk,y.o.trans (m.o.jC sW),k⟩
      case measure=>exact Zj
  . have dk:¬(a:Int)<b.length:=Zm
    have k:Zz (true=f):=Zy (by rw[<-u.o,U6 Zm];rfl);clear g;go_wp2;go_ret;exact⟨by rw[<-k.o];rfl,(R.trans q).trans y⟩
theorem Lc(w:World)(I:Nat->Prop)(hI:∀d,I d->d<w.heap.size){v:Value}(p:jl)(j:SliceOf 2 jo w I v p)(q:kv p=true)(r:Ref):Calls prog 80 #[.agg #[v],.agg #[r.keeper,r.name]] w fun a T=>a=.returned (.bool (jW p r))/\Ext w T:=by
 obtain⟨A,B,rfl,Y,X⟩:=j.form;obtain⟨c,f⟩:=S9 ((w.alloc (.cells #[.slice A p.length B] 25)).alloc (.cells #[r.keeper,r.name] 64));have e:Ext w c:=by rw[f];exact Zx
 have t:Zz (jq c w 25 #[.slice A p.length B]):=Zy (by rw[f];exact(jq.new _ _ _).ext Zx);have u:Zz (jq c (w+1) 64 #[r.keeper,r.name]):=Zy (by rw[f];exact jq.after _ _ Zl);have⟨x,P,y,Q⟩:=kD (CZ c I (fun d n=>Tf (hI d n) e.size) p (j.ext jo.stays e) q r) (fun W (E:Ext c W) (i:owned p r=true)=>GL W I (fun d n=>Tf (hI d n) ((e.trans E).size)) p ((j.ext jo.stays e).ext jo.stays E) q r i) e f;obtain⟨D,C,-⟩:=t.ca;obtain⟨N,K,L,-⟩:=u.ca;clear e f j q hI;obtain⟨g,m⟩:∃g,jW p r=g:=⟨_,rfl⟩;rw[m];have s:=Zy m;clear m;go_enter func80,ntmps80;go_upto_region 1 with(fail);rw[<-Q.o];go_wp2_with fail;refine x.mono ?_;rintro a U ⟨⟨vl,rfl,J⟩,h⟩;obtain⟨Z,lc,rfl,-,-⟩:=J.form;have G:=t.ext h;have H:=u.ext h;have k:=Zy h;clear J h x C D K L N;obtain⟨D,C,-⟩:=G.ca;obtain⟨N,K,L,-⟩:=H.ca;clear G H;by_cases b:(chain p r).length=0
 . have l:Zz (false=g):=Zy (by rw[<-s.o];unfold jW;rw[Us.1 b];rfl);have S:¬(0:Int)<(chain p r).length:=Zm
   clear b;go_wp2;go_ret;exact⟨by rw[<-l.o];rfl,y.trans k⟩
 . have S:(0:Int)<(chain p r).length:=Zm
   have o:mE p r=true:=by
    cases a:mE p r
    . unfold chain at b;rw[a]at b;simp at b
    . rfl
   have i:owned p r=true:=by
    obtain⟨V,a⟩:=yK o;unfold owned;rw[a];rfl
   have l:Zz (kZ p ((nk p r).getD [])=g):=Zy (by
    rw[<-s.o];unfold jW;have R:(chain p r).isEmpty=false:=by
     cases a:chain p r with
     |nil=>rw[a]at b;simp at b
     |cons ae aa=>rfl
    rw[R];unfold chain;rw[o];rfl)
   have z:=Zy (P U k i);rw[l.o]at z;clear b o i;go_wp2_with fail;refine z.mono ?_;rintro a w2 ⟨rfl,F⟩;have O:=Zy F;clear F;go_wp2;go_ret;exact⟨rfl,(y.trans k).trans O⟩
namespace M
def Hy(p:jl)(k:Nat):List Ref:=((p[k]?).map fun q=>q.owns.map fun c=>(⟨k,c.name⟩:Ref)).getD []
def vI(p:jl)(k:Nat):List Ref:=(List.range k).flatMap (Hy p)
theorem JC(p:jl)(k:Nat):vI p (k+1)=vI p k++Hy p k:=by
 unfold vI;rw[List.range_succ,TD];simp
theorem Ha(p:jl):classes p=(vI p p.length).filter fun a=>decide (0<(chain p a).length):=by
 unfold classes vI;rw[List.filter_flatMap];rfl
end M
def KW(r:Ref):List Value:=[.int .i64 r.keeper,.string r.name]
def sU(xs:List Ref)(w:World)(base:Nat)(v:Value)(n:Nat):Prop:=w.ownsRow base 64 2 v n (xs.flatMap KW)/\xs.length=n
theorem sU.ext{xs:List Ref}{w b:World}{base n:Nat}{v:Value}(a:sU xs w base v n)(c:Ext w b):sU xs b base v n:=
 ⟨jr (D:=fun _=>False) a.1 c fun _ _ _ d=>d,a.2⟩
theorem sU.val{xs:List Ref}{w:World}{base n:Nat}{v:Value}(c:sU xs w base v n):∃a b,v=.slice a n b:=jS c.1
theorem sU.empty(W:World)(g:Nat)(a:W=g):sU [] (W.alloc (.cells #[] 64)) W (.slice (some ⟨g,0,none⟩) 0 0) 0:=
 ⟨kV W _ _ _ (Tu _) a,rfl⟩
theorem DV{xs:List Ref}(w:World){m:Array Oper}{rest:List Oper}{h:Oper}{a:Act}{Q:Exit->Act->World->Prop}(t:h.guard=none)(s x:Operand)
    (z:h.op=.call {callee:=.builtin .append,args:=#[s,x],argTypes:=#[80,80]}) {e:World} {v:Value} {n:Nat} (i:sU xs w e v n) (A:a.eval s=v)
    {g c:Nat} {y:Ref} (r:hQ w g 0 (KW y)) (B:a.eval x=.slice (some ⟨g,0,none⟩) 1 c) (u:n+1<=4294967296) (l:Ext e w)
    (o:∀j d,sU (xs++[y]) d e j (n+1)->Ext e d->Kp (fun b=>v.ownBlock=some b) w d->(∀b,j.ownBlock=some b->v.ownBlock=some b\/w.heap.size<=b)->wpList prog m Q rest (a.put h.dst j) d):wpList prog m Q (h::rest) a w:=by
 refine jF AB t s x z e v n _ A i.1 g c (KW y) B rfl r (by unfold KW;simp[Value.oneCell']) u l.size fun E C d p k q=>o _ d ⟨by simpa [TD]using p,by simp[i.2]⟩ (l.own k fun b f=>(i.1.lt b f).1) k fun b f=>?_;simp only[Value.ownBlock,TQ]at f;subst f;exact q.imp id fun D=>Zm
theorem Jf{w W:World}{base n:Nat}{v:Value}{xs:List Ref}(a:sU xs W base v n)(d:w<=base)(f:n<=100000):IE w W xs (.returned v):=by
 obtain⟨b,c⟩:=a;exact⟨v,rfl,SliceOf.mD KW b c.symm rfl (fun _ _=>rfl) (fun _ _=>rfl) (fun e a _=>TV d a) Zm⟩
theorem NP{α b:Type}{f:α->b}{l:List α}{k:Nat}{x:α}(a:l[k]?=some x):(l.take (k+1)).map f=(l.take k).map f++[f x]:=by
 rw[Td,a,Ux];rfl
theorem Im(w:World)(I:Nat->Prop){v:Value}(p:jl)(D:SliceOf 2 jo w I v p)(aL:p.length<=3)(V:∀aI∈p,aI.owns.length<=5):Calls prog 78 #[.agg #[v]] w fun aD Y=>(IE w Y (M.vI p p.length) aD/\(M.vI p p.length).length<=20)/\Ext w Y:=by
 obtain⟨L,i,rfl,aJ,aK⟩:=D.form;obtain⟨e,E,x,u⟩:=nu w #[.slice L p.length i] 25;have⟨H,K⟩:=jw u x;obtain⟨j,A⟩:∃j,e.heap.size=j:=⟨_,rfl⟩;obtain⟨l,o⟩:=S9 (e.alloc (.cells #[] 64));have y:Ext e l:=by rw[o];exact Zx
 have aj:Zz (sU [] l e (.slice (some ⟨j,0,none⟩) 0 0) 0):=Zy (by rw[o];exact sU.empty e j A);have⟨af,HP⟩:=jw y (D.ext jo.stays x);have az:Zz (l=(w.alloc (.cells #[.slice L p.length i] 25)).alloc (.cells #[] 64)):=Zy (by rw[o,E]);have HG:Zz (w.heap.size+1=j):=Zy (by rw[<-A,E];simp);obtain⟨cz,m,-⟩:=(u.ext y).ca;have ax:=Zy V;clear y E o x u D A V;go_enter func78,ntmps78;go_upto_region 3 with(fail);rw[<-az.o,HG.o];go_wp2_with fail;clear m cz;go_loopw [3,4] (fun G g wr=>∃a h:Nat,a<=p.length/\g=.int .i64 a/\h<=5*a/\sU (M.vI p a) wr e G h/\Ext e wr) (fun _ g _=>p.length - (intOf g).toNat)
 case atStart=>exact⟨0,0,Tz _,rfl,Zm,aj.o,af.o⟩
 case round=>
  obtain⟨a,h,hk,rfl,hn,f,d⟩:=hrel;have J:=Zy d;obtain⟨oa,oc,C⟩:=f.val;subst C;have s:=Zy f;have k:=H.ext d;obtain⟨O,m,-⟩:=k.ca;clear f k;by_cases U:a<p.length
  . have dk:(a:Int)<p.length:=Zm
    obtain⟨c,q⟩:∃c,p[a]?=some c:=⟨p[a]'U,CU U⟩;obtain⟨bk,ok,cs,rfl,aF,⟨vo,va,rfl,B,ha⟩,-,R⟩:=HP.get q;obtain⟨o1,o2,rfl,-,-⟩:=B.form;have aB:=Zy q;have aM:=ax.o c (Tx q);have ae:=Zy R.two.1;have ay:=Zy B;clear q B ha R aF d;go_wp2_with fail;clear m O;obtain⟨Z,rfl⟩:∃Z:World,Z=wr:=⟨_,rfl⟩;go_loopw [3,5] (fun G g wr=>∃b:Nat,b<=c.owns.length/\g=.int .i64 b/\sU (M.vI p a++(c.owns.take b).map fun i=>⟨a,i.name⟩) wr e G (h+b)/\Ext e wr) (fun _ g _=>c.owns.length - (intOf g).toNat)
    case atStart=>exact⟨0,Tz _,rfl,by simpa using s.o,J.o⟩
    case round=>
     obtain⟨b,hj,rfl,f,d⟩:=hrel;have ai:=Zy d;obtain⟨aG,aH,C⟩:=f.val;subst C;have t:=Zy f;have k:=H.ext d;obtain⟨O,m,-⟩:=k.ca;have g0:=d.jm ae;have gz:=jv g0;clear f k;by_cases T:b<c.owns.length
     . have dj:(b:Int)<c.owns.length:=Zm
       obtain⟨r,F⟩:∃r,c.owns[b]?=some r:=⟨c.owns[b]'T,CU T⟩;obtain⟨b',aN,cs,rfl,-,S,-,Q⟩:=(ay.ext jT.stays d).get F;obtain⟨t1,t2,t3,t4,rfl⟩:=S.form;have k0:=Q.four.1;have kz:=jv k0;have aC:=Zy F;obtain⟨w5,W,z,N⟩:=nu wr #[a,.string r.name] 64;have aA:=Zy W;have aa:Zz (hQ w5 wr 0 (KW ⟨a,r.name⟩)):=Zy (hQ.kX N);have⟨ak,ag⟩:=jw (t.ext z) (d.trans z);clear F S Q d W z N;go_wp2_with (first|(rw[<-aA.o];refine DV _ rfl (.tmp 25) (.tmp 38) rfl ak rfl aa rfl Zm ag fun v6 w6 X P _ _=>?_;have au:=Zy X;have ah:=Zy P;clear X P)|fail);go_round
       case rel=>exact⟨b+1,Zm,Zk,by rw[NP aC.o,<-TG];exact au,ah⟩
       case measure=>exact Zj
     . have dj:¬(b:Int)<c.owns.length:=Zm
       have n:b=c.owns.length:=Zm
       have av:Zz (sU (M.vI p (a+1)) wr e (.slice aG (h+b) aH) (h+b)):=Zy (by
        have:=t.o;rw[show c.owns.take b=c.owns by rw[n,TA]]at this;rw[M.JC,show M.Hy p a=c.owns.map fun i=>⟨a,i.name⟩ by unfold M.Hy;rw[aB.o];rfl];exact this)
       clear n t d;go_wp2;go_round
       case rel=>exact⟨a+1,h+b,Zm,Zk,Zm,av.o,ai.o⟩
       case measure=>exact Zj
  . have dk:¬(a:Int)<p.length:=Zm
    have n:a=p.length:=Zm
    subst n;clear d;go_wp2;go_ret;exact⟨⟨Jf s (Te K.size) Zm,Te s.o.2⟩,K.o.trans J.o⟩
theorem C8{α:Type}{f:α->Bool}{l:List α}{k:Nat}{x:α}(b:l[k]?=some x):(l.take (k+1)).filter f=(l.take k).filter f++(if f x then [x]else []):=by
 rw[Td,b,List.filter_append];simp only[V3];by_cases a:f x=true
 . rw[Ty a,List.filter_cons_of_pos a];rfl
 . rw[T9 a,List.filter_cons_of_neg a];rfl
theorem EY(w:World)(I:Nat->Prop)(hI:∀b,I b->b<w.heap.size){v:Value}(p:jl)(hp:SliceOf 2 jo w I v p)(i:kv p=true):Calls prog 31 #[.agg #[v]] w fun l w'=>(IE w w' (classes p) l/\(classes p).length<=20)/\Ext w w':=by
 obtain⟨R,T,rfl,bK,bL⟩:=hp.form;have bG:=(wN i).2;have aH:∀af∈p,af.owns.length<=5:=fun af hq=>by
  unfold kv at i;simp only[RV,Tc]at i;have:=i.2 af hq;unfold kC at this;simp only[RV,Tv]at this;exact this.1.1.1
 obtain⟨e,aa,F,S⟩:=nu w #[.slice R p.length T] 25;have⟨ag,ah⟩:=jw S F;obtain⟨r,H⟩:∃r,e.heap.size=r:=⟨_,rfl⟩;obtain⟨g,y⟩:=S9 (e.alloc (.cells #[] 64));have s:Ext e g:=by rw[y];exact Zx
 have aV:Zz (sU [] g e (.slice (some ⟨r,0,none⟩) 0 0) 0):=Zy (by rw[y];exact sU.empty e r H);have aO:=Zy s;have bA:Zz (g.heap.size=e+1):=Zy (by rw[y];simp);have Q:=Zy (hp.ext jo.stays F);have bq:Zz (g=(w.alloc (.cells #[.slice R p.length T] 25)).alloc (.cells #[] 64)):=Zy (by rw[y,aa]);have aT:=Zy H;have HG:Zz (w.heap.size+1=r):=Zy (by rw[<-H,aa];simp);obtain⟨V,U,-⟩:=(S.ext s).ca;have N:=Zy (Bj g _ p (Q.ext jo.stays s));rw[i]at N;have⟨ak,aL⟩:=jw (fun o (f:Ext g o)=>Im o I p ((Q.ext jo.stays s).ext jo.stays f) bG aH) (fun o (f:Ext e o) d=>CZ o I (fun b m=>Ta (hI b m) (F.trans f).size) p (Q.ext jo.stays f) i d);clear s aa y F S hp H aH hI i;go_enter func31,ntmps31;go_upto_region 2 with(fail);rw[<-bq.o,HG.o];go_wp2_with fail;refine N.mono ?_;rintro l K ⟨rfl,t⟩;have⟨ai,aW⟩:=jw (aO.trans t) (aV.ext t);have aU:=Zy (ak K t);have aP:=Zy t;clear t U V N ak;obtain⟨V,U,-⟩:=(ag.ext ai).ca;go_wp2_with fail;refine aU.mono ?_;rintro l w3 ⟨⟨⟨vl,rfl,J⟩,bE⟩,W⟩;obtain⟨a,X⟩:∃a,M.vI p p.length=a:=⟨_,rfl⟩;have aM:Zz (classes p=a.filter fun d=>decide (0<(chain p d).length)):=Zy (by rw[M.Ha,X]);rw[X]at J bE;obtain⟨la,lc,rfl,-,-⟩:=J.form;have⟨HS,aQ,aX⟩:=jI (J.inside (fun _ _ _ _ f=>f) Zm) (ai.trans W) (aW.ext W);have bB:Zz ((e:Nat)<K):=Zy (Tf bA.o aP.size);clear W J X U V;go_wp2;go_loopw [3,5] (fun aJ ae wr=>∃c j:Nat,c<=a.length/\ae=.int .i64 c/\j<=c/\sU ((a.take c).filter fun d=>decide (0<(chain p d).length)) wr e aJ j/\Ext e wr/\SliceOf 2 qN wr (fun b=>K.heap.size<=b/\b<w3.heap.size) (.slice la a.length lc) a/\(∀b,aJ.ownBlock=some b->b<K.heap.size\/w3.heap.size<=b)/\(w3:Nat)<=wr) (fun _ ae _=>a.length - (intOf ae).toNat)
 case atStart=>exact⟨0,0,Tz _,rfl,Zm,aX.o,aQ.o,HS.o,fun b m=>by simp[Value.ownBlock]at m;have:=bB.o;have:=aT.o;omega,Tu _⟩
 case round=>
  obtain⟨c,j,hk,rfl,hn,Y,E,G,hN,hZ⟩:=hrel;have A:=Zy E;obtain⟨oa,oc,bF⟩:=Y.val;subst bF;have⟨HO,O,bn,HZ⟩:=kD Y hN G hZ;have D:=ag.ext E;clear Y hN;by_cases aG:c<a.length
  . have dk:(c:Int)<a.length:=Zm
    obtain⟨h,hx⟩:∃h,a[c]?=some h:=⟨a[c]'aG,CU aG⟩;obtain⟨bl,ol,cs,rfl,bJ,rfl,-,x⟩:=G.get hx;have az:=Zy hx;obtain⟨bH,bI,bM,n⟩:=lL wr;have y0:=fun z=>(D.ext (n.jC z)).c 0 (.slice R p.length T) rfl;have x0:=fun z=>(x.ext (n.jC z)).two.1;have x1:=fun z=>(x.ext (n.jC z)).two.2;have xz:=jv x.two.1;have bz:=D.lt;have⟨B,aN⟩:=jw n x;clear hx G x E D n hZ;go_wp2_with fail;refine lq B 8 [([0,1,2,3,4],5)] [6,7] ?_ ?_
    . exact jA
    refine nE ?_;intro K2 aD;go_wp2_with fail;refine(aL _ (A.trans (jA:Ext wr wr.drew)) h).mono ?_;rintro l w5 ⟨⟨vc,rfl,hc⟩,aC⟩;obtain⟨ca,cc,rfl,-,-⟩:=hc.form;have q:Ext wr w5:=(jA:Ext wr wr.drew).trans aC;have⟨L,av,ay,aA⟩:=kD q (HO.ext q) (bn.ext qN.stays q) (TV HZ q.size);obtain⟨k,Z⟩:∃k,(chain p h).length=k:=⟨_,rfl⟩;have au:=Zy Z;rw[Z];clear hc aC Z;go_wp2_with fail;refine kk B aD q ?_;clear aD K2;clear y0 x0 x1 xz;by_cases C:0<k
    . have bC:((0:Int)<(k:Int))=True:=eq_true Zm;have bD:decide ((0:Int)<(k:Int))=true:=Tw Zm;refine uC ?_;have P:Zz ((a.take (c+1)).filter (fun d=>decide (0<(chain p d).length))=(a.take c).filter (fun d=>decide (0<(chain p d).length))++[h]):=Zy (by rw[C8 az.o,Ty (by rw[au.o];exact Tw C)]);obtain⟨x0,x1⟩:=(aN.ext L).two;have xz:=jv x0;obtain⟨w6,aI,u,b6⟩:=nu w5 #[.int .i64 h.keeper,.string h.name] 64;have bu:=Zy aI;have aK:Zz (hQ w6 w5 0 (KW h)):=Zy (hQ.kX b6);have⟨aY,aR,bg,aB⟩:=kD (av.ext u) ((A.trans L).trans u) (ay.ext qN.stays u) (TV aA u.size);clear aI u b6 C B;go_wp2_with (first|(rw[<-bu.o];refine DV _ rfl (.tmp 27) (.tmp 32) rfl aY rfl aK rfl Zm aR fun v7 w7 o7 e7 k7 q7=>?_;have aZ:=Zy o7;have aS:=Zy e7;have aj:=Zy k7;have bf:=Zy q7;clear o7 e7 k7 q7)|fail);go_round
      case rel=>exact⟨c+1,j+1,Zm,Zk,Zm,by rw[P.o];exact aZ,aS,bg.keep qN.stays (aj.same fun b m l=>Te (O.o b l)) (fun _ f=>f),fun b m=>(bf.o b m).elim (O.o b) fun f=>.inr (TV aB.o f),TV aB.o aj.o.size⟩
      case measure=>exact Zj
    . have bC:((0:Int)<(k:Int))=False:=Wj Zm;have bD:decide ((0:Int)<(k:Int))=false:=SS Zm;refine uC ?_;have P:Zz ((a.take (c+1)).filter (fun d=>decide (0<(chain p d).length))=(a.take c).filter (fun d=>decide (0<(chain p d).length))):=Zy (by rw[C8 az.o,T9 (by rw[au.o];simpa using C),List.append_nil]);clear C B;go_wp2;go_round
      case rel=>exact⟨c+1,j,Zm,Zk,Zm,by rw[P.o];exact av,A.trans L,ay,O,aA⟩
      case measure=>exact Zj
  . have dk:¬(c:Int)<a.length:=Zm
    have aF:c=a.length:=Zm
    have ax:Zz (sU (classes p) wr e (.slice oa j oc) j):=Zy (by have:=HO.o;rw[aF,TA]at this;rw[aM.o];exact this);clear aF E D G;go_wp2;go_ret;exact⟨⟨Jf ax (Te ah.size) Zm,Te ax.o.2⟩,ah.o.trans A.o⟩
end Go.Proofs.YtenhnldnpdlniaaGreat
