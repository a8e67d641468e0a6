/- Walks. -/
import Derived.Test.YtlhlnddgfcmfkaaGreatRsCoreH
import Derived.Test.YtlhlnddgfcmfkaaGreatRsCoreLr
set_option maxRecDepth 100000
set_option maxHeartbeats 4000000
set_option linter.all false
namespace Go.Proofs.YtlhlnddgfcmfkaaGreat
open Go Go.RowKit Tryz M
def GG(w:World)(vh:Value)(h:List qL):Prop:=
 ∃a cap,vh=.slice a h.length cap/\∀(n:Nat) (o:qL),h[n]?=some o->∃b off v,a=some ⟨b,off,none⟩/\hH w b (off+n*3) [.int .i64 o.of.keeper,.string o.of.name,v]
theorem GG.ext{w c:World}{b:Value}{a:List qL}(l:GG w b a)(k:Ext w c):GG c b a:=by
 obtain⟨d,f,g,h⟩:=l;exact⟨d,f,g,fun n o m=>by
  obtain⟨e,p,q,i,j⟩:=h n o m;exact⟨e,p,q,i,j.ext k⟩⟩
theorem ji.Mw{w:World}{l:jh}{p:hZ}{n:Own}{f m:Nat}{lk:Bool}{g:Gh}(c:ji w l p n f m lk g):GG w g.vh g.st.heap:=by
 obtain⟨h,i,a⟩:=c.heap.form;refine⟨h,i,by rw[a];simp[Gh.st],fun r s d=>?_⟩;simp only[Gh.st,Sr,T9]at d;obtain⟨o,e,rfl⟩:=d;have b:=c.heap.row;obtain⟨k,q,j,_⟩:=jS b (Z0 ((RZ.1 e).1));rw[j]at b a;cases a;have:=lK (enc:=pR) (k:=3) (fun _=>rfl) b e;exact⟨k,0,o.v,rfl,by simpa [pR]using this⟩
theorem mQ{w:World}{a:Nat}(k:Int)(d:w.cell? a=some (.int .i64 k)):Calls prog 67 #[some a] w fun b c=>b=.returned k/\w=c:=by
 go_enter func67,ntmps67;go_wp2;go_ret;exact⟨rfl,rfl⟩
theorem Ag{a:List qL}{n:Nat}{b:qL}(c:a[n]?=some b):uX a n=b.of:=by simp[uX,c]
theorem uV(w:World)(l:jh)(p:hZ)(S:jg w l p)(k:Int)(vh:Value)(c:List qL)(Y:GG w vh c)(v:Val)(hv:v.kind=2->0<=v.n/\v.n<c.length)(t:Kind):Calls prog 129 #[some l.L,k,vh,.agg #[v.kind,v.n],.agg #[t.kind,t.name]] w fun F w'=>F=.returned (.bool (hasType p k c v t))/\Ext w w':=by
 obtain⟨e,a⟩:=t;obtain⟨g,f⟩:=v;obtain⟨u,s⟩:=Ry ((w.alloc (.cells #[g,f] 37)).alloc (.cells #[e,a] 137));have A:Ext w u:=by rw[s];exact kx
 have Q:hV u w 37 #[g,f]:=by rw[s];exact(hV.new _ _ _).ext kx
 have R:hV u (w+1) 137 #[e,a]:=by rw[s];exact hV.newAt _ _ Zl
 have⟨HH,N,n,aa,ae,z⟩:=nZ (Y.ext A) (S.ext A) A Q R s;obtain⟨ai,ak,rfl,-⟩:=Y;clear S A Q R s;by_cases r:e=1
 . subst r;have b:Zz (hasType p k c ⟨g,f⟩ ⟨1,a⟩=decide (g=1)):=Zy (by unfold hasType;rw[RV rfl]);go_enter func129,ntmps129;go_wp2_with fail;go_ret;exact⟨hQ (by rw[b.o];rfl),by rw[<-z.o];exact n⟩
 have az:=QC.2 r;by_cases C:g=3
 . subst C;have b:Zz (hasType p k c ⟨3,f⟩ ⟨e,a⟩=true):=Zy (by unfold hasType;rw[RX r,RV rfl]);go_enter func129,ntmps129;go_wp2_with fail;go_ret;exact⟨hQ b.symm,by rw[<-z.o];exact n⟩
 have aB:=QC.2 C;by_cases H:g=2
 . subst H;have b:Zz (hasType p k c ⟨2,f⟩ ⟨e,a⟩=(decide ((find p k a).2=1)&&under p (uX c f) (find p k a).1)):=Zy (by unfold hasType;rw[RX r,RX C];rfl);obtain⟨af,ag⟩:=hv rfl;simp only at af ag;obtain⟨d,rfl⟩:∃d:Nat,f=d:=⟨f.toNat,Zm⟩;obtain⟨m,G⟩:∃m,c[d]?=some m:=⟨c[d]'Zm,Rz _⟩;obtain⟨a',au,ea,X⟩:=HH.o;cases ea;obtain⟨aj,aC,fv,rfl,W⟩:=X d m G;replace b:Zz (hasType p k c ⟨2,d⟩ ⟨e,a⟩=(decide ((find p k a).2=1)&&under p m.of (find p k a).1)):=Zy (by rw[b.o,Ag G]);obtain⟨qz,-,q1,-⟩:=ae.ca;have K:=Zy W;clear X G W;go_enter func129,ntmps129;go_wp2_with fail;rw[<-z.o];refine(ng _ _ _ N k a).mono ?_;rintro F w1 ⟨rfl,T⟩;generalize find p k a=F1 at*;obtain⟨⟨I,J⟩,c1⟩:=F1;simp only at*;obtain⟨x,Z,U,P⟩:=nu w1 #[I,J] 63;have⟨O,i⟩:=je Z (T.trans U);obtain⟨ah,av,ay,j⟩:=kY x;have aG:=fun h=>((aa.ext i).ext (j.jm h)).c 1 d rfl;obtain⟨-,aD,aF,-⟩:=hV.lL fun h=>(P.ext (j.jm h));have aH:=fun h=>(K.ext (i.trans (j.jm h))).three.1;have aI:=fun h=>(K.ext (i.trans (j.jm h))).three.2.1;have y:=Zy j;clear Z U P j T q1 qz;by_cases B:c1=1
   . subst B;replace b:Zz (hasType p k c ⟨2,d⟩ ⟨e,a⟩=under p m.of ⟨I,J⟩):=Zy (by rw[b.o];rfl);go_wp2_with fail;rw[<-O.o];refine kD y 13 [([0,1,2,3,4,5,6,7,8,9,10],11)] [12] ?_ ?_
     . exact jf
     refine lS ?_;intro E q;go_wp2_with fail;refine(uN (N.ext (i.trans jf)) m.of ⟨I,J⟩).mono ?_;rintro F w4 ⟨rfl,V⟩;have L:=Zy (((Kp.refl _ x).drew:Ext x _).trans V);clear V;go_wp2_with fail;refine kk y q L ?_;clear q E;refine sP [_] rfl fun D o=>?_;(repeat (go_big_quiet_step (fail)));refine qn o ?_;clear o D;go_wp2_with fail;go_ret;exact⟨hQ b.symm,n.trans (i.trans L)⟩
   . have ax:=QC.2 B;replace b:Zz (hasType p k c ⟨2,d⟩ ⟨e,a⟩=false):=Zy (by rw[b.o];simp[B]);clear B;go_wp2_with fail;rw[<-O.o];refine kD y 13 [([0,1,2,3,4,5,6,7,8,9,10],11)] [12] ?_ ?_
     . exact jf
     refine lS ?_;intro E q;go_wp2_with fail;refine kk y q ((Kp.refl _ x).drew:Ext x _) ?_;clear q E;refine sP [_] rfl fun D o=>?_;(repeat (go_big_quiet_step (fail)));refine qn o ?_;clear o D;go_wp2_with fail;go_ret;exact⟨hQ b.symm,n.trans (i.drew)⟩
 . have aA:=RS.2 H;have b:Zz (hasType p k c ⟨g,f⟩ ⟨e,a⟩=false):=Zy (by unfold hasType;rw[RX r,RX C,RV H]);go_enter func129,ntmps129;go_wp2_with fail;go_ret;exact⟨hQ b.symm,by rw[<-z.o];exact n⟩
theorem xQ{w:World}{l:jh}{p:hZ}{V:Own}{L K:Nat}{lk:Bool}{g:Gh}(I:ji w l p V L K lk g)(v:Val)(E:ko v g.os.length=true)(t:Ref):Calls prog 128 #[some K,.agg #[v.kind,v.n],.agg #[t.keeper,t.name]] w fun H W=>H=.returned (object p v t g.st)/\Ext w W:=by
 obtain⟨q,m⟩:=v;obtain⟨d,o⟩:=Ry ((w.alloc (.cells #[q,m] 37)).alloc (.cells #[t.keeper,t.name] 63));have B:Ext w d:=by rw[o];exact kx
 have F:hV d w.heap.size 37 #[q,m]:=by rw[o];exact(hV.new _ _ _).ext kx
 have G:hV d (w.heap.size+1) 63 #[t.keeper,t.name]:=by rw[o];exact hV.newAt _ _ Zl
 have⟨n,r,N,O,A⟩:=mr (I.ext B) B F G o;clear I B F G o;by_cases i:q=3
 . subst i;have c:Zz (object p ⟨3,m⟩ t g.st=3):=Zy (by unfold object;rw[RV rfl]);go_enter func128,ntmps128;go_wp2_with fail;go_ret;exact⟨by rw[c.o];rfl,by rw[<-A.o];exact r.o⟩
 have ag:=QC.2 i;obtain⟨X,aa,ae,b⟩:=kY d;have ax:=fun a=>(n.o.ext (b.jm a)).blk.c 0 (some l.L) rfl;obtain⟨R,S,j⟩:=n.o.heap.form;have ay:=fun a=>(n.o.ext (b.jm a)).blk.c 4 (.slice R g.os.length S) (by rw[<-j];rfl);obtain⟨-,ah,ai,-⟩:=hV.lL fun a=>(N.o.ext (b.jm a));obtain⟨-,aj,ak,-⟩:=hV.lL fun a=>(O.o.ext (b.jm a));by_cases z:q=2
 . subst z;obtain⟨T,U⟩:=sF E rfl;simp only at T U;obtain⟨e,rfl⟩:∃e:Nat,m=e:=⟨m.toNat,by omega⟩;obtain⟨k,D⟩:∃k,g.os[e]?=some k:=⟨g.os[e]'Zm,Rz _⟩;have c:Zz (object p ⟨2,e⟩ t g.st=if under p k.o.of t then 1 else 10):=Zy (by
    have:uX g.st.heap e=k.o.of:=Ag (by simp[Gh.st,D]);unfold object;rw[RX i,this];rfl)
   have x:=n.o.heap.row;rw[j]at x;obtain⟨Y,Z,Q,-⟩:=jS x Zm;cases Q;have C:=lK (enc:=pR) (k:=3) (fun _=>rfl) x D;have au:=fun a=>(hH.ext C (b.jm a)).three.1;have av:=fun a=>(hH.ext C (b.jm a)).three.2.1;have⟨h,P⟩:=je b j;clear b j x C D E i;go_enter func128,ntmps128;go_wp2_with fail;rw[<-A.o];refine kD h 21 [([0,1,2,3,4,5,6,7,8,9,10,11,12,13,14,15,16,17],18)] [19,20] ?_ ?_
   . exact jf
   refine lS ?_;intro u f;go_wp2_with fail;refine(uN (n.o.ku.ext jf) k.o.of t).mono ?_;rintro H w4 ⟨rfl,J⟩;have s:=Zy (((Kp.refl _ d).drew:Ext d _).trans J);clear J;cases y:under p k.o.of t
   . replace c:Zz (object p ⟨2,e⟩ t g.st=10):=Zy (by rw[c.o,y];rfl);clear y;go_wp2_with fail;refine kk h f s.o ?_;clear f u;refine sK ?_;go_wp2_with fail;go_ret;exact⟨by rw[c.o];rfl,r.o.trans s.o⟩
   . replace c:Zz (object p ⟨2,e⟩ t g.st=1):=Zy (by rw[c.o,y];rfl);clear y;go_wp2_with fail;refine kk h f s.o ?_;clear f u;refine sK ?_;go_wp2_with fail;go_ret;exact⟨by rw[c.o];rfl,r.o.trans s.o⟩
 . have af:=RS.2 z;have c:Zz (object p ⟨q,m⟩ t g.st=10):=Zy (by unfold object;rw[RX i,RV z]);have⟨h,P⟩:=je b j;clear b j E i z;go_enter func128,ntmps128;go_wp2_with fail;rw[<-A.o];refine kD h 21 [([0,1,2,3,4,5,6,7,8,9,10,11,12,13,14,15,16,17],18)] [19,20] ?_ ?_
   . exact jf
   refine lS ?_;intro u f;go_wp2_with fail;refine kk h f ((Kp.refl _ d).drew:Ext d _) ?_;clear f u;refine sK ?_;go_wp2_with fail;go_ret;exact⟨by rw[c.o];rfl,r.o.drew⟩
theorem Hh(w:World)(l:jh)(p:hZ)(j:Own)(k a:Nat)(lk:Bool)(g:Gh)(d:ji w l p j k a lk g)(c:Int):Calls prog 89 #[some a,c] w (jY w l p j k a lk (.tuple #[]) (end_ c g.st)):=by
 have t:=d.blk.c 2 g.status rfl;obtain⟨o,q,i⟩:=d.calls.form;have u:=d.blk.c 3 (.slice o g.cs.length q) (by rw[<-i];rfl);have v:=d.blk.frozen 2;have x:=d.blk.frozen 3;have z:=d.blk.lt;have⟨b,s⟩:=je d i;clear d i;by_cases e:c=1
 . subst e;have f:Zz (end_ 1 g.st=g.st):=Zy (by unfold end_;rw[RV rfl]);go_enter func89,ntmps89;go_wp2_with fail;refine RA ?_;rw[f.o];exact b.stop Kp.rr
 . have y:=RS.2 e;have f:Zz (end_ c g.st={g.st with status:=c,frames:=[]}):=Zy (by unfold end_;rw[RX e]);clear e;go_enter func89,ntmps89;go_wp2_with fail;refine RA ?_;rw[f.o];have r:Kp (·=a) w ((w.setCell (a,2) c).setCell (a,3) ()):=
    ((Kp.refl (·=a) w).setCell (p:=⟨a,2,none⟩) (fun _=>rfl) _).setCell (p:=⟨a,3,none⟩) (fun _=>rfl) _
   have m:Kp (PO j (·=(0,0))) w ((w.setCell (a,2) c).setCell (a,3) ()):=r.weak fun n _ h=>⟨_,by rw[h];exact b.role,rfl⟩;refine jY.mk' (m.weak fun n _ h=>h.mo) (mV.refl _ _) (b.Gl {g with status:=c,cs:=[],vc:=()} m ((b.blk.jk 2 _).jk 3 _) (.inr ⟨lU.nil _ _ _ _ _ _,g.cs,rfl⟩) ⟨rfl,rfl,rfl,rfl⟩ ?_) (by simp[Gh.st]);exact⟨b.good.heap,by simp[Gh.st],by simp[Gh.st],b.good.outs,b.good.sw,b.good.back⟩
theorem LC.set2{l:jh}{p:hZ}{w W:World}{b:Nat}(c:LC l p w W)(i:w<=b)(d e:Value)(h:l.L<w):LC l p w ((W.setCell b d).setCell (b,1) e):=by
 have a:=((Kp.refl (·=b) W).setCell (p:=⟨b,0,none⟩) (fun _=>rfl) d).setCell (p:=⟨b,1,none⟩) (fun _=>rfl) e;exact⟨c.kp.own a (fun g f=>Zm),c.at_.kp a (fun g a f=>Zm)⟩
theorem Dv{w:World}{l:jh}{p:hZ}{aO:Own}{aA y:Nat}{lk:Bool}{g:Gh}(A:ji w l p aO aA y lk g)(r:List GC)(c:GC)(ai:g.cs=r++[c])(n:ByteArray):Calls prog 127 #[some y,n] w fun m w'=>m=.returned (.tuple #[.agg #[.int .i64 (qg p n g.st).1.keeper,.string (qg p n g.st).1.name],.bool (qg p n g.st).2])/\LC l p w w':=by
 obtain⟨q,ay,F,b4⟩:=nu w #[.int .i64 0, ""] 63;have ah:=(A.ext F).ku.lt;have aJ:=A.ku.lt;have aQ:=A.ku.Ev;have HM:=Zy A.blk.lt;obtain⟨⟨⟨h,i⟩,x⟩,hF⟩:∃aB,find p c.f.of.of.keeper n=aB:=⟨_,rfl⟩;have HV:Zz (qg p n g.st=(⟨h,i⟩,decide (x=1)&&kg p ⟨h,i⟩)):=Zy (by unfold qg;rw[Gh.top ai,hF]);have ax:∀k,LC l p q k->Calls prog 48 #[some l.L,c.f.of.of.keeper,n] k fun m w'=>m=.returned (.tuple #[.agg #[h,i],x])/\Ext k w':=fun k hW=>by
  have:=ng k l p hW.at_ c.f.of.of.keeper n;rw[hF]at this;exact this
 have K:=Zy ax;have a:=Zy (LC.refl (A.ext F).ku).drew;obtain⟨aH,aI,aM,v⟩:=rA.ex (fun W=>LC l p q W) q (LC.refl (A.ext F).ku);have s:=Zy (A.ext F);have R:=fun H=>(s.oJ (v.jm H).kp (v.jm H).at_).blk.c 0 (some l.L) rfl;have⟨e,aD,aC,aG,J⟩:=mr v F b4 ay ai;have aN:=b4.lt;clear A v F b4 ay hF ax ai;rw[HV.o];go_enter func127,ntmps127;go_wp2_with fail;rw[<-aG.o];rename_i aa G
 have az : ∀ (z : Nat) (u : World), LC l p q u -> hV u z 63 #[h, i] -> q <= z -> aa { tmps := #[.pointer (some ⟨y, 0, none⟩), .string n, undef, undef, .pointer (some ⟨w, 0, none⟩), .bool false, .pointer (some ⟨z, 0, none⟩), .int .i64 x, .tuple #[.agg #[h, i], x], .pointer (some ⟨y, 0, none⟩), .pointer (some ⟨y, 0, none⟩), .pointer (some ⟨y, 0, none⟩), .pointer (some ⟨l.L, 0, none⟩), .pointer (some ⟨y, 0, none⟩), .pointer (some ⟨c.cb, 0, none⟩), .int .i64 c.f.of.of.keeper, .string n, .tuple #[.agg #[h, i], x], .agg #[h, i], .int .i64 x, undef, undef, undef, undef, undef, undef, undef, undef, undef, undef, undef], defers := [] } u := by
  intro z u E hB t;refine G _ _ ?_;clear G e R a K;have aj:¬(w=l.D):=Zm
  have aR:(w:Nat)<q:=aN;have ae:=aC.kp E.kp aj;have aT:¬z=w:=Zm
  have aU:¬w=z:=Zm
  have aP:l.D<l.L:=s.ku.ord.2.2;have x0:=ae.c 0 (.int .i64 0) rfl;obtain⟨aH,aI,aM,v⟩:=rA.ex (fun W=>Kp (fun o=>o=l.D\/o=w.heap.size) u W/\jg W l p) u ⟨Kp.rr,E.at_⟩;have aK:¬(z=l.D\/z=w):=Zm
  have aL:¬(y=l.D\/y=w):=by
   have:=s.hB;have:=s.low;have:=HM.o;omega
  obtain⟨-,q0,q1,-⟩:=hV.lL fun H=>(hB.kp (v.jm H).1 aK);have qm:=fun H=>((s.oJ E.kp E.at_).blk.kp (v.jm H).1 aL).c 0 (some l.L) rfl;have⟨e,D,I⟩:=jy v E ae;clear E hB v ae x0;have au:∀k o,Kp (·=l.D) u k->jg k l p->k.heap[w.heap.size]?=u.heap[w.heap.size]?→o=(decide (x=1)&&kg p ⟨h,i⟩)→
      Kp (fun o=>o=l.D\/o=w.heap.size) u ((k.setCell w h).setCell (w,1) i)/\jg ((k.setCell w h).setCell (w,1) i) l p/\
      LC l p w ((k.setCell w h).setCell (w,1) i)/\hV ((k.setCell w h).setCell (w,1) i) w 63 #[h,i]:=fun k o hk hL hb _=>by
   have h4:hV k w 63 #[.int .i64 0, ""]:=I.keep hb;have h5:LC l p w k:=(⟨aD.any,s.ku⟩:LC l p w q).trans (D.trans ⟨hk,hL⟩);have h6:=LC.set2 h5 (R5 _) h i aJ;exact⟨(hk.weak fun o _ m=>.inl m).trans (((Kp.refl _ k).setCell (p:=⟨w,0,none⟩) (fun _=>.inr rfl) _).setCell (p:=⟨w,1,none⟩) (fun _=>.inr rfl) _),h6.at_,h6,h4.set2 _ _⟩
  have ak:=Zy au;clear au;by_cases X:x=1
  . subst X;go_wp2_with fail;refine kD e 12 [([0,1,2,3,4,5,6,7,8],9),([10],11)] [] ?_ ?_
    . exact⟨jf,D.at_.ext jf⟩
    refine lS ?_;intro d b;go_wp2_with fail;refine(mJ (D.at_.ext jf) ⟨h,i⟩).mono ?_;rintro m w9 ⟨rfl,ag,av⟩;have Q:=((Kp.refl _ u).drew).trans av;obtain⟨L,N,O,P⟩:=ak.o w9 _ Q ag (Q.block _ (by have:=I.lt;exact this) aj) rfl;have af:=I.kp Q aj;obtain⟨gz,x0,x1,-⟩:=af.ca;obtain⟨B,C,-⟩:=af.fz;have⟨Y,Z,F3,F4,aF⟩:=mr L N O P (RJ (Q.weak (D':=fun o=>o=l.D\/o=w.heap.size) fun o _ m=>.inl m) ag);clear av ag Q L N O P af;go_wp2_with fail;refine kk e b aF ?_;clear b d;refine lS ?_;intro d b;go_wp2_with fail;refine kk e b ⟨Y,Z⟩ ?_;clear b d;refine kC ?_;go_wp2_with fail;refine DV (ja Fz rfl w rfl [h,i] (hH.lV F4) rfl) rfl ?_;exact⟨by simp,F3⟩
  . have aS:=QC.2 X;have hd:(decide (x=1)&&kg p ⟨h,i⟩)=false:=by rw[R7 X];rfl
    have HD:=Zy hd;obtain⟨L,N,O,P⟩:=ak.o u.drew _ jf (D.at_.ext jf) rfl rfl;obtain⟨gz,x0,x1,-⟩:=I.ca;obtain⟨B,C,-⟩:=I.fz;have⟨Y,Z,F3,F4⟩:=jV L N O P;clear L N O P X hd;go_wp2_with fail;refine kD e 12 [([0,1,2,3,4,5,6,7,8],9),([10],11)] [] ?_ ?_
    . exact⟨jf,D.at_.ext jf⟩
    refine lS ?_;intro d b;go_wp2_with fail;refine kk e b ⟨jf,D.at_.ext jf⟩ ?_;clear b d;refine lS ?_;intro d b;go_wp2_with fail;refine kk e b ⟨Y,Z⟩ ?_;clear b d;refine kC ?_;go_wp2_with fail;refine DV (ja Fz rfl w rfl [h,i] (hH.lV F4) rfl) rfl ?_;exact⟨by rw[HD.o];rfl,F3⟩
 have V:=Zy az;clear az;clear G;refine qA e 14 (.two [0,1,2,3,4,7] 5 12 (.two [] 6 12 (.two [] 8 12 (.one [9,10,11] 12 (.one [] 13 (.fin []))) (.one [] 8 (.one [9,10,11] 13 (.fin [])))) (.one [] 6 (.one [] 8 (.one [9,10,11] 13 (.fin []))))) (.one [] 5 (.one [] 6 (.one [] 8 (.one [9,10,11] 13 (.fin [])))))) ?_ ?_
 . exact a
 refine two [_,_,_,_,_,_] rfl rfl rfl fun aa G=>?_;(repeat (go_big_quiet_step (fail)));((refine Gf G (fun d b=>?_) fun d b=>?_)<;>clear G aa)
 . go_wp2_with fail;refine(kV _ _ _ _ _ _ _ _ (s.oJ a.kp a.at_) r c J).mono ?_;rintro m wc ⟨rfl,j⟩;replace a:=Zy (a.ext j);clear j;go_wp2_with fail;refine kk e b a ?_;clear b d;refine EG rfl rfl (fun d b=>?_) fun d b=>?_
   . go_wp2_with fail;refine(mQ c.f.of.of.keeper (((s.oJ a.kp a.at_).at_ J).blk.c 0 _ rfl)).mono ?_;rintro m we ⟨rfl,rfl⟩;go_wp2_with fail;refine kk e b a ?_;clear b d;refine EG rfl rfl (fun d b=>?_) fun d b=>?_
     . go_wp2_with fail;refine(K _ a).mono ?_;rintro m wc ⟨rfl,j⟩;replace a:=Zy (a.ext j);clear j;go_wp2_with fail;refine kk e b a ?_;clear b d;refine Cf ?_;intro d b;go_wp2_with fail;refine kk e b (a.ext (jr _)) ?_;clear b d;refine jZ rfl fun d b=>?_;go_wp2_with fail;refine kk e b (a.ext (jr _)) ?_;clear b d;have t:(q:Nat)<=wc:=a.kp.size;have f:=Zy (hV.new (wc) 63 #[h,i]);replace a:=Zy (a.ext (jr (.cells #[h,i] 63)));clear e R;refine kM ?_;go_wp2_with fail;exact V _ _ a f t
     . go_wp2_with fail;refine kk e b (a.ext (jr _)) ?_;clear b d;have t:=a.kp.size;have f:Zz (hV (wc.alloc (.cells #[.int .i64 0, ""] 63)) wc 63 #[.int .i64 0, ""]):=Zy (hV.new _ _ _);replace a:=Zy (a.ext (jr (.cells #[.int .i64 0, ""] 63)));refine jZ rfl fun d b=>?_;go_wp2_with fail;refine(K _ a).mono ?_;rintro m wc ⟨rfl,j⟩;replace f:=Zy (f.ext j);replace a:=Zy (a.ext j);clear j;go_wp2_with fail;refine kk e b a ?_;clear b d;refine Cf ?_;intro d b;obtain⟨U,S,T,-⟩:=f.ca;obtain⟨B,C,-⟩:=f.fz;go_wp2_with fail;replace a:=Zy (LC.set2 a t h i ah);replace f:=Zy (f.set2 h i);refine kk e b a ?_;clear b d;clear S T B C U;clear e R;refine kM ?_;go_wp2_with fail;exact V _ _ a f t
   . go_wp2_with fail;refine kk e b (a.ext (jr _)) ?_;clear b d;have t:=a.kp.size;have f:Zz (hV (wc.alloc (.cells #[.int .i64 0, ""] 63)) wc 63 #[.int .i64 0, ""]):=Zy (hV.new _ _ _);replace a:=Zy (a.ext (jr (.cells #[.int .i64 0, ""] 63)));refine jZ rfl fun d b=>?_;go_wp2_with fail;refine(mQ c.f.of.of.keeper (((s.oJ a.kp a.at_).at_ J).blk.c 0 _ rfl)).mono ?_;rintro m we ⟨rfl,rfl⟩;go_wp2_with fail;refine kk e b a ?_;clear b d;refine jZ rfl fun d b=>?_;go_wp2_with fail;refine(K _ a).mono ?_;rintro m wc ⟨rfl,j⟩;replace f:=Zy (f.ext j);replace a:=Zy (a.ext j);clear j;go_wp2_with fail;refine kk e b a ?_;clear b d;refine Cf ?_;intro d b;obtain⟨U,S,T,-⟩:=f.ca;obtain⟨B,C,-⟩:=f.fz;go_wp2_with fail;replace a:=Zy (LC.set2 a t h i ah);replace f:=Zy (f.set2 h i);refine kk e b a ?_;clear b d;clear S T B C U;clear e R;refine kM ?_;go_wp2_with fail;exact V _ _ a f t
 . go_wp2_with fail;refine kk e b (a.ext (jr _)) ?_;clear b d;have t:(q:Nat)<=q:=a.kp.size;have f:Zz (hV (q.drew.alloc (.cells #[.int .i64 0, ""] 63)) q 63 #[.int .i64 0, ""]):=Zy (hV.new _ _ _);replace a:=Zy (a.ext (jr (.cells #[.int .i64 0, ""] 63)));refine jZ rfl fun d b=>?_;go_wp2_with fail;refine(kV _ _ _ _ _ _ _ _ (s.oJ a.kp a.at_) r c J).mono ?_;rintro m wc ⟨rfl,j⟩;replace f:=Zy (f.ext j);replace a:=Zy (a.ext j);clear j;go_wp2_with fail;refine kk e b a ?_;clear b d;refine jZ rfl fun d b=>?_;go_wp2_with fail;refine(mQ c.f.of.of.keeper (((s.oJ a.kp a.at_).at_ J).blk.c 0 _ rfl)).mono ?_;rintro m we ⟨rfl,rfl⟩;go_wp2_with fail;refine kk e b a ?_;clear b d;refine jZ rfl fun d b=>?_;go_wp2_with fail;refine(K _ a).mono ?_;rintro m wc ⟨rfl,j⟩;replace f:=Zy (f.ext j);replace a:=Zy (a.ext j);clear j;go_wp2_with fail;refine kk e b a ?_;clear b d;refine Cf ?_;intro d b;obtain⟨U,S,T,-⟩:=f.ca;obtain⟨B,C,-⟩:=f.fz;go_wp2_with fail;replace a:=Zy (LC.set2 a t h i ah);replace f:=Zy (f.set2 h i);refine kk e b a ?_;clear b d;clear S T B C U;clear e R;refine kM ?_;go_wp2_with fail;exact V _ _ a f t
theorem GU:Elem 35 79 3:=kN (z:=.agg #[.int .i64 0, "",()]) (bytes:=48) underlying35 Zo rfl Zn Zn
theorem lU.relabel{w:World}{d f:Own}{a:Nat}{r:Nat×Nat}{e k:Nat}{v:Value}{n:Nat}{xs:List Value}(c:lU w d a r e k v n xs)(i:∀b r,d b=some r->f b=some r):lU w f a r e k v n xs:=
 ⟨c.row,fun g h=>i g r (c.role g h)⟩
theorem qd.relabel{w:World}{l:jh}{p:hZ}{f g:Own}{d i:Nat}{c:GC}(a:qd w l p f d i c)(b:∀e h,f e=some h->g e=some h):qd w l p g d i c:=
 ⟨a.blk,b _ _ a.role,a.low,a.ml,a.loc.relabel b,a.kI.relabel b⟩
theorem ji.relabel{w:World}{l:jh}{p:hZ}{h d:Own}{e f:Nat}{lk:Bool}{g:Gh}(a:ji w l p h e f lk g)(c:∀b i,h b=some i->d b=some i)(m:∀b,d b≠none->e<=b/\b<w.heap.size)(n:GD w d):ji w l p d e f lk g:=
 ⟨a.ku,a.hB,a.blk,c _ _ a.role,a.low,a.calls.relabel c,fun q j k=>(a.call q j k).relabel c,a.heap.relabel c,fun r s o=>(a.obj r s o).relabel c,a.outs.relabel c,m,a.good,n⟩
theorem ji.Px{w k:World}{l:jh}{p:hZ}{t:Own}{o e:Nat}{lk:Bool}{g:Gh}(a:ji w l p t o e lk g)(j:qL)(r:Value)(O:lU w t o (7,g.os.length) 37 2 r j.fields.length (j.fields.flatMap jW))
    (d h:Nat) (N:k.ownsRow o 79 3 (d,g.os.length+1,h) (g.os.length+1) (g.os.flatMap pR++[.int .i64 j.of.keeper,.string j.of.name,r])) (B:Kp (fun b=>g.vh.ownBlock=some b) w k) (A:g.vh.ownBlock=some d\/w<=d)
    (H:M.Good p ({g with os:=g.os++[⟨j,r⟩],vh:=(d,g.os.length+1,h)}:Gh).st):
    Kp (MO l t) w (k.setCell (e,4) (d,g.os.length+1,h))/\∃F,mV w t F/\ji (k.setCell (e,4) (d,g.os.length+1,h)) l p F o e lk {g with os:=g.os++[⟨j,r⟩],vh:=(d,g.os.length+1,h)}:=by
 have y:Kp (·=e) k (k.setCell (e,4) (d,g.os.length+1,h)):=(Kp.refl (·=e) k).setCell (p:=⟨e,4,none⟩) (fun _=>rfl) _;obtain⟨q,v⟩:=Ry (k.setCell (e,4) (d,g.os.length+1,h));have C:g.vh.ownBlock≠some e:=fun c=>by have:=a.heap.role _ c;rw[a.role]at this;cases this
 have I:hV q e 85 (xP l lk {g with os:=g.os++[⟨j,r⟩],vh:=(d,g.os.length+1,h)}):=by rw[v];exact(a.blk.kp B C).jk 4 _
 have L:d≠e:=fun c=>by
  subst c;rcases A with u|u
  . exact C u
  . have:=a.blk.lt;omega
 have D:q.ownsRow o 79 3 (d,g.os.length+1,h) (g.os.length+1) (g.os.flatMap pR++[.int .i64 j.of.keeper,.string j.of.name,r]):=by
  rw[v];exact iZ N y (fun n f _ c=>L (by cases f;exact c))
 rw[<-v]at y |-;clear v;have i:Kp (PO t fun n=>n=(0,0)\/n=(2,0)) w q:=(B.weak fun b _ c=>⟨_,a.heap.role b c,.inr rfl⟩).trans (y.weak fun b _ c=>⟨_,by rw[c];exact a.role,.inl rfl⟩);have m:=Own.yn (by
  rcases A with u|u
  . exact .inl (a.heap.role _ u)
  . exact .inr Zm)
 have K:∀b,t.add d (2,0) b≠none->o<=b/\b<q.heap.size:=fun b s=>by
  by_cases c:b=d
  . subst c;exact D.lt b rfl
  . rw[Own.lT _ c]at s;exact a.zi i.size b s
 refine⟨i.weak fun b _ c=>c.mo,_,m,a.E8 i,a.hB,I,(m _ a.blk.lt).trans a.role,a.low,a.calls.xy i m Zl,fun z G J=>(a.call z G J).xy i m Zl a.xO,⟨?_,fun n f=>?_⟩,?_,a.outs.xy i m Zl,K,H,a.xI.kp i (fun b z s ⟨n,h1,h2⟩=>by rw[s]at h1;cases h1;simp at h2) fun b z s=>Own.F9 Zl s⟩
 . simpa [pR]using D
 . cases f;exact Own.add_eq _ _ _
 . intro E n f;simp only at f;rcases Si E g.os.length with x|x|x
   . rw[RY x]at f;exact(a.obj E n f).xy i m Zl
   . subst x;simp at f;subst f;exact O.xy i m Zl
   . rw[Sz Zr]at f;cases f
theorem BL (w : World) (l : jh) (p : hZ) (y : Own) (Q H : Nat) (lk : Bool) {g: Gh} (R : ji w l p y Q H lk g) (r : Ref) (hr : kg p r = true) (bW : g.os.length < 12) :Calls prog 99 #[some H,.agg #[.int .i64 r.keeper,.string r.name]] w (jY w l p y Q H lk (.agg #[.int .i64 2,g.os.length]) (create p r g.st).2):=by
 obtain⟨f,h⟩:=r;obtain⟨I,Z⟩:=Ry (((w.alloc (.cells #[f,h] 63)).alloc (.cells #[.int .i64 0,.int .i64 0] 37)).alloc (.cells #[f,h,()] 79));have aD:Ext w I:=by rw[Z];exact kx
 have b3:hV I w 63 #[f,h]:=by rw[Z];exact(hV.new _ _ _).ext kx
 have b4:hV I (w+1) 37 #[.int .i64 0,.int .i64 0]:=by rw[Z];exact(hV.newAt (W:=w.alloc (.cells #[f,h] 63)) (g:=w.heap.size+1) _ _ Zl).ext kx
 have b5:hV I (w+2) 79 #[f,h,()]:=by rw[Z];exact hV.newAt _ _ Zl
 have dx:=R.ku.lt;have dn:=R.ku.Ev;have⟨HA,bI,bE,bF,aO,bQ,n⟩:=qh (R.ext aD) aD b3 b4 b5 Z R;clear R aD b3 b4 b5 Z;go_enter func99,ntmps99;go_wp2_with fail;rw[<-bQ.o];obtain⟨aS,A,bu,s⟩:=rA.ex (fun W'=>LC l p I W') _ (LC.refl HA.ku);have bS:¬w=l.D:=Zm
 have rm:=fun D=>(HA.oJ (s.jm D).kp (s.jm D).at_).blk.c 0 (some l.L) rfl;obtain⟨-,cO,cZ,-⟩:=hV.lL fun D=>(bE.kp (s.jm D).kp bS);have j:=Zy s;clear s;refine kD j 8 [([0,1,2,3,4,7],5)] [6] ?_ ?_
 . exact(LC.refl HA.ku).drew
 refine lS ?_;intro i d;go_wp2_with fail;refine(wE (HA.ku.ext jf) ⟨f,h⟩).mono ?_;rintro b z ⟨⟨bC,rfl,S⟩,aX,aW⟩;obtain⟨fa,dm,rfl,hn,dz⟩:=S.form;have⟨T,HS⟩:=je ((LC.refl HA.ku).drew.step aX aW) S;clear S aX aW;go_wp2_with fail;refine kk j d T ?_;clear d i;clear j rm cO cZ;refine sK ?_;have dI:=T.kp.size;have dH:w.heap.size+3<=(I:Nat):=Z0 aO.lt
 have bH:=Zy (aO.kp T.kp Zm);have ax:Zz (fresh p ⟨f,h⟩=⟨⟨f,h⟩,(layout p ⟨f,h⟩).map fun A=>if A.kind.kind=1 then mF 0 else qH⟩):=Zy rfl;have bV:(layout p ⟨f,h⟩).length<=1000:=by
  have h1:=rP n.ku.ok (chain p ⟨f,h⟩).reverse;have h2:=vI p ⟨f,h⟩;unfold layout;rw[RV hr];rw[Tu]at h1;omega
 obtain⟨k,aJ⟩:∃k,layout p ⟨f,h⟩=k:=⟨_,rfl⟩;rw[aJ]at HS ax bV;simp only[aJ];clear aJ;go_wp2_with fail;go_loopw [17] (fun C wr=>∃(c:Nat) (fv:Value),c<=k.length/\C=.int .i64 c/\Kp (·=w+2) z wr/\hV wr (w+2) 79 #[f,h,fv]/\
     wr.ownsRow z 37 2 fv c (((k.take c).map fun A=>if A.kind.kind=1 then mF 0 else qH).flatMap jW)) (fun C _=>k.length - (intOf C).toNat)
 case atStart=>exact⟨0,(),R4 _,rfl,Kp.rr,bH,Rt _ _ _ _⟩
 case round =>
  obtain⟨c,fv,hq,rfl,L,aa,O⟩:=hrel;obtain⟨u,v,rfl⟩:=jB O;by_cases bX:c<k.length
  . obtain⟨⟨⟨xk,xn⟩,xa,kq,kn⟩,hx⟩:=nW k c bX;obtain⟨a,cB,cs,rfl,aV,rfl,-,aZ⟩:=HS.get hx;have dw:I.heap.size<=a:=aV;have X:hH wr a (cB+c*5) _:=fun cz bC hj=>L.lW (aZ cz bC hj) Zm;have g0:=X 0 xk rfl;have g1:=X 1 xn rfl;have g2:=X 2 xa rfl;have g3:=X 3 kq rfl;have g4:=X 4 kn rfl;rw[Sb]at g0;have gz:=iY g0;have dE:(c:Int)<k.length:=Zm
    have dG:IntKind.i64.wrap ((c:Int)+1)=c+1:=RQ _ Zm;obtain⟨J,aM⟩:=Ry (wr.alloc (.cells #[xk,xn,xa,kq,kn] 213));have ae:Ext wr J:=by rw[aM];exact kx
    have Y:¬(Value.slice u c v).ownBlock=some (w.heap.size+2):=fun b=>Z0 ((O.lt _ b).1)
    obtain⟨aS,A,bu,s⟩:=rA.ex (fun W'=>Kp (fun a=>(Value.slice u c v).ownBlock=some a) J W') _ Kp.rr;have r2:=fun D=>((aa.ext ae).kp (s.jm D) Y).c 2 (.slice u c v) rfl;have⟨j,aR,aP,aQ,U,ay,HX⟩:=qh s aM (aa.ext ae) Y (iZ (D:=fun _=>False) O ae fun _ _ _ K=>K) (L.trans ae.any) hx;have dJ:z.heap.size<=J:=ay.size;clear s aM ae aa Y O L hx aZ X aV;by_cases au:kq=1
    . subst au;go_wp2_with fail;rw[<-aR.o];refine kD j 5 [([0,1],2),([],3),([],4)] [] ?_ ?_
      . exact jf
      refine lS ?_;intro i d;go_wp2_with fail;refine(CE 0).mono ?_;rintro b w5 ⟨rfl,af⟩;have t:=Zy (((Kp.refl _ J).drew:Ext J _).trans af);clear af;go_wp2_with fail;refine kk j d t.any ?_;clear d i;refine lF rfl fun i d=>?_;go_wp2_with fail;refine kk j d (t.alloc _).any ?_;clear d i;refine lF rfl fun i d=>?_;refine jo rJ rfl (.tmp 26) (.tmp 28) rfl z (.slice u c v) c _ rfl (iZ (D:=fun _=>False) U (t.alloc _) fun _ _ _ K=>K) w5 1 (jW (mF 0)) rfl rfl (hH.ny _ _ rfl) (wH _) Zm (by have:=t.size;simp;omega) ?_;intro m x q N E G;change i _ _;have o:=(t.alloc _).any.trans E;refine kk j d o ?_;clear d i;have F:=aP.kp o aQ;obtain⟨hz,-,-,x2,-⟩:=F.ca;have f2:=F.frozen 2;have aA:Zz ((q.ownsRow z 37 2 (m,c+1,x) (c+1) (((k.take (c+1)).map fun A=>if A.kind.kind=1 then mF 0 else qH).flatMap jW))/\Kp (·=w+2) z q/\hV q (w+2) 79 #[f,h,.slice u c v]/\m≠w+2):=Zy (by
       refine⟨?_,?_,F,?_⟩
       . rw[RL,HX.o];simpa [mF,jW]using N
       . exact(ay.own o (fun a b=>U.lt a b |>.1))
       . rcases G with b|b
         . have:=(U.lt m b).1;omega
         . have:=t.size;simp at b;omega)
      clear j r2 F N E G o;refine kC ?_;go_wp2_with fail;have B:Kp (·=w+2) q (q.setCell ⟨w+2,2,none⟩ (m,c+1,x)):=(Kp.refl (·=w+2) q).setCell (p:=⟨w+2,2,none⟩) (fun _=>rfl) _;obtain⟨q1,q2,q3,q4⟩:=aA.o;exact⟨⟨c+1,(m,c+1,x),Zm,by go_num,q2.trans B,q3.jk 2 _,iZ q1 B (fun a e _ b=>q4 (by cases e;exact b))⟩,by simp[intOf];omega⟩
    . have dA:=QC.2 au;have bK:=Zy au;clear au;go_wp2_with fail;rw[<-aR.o];refine kD j 5 [([0,1],2),([],3),([],4)] [] ?_ ?_
      . exact jf
      refine lS ?_;intro i d;go_wp2_with fail;refine(Hr).mono ?_;rintro b w5 ⟨rfl,af⟩;have t:=Zy (((Kp.refl _ J).drew:Ext J _).trans af);clear af;go_wp2_with fail;refine kk j d t.any ?_;clear d i;refine lF rfl fun i d=>?_;go_wp2_with fail;refine kk j d (t.alloc _).any ?_;clear d i;refine lF rfl fun i d=>?_;refine jo rJ rfl (.tmp 32) (.tmp 34) rfl z (.slice u c v) c _ rfl (iZ (D:=fun _=>False) U (t.alloc _) fun _ _ _ K=>K) w5 1 (jW qH) rfl rfl (hH.ny _ _ rfl) (wH _) Zm (by have:=t.size;simp;omega) ?_;intro m x q N E G;change i _ _;have o:=(t.alloc _).any.trans E;refine kk j d o ?_;clear d i;have F:=aP.kp o aQ;obtain⟨hz,-,-,x2,-⟩:=F.ca;have f2:=F.frozen 2;have aA:Zz ((q.ownsRow z 37 2 (m,c+1,x) (c+1) (((k.take (c+1)).map fun A=>if A.kind.kind=1 then mF 0 else qH).flatMap jW))/\Kp (·=w+2) z q/\hV q (w+2) 79 #[f,h,.slice u c v]/\m≠w+2):=Zy (by
       refine⟨?_,?_,F,?_⟩
       . rw[RL,HX.o];simpa [qH,jW,bK.o]using N
       . exact(ay.own o (fun a b=>U.lt a b |>.1))
       . rcases G with b|b
         . have:=(U.lt m b).1;omega
         . have:=t.size;simp at b;omega)
      clear j r2 F N E G o;refine kC ?_;go_wp2_with fail;have B:Kp (·=w+2) q (q.setCell ⟨w+2,2,none⟩ (m,c+1,x)):=(Kp.refl (·=w+2) q).setCell (p:=⟨w+2,2,none⟩) (fun _=>rfl) _;obtain⟨q1,q2,q3,q4⟩:=aA.o;exact⟨⟨c+1,(m,c+1,x),Zm,by go_num,q2.trans B,q3.jk 2 _,iZ q1 B (fun a e _ b=>q4 (by cases e;exact b))⟩,by simp[intOf];omega⟩
  . have bZ:c=k.length:=Zm
    subst bZ;rw[RH]at O;have aF:(fresh p ⟨f,h⟩).fields.length=k.length/\(fresh p ⟨f,h⟩).of=⟨f,h⟩:=by rw[ax.o];simp
    have aG:=(bI.any.trans T.kp).own L (fun a b=>Zm);have aY:=T.at_.kp L (fun a e b=>Zm);have ag:=n.oJ aG aY;obtain⟨P,bB,bf,bz,bg,bR⟩:∃P:Own,(∀a r,y a=some r->P a=some r)/\(∀a,P a≠none->Q<=a/\a<wr.heap.size)/\(∀a,(Value.slice u k.length v).ownBlock=some a->P a=some (7,g.os.length))/\(∀a,a<z.heap.size->P a=y a)/\∀a C,P a=some (4,C)->y a=some (4,C):=by
     have aT:Q<=w:=by have:=(n.dom H (by rw[n.o.role];simp)).2;have:=n.low;omega
     cases b:(Value.slice u k.length v).ownBlock with
     |none=>exact⟨y,fun _ _ R=>R,ag.dom,(fun a e=>by cases e),(fun _ _=>rfl),fun _ _ K=>K⟩
     | some qb =>
      have bY:=O.lt qb b;have cu:y qb=none:=by
       cases e2:y qb with
       |none=>rfl
       |some r=>have:=(n.dom qb (by rw[e2];simp)).2;omega
      refine⟨y.add qb (7,g.os.length),fun a r e=>?_,fun a e=>?_,(fun a e=>by cases e;exact Own.add_eq _ _ _),(fun a e=>Own.lT _ Zm),fun a C e=>Own.F9 Zl e⟩
      . rw[Own.lT _ (fun e3=>by subst e3;rw[cu]at e;cases e)];exact e
      . by_cases e3:a=qb
        . subst e3;exact⟨Zm,bY.2⟩
        . rw[Own.lT _ e3]at e;exact ag.dom a e
    have V:=ag.relabel bB bf fun a C e=>ag.xI a C (bR a C e);have aT:Q<=z:=by have:=(n.dom H (by rw[n.o.role];simp)).2;have:=n.low;omega
    have bA:lU wr P Q (7,g.os.length) 37 2 (.slice u k.length v) (fresh p ⟨f,h⟩).fields.length ((fresh p ⟨f,h⟩).fields.flatMap jW):=by
     rw[aF.1,ax.o];exact⟨lM O aT,bz⟩
    obtain⟨ha,aI,aK⟩:=V.heap.form;have aL:¬g.vh.ownBlock=some H:=fun b=>by have:=V.heap.role _ b;rw[V.role]at this;cases this
    have Y:¬g.vh.ownBlock=some (w.heap.size+2):=fun b=>Z0 ((n.heap.blk b).2)
    obtain⟨aS,A,bu,s⟩:=rA.ex (fun W'=>Kp (fun a=>g.vh.ownBlock=some a) wr W') _ Kp.rr;have rm:=fun D=>(V.blk.kp (s.jm D) aL).c 4 (.slice ha g.os.length aI) (by rw[<-aK];rfl);obtain⟨-,df,dh,di,-⟩:=hV.lL fun D=>(aa.kp (s.jm D) Y);have⟨j,az,bO,ai,aB,bM,aN,bP,bJ⟩:=vL s V bA bg aK aG ((bF.kp T.kp Zm).kp L Zm) aL aF;have dK:=L.size;clear s V bA bg aK aG aY ag bB bf bz L aa O aL Y aF;go_wp2_with fail;refine kD j 8 [([0,1,2,3,4,5],6),([],7)] [] ?_ ?_
    . exact jf
    refine lS ?_;intro i d;go_wp2_with fail;refine kk j d kx ?_;clear d i;refine lF rfl fun i d=>?_;refine jo GU rfl (.tmp 42) (.tmp 44) rfl Q (.slice ha g.os.length aI) g.os.length (g.os.flatMap pR) rfl (by rw[<-aB.o];exact iZ (D:=fun _=>False) az.heap.row kx fun _ _ _ K=>K) wr 1 [f,h,.slice u k.length v] rfl rfl (hH.Hn _ _ rfl) Zt Zm Zr ?_;intro m x q N E G;change i _ _;rw[<-aB.o]at E G;have o:=(kx:Ext wr _).any.trans E;refine kk j d o ?_;clear d i;have av:=az.blk.kp o bP;have x4:=av.c 4 (.slice ha g.os.length aI) (by rw[<-aB.o];rfl);have f4:=av.frozen 4;have hz:=av.lt;have S:({g with os:=g.os++[⟨fresh p ⟨f,h⟩,.slice u k.length v⟩],vh:=(m,g.os.length+1,x)}:Gh).st=(create p ⟨f,h⟩ g.st).2:=by simp[Gh.st,create]
    obtain⟨aj,cK,aH,ak⟩:=az.Px (fresh p ⟨f,h⟩) (.slice u k.length v) bO m x (by rw[bJ.o.2];exact N) o (by
     rcases G with b|b
     . exact .inl b
     . right;simp at b;omega) (by rw[S];exact n.good.grow hr (by simpa [Gh.st]using bW))
    have bq:cK (w+1)=none:=by
     rw[aH _ Zm,ai.o _ Zm];cases b:y (w+1)with
     |none=>rfl
     |some r=>have:=(n.dom _ (by rw[b];simp)).2;omega
    obtain⟨W,hW⟩:=Ry (q.setCell (H,4) (m,g.os.length+1,x));rw[<-hW]at aj ak;have y4:=ak.blk.c 4 (m,g.os.length+1,x) rfl;have⟨HW,bL,ah,bD,bN⟩:=mr hW aj ak aH bq;have bn:P (w+1)=none:=by
     rw[ai.o _ Zm];cases b:y (w+1)with
     |none=>rfl
     |some r=>have:=(n.dom _ (by rw[b];simp)).2;omega
    have aU:=aN.kp aj (fun b=>by
     rcases b with b|b
     . omega
     . exact b bn)
    have aC:=aN.kp o (fun b=>Z0 ((n.heap.blk b).2));obtain⟨zz,z0,z1,-⟩:=aC.ca;obtain⟨dL,dM,-⟩:=aC.fz;have dB:=n.blk.lt;have dC:¬H=w+1:=Zm
    have dD:¬w+1=H:=Zm
    have⟨bG,HS⟩:=je aU S;have dF:IntKind.i64.wrap ((g.os.length:Int)+1 - 1)=g.os.length:=by rw[RQ _ Zm];omega
    clear aj ak aH bq bn aU aC y4 N E G o av j rm df dh di S hW;refine kC ?_;go_wp2_with fail;rw[<-HW.o];have B:Kp (·=w+1) W ((W.setCell ⟨w+1,0,none⟩ (.int .i64 2)).setCell ⟨w+1,1,none⟩ g.os.length):=((Kp.refl (·=w+1) W).setCell (p:=⟨w+1,0,none⟩) (fun _=>rfl) _).setCell (p:=⟨w+1,1,none⟩) (fun _=>rfl) _;refine DV (jw zL rfl (w+1) rfl [.int .i64 2,g.os.length] (hH.lV (bG.set2 _ _)) rfl) rfl ?_;have bT:=ah.ku.kp B (fun a e b=>Zm);have bU:=ah.keep B (mV.refl _ _) (ah.zi B.size) bT (fun a e b=>by subst b;exact e bN) (fun a e b=>Z0 ah.ku.ord);refine jY.mk' ?_ (fun a e=>?_) bU HS
    . refine Kp.own (D':=(·=w+1)) ?_ B (fun a b=>Zm);exact(bM.weak fun a _ b=>.inl b).mo (bL) (fun a e=>ai.o a Zm)
    . rw[bD.o a Zm,ai.o a Zm]
section
variable {w w':World} {l:jh} {p:M.hZ} {own:Own} {B mb:Nat} {lk:Bool} {g:Gh} {r:List GC} {c:GC}
theorem ji.fresh(c:ji w l p own B mb lk g){b:Nat}(d:w<=b):¬MO l own b:=by
 rintro(a|a)
 . have:=c.ku.Ev;omega
 . have:=(c.dom b a).2;omega
def Gh.kI(g:Gh)(r:List GC)(c:GC)(st:List Val)(vs:Value):Gh:={g with cs:=r++[{c with f:={c.f with stack:=st},vs:=vs}]}
theorem Gh.Qr(st:List Val)(vs:Value):(g.kI r c st vs).st={g.st with frames:=r.map GC.f++[{c.f with stack:=st}]}:=by simp[Gh.kI,Gh.st]
theorem Gh.nL(b:g.cs=r++[c]){n:Nat}{st vs:List Val}(a:c.f.stack=st++vs)(e:vs.length=n)(vs':Value):M.nL n g.st=some (vs,(g.kI r c st vs').st):=by
 unfold M.nL;have d:c.f.stack.length - n=st.length:=by rw[a];simp;omega
 rw[Gh.top b,qw (Gh.fr b),RX (by rw[a];simp;omega),d,Gh.Qr,a];simp
theorem Gh.yM(a:g.cs=r++[c]){n:Nat}(b:c.f.stack.length<n):M.nL n g.st=none:=by
 unfold M.nL;rw[Gh.top a,RV b]
theorem Gh.pop(a:g.cs=r++[c]){st:List Val}{v:Val}(b:c.f.stack=st++[v])(vs':Value):M.pop g.st=some (v,(g.kI r c st vs').st):=by
 unfold M.pop;rw[Gh.nL a (n:=1) b rfl vs'];rfl
theorem Gh.zw(a:g.cs=r++[c])(b:c.f.stack=[]):M.pop g.st=none:=by
 unfold M.pop;rw[Gh.yM a (by rw[b];simp)];rfl
theorem ji.popped(e:ji w l p own B mb lk g)(j:g.cs=r++[c]){a:Option Addr}{n k:Nat}{st:List Val}(o:c.vs=.slice a (st.length+n) k)(m:∃vs,c.f.stack=st++vs/\vs.length=n)(L:0<n)(s:hV w' c.cb 171 ((AB p c).setIfInBounds 13 (.slice a st.length k)))(i:Kp (·=c.cb) w w'):Kp (MO l own) w w'/\ji w' l p own B mb lk (g.kI r c st (.slice a st.length k)):=by
 obtain⟨vs,m,H⟩:=m;have d:=e.at_ j;have G:c.f.stack.length=st.length+n:=by rw[m];simp[H]
 have y:=d.kI.row;rw[o,G]at y;obtain⟨t,N,b,-⟩:=jS y Zm;cases b;have z:=Bf y (j:=st.length) Zm;rw[m,AP (enc:=jW) (k:=2) (fun _=>rfl)]at z;have D:c.vs.ownBlock≠some c.cb:=fun b=>by have:=d.kI.role _ b;rw[d.role]at this;cases this
 have h:=jA.1 (e.C9 j);obtain⟨E,O,K,F⟩:=e.setStack j st (t,st.length,k) s (iZ z i (fun g v _ b=>D (by rw[o];subst b;exact v))) (fun u A=>.inl (by rw[o];exact A)) (i.weak fun q _ b=>.inl b) (by
  rw[show({g with cs:=r++[{c with f:={c.f with stack:=st},vs:=(t,st.length,k)}]}:Gh).st={g.st with frames:=r.map GC.f++[{c.f with stack:=st}]}from by simp[Gh.st]];refine e.good.turn (Gh.fr j) (jA.2 ⟨h.1,h.2.1,h.2.2.1,h.2.2.2.1,?_,h.2.2.2.2.2.1,fun J I=>h.2.2.2.2.2.2 J (by rw[m];simp[I])⟩);have:=h.2.2.2.2.1;simp only;omega)
 refine⟨E,?_⟩;have x:Kp (PO own (·=(4,r.length))) w w':=i.weak fun q _ b=>⟨_,by rw[b];exact d.role,rfl⟩;have C:=mV.refl w own;refine e.Gm j rfl (x.weak fun q _ ⟨t,e1,e2⟩=>⟨t,e1,.inl e2⟩) C (e.zi i.size) ⟨s,d.role,d.low,jL.kp jd.stays x (fun q s=>e.xO q s) d.ml,d.loc.xy x C Zl,⟨?_,fun u A=>d.kI.role u (by rw[o];exact A)⟩⟩ F.good i (fun _ _ _ b=>b) fun _ _ u=>u;exact iZ z i (fun g v _ b=>D (by rw[o];subst b;exact v))
end
theorem vQ{w:World}{l:jh}{p:hZ}{i:Own}{f k:Nat}{lk:Bool}{g:Gh}(b:ji w l p i f k lk g)(r:List GC)(c:GC)(e:g.cs=r++[c])(st:List Val)(v:Val)(h:c.f.stack=st++[v]):Calls prog 123 #[some (c.cb,13)] w fun a j=>a=.returned (.tuple #[.agg #[v.kind,v.n],.bool true])/\Kp (MO l i) w j/\∃x,ji j l p i f k lk (g.kI r c st x):=by
 have d:=b.at_ e;have s:=jA.1 (b.C9 e);have z:=(b.mi e).stack;have A:=s.2.2.2.2.1;have t:c.f.stack.length=st.length+1:=by rw[h];simp
 refine(Ns w c.cb 13 f c.vs st.length st v d.blk rfl (by rw[<-h,<-t];exact d.kI.row) rfl Zm (fun a=>by have:=d.kI.role _ a;rw[d.role]at this;cases this)).mono ?_;rintro a j ⟨rfl,⟨y,B,u,q⟩,o⟩;obtain⟨m,n⟩:=b.popped e u ⟨[v],h,rfl⟩ Zm q o;exact⟨rfl,m,_,n⟩
theorem qX{w:World}{l:jh}{p:hZ}{m:Own}{d k:Nat}{lk:Bool}{g:Gh}(f:ji w l p m d k lk g)(r:List GC)(c:GC)(h:g.cs=r++[c])(i:c.f.stack=[]):Calls prog 123 #[some (c.cb,13)] w fun a n=>a=.returned (.tuple #[.agg #[.int .i64 0,.int .i64 0],.bool false])/\Ext w n:=by
 have b:=f.at_ h;obtain⟨e,j,a⟩:=b.kI.form;rw[i]at a;exact Nr w c.cb 13 c.vs b.blk rfl ⟨e,j,a⟩
theorem BM{w:World}{l:jh}{p:hZ}{m:Own}{i v:Nat}{lk:Bool}{g:Gh}(b:ji w l p m i v lk g)(r:List GC)(c:GC)(e:g.cs=r++[c])(st vs:List Val)(n:Nat)(k:c.f.stack=st++vs)(q:vs.length=n)(s:0<n):Calls prog 125 #[some (c.cb,13),n] w fun a h=>∃f,a=.returned (.tuple #[f,.bool true])/\h.ownsRow w 37 2 f n (vs.flatMap jW)/\Kp (MO l m) w h/\∃C,ji h l p m i v lk (g.kI r c st C):=by
 have d:=b.at_ e;have B:=jA.1 (b.C9 e);have E:=(b.mi e).stack;have F:=B.2.2.2.2.1;have j:c.f.stack.length=st.length+n:=by rw[k];simp[q]
 refine(qY w c.cb 13 i _ _ c.vs c.f.stack.length c.f.stack d.blk rfl d.kI.row rfl n Zm s Zm (fun a=>by have:=d.kI.role _ a;rw[d.role]at this;cases this)).mono ?_;rintro a h ⟨f,rfl,t,⟨D,G,u,o⟩,A⟩;rw[j]at u;rw[j,SE]at o;have x:c.f.stack.drop (c.f.stack.length - n)=vs:=by rw[j,SE,k,List.drop_left]
 rw[x]at t;obtain⟨y,z⟩:=b.popped e u ⟨vs,k,q⟩ s o A;exact⟨f,rfl,t,y,_,z⟩
theorem uA{w:World}{l:jh}{p:hZ}{k:Own}{b j:Nat}{lk:Bool}{g:Gh}(e:ji w l p k b j lk g)(r:List GC)(c:GC)(f:g.cs=r++[c])(n:Nat)(h:c.f.stack.length<n)(i:n<=1000):Calls prog 125 #[some (c.cb,13),n] w fun d m=>d=.returned (.tuple #[(),.bool false])/\w=m:=by
 have a:=e.at_ f;exact BV w c.cb 13 c.vs _ a.blk rfl a.kI.form n h i
theorem PW{w:World}{l:jh}{p:hZ}{n:Own}{d b:Nat}{lk:Bool}{g:Gh}(h:ji w l p n d b lk g)(r:List GC)(c:GC)(m:g.cs=r++[c])(x:g.status=1)(i:Ins)(u:nO (M.method p c.f.of) i=true)(a:i.op=1):Calls prog 74 #[some b,.agg #[i.op,i.a,i.name,i.member]] w (jY w l p n d b lk (.int .i64 (jF p lk i g.st).1) (jF p lk i g.st).2):=by
 have s:Zz (jF p lk i g.st=push p (mF i.a) g.st):=Zy (by unfold jF;rw[RV a]);have v:=(qR u).2.2.2.1 a;have⟨o,q⟩:=je h m;clear h m a;go_enter func74,ntmps74;go_wp2_with fail;refine(CE i.a).mono ?_;rintro t y ⟨rfl,j⟩;have e:=Zy ((kx:Ext w _).trans j);clear j;go_wp2_with fail;refine(rQ (o.ext e) r c q x (mF i.a) (pg _ v)).mono ?_;rintro t z k;have f:=Zy (jY.behind e k);obtain⟨rfl,-⟩:=k;rw[<-s.o]at f |-;go_wp2_with fail;go_ret;exact f
theorem Od{w:World}{l:jh}{p:hZ}{n:Own}{b a:Nat}{lk:Bool}{g:Gh}(f:ji w l p n b a lk g)(r:List GC)(c:GC)(k:g.cs=r++[c])(u:g.status=1)(i:Ins)(m:i.op=5):Calls prog 78 #[some a,.agg #[i.op,i.a,i.name,i.member]] w (jY w l p n b a lk (.int .i64 (jF p lk i g.st).1) (jF p lk i g.st).2):=by
 have s:Zz (jF p lk i g.st=push p qH g.st):=Zy (by unfold jF;rw[m];rfl);have⟨o,q⟩:=je f k;clear f k m;go_enter func78,ntmps78;go_wp2_with fail;refine(Hr).mono ?_;rintro t v ⟨rfl,h⟩;have d:=Zy ((kx:Ext w _).trans h);clear h;go_wp2_with fail;refine(rQ (o.ext d) r c q u qH (zF _)).mono ?_;rintro t x j;have e:=Zy (jY.behind d j);obtain⟨rfl,-⟩:=j;rw[<-s.o]at e |-;go_wp2_with fail;go_ret;exact e
theorem QR{w:World}{l:jh}{p:hZ}{n:Own}{d b:Nat}{lk:Bool}{g:Gh}(h:ji w l p n d b lk g)(r:List GC)(c:GC)(m:g.cs=r++[c])(v:g.status=1)(i:Ins)(u:nO (M.method p c.f.of) i=true)(a:i.op=13):Calls prog 86 #[some b,.agg #[i.op,i.a,i.name,i.member]] w (jY w l p n d b lk (.int .i64 (jF p lk i g.st).1) (jF p lk i g.st).2):=by
 have s:Zz (jF p lk i g.st=jump p i.a g.st):=Zy (by unfold jF;rw[a];rfl);have t:=((qR u).2.2.1 (.inr (.inr a))).1;have j:Ext w (w.alloc (.cells #[i.op,i.a,i.name,i.member] 149)):=kx;have⟨e,o,q⟩:=jy j h m;clear h m a j;go_enter func86,ntmps86;go_wp2_with fail;refine(A8 (o.ext e) r c q v i.a t).mono ?_;rintro x y k;have f:=Zy (jY.behind e k);obtain⟨rfl,-⟩:=k;rw[<-s.o]at f |-;go_wp2_with fail;go_ret;exact f
end Go.Proofs.YtlhlnddgfcmfkaaGreat
namespace Go.Proofs.YtlhlnddgfcmfkaaGreat
open Go Go.RowKit Tryz M
theorem Og{w:World}{l:jh}{p:hZ}{X:Own}{L I:Nat}{lk:Bool}{g:Gh}(C:ji w l p X L I lk g)(r:List GC)(c:GC)(R:g.cs=r++[c])(T:g.status=1)(i:Ins)(S:nO (M.method p c.f.of) i=true)(n:i.op=11):Calls prog 84 #[.pointer (some ⟨I,0,none⟩),.agg #[.int .i64 i.op,.int .i64 i.a,.string i.name,.string i.member]] w (jY w l p X L I lk (.int .i64 (jF p lk i g.st).1) (jF p lk i g.st).2):=by
 have HI:=Zy (qR S);obtain⟨w0,V,D,B⟩:=nu w #[.int .i64 i.op,.int .i64 i.a,.string i.name,.string i.member] 149;have⟨af,h,N,aa,O,d⟩:=nZ (C.fresh (R5 _)) (C.ext D) D B V R;have av:=B.lt;clear C D B V R S;rcases R8 c.f.stack with b|⟨u,v,b⟩
 . have a:Zz (jF p lk i g.st=(10,g.st)):=Zy (by unfold jF;rw[n];simp only[Gh.zw d.o b];rfl);have z:=Zy b;clear b n;go_enter func84,ntmps84;go_wp2_with fail;rw[<-O.o];refine(kV _ _ _ _ _ _ _ _ h.o r c d.o).mono ?_;rintro k w1 ⟨rfl,e⟩;have⟨o,q⟩:=je (h.o.ext e) (N.o.trans e);clear e;go_wp2_with fail;refine(qX o.o r c d.o z.o).mono ?_;rintro k Y ⟨rfl,E⟩;have⟨Z,ae⟩:=je (o.o.ext E) (q.o.trans E);clear E;go_wp2_with fail;go_ret;rw[a.o];exact jY.mk' (ae.o.alloc _).any (mV.refl _ _) (Z.o.ext kx) rfl
 . rw[R9]at b;have U:=(jA.1 (h.o.C9 d.o)).2.2.2.2.2.2 v (by rw[b];simp);have aj:=Zy (by simpa [Gh.st]using U);have a:Zz (∀f,jF p lk i g.st=if v.kind=1 then(if v.n=0 then jump p i.a (g.kI r c u f).st else next p (g.kI r c u f).st)else(10,(g.kI r c u f).st)):=Zy (fun f=>by unfold jF;rw[n];simp only[Gh.pop d.o b f];rfl);have⟨z,ag⟩:=je b n;clear b n U;obtain⟨J,K⟩:=v;simp only at a;go_enter func84,ntmps84;go_wp2_with fail;rw[<-O.o];refine(kV _ _ _ _ _ _ _ _ h.o r c d.o).mono ?_;rintro k w1 ⟨rfl,e⟩;have⟨o,q⟩:=je (h.o.ext e) e;clear e;go_wp2_with fail;refine(vQ o.o r c d.o u ⟨J,K⟩ z.o).mono ?_;rintro k Y ⟨rfl,G,f,H⟩;replace a:=Zy (a.o f);obtain⟨w3,W,F,P⟩:=nu Y #[.int .i64 J,.int .i64 K] 37;have⟨y,x⟩:=je (H.ext F) (((N.o.trans q.o).any.trans G).trans F.any);have Q:=(aa.o.ext q.o).kp G af.o;obtain⟨yz,-,y1,-⟩:=Q.ca;have⟨A,ah,ai⟩:=jy W P (H.fresh (R5 _));clear F P G H Q W;by_cases s:J=1
   . subst s;by_cases t:K=0
     . subst t;replace a:=Zy (a.o.trans (RV rfl));replace a:=Zy (a.o.trans (RV rfl));go_wp2_with fail;rw[<-A.o];refine(A8 y.o r _ rfl T i.a (HI.o.2.2.1 (.inl ag.o)).1).mono ?_;rintro k w4 m;have j:=Zy (jY.after x.o (mV.refl _ _) m);obtain⟨rfl,-⟩:=m;rw[<-a.o]at j |-;go_wp2_with fail;go_ret;exact j.o
     . have au:=QC.2 t;replace a:=Zy (a.o.trans (RV rfl));replace a:=Zy (a.o.trans (RX t));clear t;go_wp2_with fail;rw[<-A.o];refine(uh y.o r rfl T).mono ?_;rintro k w4 m;have j:=Zy (jY.after x.o (mV.refl _ _) m);obtain⟨rfl,-⟩:=m;rw[<-a.o]at j |-;go_wp2_with fail;go_ret;exact j.o
   . have ak:=RS.2 s;replace a:=Zy (a.o.trans (RX s));clear s;go_wp2_with fail;go_ret;rw[a.o,<-A.o];exact jY.mk' x.o (mV.refl _ _) y.o rfl
end Go.Proofs.YtlhlnddgfcmfkaaGreat
