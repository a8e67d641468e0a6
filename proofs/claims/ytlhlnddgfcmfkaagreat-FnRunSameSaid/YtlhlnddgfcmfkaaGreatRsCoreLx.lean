/- Walks. -/
import Derived.Test.YtlhlnddgfcmfkaaGreatRsCoreH
import Derived.Test.YtlhlnddgfcmfkaaGreatRsCoreLw
set_option maxRecDepth 100000
set_option maxHeartbeats 4000000
set_option linter.all false
namespace Go.Proofs.YtlhlnddgfcmfkaaGreat
open Go Go.RowKit Tryz M
def OD(n:Nat):Nat:=
 if n=1 then 74 else if n=2 then 75 else if n=3 then 76 else if n=4 then 77 else if n=5 then 78 else if n=6 then 79 else
 if n=7 then 80 else if n=8 then 81 else if n=9 then 82 else if n=10 then 83 else if n=11 then 84 else if n=12 then 85 else
 if n=13 then 86 else if n=14 then 87 else 88
def JQ(v:Value):Array Value:=#[.nilFunc,.func (.func 74) #[v] #[],.func (.func 75) #[v] #[],.func (.func 76) #[v] #[],.func (.func 77) #[v] #[],.func (.func 78) #[v] #[],.func (.func 79) #[v] #[],
 .func (.func 80) #[v] #[],.func (.func 81) #[v] #[],.func (.func 82) #[v] #[],.func (.func 83) #[v] #[],.func (.func 84) #[v] #[],.func (.func 85) #[v] #[],.func (.func 86) #[v] #[],
 .func (.func 87) #[v] #[],.func (.func 88) #[v] #[]]
theorem KO(v:Value){n:Nat}(a:1<=n)(b:n<=15):(JQ v)[n]?=some (.func (.func (OD n)) #[v] #[]):=by
 have:n=1\/n=2\/n=3\/n=4\/n=5\/n=6\/n=7\/n=8\/n=9\/n=10\/n=11\/n=12\/n=13\/n=14\/n=15:=Zm
 rcases this with rfl|rfl|rfl|rfl|rfl|rfl|rfl|rfl|rfl|rfl|rfl|rfl|rfl|rfl|rfl<;>rfl
theorem M8{n:Nat}(a:1<=n)(b:n<=15)(args:Array Value)(w:World):(callFunc (OD n) args).run prog w=.ok (.enter (OD n) args) w:=by
 have:n=1\/n=2\/n=3\/n=4\/n=5\/n=6\/n=7\/n=8\/n=9\/n=10\/n=11\/n=12\/n=13\/n=14\/n=15:=Zm
 rcases this with rfl|rfl|rfl|rfl|rfl|rfl|rfl|rfl|rfl|rfl|rfl|rfl|rfl|rfl|rfl
 . exact jE func74 rfl Zo args w
 . exact jE func75 rfl Zo args w
 . exact jE func76 rfl Zo args w
 . exact jE func77 rfl Zo args w
 . exact jE func78 rfl Zo args w
 . exact jE func79 rfl Zo args w
 . exact jE func80 rfl Zo args w
 . exact jE func81 rfl Zo args w
 . exact jE func82 rfl Zo args w
 . exact jE func83 rfl Zo args w
 . exact jE func84 rfl Zo args w
 . exact jE func85 rfl Zo args w
 . exact jE func86 rfl Zo args w
 . exact jE func87 rfl Zo args w
 . exact jE func88 rfl Zo args w
theorem PU{w:World}{l:jh}{p:hZ}{k:Own}{j h:Nat}{lk:Bool}(m:Zz (lk=true->xC)){g:Gh}(a:ji w l p k j h lk g)(r:List GC)(c:GC)(b:g.cs=r++[c])(f:g.status=1)(i:Ins)(n:Nat)(e:i.op=n)(d:nO (M.method p c.f.of) i=true):Calls prog (OD n) #[some h,.agg #[i.op,i.a,i.name,i.member]] w (jY w l p k j h lk (.int .i64 (jF p lk i g.st).1) (jF p lk i g.st).2):=by
 obtain⟨_,_,_,_,o,_⟩:=qR d;have:n=1\/n=2\/n=3\/n=4\/n=5\/n=6\/n=7\/n=8\/n=9\/n=10\/n=11\/n=12\/n=13\/n=14\/n=15:=Zm
 rcases this with rfl|rfl|rfl|rfl|rfl|rfl|rfl|rfl|rfl|rfl|rfl|rfl|rfl|rfl|rfl
 . exact PW a r c b f i d e
 . exact Oe a r c b f i d e
 . exact PY a r c b f i d e
 . exact PS a r c b f i d e
 . exact Od a r c b f i e
 . exact PV a r c b f i d e
 . exact PT a r c b f i d e
 . exact P5 a r c b f i d e
 . exact Ob m a r c b f i d e
 . exact PZ a r c b f i d e
 . exact Og a r c b f i d e
 . exact L9 a r c b f i d e
 . exact QR a r c b f i d e
 . exact PX a r c b f i d e
 . exact Oc a r c b f i d e
theorem Fb(w:World)(l:jh)(p:hZ)(E:Own)(S m:Nat)(lk:Bool)(aI:Zz (lk=true->xC))(g:Gh)(j:ji w l p E S m lk g)(r:List GC)(c:GC)(t:g.cs=r++[c])(C:g.status=1):Calls prog 31 #[some m] w (jY w l p E S m lk (.tuple #[]) (M.step p lk g.st)):=by
 have aj:=j.mi t;have Q:=j.C9 t;obtain⟨n,R⟩:∃n:Nat,c.f.pc=n:=⟨c.f.pc.toNat,by simp[kZ]at Q;omega⟩;have aQ:n<(M.method p c.f.of).code.length:=by simp[kZ]at Q;omega
 obtain⟨⟨op,u,x,v⟩,z⟩:=nW (M.method p c.f.of).code n aQ;have A:=aj.ins _ (R3 z);obtain⟨d,rfl⟩:∃d:Nat,op=d:=⟨op.toNat,by have:=(qR A).2.2.2.2.1;simp only at this;omega⟩;have B:1<=d/\d<=15:=by have:=(qR A).2.2.2.2.1;simp only at this;omega
 have HS:Zz (M.step p lk g.st=end_ (jF p lk ⟨d,u,x,v⟩ g.st).1 (jF p lk ⟨d,u,x,v⟩ g.st).2):=Zy (by
  unfold M.step stepped;rw[RV (show g.st.status=1 from C),Gh.top t,R];simp[z])
 have e2:=j.blk.c 2 g.status rfl;rw[C]at e2;obtain⟨F,k⟩:=Ry (w.alloc (.cells (JQ (some m)) 180));have W:hV F w 180 (JQ (some m)):=by rw[k];exact hV.new _ _ _
 have O:Ext w F:=by rw[k];exact kx
 have⟨T,U,aB,ay,aU,G,aJ,HI,aF⟩:=vL j (j.ext O) O W k t C z A;have HN:=Zy R;unfold JQ at k;have HX:=Zy k;clear j O W k t C z A aj Q R;go_enter func31,ntmps31;go_wp2_with fail;rw[<-HX.o];refine(kV _ _ _ _ _ _ _ _ U r c G).mono ?_;rintro Z e ⟨rfl,y⟩;have L:=U.ext y;have N:=ay.ext y;have bf:(w:Nat)<e:=N.lt;have s:=L.at_ G;have cz:=s.blk.lt;obtain⟨aV,bg,cs,ea,aP,rfl,-,P⟩:=(jd.code s.ml).get HI;have hz:=P;obtain⟨J,g1,g2,K⟩:=P.four;have gz:=iY J;obtain⟨aM,aO,aR,b⟩:=kY e;have Y:=fun a=>(s.blk.ext (b.jm a)).c 9 (.slice c.t.a2 (M.method p c.f.of).code.length c.t.c2) rfl;have aN:=fun a=>(s.blk.ext (b.jm a)).c 11 n (by rw[<-HN.o];rfl);have y0:=fun a=>(b.jm a).jb J;have y1:=fun a=>(b.jm a).jb g1;have y2:=fun a=>(b.jm a).jb g2;have y3:=fun a=>(b.jm a).jb K;rw[ea]at Y;have⟨h,ak,ax,aC⟩:=jV b L N (aB.trans y);have aZ:(n:Int)<(M.method p c.f.of).code.length:=Zm
 clear L N s y P hz ea aP b J g1 g2 K;go_wp2_with fail;refine kD h 12 [([0,1,2,3,4,5,6,7,8,9,10],11)] [] ?_ ?_
 . exact jf
 refine lS ?_;intro q f;go_wp2_with fail;refine kk h f ((Kp.refl _ e).drew.alloc _:Ext e _) ?_;clear f q;obtain⟨o,D⟩:=Ry ((e.alloc (.cells #[d,u,x,v] 149)).drew);have ae:Ext e o:=by rw[D];exact((Kp.refl _ e).alloc _).drew
 have X:hV o e 149 #[d,u,x,v]:=by rw[D];exact(hV.newAt _ _ rfl).ext jf
 have⟨H,aA,aK⟩:=jy ae X D;clear ae X D h Y aN y0 y1 y2 y3;refine kC ?_;go_wp2_with fail;rw[<-aK.o];have au:=Zy (ak.ext H);have az:=Zy (ax.ext H);have aS:=T.fresh (R5 _);have aT:¬MO l E e.heap.size:=T.fresh Zm;obtain⟨aM,aO,aR,b⟩:=rA.ex (fun W'=>Kp (MO l E) o W') _ Kp.rr;obtain⟨-,r0,r1,r2,r3,-⟩:=hV.lL fun a=>(aA.kp (b.jm a) aT);have rf:=fun a=>(az.kp (b.jm a) aS).c d _ (KO (some m) B.1 B.2);have aY:(d:Int)<16:=Zm
 have aX:(0:Int)<=d:=Zm
 have h:=Zy b;have aW:=M8 B.1 B.2;clear b;refine kD h 8 [([0,1,2,3,4,5],6),([],7)] [] ?_ ?_
 . exact jf
 refine lS ?_;intro q f;go_wp2_with fail;refine(PU aI (au.ext jf) r c G aJ ⟨d,u,x,v⟩ d rfl aF).mono ?_;rintro Z w3 i;obtain⟨rfl,af,bn,K,ah,aa,ai⟩:=i.behind ((Kp.refl _ o).drew);have⟨av,I,V,aD⟩:=jV aa af ah ai;clear i af aa ah ai;go_wp2_with fail;refine kk h f I ?_;clear f q;refine lF rfl fun q f=>?_;go_wp2_with fail;refine(Hh _ _ _ _ _ _ _ _ av _).mono ?_;rintro Z w4 i;rw[aD.o]at i;have hE:=(i.after I V).behind (aC.trans H);obtain⟨rfl,ag,hX⟩:=hE;have⟨aL,aG⟩:=je hX ag;have aH:=Zy (i.after I V).2.1;clear i hX ag;go_wp2_with fail;refine kk h f aH ?_;clear f q;refine wG rfl ?_;refine RA ?_;rw[HS.o];exact⟨rfl,aG,aL⟩
theorem D7 (w : World) (I : Nat -> Prop) (cs : List Value) (m : M.Method) (A : jd w I m cs) (args : List Int) (t : Option Addr) (u : Nat) (Q : args.length <= 4294967296) :Calls prog 98 #[.agg cs.toArray,.slice t args.length u] w fun x G=>x=.returned (.bool (pF m args))/\Ext w G:=by
 obtain⟨V,E,F,rfl,o,N,O⟩:=A;obtain⟨s,v,rfl,T,R⟩:=o.form;by_cases c:m.args.length=args.length
 . have d : Zz (pF m args = m.args.all fun a => decide (a.kind = 1)) := Zy (by unfold pF; rw [R6 c]; rfl); have C : ((m.args.length : Int) != args.length) = false := by simp [c]
   have H:=Zy c;clear c;obtain⟨e,i⟩:=Ry (w.alloc (.cells #[m.name,.slice s m.args.length v,m.ret.kind,m.ret.name,m.locals,m.stack,E,F] 141));have p:Ext w e:=by rw[i];exact kx
   have⟨g,r⟩:=je p i;clear p i;go_enter func98,ntmps98;go_wp2_with fail;rw[<-r.o];go_loopw [16] (fun k wr=>∃a:Nat,a<=m.args.length/\k=.int .i64 a/\Ext e wr/\Zz ((m.args.take a).all (fun a=>decide (a.kind=1))=true)) (fun k _=>m.args.length - (intOf k).toNat)
   case atStart=>exact⟨0,R4 _,rfl,Kp.rr,Zy Zl⟩
   case round =>
    obtain⟨a,S,rfl,B,l⟩:=hrel;by_cases D:a<m.args.length
    . obtain⟨f,j⟩:=get_some D;obtain⟨J,U,cs,rfl,P,rfl,-,q⟩:=o.get j;obtain⟨z,K⟩:=((q.ext g.o).ext B).two;have L:=iY z;have n:=Zy j;clear j q;by_cases b:f.kind=1
      . have y:((f.kind:Int) !=1)=false:=by simp[b]
        have h:Zz (decide (f.kind=1)=true):=Zy (by simp[b]);clear b;go_wp2_with fail;go_roundw
        case rel=>exact⟨a+1,Zm,by go_num,kx,Zy (all_succ l.o n.o h.o)⟩
        case measure=>simp[intOf];omega
      . have y:=RS.2 b;have h:Zz (decide (f.kind=1)=false):=Zy (by simp[b]);clear b;go_wp2_with fail;go_ret;exact⟨hQ (by rw[d.o];exact(rG n.o h.o).symm),g.o.trans kx⟩
    . go_wp2_with fail;go_ret;exact⟨hQ (by rw[d.o];exact(pU l.o Zm).symm),g.o.trans kx⟩
 . have C:((m.args.length:Int) !=args.length)=true:=RS.2 Zm;have d:Zz (pF m args=false):=Zy (by unfold pF;rw[R7 c];rfl);clear c;go_enter func98,ntmps98;go_wp2_with fail;go_ret;exact⟨hQ (by rw[d.o]),kx⟩
theorem Ik {w: World} (v : Val) (n : Nat) :Calls prog 70 #[.agg #[v.kind,v.n],n] w fun g l=>g=.returned (.bool (ko v n))/\Ext w l:=by
 obtain⟨b,a⟩:=v;by_cases d:b=0\/b=3
 . have c:Zz (ko ⟨b,a⟩ n=decide (a=0)):=Zy (by unfold ko;rw[RV d]);rcases d with rfl|rfl
   all_goals
    go_enter func70,ntmps70;go_wp2_with fail;go_ret;exact⟨hQ (by rw[c.o];by_cases k:a=0<;>simp[k]),kx⟩
 . have h : ((b : Int) == 0) = false := QC.2 Zm; have i : ((b : Int) == 3) = false := QC.2 Zm; by_cases e : b = 1
   . subst e;have c:Zz (ko ⟨1,a⟩ n=nQ a):=Zy (by unfold ko;simp);clear d h i;go_enter func70,ntmps70;go_wp2_with fail;refine(Gc a _).mono ?_;rintro g o ⟨rfl,rfl⟩;go_wp2_with fail;go_ret;exact⟨hQ (by rw[c.o];rfl),kx⟩
   . have j:=QC.2 e;by_cases f:b=2
     . subst f;have c:Zz (ko ⟨2,a⟩ n=(decide (0<=a)&&decide (a<n))):=Zy (by unfold ko;simp);clear d h i e j;go_enter func70,ntmps70;go_wp2_with fail
       all_goals
        go_ret;exact⟨hQ (by rw[c.o];by_cases p:0<=a<;>by_cases q:a<n<;>simp_all<;>omega),kx⟩
     . have m:=QC.2 f;have c:Zz (ko ⟨b,a⟩ n=false):=Zy (by unfold ko;rw[RX d,RX e,RX f]);clear d e f;go_enter func70,ntmps70;go_wp2_with fail;go_ret;exact⟨hQ (by rw[c.o]),kx⟩
theorem Bt{w:World}(I:Nat->Prop){v:Value}(l:List Val)(h:SliceOf 2 mP w I v l)(n:Nat):Calls prog 120 #[v,n] w fun g p=>g=.returned (.bool (l.all (ko · n)))/\Ext w p:=by
 obtain⟨q,s,rfl,C,A⟩:=h.form;go_enter func120,ntmps120;go_wp2;go_loopw [9] (fun d wr=>∃a:Nat,a<=l.length/\d=.int .i64 a/\Ext w wr/\Zz ((l.take a).all (ko · n)=true)) (fun d _=>l.length - (intOf d).toNat)
 case atStart=>exact⟨0,R4 _,rfl,Kp.rr,Zy Zl⟩
 case round =>
  obtain⟨a,B,rfl,m,e⟩:=hrel;by_cases o:a<l.length
  . obtain⟨k,c⟩:=get_some o;obtain⟨r,D,t,rfl,z,rfl,-,i⟩:=h.get c;obtain⟨u,x⟩:=(i.ext m).two;have f:=Zy c;clear c i;cases j:ko k n
    all_goals
     have b:=Zy j;clear j;go_wp2_with (go_at_call 70;refine(Ik k n).mono ?_;rintro g E ⟨rfl,y⟩;rw[b.o])
    . go_ret;exact⟨hQ (rG f.o b.o).symm,Zv⟩
    . go_roundw
      case rel=>exact⟨a+1,Zm,by go_num,Zv,Zy (all_succ e.o f.o b.o)⟩
      case measure=>simp[intOf];omega
  . go_wp2;go_ret;exact⟨hQ (pU e.o Zm).symm,kx⟩
def xh:l6 qL:=fun w I x cs=>∃vf,cs=[.int .i64 x.of.keeper,.string x.of.name,vf]/\SliceOf 2 mP w I vf x.fields
def Ci:l6 Fr:=fun w I x cs=>∃vl vs,cs=[.int .i64 x.of.of.keeper,.string x.of.of.name,.int .i64 x.of.at_,.int .i64 x.pc,vl,vs]/\SliceOf 2 mP w I vl x.locals/\SliceOf 2 mP w I vs x.stack
theorem xh.stays:jL xh:=fun _ _ _ _ _ _ b a ⟨c,e,h⟩=>⟨c,e,h.keep mP.stays b a⟩
theorem Ci.stays:jL Ci:=fun _ _ _ _ _ _ b a ⟨c,vs,e,h1,h2⟩=>⟨c,vs,e,h1.keep mP.stays b a,h2.keep mP.stays b a⟩
def jQ:l6 St:=fun w I x cs=>∃vf vh vo,cs=[.int .i64 x.status,vf,vh,vo,.int .i64 x.back.kind,.int .i64 x.back.n]/\SliceOf 6 Ci w I vf x.frames/\SliceOf 3 xh w I vh x.heap/\SliceOf 1 oQ w I vo x.outs
theorem jQ.stays:jL jQ:=fun _ _ _ _ _ _ b a ⟨c,vh,d,e,h1,h2,h3⟩=>⟨c,vh,d,e,h1.keep Ci.stays b a,h2.keep xh.stays b a,h3.keep oQ.stays b a⟩
theorem jQ.form{w:World}{I:Nat->Prop}{x:St}{cs:List Value}(j:jQ w I x cs):∃a d b e c f,cs=[.int .i64 x.status,.slice a x.frames.length d,.slice b x.heap.length e,.slice c x.outs.length f,.int .i64 x.back.kind,.int .i64 x.back.n]/\SliceOf 6 Ci w I (.slice a x.frames.length d) x.frames/\SliceOf 3 xh w I (.slice b x.heap.length e) x.heap/\SliceOf 1 oQ w I (.slice c x.outs.length f) x.outs:=by
 obtain⟨_,_,_,rfl,g,h,i⟩:=j;obtain⟨a,d,rfl,_⟩:=g.form;obtain⟨b,e,rfl,_⟩:=h.form;obtain⟨c,f,rfl,_⟩:=i.form;exact⟨a,d,b,e,c,f,rfl,g,h,i⟩
theorem LC.same{l:jh}{p:hZ}{w W:World}(a:LC l p w W)(e:l.O<l.D):Same (· <l.O) w W:=a.kp.same fun b d c=>Zm
theorem SliceOf.lc{α:Type}{k:Nat}{R:l6 α}(hR:jL R){l:jh}{p:hZ}{w W:World}{v:Value}{xs:List α}(b:SliceOf k R w (· <l.O) v xs)(a:LC l p w W):SliceOf k R W (· <l.O) v xs:=
 b.keep hR (a.same (Z0 a.at_.ord)) fun _ c=>c
theorem IE.bad{p:hZ}{b:List qL}{q:Nat}{a:qL}(d:b[q]?=some a)(c:(kg p a.of&&decide (a.fields.length=(layout p a.of).length)&&a.fields.all (ko · b.length))=false):oV p b=false:=by
 unfold oV;rw[Bool.and_eq_false_iff];right;rw[List.all_eq_false];exact⟨a,R3 d,by rw[c];simp⟩
theorem FY {w: World} {l: jh} {p: hZ} (o : jg w l p) {v: Value} (a : List qL) (z : SliceOf 3 xh w (· < l.O) v a) :Calls prog 69 #[some l.L,v] w fun x w'=>x=.returned (.bool (oV p a))/\LC l p w w':=by
 obtain⟨av,ay,rfl,hn,aC⟩:=z.form;have aB:=o.Ev;have aJ:=o.ord;by_cases O:12<a.length
 . have D:Zz (oV p a=false):=Zy (by unfold oV;rw[R7 Zm];rfl);have ah:(12:Int)<a.length:=Zm
   have B:=Zy o;clear o z O;go_enter func69,ntmps69;go_wp2_with fail;go_ret;exact⟨hQ D.symm,LC.refl B⟩
 . have D : Zz (oV p a = a.all fun c => kg p c.of && decide (c.fields.length = (layout p c.of).length) && c.fields.all (ko · a.length)) := Zy (by unfold oV; rw [R6 Zm]; rfl); have ah : ((12 : Int) < a.length) = False := Tq Zm; have ⟨B, HH⟩ := je o z; have aG : a.length <= 12 := by omega
   clear o z O;go_enter func69,ntmps69;go_wp2_with fail;go_loopw [12] (fun H wr=>∃k:Nat,k<=a.length/\H=.int .i64 k/\LC l p w wr/\Zz (((a.take k).all fun c=>kg p c.of&&decide (c.fields.length=(layout p c.of).length)&&c.fields.all (ko · a.length))=true)) (fun H _=>a.length - (intOf H).toNat)
   case atStart=>exact⟨0,R4 _,rfl,LC.refl B,Zy Zl⟩
   case round =>
    obtain⟨k,hq,rfl,f,K⟩:=hrel;have HC:=Zy f;by_cases aj:k<a.length
    . obtain⟨⟨⟨d,e⟩,g⟩,G⟩:=nW a k aj;obtain⟨ax,aK,cs,rfl,hI,⟨vf,rfl,F⟩,-,V⟩:=(SliceOf.lc xh.stays HH f).get G;obtain⟨fa,fc,rfl,aF,aD⟩:=F.form;obtain⟨N,g1,g2⟩:=V.three;have gz:=iY N;obtain⟨I,X,r,E⟩:=nu wr #[d,e,.slice fa g.length fc] 79;have aA:=f.at_.Ev;obtain⟨au,az,aI,q⟩:=rA.ex (fun W'=>LC l p I W') I (LC.refl (f.at_.ext r));obtain⟨-,r0,r1,r2,-⟩:=hV.lL fun ak=>(E.kp (q.jm ak).kp Zm);have⟨i,ag,Z,C,aa,HF,u⟩:=qh q X E (f.at_.ext r) (f.ext r) ((F.ext mP.stays r)) G;have Q:∀L,LC l p I L->LC l p w L:=fun _ Y=>aa.step Y.at_ Y.kp;have t:=Zy Q;clear f r E X q F V G Q;go_wp2_with fail;rw[<-ag.o];clear N g1 g2;refine kD i 16 [([0,1,2],3),([4,5,6,7,8,9,10,11],12)] [13,14,15] ?_ ?_
      . exact(LC.refl C).drew
      refine lS ?_;intro j b;go_wp2_with fail;refine(mJ (C.ext jf) ⟨d,e⟩).mono ?_;rintro x w7 ⟨rfl,T,R⟩;have m:=Zy ((LC.refl C).drew.step T R);clear T R;cases y:kg p ⟨d,e⟩
      . have h:=Zy (IE.bad u (by rw[y];rfl));clear y;go_wp2_with fail;refine kk i b m ?_;clear b j;refine lS ?_;intro j b;go_wp2_with fail;refine kk i b m ?_;clear b j;refine sK ?_;go_wp2_with fail;go_ret;exact⟨hQ h.symm,t _ m⟩
      . have ae:=Zy y;clear y;go_wp2_with fail;refine kk i b m ?_;clear b j;refine lS ?_;intro j b;go_wp2_with fail;refine(wE m.at_ ⟨d,e⟩).mono ?_;rintro x w8 ⟨⟨v8,rfl,W⟩,U,S⟩;obtain⟨a8,c8,rfl,-,aH⟩:=W.form;have n:=Zy (m.step U S);clear W U S;by_cases s:g.length=(layout p ⟨d,e⟩).length
        . have ai:((g.length:Int) !=(layout p ⟨d,e⟩).length)=false:=by simp[s]
          have af:=Zy s;clear s;go_wp2_with fail;refine kk i b n ?_;clear b j;refine sK ?_;obtain⟨qz,-,-,q2,-⟩:=(Z.kp n.kp Zm).ca;clear r0 r1 r2 i;go_wp2_with fail;refine(Bt (· <l.O) g (SliceOf.lc mP.stays HF n) a.length).mono ?_;rintro x w9 ⟨rfl,P⟩;have J:=Zy (n.ext P);clear P;cases A:g.all (ko · a.length)
          . have h:Zz (oV p a=false):=Zy (IE.bad u (by simp only[A,SK]));clear A;go_wp2_with fail;go_ret;exact⟨hQ h.symm,t _ J⟩
          . have q:Zz ((kg p ⟨d,e⟩&&decide (g.length=(layout p ⟨d,e⟩).length)&&g.all (ko · a.length))=true):=Zy (by rw[ae.o,A,R6 af.o];rfl);clear A;go_wp2_with fail;exact⟨⟨k+1,Zm,by go_num,t.o _ J.o,Zy (all_succ K.o u.o q.o)⟩,by simp[intOf];omega⟩
        . have ai:((g.length:Int) !=(layout p ⟨d,e⟩).length)=true:=RS.2 Zm;have h:Zz (oV p a=false):=Zy (IE.bad u (by simp only[R7 s,SK,SI]));clear s;go_wp2_with fail;refine kk i b n ?_;clear b j;refine sK ?_;go_wp2_with fail;go_ret;exact⟨hQ h.symm,t _ n⟩
    . have h:Zz (oV p a=true):=Zy (by rw[D.o];exact pU K Zm);clear f;go_wp2_with fail;go_ret;exact⟨hQ h.symm,HC⟩
theorem Ex{w:World}{l:jh}{p:hZ}(j:jg w l p)(x:Fr){cs:List Value}(F:Ci w (· <l.O) x cs)(n:Nat):Calls prog 68 #[some l.L,.agg cs.toArray,n] w fun m w'=>m=.returned (.bool (kZ p x n))/\LC l p w w':=by
 obtain⟨⟨⟨f,g⟩,e⟩,b,a,c⟩:=x;obtain⟨vl,vs,rfl,y,B⟩:=F;obtain⟨la,lc,rfl,aP,aO⟩:=y.form;obtain⟨sa,sc,rfl,aS,aR⟩:=B.form;obtain⟨w4,au,o,K⟩:=nu w #[f,g,e,b,.slice la a.length lc,.slice sa c.length sc] 68;have aM:=j.Ev;have aQ:=j.ord;obtain⟨V,S,T,U,-⟩:=K.ca;have⟨J,aJ,av,aC,aA,aB,aI⟩:=qh (j.ext o) o K au (y.ext mP.stays o) (B.ext mP.stays o) ((LC.refl j).ext o);have ai:∀Z,LC l p w4 Z->LC l p w Z:=fun _ F=>(LC.refl j).ext o |>.step F.at_ F.kp;have k:=Zy ai;simp only at y B;clear j o K au ai y B;go_enter func68,ntmps68;go_wp2_with fail;rw[<-aC.o];refine(Cj J ⟨⟨f,g⟩,e⟩).mono ?_;rintro m w5 ⟨rfl,aj,P⟩;have H:=Zy ((LC.refl J).step aj P);have L:=av.kp P Zm;have W:=Zy L;clear aj P S T U V;obtain⟨V,S,T,U,-⟩:=L.ca;clear L;cases q:ky p ⟨⟨f,g⟩,e⟩
 . have h:Zz (kZ p ⟨⟨⟨f,g⟩,e⟩,b,a,c⟩ n=false):=Zy (by unfold kZ;simp only[q,SI]);clear q;go_wp2_with fail;go_ret;exact⟨hQ h.symm,k _ H⟩
 have aK:=Zy q;obtain⟨d,z⟩:∃d,M.method p ⟨⟨f,g⟩,e⟩=d:=⟨_,rfl⟩;have aN:d.code.length<=16:=by rw[<-z];exact(tu (nD J.ok q).1).code
 have i:Zz (kZ p ⟨⟨⟨f,g⟩,e⟩,b,a,c⟩ n=(decide (0<=b)&&decide (b<d.code.length)&&decide ((a.length:Int)=d.locals)&&decide ((c.length:Int)<=d.stack)&&a.all (ko · n)&&c.all (ko · n))):=Zy (by
  unfold kZ;simp only[q,z,Tf])
 have Q:=lq w5 l p H.at_ ⟨⟨f,g⟩,e⟩ q;rw[z]at Q;have X:=Zy Q;clear q z Q;go_wp2_with fail;refine X.mono ?_;rintro m R ⟨⟨cs,ak,rfl⟩,v⟩;obtain⟨t2,rfl⟩:=nI ak;obtain⟨G,E⟩:=Ry (R.alloc (.cells (mg d t2).toArray 141));have N:Ext R G:=by rw[E];exact kx
 have b7:hV G R 141 (mg d t2).toArray:=by rw[E];exact hV.new _ _ _
 have af:=W.ext (v.trans N);have r:=Zy (H.ext (v.trans N));have ae:=W.ext v;obtain⟨aT,-,-,-,y3,y4,y5,-⟩:=ae.ca;have⟨ax,s⟩:=je af E;clear ak v E N b7 af ae S T U V X;simp only[mg];unfold mg at s;have aL:∀{aa:Bool},kZ p ⟨⟨⟨f,g⟩,e⟩,b,a,c⟩ n=aa->aa=false->kZ p ⟨⟨⟨f,g⟩,e⟩,b,a,c⟩ n=false:=fun j m=>j.trans m;by_cases u:b<0
 . have aF:=R6 u;have h:Zz (kZ p ⟨⟨⟨f,g⟩,e⟩,b,a,c⟩ n=false):=Zy (by rw[i.o,R7 (p:=0<=b) Zm];simp only[SI]);clear u;go_wp2_with fail;go_ret;rw[<-s.o];exact⟨hQ h.symm,k _ r⟩
 have aF:=R7 u;by_cases A:(d.code.length:Int)<=b
 . have aG:=R6 A;have h:Zz (kZ p ⟨⟨⟨f,g⟩,e⟩,b,a,c⟩ n=false):=Zy (by rw[i.o,R7 (p:=b<d.code.length) Zm];simp only[SI,SK]);clear u A;go_wp2_with fail;go_ret;rw[<-s.o];exact⟨hQ h.symm,k _ r⟩
 have aG:=R7 A;have Y:Zz (0<=b/\b<d.code.length):=Zy Zm;clear u A;by_cases t:(a.length:Int)=d.locals;rotate_left
 . have aD:=RS.2 t;have h:Zz (kZ p ⟨⟨⟨f,g⟩,e⟩,b,a,c⟩ n=false):=Zy (by rw[i.o,R7 (p:=(a.length:Int)=d.locals) t];simp only[SI,SK]);clear t;go_wp2_with fail;go_ret;rw[<-s.o];exact⟨hQ h.symm,k _ r⟩
 have aD:((a.length:Int) !=d.locals)=false:=by simp[t]
 have az:=Zy t;clear t;by_cases C:d.stack<(c.length:Int)
 . have aH:=R6 C;have h:Zz (kZ p ⟨⟨⟨f,g⟩,e⟩,b,a,c⟩ n=false):=Zy (by rw[i.o,R7 (p:=(c.length:Int)<=d.stack) Zm];simp only[SI,SK]);clear C;go_wp2_with fail;go_ret;rw[<-s.o];exact⟨hQ h.symm,k _ r⟩
 have aH:=R7 C;replace i:Zz (kZ p ⟨⟨⟨f,g⟩,e⟩,b,a,c⟩ n=(a.all (ko · n)&&c.all (ko · n))):=Zy (by
  rw[i.o,R6 Y.o.1,R6 Y.o.2,R6 az.o,R6 (p:=(c.length:Int)<=d.stack) Zm];simp only[Tf])
 clear C;go_wp2_with fail;rw[<-s.o];refine(Bt (· <l.O) a (SliceOf.lc mP.stays aA r) n).mono ?_;rintro m w8 ⟨rfl,O⟩;have I:=Zy (r.ext O);have ag:=ax.ext O;obtain⟨xz,-,-,-,-,-,x5,-⟩:=ag.ca;clear ag O;cases D:a.all (ko · n)
 . have h:Zz (kZ p ⟨⟨⟨f,g⟩,e⟩,b,a,c⟩ n=false):=Zy (by rw[i.o,D];rfl);clear D;go_wp2_with fail;go_ret;exact⟨hQ h.symm,k _ I⟩
 . have h:Zz (kZ p ⟨⟨⟨f,g⟩,e⟩,b,a,c⟩ n=c.all (ko · n)):=Zy (by rw[i.o,D];rfl);clear D;go_wp2_with fail;refine(Bt (· <l.O) c (SliceOf.lc mP.stays aB I) n).mono ?_;rintro m w9 ⟨rfl,ah⟩;have ay:=Zy (I.ext ah);clear ah;go_wp2_with fail;go_ret;exact⟨hQ h.symm,k _ ay⟩
theorem hH.six{w:World}{b a:Nat}{d e f g h i:Value}(c:hH w b a [d,e,f,g,h,i]):w.cell? (b,a)=some d/\w.cell? (b,a+1)=some e/\w.cell? (b,a+2)=some f/\w.cell? (b,a+3)=some g/\w.cell? (b,a+4)=some h/\w.cell? (b,a+5)=some i:=
 ⟨by simpa using c 0 d rfl,c 1 e rfl,c 2 f rfl,c 3 g rfl,c 4 h rfl,c 5 i rfl⟩
theorem M.Im{p:hZ}{s:St}:Cq p s=true↔(1<=s.status/\s.status<=10)/\s.heap.length<=12/\s.outs.length<=40/\s.frames.length<=8/\(decide (0<s.frames.length)=decide (s.status=1))/\s.outs.all nQ=true/\s.frames.all (kZ p · s.heap.length)=true/\oV p s.heap=true/\ko s.back s.heap.length=true:=by
 unfold Cq;simp only[Sc,Tm,Tp];constructor
 . rintro⟨⟨⟨⟨⟨⟨⟨⟨⟨a,b⟩,c⟩,d⟩,e⟩,f⟩,g⟩,h⟩,i⟩,j⟩;exact⟨⟨a,b⟩,c,d,e,f,g,h,i,j⟩
 . rintro⟨⟨a,b⟩,c,d,e,f,g,h,i,j⟩;exact⟨⟨⟨⟨⟨⟨⟨⟨⟨a,b⟩,c⟩,d⟩,e⟩,f⟩,g⟩,h⟩,i⟩,j⟩
theorem Dr (w : World) (l : jh) (p : hZ) (v : jg w l p) (s : St) {cs: List Value} (m : jQ w (· < l.O) s cs) :Calls prog 29 #[some l.L,.agg cs.toArray] w fun L w'=>L=.returned (.bool (Cq p s))/\LC l p w w':=by
 obtain⟨a1,c1,a2,c2,a3,c3,rfl,i,j,R⟩:=m.form;clear m;obtain⟨o,c,d,h,⟨C,D⟩⟩:=s;simp only at i j R |-;obtain⟨w3,ay,F,Z⟩:=nu w #[o,.slice a1 c.length c1,.slice a2 d.length c2,.slice a3 h.length c3,C,D] 39;have aW:=v.Ev;have bA:=v.ord;obtain⟨a,hv⟩:∃a,Cq p ⟨o,c,d,h,⟨C,D⟩⟩=a:=⟨_,rfl⟩;have⟨aV,g⟩:=je hv (Im (p:=p) (s:=⟨o,c,d,h,⟨C,D⟩⟩));rw[hv]at g |-;simp only at g;obtain⟨yz,y0,y1,y2,y3,-⟩:=Z.ca;have⟨q,P,u,H1,H2,H3⟩:=nZ (v.ext F) Z ay (i.ext Ci.stays F) (j.ext xh.stays F) (R.ext oQ.stays F);have aR:=i.form;have aS:=j.form;have aT:=R.form;obtain⟨_,_,e1,aX,bq⟩:=aR;cases e1;obtain⟨_,_,e2,aY,bu⟩:=aS;cases e2;obtain⟨_,_,e3,aZ,bz⟩:=aT;cases e3;have av:∀ah,LC l p w3 ah->LC l p w ah:=fun _ n=>(LC.refl v).ext F |>.step n.at_ n.kp;have k:=Zy av;clear hv v F Z ay i j R av;go_enter func29,ntmps29;by_cases r:o<1
 . have aA:=R6 r;have b:Zz (false=a):=Zy (by cases a;rfl;have:=g.1 rfl;omega);clear r;go_wp2_with fail;go_ret;rw[<-u.o];exact⟨hQ b,k _ (LC.refl q)⟩
 have aA:=R7 r;by_cases A:10<o
 . have aB:=R6 A;have b:Zz (false=a):=Zy (by cases a;rfl;have:=g.1 rfl;omega);clear r A;go_wp2_with fail;go_ret;rw[<-u.o];exact⟨hQ b,k _ (LC.refl q)⟩
 have aB:=R7 A;by_cases V:12<d.length
 . have aC:decide ((12:Int)<d.length)=true:=R6 Zm;have b:Zz (false=a):=Zy (by cases a;rfl;have:=g.1 rfl;omega);clear r A V;go_wp2_with fail;go_ret;rw[<-u.o];exact⟨hQ b,k _ (LC.refl q)⟩
 have aC:decide ((12:Int)<d.length)=false:=R7 Zm;by_cases s4:40<h.length
 . have aD:decide ((40:Int)<h.length)=true:=R6 Zm;have b:Zz (false=a):=Zy (by cases a;rfl;have:=g.1 rfl;omega);clear r A V s4;go_wp2_with fail;go_ret;rw[<-u.o];exact⟨hQ b,k _ (LC.refl q)⟩
 have aD:decide ((40:Int)<h.length)=false:=R7 Zm;by_cases s5:8<c.length
 . have aF:decide ((8:Int)<c.length)=true:=R6 Zm;have b:Zz (false=a):=Zy (by cases a;rfl;have:=g.1 rfl;omega);clear r A V s4 s5;go_wp2_with fail;go_ret;rw[<-u.o];exact⟨hQ b,k _ (LC.refl q)⟩
 have aF:decide ((8:Int)<c.length)=false:=R7 Zm;have HS:Zz ((1<=o/\o<=10)/\d.length<=12/\h.length<=40/\c.length<=8):=Zy Zm;clear r A V s4 s5;obtain⟨Y,y⟩:∃J,decide (0<c.length)=J:=⟨_,rfl⟩;obtain⟨b2,O⟩:∃J,decide (o=1)=J:=⟨_,rfl⟩;have aO:decide ((0:Int)<c.length)=Y:=by rw[<-y];exact decide_eq_decide.2 Zm
 have aP:((o:Int)==1)=b2:=by rw[<-O];rfl
 by_cases G:Y=b2;rotate_left
 . have aj:=QC.2 G;have ak:decide (0<c.length)=Y:=y;have b:Zz (false=a):=Zy (by
    cases a
    . rfl
    . exact absurd (y.symm.trans ((g.o.1 rfl).2.2.2.2.1.trans O)) G)
   clear y O G;go_wp2_with fail;go_ret;rw[<-u.o];exact⟨hQ b,k _ (LC.refl q)⟩
 have aj:=Tp.2 G;have ak:=y;have aH:Zz (decide (0<c.length)=decide (o=1)):=Zy (by rw[y,O,G]);clear y O G;go_wp2_with fail;rw[<-u.o];clear aO aP aj ak aA aB aC aD aF;go_loopw [44] (fun z wr=>∃e:Nat,e<=h.length/\z=.int .i64 e/\Ext w3 wr/\Zz ((h.take e).all nQ=true)) (fun z _=>h.length - (intOf z).toNat)
 case atStart=>exact⟨0,R4 _,rfl,Kp.rr,Zy Zl⟩
 case round =>
  obtain⟨e,hq,rfl,E,t⟩:=hrel;by_cases af:e<h.length
  . obtain⟨f,n⟩:=nW h e af;obtain⟨J,aU,cs,rfl,hI,rfl,-,H⟩:=(H3.ext oQ.stays E).get n;rw[SC]at H;have g0:=H.one;have gz:=iY g0;have⟨I,Q⟩:=je n E;clear n H E y0 y1 y2 y3;go_wp2_with fail;refine(Gc f _).mono ?_;rintro L w4 ⟨rfl,rfl⟩;cases U:(decide (-9999<=f)&&decide (f<=9999))
    . have b:Zz (false=a):=Zy (by
       cases a
       . rfl
       . have i:=(g.1 rfl).2.2.2.2.2.1;have j:=Tj.1 i f (R3 I);unfold nQ at j;rw[U]at j;cases j)
      clear U;go_wp2_with fail;go_ret;exact⟨hQ b,k _ ((LC.refl q).ext Q)⟩
    . have X:Zz (nQ f=true):=Zy U;clear U;go_wp2_with fail;exact⟨⟨e+1,Zm,by go_num,Q.o,Zy (all_succ t.o I.o X.o)⟩,by simp[intOf];omega⟩
  . have aM := Zy (pU t Zm); have Q := Zy E; obtain ⟨aG,-, x1,-⟩ := (P.ext E).ca; clear E t y0 y1 y2 y3; go_wp2_with fail; obtain ⟨wo, rfl⟩ : ∃ wo : World, wo = wr := ⟨_, rfl⟩; go_loopw [55] (fun z wr => ∃ e : Nat, e <= c.length /\ z = .int .i64 e /\ LC l p w3 wr /\ Zz ((c.take e).all (kZ p · d.length) = true)) (fun z _ => c.length - (intOf z).toNat)
    case atStart=>exact⟨0,R4 _,rfl,(LC.refl q).ext Q,Zy Zl⟩
    case round =>
     obtain⟨e,hq,rfl,x,t⟩:=hrel;have W:=Zy x;by_cases af:e<c.length
     . obtain⟨f,n⟩:=nW c e af;obtain⟨J,aU,cs,rfl,hI,ae,-,H⟩:=(SliceOf.lc Ci.stays H1 x).get n;have aQ:=ae;obtain⟨vl,vs,rfl,hl,m⟩:=aQ;obtain⟨la,lc,rfl,bg,bf⟩:=hl.form;obtain⟨sa,sc,rfl,bC,bB⟩:=m.form;obtain⟨g0,g1,g2,g3,g4,g5⟩:=H.six;have gz:=iY g0;obtain⟨w8,az,aa,b8⟩:=nu wr #[f.of.of.keeper,f.of.of.name,f.of.at_,f.pc,.slice la f.locals.length lc,.slice sa f.stack.length sc] 68;obtain⟨kz,k0,k1,k2,k3,k4,k5,-⟩:=b8.ca;have K:=P.kp x.kp Zm;obtain⟨xz,-,-,x2,-⟩:=K.ca;have⟨I,aJ,ag,aN⟩:=jV n (Ci.stays _ _ _ _ _ _ (Ext.same aa) (fun _ v=>v) ae) (x.ext aa) az;clear n H x aa b8 K az ae hl m x1 aG;go_wp2_with fail;rw[<-aN.o];refine(Ex ag.at_ f aJ d.length).mono ?_;rintro L w9 ⟨rfl,N⟩;have B:=Zy (ag.trans N);clear N;cases S:kZ p f d.length
       . have b:Zz (false=a):=Zy (by
          cases a
          . rfl
          . have i:=(g.1 rfl).2.2.2.2.2.2.1;have j:=Tj.1 i f (R3 I);rw[S]at j;cases j)
         clear S;go_wp2_with fail;go_ret;exact⟨hQ b,k _ B⟩
       . have X:=Zy S;clear S;go_wp2_with fail;exact⟨⟨e+1,Zm,by go_num,B.o,Zy (all_succ t.o I.o X.o)⟩,by simp[intOf];omega⟩
     . have aK := Zy (pU t Zm); have K := P.kp x.kp Zm; obtain ⟨xz,-,-, x2,-⟩ := K.ca; clear x t x1 aG K; go_wp2_with fail; refine (FY W.at_ d (SliceOf.lc xh.stays H2 W)).mono ?_; rintro L w9 ⟨rfl, N⟩; have B := Zy (W.trans N); have ai := P.kp B.kp Zm; obtain ⟨zz,-,-, z2,-, z4, z5,-⟩ := ai.ca; clear N x2 xz ai; cases T : oV p d
       . have b:Zz (false=a):=Zy (by
          cases a
          . rfl
          . have i:=(g.1 rfl).2.2.2.2.2.2.2.1;rw[T]at i;cases i)
         clear T;go_wp2_with fail;go_ret;exact⟨hQ b,k _ B⟩
       . have aL:=Zy T;clear T;go_wp2_with fail;refine(Ik ⟨C,D⟩ d.length).mono ?_;rintro L bD ⟨rfl,au⟩;have aI:=Zy (B.ext au);clear au
         have b:Zz (ko ⟨C,D⟩ d.length=a):=Zy (by
          have hi:=g.o;rw[aL.o,aM.o,aK.o]at hi;have m:=HS.o;have hb:=aH.o;cases ax:ko ⟨C,D⟩ d.length
          . cases a
            . rfl
            . have:=(hi.1 rfl).2.2.2.2.2.2.2.2;rw[ax]at this;cases this
          . exact(hi.2 ⟨m.1,m.2.1,m.2.2.1,m.2.2.2,hb,rfl,rfl,rfl,ax⟩).symm)
         go_wp2_with fail;go_ret;exact⟨hQ b,k _ aI⟩
theorem SliceOf.vals{w:World}{I:Nat->Prop}{v:Value}{xs:List Val}(a:SliceOf 2 mP w I v xs):Flat w 2 v xs.length (xs.flatMap jW):=SliceOf.toFlat (enc:=jW) (fun _ _ _ _ a=>a) (fun _=>rfl) wH a
theorem SliceOf.ints{w:World}{I:Nat->Prop}{v:Value}{xs:List Int}(a:SliceOf 1 oQ w I v xs):Flat w 1 v xs.length (xs.flatMap uJ):=SliceOf.toFlat (enc:=uJ) (fun _ _ _ _ a=>a) (fun _=>rfl) CF a
theorem Own.more{w l:World}{d:Own}{j e k n:Nat}{v:Value}{xs:List Value}(h:∀a,d a≠none->j<=a/\a<w.heap.size)(p:l.ownsRow w e k v n xs)(t:(w:Nat)<=l)(q:j<=w)(r:Nat×Nat):∃i:Own,(∀a c,d a=some c->i a=some c)/\(∀a,i a≠none->j<=a/\a<l.heap.size)/\lU l i j r e k v n xs/\mV w d i/\(∀a c,i a=some c->d a=some c\/c=r):=by
 cases o:v.ownBlock with
 |none=>exact⟨d,fun _ _ m=>m,fun a b=>⟨(h a b).1,Nv (h a b).2 t⟩,⟨lM p q,fun a b=>by rw[o]at b;cases b⟩,mV.refl _ _,fun _ _ m=>.inl m⟩
 | some g =>
  have s:=p.lt g o;have x:d g=none:=by
   cases u:d g with
   |none=>rfl
   |some c=>have:=(h g (by rw[u];simp)).2;omega
  refine⟨d.add g r,fun a c b=>?_,fun a b=>?_,⟨lM p q,fun a b=>?_⟩,Own.yn (.inr s.1),fun a c b=>?_⟩
  . rw[Own.lT _ (fun f=>by subst f;rw[x]at b;cases b)];exact b
  . by_cases f:a=g
    . subst f;exact⟨Zm,s.2⟩
    . rw[Own.lT _ f]at b;exact⟨(h a b).1,Nv (h a b).2 t⟩
  . rw[o]at b;cases b;exact Own.add_eq _ _ _
  . by_cases f:a=g
    . subst f;rw[Own.add_eq]at b;cases b;exact .inr rfl
    . rw[Own.lT _ f]at b;exact .inl b
theorem lU.app{w i:World}{d:Own}{f e k n m b j:Nat}{r:Nat×Nat}{v:Value}{xs p:List Value}(q:lU w d f r e k v n xs)(l:∀a,d a≠none->f<=a/\a<w.heap.size)(o:i.ownsRow f e k (b,m,j) m p)(t:Kp (fun a=>v.ownBlock=some a) w i) (s:v.ownBlock=some b\/w<=b):lU i (d.add b r) f r e k (b,m,j) m p/\mV w d (d.add b r)/\(∀a,d.add b r a≠none->f<=a/\a<i.heap.size)/\(∀a h,d.add b r a=some h->d a=some h\/h=r):=
 ⟨⟨o,fun a c=>by cases c;exact Own.add_eq _ _ _⟩,Own.yn (s.imp (q.role _) id),fun a c=>by
  by_cases g:a=b
  . subst g;exact o.lt a rfl
  . rw[Own.lT _ g]at c;exact⟨(l a c).1,Nv (l a c).2 t.size⟩,fun a h c=>by
  by_cases g:a=b
  . subst g;rw[Own.add_eq]at c;cases c;exact .inr rfl
  . rw[Own.lT _ g]at c;exact .inl c⟩
theorem lU.beside{w l:World}{c i:Own}{a e k n f g h:Nat}{r d:Nat×Nat}{v j:Value}{xs m:List Value}(o:lU w c a r e k v n xs)(p:lU w c a d f g j h m)(t:Kp (fun b=>v.ownBlock=some b) w l)(q:mV w c i)(u:r≠d):lU l i a d f g j h m:=
 p.keep t q fun b s _ e=>u (by have:=o.role b e;rw[s]at this;cases this;rfl)
structure rD(w:World)(own:Own)(B:Nat)(v:Value)(os:List GO):Prop where
 dom:∀b,own b≠none->B<=b/\b<w.heap.size
 row:lU w own B (2,0) 79 3 v os.length (os.flatMap pR)
 obj:∀j o,os[j]?=some o->lU w own B (7,j) 37 2 o.v o.o.fields.length (o.o.fields.flatMap jW)
 H9:∀b q,own b=some q->q=(2,0)\/∃j,q=(7,j)
theorem rD.nil(w:World)(b:Nat):rD w (fun _=>none) b () []:=
 ⟨fun c a=>absurd rfl a,lU.nil _ _ _ _ _ _,fun d e a=>by simp at a,fun c f a=>by cases a⟩
theorem rD.slice{w:World}{G:Own}{m:Nat}{v:Value}{c:List GO}(o:rD w G m v c){I:Nat->Prop}(hI:∀b,m<=b->b<w.heap.size->I b)(hl:c.length<=4294967296)(A:∀a∈c,a.o.fields.length<=4294967296):SliceOf 3 xh w I v (c.map GO.o):=by
 have z:∀{l:List GO},(∀(h:Nat) (a:GO),l[h]?=some a->SliceOf 2 mP w I a.v a.o.fields)->∀a∈l,SliceOf 2 mP w I a.v a.o.fields:=fun hl a d=>by
  obtain⟨h,B,j⟩:=Tt d;exact hl h a (by rw[Rz B,j])
 have x:=z (l:=c) fun h a d=>SliceOf.lJ jW (o.obj h a d).row rfl rfl (fun _ _=>rfl) (fun _ _=>rfl) (fun b e f=>hI b e f) (A a (R3 d));have D:SliceOf 3 (fun w I (i:GO) n=>SliceOf 2 mP w I i.v i.o.fields/\n=pR i) w I v c:=
  SliceOf.lJ pR o.row.row rfl rfl (fun _ _=>rfl) (fun a d=>⟨x a d,rfl⟩) (fun b e f=>hI b e f) hl
 obtain⟨q,r,j,e,f,t⟩:=D;refine⟨q,r,by rw[j,Sn],by rw[Sn];exact e,by rw[Sn];exact f,fun p i g=>?_⟩;rw[Sr]at g;cases k:c[p]? with
 |none=>rw[k]at g;cases g
 |some a=>
  rw[k]at g;cases g;obtain⟨b,F,n,s,u,⟨E,rfl⟩,C,y⟩:=t p a k;exact⟨b,F,_,s,u,⟨a.v,rfl,E⟩,C,y⟩
theorem yA{w:World}(I:Nat->Prop){v:Value}(f:List qL)(k:SliceOf 3 xh w I v f)(hl:f.length<=12):Calls prog 71 #[v] w fun i w'=>(∃v' s a,i=.returned v'/\a.map GO.o=f/\rD w' s w.heap.size v' a)/\Ext w w':=by
 obtain⟨aP,aQ,rfl,hn,aS⟩:=k.form;have az:=Zy k;clear k;go_enter func71,ntmps71;go_wp2_with fail;go_loopw [8,3] (fun S v3 wr=>∃(g:Nat) (s:Own) (a:List GO),g<=f.length/\S=.int .i64 g/\Ext w wr/\Zz (a.map GO.o=f.take g)/\rD wr s w.heap.size v3 a) (fun S _ _=>f.length - (intOf S).toNat)
 case atStart=>exact⟨0,_,[],R4 _,rfl,Kp.rr,Zy Zl,rD.nil _ _⟩
 case round=>
  obtain⟨g,s,a,hq,rfl,m,H,e⟩:=hrel;obtain⟨E,F,rfl⟩:=e.row.form;have ah:a.length=g:=by
   have:=congrArg List.length H.o;simpa [SX hq]using this
  by_cases aI:g<f.length
  . obtain⟨⟨⟨q,r⟩,c⟩,b⟩:=nW f g aI;obtain⟨d,aY,cs,rfl,hI,⟨vf,rfl,O⟩,-,hc⟩:=(az.o.ext xh.stays m).get b;obtain⟨fa,fc,rfl,aT,aH⟩:=O.form;obtain⟨V,g1,g2⟩:=hc.three;have gz:=iY V;obtain⟨t,R,z,U⟩:=nu wr #[q,r,.slice fa c.length fc] 79;have aX:t.heap.size=wr.heap.size+1:=by rw[R];simp
    have ax:¬(Value.slice E a.length F).ownBlock=some wr.heap.size:=fun i=>by have:=(e.row.blk i).2;omega
    obtain⟨aO,aR,aU,J⟩:=rA.ex (fun W'=>Kp (fun d=>(Value.slice E a.length F).ownBlock=some d) t W') _ Kp.rr;obtain⟨-,r0,r1,r2,-⟩:=hV.lL fun aM=>(U.kp (J.jm aM) ax);have⟨y,aF⟩:=je J R;have B:Zz (rD t s w.heap.size (.slice E a.length F) a):=Zy ⟨fun d C=>⟨(e.dom d C).1,by have:=(e.dom d C).2;omega⟩,e.row.ext z,fun p A b=>(e.obj p A b).ext z,e.H9⟩;have⟨HF,aA,HX,aN⟩:=jV (O.ext mP.stays z) (m.trans z) b ah;have aW:=m.size;have aV:(a.length:Int)=g:=by omega
    clear m e z U R ax J O hc b ah;go_wp2_with fail;rw[<-aF.o];clear V g1 g2;refine kD y 9 [([0,1,2,3,4],5),([6],7),([],8)] [] ?_ ?_
    . exact jf
    refine lS ?_;intro l j;go_wp2_with fail;refine(tZ ((HF.o.ext mP.stays jf).vals) aH).mono ?_;rintro i G ⟨⟨v6,rfl,P⟩,W⟩;obtain⟨u,x,rfl⟩:=jB P;have h:=Zy (((Kp.refl _ t).drew:Ext t _).trans W);have aC:Zz (G.ownsRow t.heap.size 37 2 (Value.slice u c.length x) c.length (c.flatMap jW)):=Zy P;clear W P;go_wp2_with fail;refine kk y j h.o.any ?_;clear j l;refine lS ?_;intro l j;go_wp2_with fail;refine kk y j (h.o.alloc _).any ?_;clear j l;refine lF rfl fun l j=>?_;obtain⟨ay,Q,aa,ak,aG,ai⟩:=Own.more B.o.dom aC.o h.o.size Zm (7,a.length);have o:=(B.o.row.ext h.o).relabel Q;have ag:=fun p A b=>((B.o.obj p A b).ext h.o).relabel Q;have L:Ext G (G.alloc (.cells #[q,r,(Value.slice u c.length x)] 79)):=kx;have aJ:∀aL∈pR (⟨⟨⟨q,r⟩,c⟩,(Value.slice u c.length x)⟩:GO),aL.oneCell'=true:=by
     simp[pR,Value.oneCell']
    refine jo GU rfl (.tmp 12) (.tmp 19) rfl w.heap.size (.slice E a.length F) a.length (a.flatMap pR) rfl ((o.ext L).row) G.heap.size 1 (pR (⟨⟨⟨q,r⟩,c⟩,(Value.slice u c.length x)⟩:GO)) rfl rfl (hH.ny _ _ rfl) aJ Zm (by have:=h.o.size;simp;omega) ?_;intro K c9 w9 Z Y af;change l _ _;have n:=L.any.trans Y;refine kk y j (h.o.any.trans n) ?_;clear j l;obtain⟨au,N,ae,aj⟩:=lU.app o aa Z n (af.imp id fun i=>by simp at i;omega)
    have av : rD w9 (ay.add K (2, 0)) w.heap.size (.slice (some ⟨K, 0, none⟩) (a.length + 1) c9) (a ++ [(⟨⟨⟨q, r⟩, c⟩, (Value.slice u c.length x)⟩ : GO)]) := by
     refine⟨ae,by simpa using au,fun p A b=>?_,fun d T C=>?_⟩
     . rcases Si p a.length with D|D|D
       . rw[RY D]at b;exact o.beside (ag p A b) n N Zl
       . subst D;simp at b;subst b;exact o.beside ak n N Zl
       . rw[Sz Zr]at b;cases b
     . rcases aj d T C with k|rfl
       . rcases ai d T k with k|rfl
         . exact B.o.H9 d T k
         . exact .inr ⟨_,rfl⟩
       . exact .inl rfl
    have X:=(aA.o.trans h.o).own n (fun d i=>(o.blk i).1);have⟨aD,aB⟩:=je av X;clear Q aa ak aG ai o ag L Z Y af n au N ae aj av X y r0 r1 r2;refine kC ?_;go_wp2_with fail;refine⟨⟨g+1,ay.add K (2,0),a++[(⟨⟨⟨q,r⟩,c⟩,(Value.slice u c.length x)⟩:GO)],by omega,by go_num,aB.o,Zy ?_,aD.o⟩,by simp[intOf];omega⟩;rw[RI,H.o,RL,HX.o];rfl
  . have aK:g=f.length:=by omega
    have HR:Zz (a.map GO.o=f):=Zy (by rw[H.o,aK,RH]);have⟨HO,HE⟩:=je e m;clear e m;go_wp2_with fail;go_ret;exact⟨⟨_,s,a,rfl,HR.o,HO.o⟩,HE.o⟩
end Go.Proofs.YtlhlnddgfcmfkaaGreat
