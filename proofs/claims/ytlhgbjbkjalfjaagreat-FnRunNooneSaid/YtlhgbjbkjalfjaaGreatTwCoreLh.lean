/- Walks. -/
import Derived.Test.YtlhgbjbkjalfjaaGreatTwCoreLe
import Derived.Test.YtlhgbjbkjalfjaaGreatTwCoreLf
import Derived.Sort.LoopGhostIn
set_option maxRecDepth 100000
set_option maxHeartbeats 4000000
set_option linter.all false
namespace Go.Proofs.YtlhgbjbkjalfjaaGreat
open Go Go.RowKit Tryz M
variable {n: ByteArray}{c: Class}{m x: M.Method}{k: Nat}{I: Nat->Prop}{α: Type}{w: World}{p: iZ}{l: jk}
theorem I8(I:Nat->Prop){cs:List Value}(c:mD)(v:ja w I c cs)(B:Int)(aD:0<=B)(aF:B<=1000):Calls prog 137 #[.agg cs.toArray,B] w fun q w'=>BV q/\Ext w w':=by
 obtain⟨vf,vm,rfl,G,H⟩:=v;obtain⟨a1,m1,rfl,aG,aB⟩:=G.form;obtain⟨a2,m2,rfl,aH,aC⟩:=H.form;obtain⟨w0,ah,aa,hb⟩:=nu w #[.slice a1 c.owns.length m1,.slice a2 c.asks.length m2] 145;obtain⟨cz,R,S,-⟩:=hb.ca;have⟨P,Q,h,D⟩:=jU G H aa ah;clear aa hb ah G H;by_cases h5:5<c.owns.length
 . have Z:decide ((5:Int)<c.owns.length)=true:=Tz Zm;go_enter func137,ntmps137;go_wp2_with fail;rw[<-D.o];go_wp2;go_ret;exact⟨⟨_,rfl⟩,h⟩
 have Z:decide ((5:Int)<c.owns.length)=false:=SL Zm;by_cases h4:4<c.asks.length
 . have Y:decide ((4:Int)<c.asks.length)=true:=Tz Zm;go_enter func137,ntmps137;go_wp2_with fail;rw[<-D.o];go_wp2;go_ret;exact⟨⟨_,rfl⟩,h⟩
 have Y:decide ((4:Int)<c.asks.length)=false:=SL Zm;go_enter func137,ntmps137;go_wp2_with fail;rw[<-D.o];go_wp2;go_loopw [5] (fun i wr=>∃e:Nat,e<=c.owns.length/\i=.int .i64 e/\Ext w0 wr) (fun i _=>c.owns.length - (intOf i).toNat)
 case atStart=>exact⟨0,SV _,rfl,Kp.rr⟩
 case round =>
  obtain⟨e,hk,rfl,n⟩:=hrel;have s:=Zy n;have F:=n.je R;have T:=n.je S;have U:=jc F;clear R S cz Z Y;by_cases af:e<c.owns.length
  . have dk:(e:Int)<c.owns.length:=Zm
    obtain⟨l,A⟩:∃l,c.owns[e]?=some l:=⟨c.owns[e]'af,Ou af⟩;obtain⟨E,N,cs,rfl,hI,K,-,y⟩:=P.get A;obtain⟨ma,mu,mb,mv,rfl⟩:=K.form;have ae:=jh.stays _ _ _ _ _ _ (Ext.same (h.trans s)) (fun _ v=>v) K;obtain⟨t,u,W,X⟩:=(y.ext (h.trans n)).four;have C:=Zy ((P.take (i:=e) Zm).ext jh.stays (h.trans n));have z:(c.owns.take e).length=e:=by rw[Tj];omega
    obtain⟨ak,av,az,j⟩:=ll wr;have y0:=fun f=>(j.jv f).je t;have y1:=fun f=>(j.jv f).je u;have y2:=fun f=>(j.jv f).je W;have y3:=fun f=>(j.jv f).je X;have ye:=fun f=>(j.jv f).je F;have d:=Zy j;have aj:=Zy ae;have ai:=Zy z;clear j n y A t u W X U z K ae;go_wp2_with fail;have g:Ext wr wr.drew:=jg;refine jW d 22 [([0,1,2,3,4],5),([6,7,8,9,10,11,12,13,14,15,16,17,18],19)] [20,21] ?_ ?_
    . exact jg
    refine lJ ?_;intro b a;go_wp2_with fail;refine(OA I l (jh.stays _ _ _ _ _ _ (Ext.same g) (fun _ v=>v) aj)).mono ?_;rintro q w2 ⟨⟨q2,rfl⟩,ax⟩;have r:=g.trans ax;cases q2
    . go_wp2_with fail;refine kk d a r ?_;clear a b;refine lJ ?_;intro b a;go_wp2_with fail;refine kk d a r ?_;clear a b;refine rC ?_;go_wp2;go_ret;exact⟨⟨_,rfl⟩,(h.trans s).trans r⟩
    go_wp2_with fail;refine kk d a r ?_;clear a b;refine lJ ?_;intro b a;go_wp2_with fail;refine(OI I (.slice (some ⟨E,N,none⟩) e m1) () (c.owns.take e) (C.ext jh.stays r) l.name).mono ?_;rintro q w3 ⟨⟨L,rfl,-⟩,J⟩;have m:=r.trans J;obtain⟨o,hq⟩:∃o,decide (0<=L)=o:=⟨_,rfl⟩;cases o
    . go_wp2_with fail;refine kk d a m ?_;clear a b;refine rC ?_;go_wp2;go_round
      case rel=>exact⟨e+1,Zm,by go_num,s.o.trans m⟩
      case measure=>simp[intOf];omega
    . go_wp2_with fail;refine kk d a m ?_;clear a b;refine rC ?_;go_wp2;go_ret;exact⟨⟨_,rfl⟩,(h.trans s).trans m⟩
  . have dk : ¬ (e : Int) < c.owns.length := by omega
    obtain⟨O,rfl⟩:∃O:World,O=wr:=⟨_,rfl⟩;clear n;go_wp2;go_loopw [6] (fun i wr=>∃e:Nat,e<=c.asks.length/\i=.int .i64 e/\Ext O wr) (fun i _=>c.asks.length - (intOf i).toNat)
    case atStart=>exact⟨0,SV _,rfl,Kp.rr⟩
    case round =>
     obtain⟨k,aA,rfl,x⟩:=hrel;have⟨p,ay⟩:=jf (s.trans x) x;have V:=x.je T;have ez:=jc V;clear F T U;by_cases ag:k<c.asks.length
     . have au:(k:Int)<c.asks.length:=Zm
       obtain⟨l,A⟩:∃l,c.asks[k]?=some l:=⟨c.asks[k]'ag,Ou ag⟩;obtain⟨E,N,cs,rfl,hI,rfl,-,y⟩:=Q.get A;obtain⟨t,u⟩:=(y.ext (h.trans p)).two;have C:=Zy ((Q.take (i:=k) Zm).ext mQ.stays (h.trans p));have z:(c.asks.take k).length=k:=by rw[Tj];omega
       obtain⟨ak,av,az,j⟩:=ll wr;have y0:=fun f=>(j.jv f).je t;have y1:=fun f=>(j.jv f).je u;have ye:=fun f=>(j.jv f).je V;have⟨d,ai⟩:=jf j z;clear j x y A t u ez z;go_wp2_with fail;have g:Ext wr wr.drew:=jg;refine jW d 35 [([0,1,2,3,4,5],6),([7,8,9,10,11,12,13,14,15,16],17),([18,19,20,21,22,23,24,25,26,27,28,29,30,31],32)] [33,34] ?_ ?_
       . exact jg
       refine lJ ?_;intro b a;go_wp2_with fail;refine(lM _ _).mono ?_;rintro q w1 ⟨rfl,rfl⟩;cases jJ l.name
       . go_wp2_with fail;refine kk d a g ?_;clear a b;refine lJ ?_;intro b a;go_wp2_with fail;refine kk d a g ?_;clear a b;refine lJ ?_;intro b a;go_wp2_with fail;refine kk d a g ?_;clear a b;refine rC ?_;go_wp2;go_ret;exact⟨⟨_,rfl⟩,(h.trans p).trans g⟩
       go_wp2_with fail;refine kk d a g ?_;clear a b;refine lJ ?_;intro b a;go_wp2_with fail;refine(si).mono ?_;rintro q w' ⟨rfl,rfl⟩;generalize (decide ((0:Int)<=l.keeper)&&decide (l.keeper<=B - 1))=q2;cases q2
       . go_wp2_with fail;refine kk d a g ?_;clear a b;refine lJ ?_;intro b a;go_wp2_with fail;refine kk d a g ?_;clear a b;refine rC ?_;go_wp2;go_ret;exact⟨⟨_,rfl⟩,(h.trans p).trans g⟩
       go_wp2_with fail;refine kk d a g ?_;clear a b;refine lJ ?_;intro b a;go_wp2_with fail;refine(Mx I (.slice (some ⟨E,N,none⟩) k m2) () (c.asks.take k) (C.ext mQ.stays g) l.name).mono ?_;rintro q w3 ⟨⟨L,rfl,-⟩,J⟩;have m:=g.trans J;obtain⟨o,hq⟩:∃o,decide (0<=L)=o:=⟨_,rfl⟩;cases o
       . go_wp2_with fail;refine kk d a m ?_;clear a b;refine rC ?_;go_wp2;go_round
         case rel=>exact⟨k+1,Zm,by go_num,ay.o.trans m⟩
         case measure=>simp[intOf];omega
       . go_wp2_with fail;refine kk d a m ?_;clear a b;refine rC ?_;go_wp2;go_ret;exact⟨⟨_,rfl⟩,(h.trans p).trans m⟩
     . have au:¬(k:Int)<c.asks.length:=Zm
       clear x;go_wp2;go_ret;exact⟨⟨_,rfl⟩,h.trans p⟩
theorem OB{v:Value}(p:iZ)(b:SliceOf 2 ja w I v p):Calls prog 82 #[.agg #[v]] w fun k F=>BV k/\Ext w F:=by
 obtain⟨K,Q,rfl,aa,Z⟩:=b.form;obtain⟨S,D,y,A⟩:=nu w #[.slice K p.length Q] 25;obtain⟨L,r,-⟩:=A.ca;have⟨G,c,J⟩:=jB b y D;clear y A D b;go_enter func82,ntmps82;go_wp2_with fail;rw[<-J.o];go_wp2_with fail;refine(si).mono ?_;rintro k F ⟨rfl,rfl⟩;obtain⟨q1,m⟩:∃R,(decide ((1:Int)<=p.length)&&decide ((p.length:Int)<=3))=R:=⟨_,rfl⟩;rw[m];cases q1
 . go_wp2;go_ret;exact⟨⟨_,rfl⟩,c⟩
 have af:(p.length:Int)<=3:=by simp at m;omega
 clear m;go_wp2;go_loopw [3] (fun n wr=>∃a:Nat,a<=p.length/\n=.int .i64 a/\Ext S wr) (fun n _=>p.length - (intOf n).toNat)
 case atStart=>exact⟨0,SV _,rfl,Kp.rr⟩
 case round =>
  obtain⟨a,Y,rfl,e⟩:=hrel;have g:=Zy e;have s:=e.je r;have O:=jc s;clear r L;by_cases C:a<p.length
  . have N:(a:Int)<p.length:=Zm
    obtain⟨o,E⟩:∃o,p[a]?=some o:=⟨p[a]'C,Ou C⟩;obtain⟨U,ag,V,rfl,X,l,-,B⟩:=G.get E;obtain⟨ma,mu,mb,mv,rfl⟩:=l.form;have z:=ja.stays _ _ _ _ _ _ (Ext.same (c.trans g)) (fun _ b=>b) l;obtain⟨t,u⟩:=(B.ext (c.trans e)).two;obtain⟨T,W,ae,d⟩:=ll wr;have y0:=fun f=>(d.jv f).je t;have y1:=fun f=>(d.jv f).je u;have ye:=fun f=>(d.jv f).je s;have j:=Zy d;have H:=Zy z;clear d e B E t u O l z;go_wp2_with fail;have x:Ext wr wr.drew:=jg;refine jW j 10 [([0,1,2,3,4,5,6,7],8)] [9] ?_ ?_
    . exact jg
    refine lJ ?_;intro q i;go_wp2_with fail;refine(I8 I o (ja.stays _ _ _ _ _ _ (Ext.same x) (fun _ b=>b) H) p.length Zm Zm).mono ?_;rintro k w2 ⟨⟨q2,rfl⟩,P⟩;have h:=x.trans P;cases q2
    . go_wp2_with fail;refine kk j i h ?_;clear i q;refine rC ?_;go_wp2;go_ret;exact⟨⟨_,rfl⟩,(c.trans g).trans h⟩
    . go_wp2_with fail;refine kk j i h ?_;clear i q;refine rC ?_;go_wp2;go_round
      case rel=>exact⟨a+1,Zm,by go_num,g.o.trans h⟩
      case measure=>simp[intOf];omega
  . have N:¬(a:Int)<p.length:=Zm
    clear e;go_wp2;go_ret;exact⟨⟨_,rfl⟩,c.trans g⟩
theorem hH.Ef{g:Nat}{t:TypeId}{cs:Array Value}(a:hZ w g t cs)(l:List Value)(e:cs.toList=l):hH w g 0 l:=by
 intro c d b;subst e;rw[Tm];exact a.c c d (by simpa using b)
theorem NZ(m:M.Method):uK m=(jJ m.name&&decide (m.args.length<=3)&&nN m.ret&&m.args.all nN&& decide ((m.args.length:Int)+1<=m.locals)&&decide (m.locals<=6)&&decide (1<=m.stack)&&decide (m.stack<=5)&&codeOk m&&yo m):=rfl
theorem Rf{cs:List Value}(o:jd w I m cs):Calls prog 149 #[.agg cs.toArray] w fun a V=>a=.returned (.bool (uK m))/\Ext w V:=by
 have S:=Zy o;obtain⟨va,D,E,rfl,L,h2,h3⟩:=o;obtain⟨z,A,rfl,hn,ae⟩:=L.form;have N:Ext w (w.alloc (.cells #[m.name,.slice z m.args.length A,m.ret.kind,m.ret.name,m.locals,m.stack,D,E] 132)):=(jw _);have K:=hZ.new w 132 #[m.name,.slice z m.args.length A,m.ret.kind,m.ret.name,m.locals,m.stack,D,E];have J:=Zy (hH.Ef K _ rfl);clear K;have b:=Zy (NZ m);cases t:jJ m.name
 . have d:=Zy t;clear t;go_enter func149,ntmps149;go_wp2_with (go_at_call 24;refine(mf _ _).mono ?_;rintro a q ⟨rfl,rfl⟩;rw[d.o]);go_ret;exact⟨hQ (by rw[b.o,d.o];rfl),kx⟩
 have d:=Zy t;clear t;by_cases hl:3<m.args.length
 . go_enter func149,ntmps149;go_wp2_with (go_at_call 24;refine(mf _ _).mono ?_;rintro a q ⟨rfl,rfl⟩;rw[d.o]);go_ret;exact⟨hQ (by rw[b.o,SL (p:=m.args.length<=3) Zm];simp),kx⟩
 cases u:nN m.ret
 . have r:=Zy u;clear u;go_enter func149,ntmps149;go_wp2_with (first|(go_at_call 24;refine(mf _ _).mono ?_;rintro a q ⟨rfl,rfl⟩;rw[d.o])|(go_at_call 148;refine(Bv m.ret).mono ?_;rintro a q ⟨rfl,c⟩;rw[r.o]));go_ret;exact⟨hQ (by rw[b.o,r.o];simp),Zv⟩
 have r:=Zy u;clear u;go_enter func149,ntmps149;go_wp2_with fail;refine(mf _ _).mono ?_;rintro a q ⟨rfl,rfl⟩;rw[d.o];go_wp2_with fail;refine(Bv m.ret).mono ?_;rintro a q ⟨rfl,c⟩;rw[r.o];generalize (w.alloc (.cells #[m.name,.slice z m.args.length A,m.ret.kind,m.ret.name,m.locals,m.stack,D,E] 132))=w0 at*;have y:=Zy (J.ext c);have O:=N.trans c;clear N c J;obtain⟨v,g,h,i,j,k,l,n⟩:=y.eight;simp only[Tm]at g h i j k l n;go_wp2;clear v g h i j k l n;go_loopw [24] (fun C wr=>∃p:Nat,p<=m.args.length/\C=.int .i64 p/\Ext q wr/\Zz ((m.args.take p).all nN=true)) (fun C _=>m.args.length - (intOf C).toNat)
 case atStart=>exact⟨0,SV _,rfl,Kp.rr,Zy Zl⟩
 case round =>
  obtain⟨p,hk,rfl,s,x⟩:=hrel;by_cases U:p<m.args.length
  . obtain⟨Q,B⟩:=get_some U;obtain⟨X,af,cs,rfl,hI,rfl,-,P⟩:=L.get B;obtain⟨Y,Z⟩:=((P.ext O).ext s).two;have H:=Zy B;clear B P;cases f:nN Q
    all_goals
     have e:=Zy f;clear f;go_wp2_with (go_at_call 148;refine(Bv Q).mono ?_;rintro a W ⟨rfl,c⟩;rw[e.o])
    . go_ret;exact⟨hQ (by rw[b.o,rM H.o e.o];simp),Zv⟩
    . go_roundw
      case rel=>exact⟨p+1,Zm,by go_num,Zv,Zy (all_succ x.o H.o e.o)⟩
      case measure=>simp[intOf];omega
  . have R:=Zy (qg x Zm);clear x;obtain⟨v,g,h,i,j,k,l,n⟩:=(y.ext s).eight;simp only[Tm]at g h i j k l n;by_cases t1:m.locals<(m.args.length:Int)+1
    . go_wp2;go_ret;exact⟨hQ (by rw[b.o,SL (p:=(m.args.length:Int)+1<=m.locals) Zm];simp),Zv⟩
    by_cases t2:6<m.locals
    . go_wp2;go_ret;exact⟨hQ (by rw[b.o,SL (p:=m.locals<=6) Zm];simp),Zv⟩
    by_cases t3:m.stack<1
    . go_wp2;go_ret;exact⟨hQ (by rw[b.o,SL (p:=1<=m.stack) Zm];simp),Zv⟩
    by_cases t4:5<m.stack
    . go_wp2;go_ret;exact⟨hQ (by rw[b.o,SL (p:=m.stack<=5) Zm];simp),Zv⟩
    have F:Zz (uK m=(codeOk m&&yo m)):=Zy (by
     rw[b.o,d.o,r.o,R.o,Tz (p:=m.args.length<=3) Zm,Tz (p:=(m.args.length:Int)+1<=m.locals) Zm,Tz (p:=m.locals<=6) Zm,Tz (p:=1<=m.stack) Zm,Tz (p:=m.stack<=5) Zm];rfl)
    have T:=O.trans s;have G:=Zy (jd.stays _ _ _ _ _ _ (Ext.same T) (fun _ o=>o) S);go_wp2_with fail;refine(O8 G).mono ?_;rintro a W ⟨rfl,c⟩;cases f:codeOk m
    . have e:=Zy f;clear f;go_wp2;go_ret;exact⟨hQ (by rw[F.o,e.o];rfl),Zv⟩
    . have e:=Zy f;clear f;clear v g h i j k l n;obtain⟨v,g,h,i,j,k,l,n⟩:=((y.ext s).ext c).eight;simp only[Tm]at g h i j k l n;go_wp2_with fail;refine(PI (jd.stays _ _ _ _ _ _ (Ext.same c) (fun _ o=>o) G)).mono ?_;rintro a w3 ⟨rfl,aa⟩;go_wp2;go_ret;exact⟨hQ (by rw[F.o,e.o];rfl),Zv⟩
theorem Dt{name:α->ByteArray}{ok:α->Bool}{l:List α}{x:α}(a:l[k]?=some x):kW name ok (l.drop k) ((l.take k).map name)=(ok x&& !(((l.take k).map name).any fun b=>decide (b=name x))&&kW name ok (l.drop (k+1)) ((l.take (k+1)).map name)):=by
 rw[drop_at a,TQ,a,TB];rfl
theorem H5{name:α->ByteArray}{l:List α}{j: Nat}{x y:α}(c:l[j]?=some y)(b:j<k)(a:name y=name x):(((l.take k).map name).any fun y=>decide (y=name x))=true:=by
 rw[Wn];refine⟨name y,Vw.2 ⟨y,?_,rfl⟩,by simp[a]⟩;exact RA (i:=j) (by rw[Uu,Tv b,c])
theorem FO{name:α->ByteArray}{l:List α}{x:α}(d:∀c a,l[c]?=some a->c<k->name a≠name x):(((l.take k).map name).any fun a=>decide (a=name x))=false:=by
 rw[UK];intro h g;obtain⟨a,f,rfl⟩:=Vw.1 g;obtain⟨c,b⟩:=UE.1 f;rw[Uu]at b;split at b
 . rename_i e;simpa using d c a b e
 . cases b
theorem M8(c:Class):rP c=(jJ c.name&&(decide (c.jl=none_)|| jJ c.jl)&&decide (c.fields.length<=3)&&decide (c.methods.length<=4)&&
 kW M.Field.name (fun a=>jJ a.name&&nN a.kind) c.fields []&&kW M.Method.name uK c.methods []):=rfl
def Db(c:Class)(k:Nat):Bool:=kW M.Field.name (fun f=>jJ f.name&&nN f.kind) (c.fields.drop k) ((c.fields.take k).map M.Field.name)
def BX(c:Class)(k:Nat):Bool:=kW M.Method.name uK (c.methods.drop k) ((c.methods.take k).map M.Method.name)
theorem KS(a:c.fields.length<=k):Db c k=true:=by
 unfold Db;rw[Vm a];rfl
theorem KT(a:c.methods.length<=k):BX c k=true:=by
 unfold BX;rw[Vm a];rfl
theorem Jt{x:M.Field}(a:c.fields[k]?=some x):Db c k=((jJ x.name&&nN x.kind)&& !(((c.fields.take k).map M.Field.name).any fun b=>decide (b=x.name))&&Db c (k+1)):=Dt a
theorem Jv(a:c.methods[k]?=some x):BX c k=(uK x&& !(((c.methods.take k).map M.Method.name).any fun b=>decide (b=x.name))&&BX c (k+1)):=Dt a
theorem zM (w : World) (I : Nat -> Prop) (cs : List Value) (c : Class) (g : jh w I c cs) :Calls prog 92 #[.agg cs.toArray] w fun i w'=>i=.returned (.bool (rP c))/\Ext w w':=by
 obtain⟨vf,vm,rfl,h1,h2⟩:=g;obtain⟨J,L,rfl,hn,aW⟩:=h1.form;obtain⟨K,N,rfl,aY,aX⟩:=h2.form;have T:Ext w (w.alloc (.cells #[c.name,c.jl,.slice J c.fields.length L,.slice K c.methods.length N] 47)):=(jw _);have b0:=hZ.new w 47 #[c.name,c.jl,.slice J c.fields.length L,.slice K c.methods.length N];have H:=Zy (hH.Ef b0 _ rfl);clear b0;have Y:=Zy (M8 c);cases af:jJ c.name
 . have x:=Zy af;clear af;go_enter func92,ntmps92;go_wp2_with (go_at_call 24;refine(mf _ _).mono ?_;rintro i f ⟨rfl,rfl⟩;rw[x.o]);go_ret;exact⟨hQ (by rw[Y.o,x.o];rfl),kx⟩
 have x:=Zy af;clear af;by_cases y:(decide (c.jl=none_)|| jJ c.jl)=true
 case neg=>
  have aj:(decide (c.jl=none_))=false:=by
   cases hd:decide (c.jl=none_)
   . rfl
   . rw[hd]at y;exact absurd rfl y
  have t:jJ c.jl=false:=by
   cases hd:jJ c.jl
   . rfl
   . rw[hd]at y;simp at y
  have hs:=(mh c.jl).trans aj;have aF:=Zy aj;have C:=Zy t;clear aj t y;go_enter func92,ntmps92;go_wp2_with fail;refine(mf _ _).mono ?_;rintro i f ⟨rfl,rfl⟩;rw[x.o];go_wp2_with fail;refine(mf _ _).mono ?_;rintro i f ⟨rfl,rfl⟩;rw[C.o];go_wp2;go_ret;exact⟨hQ (by rw[Y.o,aF.o,C.o];simp),kx⟩
 have ah:=Zy y;clear y;by_cases Z:3<c.fields.length\/4<c.methods.length
 . have r:Zz (rP c=false):=Zy (by
    rw[Y.o];rcases Z with g|g
    . rw[SL (p:=c.fields.length<=3) Zm];simp
    . rw[SL (p:=c.methods.length<=4) Zm];simp)
   have aD:=Zy Z;clear Z;go_enter func92,ntmps92;go_upto_region 1 with(fail);go_cut [25] (fun aA wx=>aA=.bool false/\wx=w.alloc (.cells #[c.name,c.jl,.slice J c.fields.length L,.slice K c.methods.length N] 47))
   case first=>
    go_wp2_with fail;refine(mf _ _).mono ?_;rintro i f ⟨rfl,rfl⟩;rw[x.o];cases hs:c.jl.toList.isEmpty
    . have t:jJ c.jl=true:=by
       have:=ah.o;rw[<-mh,hs]at this;exact this
      have C:=Zy t;clear t;go_wp2_with fail;refine(mf _ _).mono ?_;rintro i f ⟨rfl,rfl⟩;rw[C.o];go_wp2;go_meet;exact⟨rfl,rfl⟩
    . go_wp2;go_meet;exact⟨rfl,rfl⟩
   case rest=>
    obtain⟨rfl,rfl⟩:=hcut;rcases aD.o with g|g
    . go_wp2;go_ret;exact⟨hQ r.symm,kx⟩
    . by_cases h':3<c.fields.length
      all_goals
       go_wp2;go_ret;exact⟨hQ r.symm,kx⟩
 have aL:c.fields.length<=3:=Zm
 have aM:c.methods.length<=4:=Zm
 clear Z;have r:Zz (rP c=(Db c 0&&BX c 0)):=Zy (by
  rw[Y.o,x.o,ah.o,Tz aL,Tz aM];rfl)
 go_enter func92,ntmps92;go_upto_region 1 with(fail);go_cut [25] (fun aA wx=>aA=.bool false/\wx=w.alloc (.cells #[c.name,c.jl,.slice J c.fields.length L,.slice K c.methods.length N] 47))
 case first=>
  go_wp2_with fail;refine(mf _ _).mono ?_;rintro i f ⟨rfl,rfl⟩;rw[x.o];cases hs:c.jl.toList.isEmpty
  . have t:jJ c.jl=true:=by
     have:=ah.o;rw[<-mh,hs]at this;exact this
    have C:=Zy t;clear t;go_wp2_with fail;refine(mf _ _).mono ?_;rintro i f ⟨rfl,rfl⟩;rw[C.o];go_wp2;go_meet;exact⟨rfl,rfl⟩
  . go_wp2;go_meet;exact⟨rfl,rfl⟩
 case rest =>
  obtain⟨rfl,az⟩:=hcut;rw[<-az]at T;rw[<-az]at H;subst az;generalize aN:(w.alloc (.cells #[c.name,c.jl,.slice J c.fields.length L,.slice K c.methods.length N] 47))=w0 at*;clear aN;obtain⟨u,q,l,m⟩:=H.four;simp only[Tm]at q l m;go_wp2;clear u q l m;go_loopw [39] (fun B wr=>∃e:Nat,e<=c.fields.length/\B=.int .i64 e/\Ext w0 wr/\Zz (Db c 0=Db c e)) (fun B _=>c.fields.length - (intOf B).toNat)
  case atStart=>exact⟨0,SV _,rfl,Kp.rr,Zy rfl⟩
  case round =>
   obtain⟨e,hk,rfl,n,j⟩:=hrel;obtain⟨u,q,l,m⟩:=(H.ext n).four;simp only[Tm]at q l m;have hz:=jc u;by_cases aa:e<c.fields.length
   . obtain ⟨d, p⟩ := get_some aa; obtain ⟨aH, aO, cs, rfl, hI, rfl,-, V⟩ := h1.get p; have ⟨G, HX, s⟩ := jB ((V.ext T).ext n) p (Jt p); clear p V; obtain ⟨P, Q, R⟩ := G.three; cases ae : jJ d.name
     . have D:=Zy ae;clear ae;go_wp2_with (go_at_call 24;refine(mf _ _).mono ?_;rintro i f ⟨rfl,rfl⟩;rw[D.o]);go_ret;exact⟨hQ (by rw[r.o,j.o,s.o,D.o];simp),Zv⟩
     have D:=Zy ae;clear ae;have B1:=hZ.new wr 216 #[d.name,d.kind.kind,d.kind.name];go_wp2_with fail;refine(mf _ _).mono ?_;rintro i f ⟨rfl,rfl⟩;rw[D.o];go_wp2_with fail;refine(Bv d.kind).mono ?_;rintro i f ⟨rfl,S⟩;cases o:nN d.kind
     . have v:=Zy o;clear o;go_wp2;go_ret;exact⟨hQ (by rw[r.o,j.o,s.o,v.o];simp),Zv⟩
     have v:=Zy o;clear o;have r2:=S.KD l;have O:=(B1.ext S).c 0 _ rfl;have ak:Ext w0 f:=Zv;have aK:=jc O;clear P Q R u q l m;go_wp2;clear r2;obtain⟨X,rfl⟩:∃X:World,X=wr:=⟨_,rfl⟩;go_loopw [59] (fun a wi=>∃b:Nat,b<=e/\a=.int .i64 b/\Ext f wi/\Zz (∀a k,c.fields[a]?=some k->a<b->M.Field.name k≠M.Field.name d)) (fun a _=>e - (intOf a).toNat)
     case atStart=>exact⟨0,SV _,rfl,Kp.rr,Zy (fun a k _ g=>absurd g (WY _))⟩
     case round =>
      obtain⟨b,hq,rfl,U,E⟩:=hrel;have e0:=U.je O;have aJ:=jc e0;by_cases ay:b<e
      . obtain⟨k,z⟩:=get_some (show b<c.fields.length by omega);obtain⟨b',aP,aI,av,-,rfl,-,W⟩:=h1.get z;cases av;obtain⟨P,Q,R⟩:=(((W.ext T).ext ak).ext U).three;have F:=Zy z;clear z W;cases h:(k.name.toList==d.name.toList)
        . have ag:=Zy h;go_wp2;go_roundw
          case rel=>
           refine⟨b+1,Zm,by go_num,kx,Zy (fun a aB A hj=>?_)⟩;by_cases ax:a<b
           . exact E a aB A ax
           . obtain rfl:a=b:=Zm
             rw[F.o]at A;cases A;rw[kI]at h;simpa using h
          case measure=>simp[intOf];omega
        . have ag:=Zy h;go_wp2;go_ret;rw[kI]at h;exact⟨hQ (by rw[r.o,j.o,s.o,H5 F.o ay (by simpa using h)];simp),Zv⟩
      . obtain rfl:b=e:=Zm
        go_wp2;go_roundw
        case rel=>exact⟨b+1,Zm,by go_num,Zv,Zy (by rw[j.o,s.o,D.o,v.o,FO E.o];rfl)⟩
        case measure=>simp[intOf];omega
   . have HM : Zz (rP c = BX c 0) := Zy (by rw [r.o, j.o, KS Zm]; rfl); clear j r; go_wp2; clear u q l m; have au := T.trans n; have P2 := Zy (H.ext n); clear H n T hz; obtain ⟨wl, rfl⟩ : ∃ wl : World, wl = wr := ⟨_, rfl⟩; go_loopw [73] (fun B wr => ∃ e : Nat, e <= c.methods.length /\ B = .int .i64 e /\ Ext wl wr /\ Zz (BX c 0 = BX c e)) (fun B _ => c.methods.length - (intOf B).toNat)
     case atStart=>exact⟨0,SV _,rfl,Kp.rr,Zy rfl⟩
     case round =>
      clear aa hk;obtain⟨e,hk,rfl,n,j⟩:=hrel;obtain⟨u,q,l,m⟩:=(P2.ext n).four;simp only[Tm]at q l m;have hz:=jc u;by_cases aa:e<c.methods.length
      . obtain ⟨d, p⟩ := get_some aa; obtain ⟨aH, aO, cs, rfl, hI, ai,-, V⟩ := h2.get p; obtain ⟨aQ, aT, aR, aU, aS, aV, rfl⟩ := ai.form; have ⟨aG, G, HX, s⟩ := jU (jd.stays _ _ _ _ _ _ (Ext.same (au.trans n)) (fun _ g => g) ai) ((V.ext au).ext n) p (Jv p); clear p V ai; obtain ⟨P, Q, R, g3, g4, g5, g6, g7⟩ := G.eight; have B1 := hZ.new wr 132 #[d.name, .slice aQ d.args.length aT, d.ret.kind, d.ret.name, d.locals, d.stack, .slice aR d.code.length aU, .slice aS d.maps.length aV]; go_wp2_with fail; refine (Rf (jd.stays _ _ _ _ _ _ (Ext.same (jw _)) (fun _ g => g) aG)).mono ?_; rintro i f ⟨rfl, S⟩; cases o : uK d
        . have v:=Zy o;clear o;go_wp2;go_ret;exact⟨hQ (by rw[HM.o,j.o,s.o,v.o];simp),Zv⟩
        have v:=Zy o;clear o;have r3:=S.KD m;have O:=(B1.ext S).c 0 _ rfl;have ak:Ext wl f:=Zv;have aK:=jc O;clear P Q R g3 g4 g5 g6 g7 u q l m;go_wp2;clear r3;obtain⟨X,rfl⟩:∃X:World,X=wr:=⟨_,rfl⟩;go_loopw [86] (fun a wi=>∃b:Nat,b<=e/\a=.int .i64 b/\Ext f wi/\Zz (∀a k,c.methods[a]?=some k->a<b->M.Method.name k≠M.Method.name d)) (fun a _=>e - (intOf a).toNat)
        case atStart=>exact⟨0,SV _,rfl,Kp.rr,Zy (fun a k _ g=>absurd g (WY _))⟩
        case round =>
         obtain⟨b,hq,rfl,U,E⟩:=hrel;have e0:=U.je O;have aJ:=jc e0;by_cases ay:b<e
         . obtain⟨k,z⟩:=get_some (show b<c.methods.length by omega);obtain⟨b',aP,aI,av,-,aC,-,W⟩:=h2.get z;obtain⟨aZ,bn,bf,bq,bg,bu,rfl⟩:=aC.form;cases av;clear aC;obtain⟨P,Q,R,g3,g4,g5,g6,g7⟩:=(((W.ext au).ext ak).ext U).eight;have F:=Zy z;clear z W;cases h:(k.name.toList==d.name.toList)
           . have ag:=Zy h;go_wp2;go_roundw
             case rel=>
              refine⟨b+1,Zm,by go_num,kx,Zy (fun a aB A hj=>?_)⟩;by_cases ax:a<b
              . exact E a aB A ax
              . obtain rfl:a=b:=Zm
                rw[F.o]at A;cases A;rw[kI]at h;simpa using h
             case measure=>simp[intOf];omega
           . have ag:=Zy h;go_wp2;go_ret;rw[kI]at h;exact⟨hQ (by rw[HM.o,j.o,s.o,H5 F.o ay (by simpa using h)];simp),Zv⟩
         . obtain rfl:b=e:=Zm
           go_wp2;go_roundw
           case rel=>exact⟨b+1,Zm,by go_num,Zv,Zy (by rw[j.o,s.o,v.o,FO E.o];rfl)⟩
           case measure=>simp[intOf];omega
      . go_wp2;go_ret;exact⟨hQ (by rw[HM.o,j.o,KT Zm]),Zv⟩
theorem oU(b:ji w l p)(k:Int):Calls prog 41 #[some l.L,k] w fun f h=>f=.returned (.bool (has p k))/\w=h:=by
 obtain⟨i,j,g,a,c,d,e⟩:=b.cells;have m:=a w (Kp.refl _ w);clear g b a c d e;go_enter func41,ntmps41;go_wp2
 . go_ret;exact⟨hQ (by unfold has;rw[Tz (p:=0<=k) Zm];rfl),rfl⟩
 . go_ret;exact⟨hQ (by unfold has;rw[SL (p:=0<=k) Zm];rfl),rfl⟩
def lenOf:Value->Nat| .slice _ n _=>n|_=>0
structure RB(p:iZ)(n:ByteArray)(k:Int)(f:Nat)(asked:List Int)(cur:Int):Prop where
 fuel:f+asked.length=5
 one:1<=asked.length
 nodup:asked.Nodup
 has:∀q∈asked,M.has p q=true
 last:asked.getLastD 0=cur
 eq:path p k n=mO p n f asked cur
theorem DW (f : ji w l p) (k : Int) (n : ByteArray) :Calls prog 95 #[some l.L,k,n] w fun d K=>(∃V,d=.returned (.tuple #[V,.int .i64 (path p k n).2])/\SliceOf 1 oW K (fun z=>w<=z) V (path p k n).1)/\Ext w K:=by
 cases B:has p k
 . have m:=Zy B;clear B;have t:=Zy f;clear f;go_enter func95,ntmps95;go_wp2_with (go_at_call 41;refine(oU t _).mono ?_;rintro d w1 ⟨rfl,rfl⟩;rw[m.o]);go_ret2;refine⟨⟨(),?_,?_⟩,Kp.rr⟩
   . unfold path;rw[m.o];rfl
   . unfold path;rw[m.o];exact SliceOf.nil _ _ _ _
 . have m := Zy B; clear B; obtain ⟨Y, ak, hs, Z, c1, c2, c3⟩ := f.cells; have U := f.GK; have T := f.GJ; have t := Zy f; clear f hs; go_enter func95, ntmps95; go_wp2_with (go_at_call 41; refine (oU t _).mono ?_; rintro d w1 ⟨rfl, rfl⟩; rw [m.o]); have ae : Ext w (w.alloc (.cells #[k] 3)) := (jw _); go_loopw [1, 8] (fun O J wr => ∃ i h a, O = .int .i64 h /\ wr.ownsRow w 3 1 J a.length (a.map fun b => Value.int .i64 b) /\ Ext w wr /\ RB p n k i a h) (fun O J wr => 5 - (lenOf J))
   case atStart=>
    refine⟨4,k,[k],rfl,?_,ae,⟨rfl,by simp,by simp,by simp[m.o],rfl,?_⟩⟩
    . exact Vj (size:=1) w #[k] 1 (T9 _) (by unfold maxLen;omega) rfl
    . unfold path;rw[Tv m.o]
   case round =>
    obtain⟨i,h,a,rfl,G,g,x⟩:=hrel;obtain⟨aa,cp,rfl,hg,aA,ax⟩:=jT G x.one;have d1:=c1 wr g;have d2:=c2 wr g;have D:=U wr g h n;have C:=T wr g h n;have⟨e,E⟩:=jf x G;have ag:a.length<=5:=SX x.fuel
    clear x G Z c1 c2 c3 U T;have ay:0<i:=by
     have h1:=e.fuel;have h2:=LW e.nodup e.has;have h3:=(Bw t.ok).2;omega
    obtain⟨i,rfl⟩:∃f',i=f'+1:=⟨i - 1,Zm⟩;cases c:zK p h n with
    | none =>
     rw[c]at C;simp only[Ve,VX]at C;have y:=Zy c;clear c;have v:path p k n=if owned p ⟨h,n⟩then(a,1)else([],2):=by
      rw[e.o.eq];unfold mO;rw[y.o]
     have u:=Zy v;clear v;rw[IG]at D;cases r:owned p ⟨h,n⟩
     . rw[r]at D;have F:=Zy r;clear r;go_wp2;go_ret2;have d:path p k n=([],2):=by rw[u.o,F.o];rfl
       rw[d];exact⟨⟨(),rfl,SliceOf.nil _ _ _ _⟩,g⟩
     . rw[r]at D;have F:=Zy r;clear r;go_wp2;go_ret2;have d:path p k n=(a,1):=by rw[u.o,F.o];rfl
       rw[d];exact⟨⟨_,rfl,SliceOf.lS (fun b=>[Value.int .i64 b]) E rfl (Ir) (fun _ _=>rfl) (fun _ _=>rfl) (fun z o _=>o) (TL ag Zm)⟩,g⟩
    | some next =>
     rw[c]at C;simp only[Vp,VW]at C;have y:=Zy c;clear c D;have v:path p k n=if a.contains next then([],3)else mO p n i (a++[next]) next:=by
      rw[e.o.eq];conv=>lhs;unfold mO
      rw[y.o]
     have u:=Zy v;clear v;go_wp2;go_loop [36] (fun I=>∃b:Nat,b<=a.length/\I=.int .i64 b/\Zz (∀j s,a[j]?=some s->j<b->s≠next)) (fun I=>a.length - (intOf I).toNat)
     case atStart=>exact⟨0,SV _,rfl,Zy (fun _ _ _ f=>absurd f (WY _))⟩
     case round =>
      obtain⟨b,c,rfl,L⟩:=hrel;by_cases ah:b<a.length
      . obtain⟨s,H⟩:=get_some ah;have av:wr.cell? (aa,b)=some (.int .i64 s):=by
         rw[E.o.cellAt b Zm];simp[H]
        have N:=Zy H;clear H;by_cases S:s=next
        . subst S;go_wp2;go_ret2;have A:a.contains s=true:=by simp[RA N.o]
          have d:path p k n=([],3):=by rw[u.o,Tv A]
          rw[d];exact⟨⟨(),rfl,SliceOf.nil _ _ _ _⟩,g⟩
        . go_wp2;go_round
          case rel=>
           refine⟨b+1,Zm,by go_num,Zy (fun j aj q aC=>?_)⟩;by_cases af:j<b
           . exact L j aj q af
           . obtain rfl:j=b:=Zm
             rw[N.o]at q;cases q;exact S
          case measure=>simp[intOf];omega
      . go_wp2_with (at_builtin;refine vC Al _ rfl _ _ rfl w _ _ _ rfl (E.alloc _) wr 1 [next] rfl rfl ?c1 ?c2 ?c3 ?c4 ?_)
        case c1=>exact hH.Ef (hZ.new _ _ _) _ rfl
        case c2=>simp[Value.oneCell']
        case c3=>omega
        case c4=>have:=g.size;simp;omega
        obtain rfl:b=a.length:=Zm
        intro v' K R P g1 au ai az aB;subst ai;have X:=Zy R;have W:=Zy P;clear R P;go_wp2;go_roundw
        case rel =>
         refine⟨i,next,a++[next],rfl,by simpa using X.o,?_,?_⟩
         . refine(g.alloc _).own W ?_;intro z o;simp only[Value.ownBlock,TT]at o;omega
         . have A:a.contains next=false:=by
            cases Q:a.contains next
            . rfl
            . rw[VG]at Q;obtain⟨j,q⟩:=UE.1 Q;exact absurd rfl (L.o j next q (Tw.1 q).1)
           refine⟨by have:=e.fuel;simp;omega,by simp,?_,?_,by simp,by rw[u.o,A];rfl⟩
           . rw[VM];refine⟨e.nodup,by simp,fun Y ha z o d=>?_⟩;simp only[U7]at o;subst o d;have:=VG.2 ha;rw[A]at this;cases this
           . intro b c;rcases TZ.1 c with c|c
             . exact e.has b c
             . rw[U7]at c;subst c;exact Dw t.ok y
        case measure=>have:=e.fuel;simp[lenOf];omega
theorem Md{k:Int}(a:(path p k n).2=1):(path p k n).1≠[]:=by
 have e:∀c (b:List Int) k,b≠[]->(mO p n c b k).2=1->(mO p n c b k).1≠[]:=by
  intro c;induction c with
  |zero=>intro b k _ a;simp[mO]at a
  |succ c i=>
   intro b k g a;unfold mO at a |-;split at a
   . split at a
     . rename_i f d;simp[d,g]
     . simp at a
   . rename_i next f
     split at a
     . simp at a
     . rename_i d;rw[Tt d];exact i _ _ Zl a
 unfold path at a |-;split at a
 . rename_i h;rw[Tv h];exact e _ _ _ Zl a
 . simp at a
theorem zD(o:ji w l p){k:Int}{n:ByteArray}:Calls prog 93 #[some l.L,k,n] w fun j D=>j=.returned (.tuple #[.agg #[.int .i64 (M.resolve p k n).1.keeper,.string (M.resolve p k n).1.name],.int .i64 (M.resolve p k n).2])/\Ext w D:=by
 have t:=Zy (o.ext ((Kp.refl _ w).alloc (.cells #[Tc, ""] 60)));clear o;have x:=hZ.new w 60 #[Tc, ""];have I:Ext w (w.alloc (.cells #[Tc, ""] 60)):=(jw _);go_enter func93,ntmps93;go_wp2_with fail;refine(DW t _ _).mono ?_;rintro j O ⟨⟨v,rfl,b⟩,A⟩;have g:=x.ext A;obtain⟨-,h,i,-⟩:=g.ca;obtain⟨G,H,-⟩:=g.fz;by_cases a:(path p k n).2=1
 . have r:=Md a;obtain⟨u,y,e,C,B⟩:=b.form;subst e;have L:=Vs.2 r;obtain⟨s,f⟩:=get_some (l:=(path p k n).1) (k:=(path p k n).1.length - 1) Zm;obtain⟨E,N,F,rfl,J,rfl,-,q⟩:=b.get f;have z:=q.one;rw[V5]at z;have d:Zz (M.resolve p k n=(⟨s,n⟩,1)):=Zy (by
    unfold M.resolve;rw[Tv a,List.getLastD_eq_getLast?,List.getLast?_eq_getElem?,f];rfl)
   rw[a];clear f b r q a;generalize (path p k n).1.length=m at*;go_wp2;refine Cv (v:=.tuple #[.agg #[s,n],.int .i64 1]) (by simp[results,results93,go_sem,h,i]) rfl ?_;exact⟨by rw[d.o],Zw⟩
 . have d:Zz (M.resolve p k n=(vL,(path p k n).2)):=Zy (by unfold M.resolve;rw[Tt a]);have K:=SF.2 a;obtain⟨u,y,e,C,B⟩:=b.form;subst e;clear b a;generalize (path p k n).2=c at*;generalize (path p k n).1.length=m at*;go_wp2;refine Cv (v:=.tuple #[.agg #[Tc, ""],c]) (by simp[results,results93,go_sem,h,i]) rfl ?_;exact⟨by rw[d.o];rfl,Zw⟩
theorem oG{P:Program}{Q:Exit->Act->World->Prop}{id:Nat}{l:List Oper}{a:Act}(n:Nat)(e:P.follows .mixedOrders=true)(d:Region.lexTailB .any l.toArray n=true)(c:wpStill P l.toArray w.drew (fun b=>wpList P l.toArray Q (l.drop n) b w.drew) (l.take n) a):(Code.region id l.toArray true).wp P Q a w:=wp_region_still_tail n e d c
theorem p9(l:jk)(p:iZ)(a:ji w l p)(k:Int)(n:ByteArray)(c:Class)(h:cls? p ⟨k,n⟩=some c):Calls prog 52 #[some l.L,.agg #[k,n]] w fun E N=>(∃f,jh w (· <l.O) c f/\E=.returned (.agg f.toArray))/\Ext w N:=by
 obtain⟨K,J,e,r,u,ai⟩:=Br h;obtain⟨d,s⟩:=CS h;simp only at d s;obtain⟨k,rfl⟩:=Int.eq_ofNat_of_zero_le d;have t:p[k]?=some K:=by
  unfold pW at e;rw[Tv d]at e;exact e
 obtain⟨S,W,v,j,m,C,D⟩:=a.cells;have y:=a.NK;obtain⟨U,av,f,rfl,hI,I,-,o⟩:=v.get t;obtain⟨vo,va,rfl,i,L⟩:=I;obtain⟨T,X,rfl,ak,ah⟩:=i.form;obtain⟨V,ax,Y,rfl,aa,g,-,q⟩:=i.get u;obtain⟨O,Q,P,R,rfl⟩:=g.form;obtain⟨G,g1⟩:=o.two;obtain⟨F,e1,e2,e3⟩:=q.four;have x:∀b,Ext w b->(Instr.lookup 116 (.map (some l.O)) (.agg #[.int .i64 (k:Int),n]) false).run prog b=.ok J b:=by
  intro b H;rw[y b H,r];rfl
 have au:(p.length:Int)<=3:=SX ((Bw a.ok).2)
 have l2:=fun(A B:Obj)=>x _ ((((Kp.refl _ w).alloc A).alloc B).drew);clear x;have z:=Zy g;have af:=jc G;have ag:=jc F;have ae:=a.lt;have Z:=j _ (Kp.refl _ w);have d1:=m _ (Kp.refl _ w);have hO:=a.ord;clear y g v i L o q j m C D t u e r h a;have aj:k<p.length:=Zm
 clear d s;go_enter func52,ntmps52;go_wp2;refine oG 17 Zo Zo ?_;(simp only[Us,UJ,Uh,UB]);(repeat still_step);refine Vo ?_;go_wp2;refine Cv (v:=.agg #[c.name,c.jl,.slice O c.fields.length Q,.slice P c.methods.length R]) (by simp[results,results52,go_sem]) rfl ?_;exact⟨⟨_,z,rfl⟩,kx⟩
attribute [local go_sem] Oper.semAt_some
theorem Ig{a:Addr}{k:Int}:Calls prog 150 #[.pointer (some a),.agg #[k,n]] w fun b c=>b=.returned (.func (.func 192) #[] #[.pointer (some ⟨w+1,0,none⟩),some w])/\c=(w.alloc (.cells #[.pointer (some a)] 73)).alloc (.cells #[k,n] 60):=by
 go_enter func150,ntmps150;go_wp2;go_ret;exact⟨rfl,rfl⟩
def items(p:iZ):Nat->Ref->List (Option Ref)
 |0,_=>[]
 |n+1,r=>some r::(if jl p r=none_ then []else if(M.resolve p r.keeper (jl p r)).2=1 then items p n (M.resolve p r.keeper (jl p r)).1 else [none])
def Ap:Option Ref->Array Value
 |some r=>#[.agg #[.int .i64 r.keeper,.string r.name],.bool true]
 |none=>#[.agg #[.int .i64 0,.string none_],.bool false]
theorem l8{k:Int}(b:(M.resolve p k n).2=1):∃a,cls? p (M.resolve p k n).1=some a:=M.l8 b
theorem Jz (l : jk) (p : iZ) (j : Ref) (e q : Nat) {z: Nat -> Prop} (hBd : ∀ g, z g -> l.L < g /\ g ≠ e /\ g ≠ q) (hRL : e ≠ q) (hR : l.L < e) (D : Nat) (aG : ∃ c, cls? p j = some c) :Iter prog 192 #[some e,some q] Ap (·=e) z (fun xs=>∀b,items p (xs.length+b) j=xs) (fun d=>∃b k,items p b j=d++k) (fun aM=>aM.length<=D) (fun m=>ji m l p/\hZ m e 60 #[j.keeper,j.name]/\hZ m q 73 #[some l.L]):=by
 intro lp aA Jx m ⟨E,J,I⟩ hJ aa hN G aB;refine callsIn_of_wp func192 rfl trivial ?_ rfl;simp only[ntmps192,UY,TE,Uj,Nat.reduceAdd,Nat.reduceSub,Um,Ul,UX,Ug,TW,TF];gi_wp2;gi_loopg [4] (D+1) (fun aJ _ wr=>∃(d:List (Option Ref)) (a:Ref),aJ+d.length=D+1/\aA d wr/\ji wr l p/\hZ wr e 60 #[a.keeper,a.name]/\hZ wr q 73 #[some l.L]/\
     Zz (∀b,items p (d.length+b) j=d++items p b a)/\Zz (∃c,cls? p a=some c))
 case atStart=>exact⟨[],j,by simp,aB,E,J,I,Zy Zl,Zy aG⟩
 case round =>
  obtain⟨d,a,hm,O,hl,i,K,u,HO⟩:=hrel;have aY:=hN _ _ O;obtain⟨c,hc⟩:=HO.o;obtain⟨fn,bf,aP,aR,hy,hR⟩:=G d (some a) wr trivial O;simp only[Ap]at hy hR;obtain⟨-,aK,aL,-⟩:=i.ca;have aI:=K.c 0 (some l.L) rfl;have⟨HL,S,HY,v,B,V⟩:=nE hl (Tn i K) G (Tn hJ aa) (Tn hBd (Tn E (Tn J I))) hc;clear hl i K G hJ aa hBd E J I hc hN;gi_wp2_with fail;refine hR.mono ?_;rintro o W1 ⟨t,(⟨rfl,P⟩|⟨rfl,aD⟩)⟩
  . have Q : ∀ g, g <= l.L -> ¬ z g := fun g w i => absurd (B.o.1 g i).1 Zm; have aj := HL.kp t Q; have H := S.1.kp t (fun i => (B.1 _ i).2.1 rfl); have L := S.2.kp t (fun i => (B.1 _ i).2.2 rfl); obtain ⟨-, q0, q1,-⟩ := H.ca; have q2 := L.c 0 (some l.L) rfl; have ⟨X, T, HK⟩ := jB aj (Tn H L) (Tn t Q); clear aj H L t Q aK aL aI hy hR; gi_wp2_with fail; refine ⟨trivial, ?_⟩; refine (Ur.2 (p9 _ _ X _ _ _ V)).mono ?_; rintro o W2 ⟨⟨cs, N, rfl⟩, n⟩; obtain ⟨y1, z1, y2, z2, rfl⟩ := N.form; have s0 := n.je q0; have s1 := n.je q1; have s2 := n.je q2; have aV : ∀ m, (Instr.field 47 (.agg #[.string c.name, .string c.jl, .slice y1 c.fields.length z1, .slice y2 c.methods.length z2]) 1).run prog m = .ok (.string c.jl) m := fun m => by kernel_rfl
    have R:jl p a=c.jl:=by unfold jl;rw[V.o];rfl
    by_cases y:c.jl.toList.isEmpty=true
    . gi_wp2_with fail;refine Ta ?_;refine⟨⟨_,rfl⟩,.inl ⟨d++[some a],fun b=>?_,v.1 _ _ _ P n.any⟩⟩;rw[TP,Ue,u.o];congr 1;show items p (1+b) a=[some a]
      rw[Vf];unfold items;rw[R,Tv (by rw[mh]at y;simpa using y)]
    . have au:c.jl.toList.isEmpty=false:=by simpa using y
      have Z:Zz (∀b,items p (b+1) a=some a::if(M.resolve p a.keeper c.jl).2=1 then items p b (M.resolve p a.keeper c.jl).1 else [none]):=Zy (by
       intro b;conv=>lhs;unfold items
       rw[R,Tt (by rw[mh]at au;simpa using au)])
      have⟨aN,A⟩:=jf N n;have ak:=X.ext n;have Y:=Zy ak;clear y R N n ak q0 q1 q2;gi_wp2_with fail;refine⟨trivial,?_⟩;refine(Ur.2 (zD Y)).mono ?_;rintro o r ⟨rfl,h⟩;have u0:=h.je s0;have u1:=h.je s1;have u2:=h.je s2;have s:=((T.1.ext A).ext h);have af:=((T.2.ext A).ext h);have f0:=s.frozen 0;have f1:=s.frozen 1;have aZ:=s.lt;have ah:=v.1 _ _ _ P ((A.any).trans h.any);have⟨U,ay,aO,W⟩:=jU (Tn s af) (Y.ext h) h ah;clear s af h ah s0 s1 s2 P O;by_cases f:(M.resolve p a.keeper c.jl).2=1
      . obtain⟨c',ag⟩:=l8 f;have C:Zz (∀b,items p (b+1) a=some a::items p b (M.resolve p a.keeper c.jl).1):=Zy (by
         intro b;rw[Z.o,Tv f])
        rw[f];clear f;generalize (M.resolve p a.keeper c.jl).1=nx at*;have ax:Zz (∃c,cls? p nx=some c):=Zy ⟨c',ag⟩;clear ag;gi_wp2_with fail;gi_roundg (gk - 1)
        case measure=>omega
        case rel=>
         have w:Kp (·=e) r (((r.setCell e nx.keeper).setCell (e,1) nx.name).alloc (.cells #[nx.keeper,nx.name] 60)):=
          (((Kp.refl (·=e) r).setCell (p:=⟨e,0,none⟩) (fun _=>rfl) _).setCell (p:=⟨e,1,none⟩) (fun _=>rfl) _).alloc _
         refine⟨d++[some a],nx,by simp;omega,v.o.1 _ _ _ W.o w,ay.o.kp w (fun g aW o=>Zm),?_,U.o.2.kp w (fun o=>hRL o.symm),Zy (fun b=>?_),ax⟩
         . exact((U.1.jy 0 nx.keeper).jy 1 nx.name).ext (jw _)
         . rw[TP,Ue,u.o,Vf,show [some a].length=1 from rfl,C.o,U1];rfl
      . have C:Zz (∀b,items p (b+2) a=[some a,none]):=Zy (by
         intro b;rw[Z.o (b+1),Tt f])
        have aU:=SF.2 f;have av:M.resolve p a.keeper c.jl=(vL,(M.resolve p a.keeper c.jl).2):=by
         unfold M.resolve at f |-;split
         . rename_i h1;rw[Tv h1]at f;exact absurd rfl f
         . rfl
        rw[av];have ai:=v.1 _ _ _ W (((Kp.refl _ r).alloc (.cells #[Tc, ""] 60)):Kp (·=e) r _);obtain⟨aT,bg,aQ,aS,aH,F⟩:=HY.o (d++[some a]) none _ trivial ai;simp only[Ap]at aH F;have az:=Zy F;clear av f ai F;generalize (M.resolve p a.keeper c.jl).2=code at*;simp only[vL];gi_wp2_with fail;refine az.mono ?_;have ae:∀b,items p ((d++[some a]++[none]).length+b) j=d++[some a]++[none]:=by
         intro b;rw[TP,TP,Ue,Ue,u.o,show [some a].length+([none (α:=Ref)].length+b)=b+2 from by simp;omega,C.o,U1];rfl
        rintro o W5 ⟨aX,(⟨rfl,aC⟩|⟨rfl,aF⟩)⟩
        . gi_wp2_with fail;refine Ta ?_;exact⟨⟨_,rfl⟩,.inl ⟨d++[some a]++[none],ae,aC⟩⟩
        . gi_wp2_with fail;refine Ta ?_;exact⟨⟨_,rfl⟩,.inr ⟨d++[some a]++[none],⟨(d++[some a]++[none]).length+0,[],by rw[ae 0,List.append_nil]⟩,aF⟩⟩
  . have x:∃k,items p (d.length+1) j=(d++[some a])++k:=by
     obtain⟨k,hr⟩:∃k,items p 1 a=some a::k:=⟨_,rfl⟩;exact⟨k,by rw[u.o,hr,U1];rfl⟩
    obtain⟨k,x⟩:=x;have HP:=Zy x;clear x;gi_wp2_with fail;refine Ta ?_;exact⟨⟨_,rfl⟩,.inr ⟨d++[some a],⟨_,k,HP⟩,aD⟩⟩
end Go.Proofs.YtlhgbjbkjalfjaaGreat
