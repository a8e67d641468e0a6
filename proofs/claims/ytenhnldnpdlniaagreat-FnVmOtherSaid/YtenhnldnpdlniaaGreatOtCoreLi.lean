/- Walks. -/
import Derived.Test.YtenhnldnpdlniaaGreatOtCoreLf
import Derived.Deep.DeepCutAuto
import Derived.Test.YtenhnldnpdlniaaGreatOtCoreLc
set_option maxRecDepth 100000
set_option maxHeartbeats 4000000
set_option linter.all false
namespace Go.Proofs.YtenhnldnpdlniaaGreat
open Go Go.RowKit Tryz M
variable {c: Class}{cs: List Value}{m x: M.Method}{k: Nat}{α: Type}{w: World}{p: hZ}{l: iZ}
theorem drop_at{l:List α}{x:α}(b:l[k]?=some x):l.drop k=x::l.drop (k+1):=by
 obtain⟨c,a⟩:=Tv.1 b;rw[Uy c,a]
theorem Fv{last:Int}{x:SMap}(a:m.maps[k]?=some x):j3 m last (m.maps.drop k)=(decide (last<x.at_)&&uF m x&&j3 m x.at_ (m.maps.drop (k+1))):=by
 rw[drop_at a];rfl
theorem AQ(m:M.Method)(f:SMap):uF m f=(decide (f.at_ <m.code.length)&&decide ((f.locals.length:Int)=m.locals)&&decide ((f.stack.length:Int)<=m.stack)&&qy f.locals&&qy f.stack):=rfl
theorem Qp {I: Nat -> Prop} (L : jb w I m cs) :Calls prog 172 #[.agg cs.toArray] w fun i R=>i=.returned (.bool (qU m))/\Ext w R:=by
 obtain⟨y,vc,vm,rfl,h1,N,A⟩:=L;obtain⟨n,p,rfl,hn,af⟩:=A.form;obtain⟨o,q,rfl,au,ag⟩:=N.form;by_cases ak:5<m.maps.length
 . go_enter func172,ntmps172;go_wp2;go_ret;exact⟨hQ (by unfold qU;rw[RN Zm];rfl),kx⟩
 have d:Zz (qU m=j3 m 0 m.maps):=Zy (by
  unfold qU;rw[SY Zm];rfl)
 go_enter func172,ntmps172;go_wp2;have K:=h9.new w 113 #[m.name,y,m.ret.kind,m.ret.name,m.locals,m.stack,.slice o m.code.length q,.slice n m.maps.length p];obtain⟨-,-,-,-,-,D,E,F,-⟩:=K.ca;have s:Ext w (w.alloc (.cells #[m.name,y,m.ret.kind,m.ret.name,m.locals,m.stack,.slice o m.code.length q,.slice n m.maps.length p] 113)):=(jh _);generalize (w.alloc (.cells #[m.name,y,m.ret.kind,m.ret.name,m.locals,m.stack,.slice o m.code.length q,.slice n m.maps.length p] 113))=w0 at*;go_loopw [13,3] (fun u P wr=>∃g:Nat,∃last:Int,g<=m.maps.length/\u=.int .i64 g/\P=.int .i64 last/\Ext w0 wr/\Zz (j3 m 0 m.maps=j3 m last (m.maps.drop g))) (fun u _ _=>m.maps.length - (intOf u).toNat)
 case atStart=>exact⟨0,0,T9 _,rfl,rfl,Kp.rr,Zy Zl⟩
 case round =>
  obtain⟨g,last,hk,rfl,rfl,f,b⟩:=hrel;by_cases O:g<m.maps.length
  . obtain⟨a,t⟩:=get_some O;obtain⟨V,ay,cs,rfl,hI,⟨vl,vs,rfl,v,x⟩,-,B⟩:=A.get t;obtain⟨T,W,rfl,av,ah⟩:=v.form;obtain⟨U,X,rfl,ax,ai⟩:=x.form;obtain⟨Y,Z,g2⟩:=((B.ext s).ext f).three;have q4:=f.iW D;have q5:=f.iW E;have q6:=f.iW F;have hz:=iV q6;have⟨z,H,c⟩:=jr ((v.ext kU.stays s).ext kU.stays f) ((x.ext kU.stays s).ext kU.stays f) (Fv (last:=last) t);clear t B D E F v x;by_cases t1:a.at_<=last
    . go_wp2;go_ret;exact⟨hQ (by rw[d.o,b.o,c.o,RN Zm];rfl),Zv⟩
    by_cases t2:(m.code.length:Int)<=a.at_
    . go_wp2;go_ret;exact⟨hQ (by rw[d.o,b.o,c.o,AQ,RN (p:=a.at_ <m.code.length) Zm];simp),Zv⟩
    by_cases h:(a.locals.length:Int)=m.locals
    case neg=>
     have Q:=SI.2 h;go_wp2;go_ret;exact⟨hQ (by rw[d.o,b.o,c.o,AQ,RN (p:=(a.locals.length:Int)=m.locals) h];simp),Zv⟩
    have J:=Zy h;have Q:=Ub.2 h;clear h;by_cases t4:m.stack<(a.stack.length:Int)
    . go_wp2;go_ret;exact⟨hQ (by rw[d.o,b.o,c.o,AQ,RN (p:=(a.stack.length:Int)<=m.stack) Zm];simp),Zv⟩
    have k:Zz (uF m a=(qy a.locals&&qy a.stack)):=Zy (by
     rw[AQ,SY (p:=a.at_ <m.code.length) Zm,SY (p:=(a.locals.length:Int)=m.locals) J.o,SY (p:=(a.stack.length:Int)<=m.stack) Zm];rfl)
    have G:Zz (decide (last<a.at_)=true):=Zy (SY Zm);cases j:qy a.locals
    . have e:=Zy j;clear j;go_wp2_with fail;refine(Ia (z.ext kU.stays (jh _))).mono ?_;rintro i S ⟨rfl,r⟩;rw[e.o];go_wp2;go_ret;exact⟨hQ (by rw[d.o,b.o,c.o,k.o,e.o];simp),Zv⟩
    . have e:=Zy j;clear j;go_wp2_with fail;refine(Ia (z.ext kU.stays (jh _))).mono ?_;rintro i S ⟨rfl,r⟩;rw[e.o];obtain⟨ae,aj⟩:=Ir r;cases C:qy a.stack
      all_goals
       have l:=Zy C;clear C;go_wp2_with fail;refine(Ia ((H.ext kU.stays (jh _)).ext kU.stays r)).mono ?_;rintro i w2 ⟨rfl,aa⟩;rw[l.o];go_wp2
      . go_ret;exact⟨hQ (by rw[d.o,b.o,c.o,k.o,e.o,l.o];simp),Zv⟩
      . go_roundw
        case rel=>exact⟨g+1,a.at_,Zm,by go_num,rfl,Zv,Zy (by rw[b.o,c.o,k.o,G.o,e.o,l.o];rfl)⟩
        case measure=>simp[intOf];omega
  . go_wp2;go_ret;exact⟨hQ (by rw[d.o,b.o,Vy Zm];rfl),Zv⟩
theorem hH.Eo{g:Nat}{t:TypeId}{cs:Array Value}(b:h9 w g t cs)(l:List Value)(a:cs.toList=l):hH w g 0 l:=by
 intro d e c;subst a;rw[Tq];exact b.c d e (by simpa using c)
theorem Pg(m:M.Method):ng m=(jf m.name&&decide (m.args.length<=3)&&kY m.ret&&m.args.all kY&& decide ((m.args.length:Int)+1<=m.locals)&&decide (m.locals<=6)&&decide (1<=m.stack)&&decide (m.stack<=5)&&codeOk m&&qU m):=rfl
theorem Rw{I:Nat->Prop}(o:jb w I m cs):Calls prog 139 #[.agg cs.toArray] w fun a V=>a=.returned (.bool (ng m))/\Ext w V:=by
 have S:=Zy o;obtain⟨va,D,E,rfl,L,h2,h3⟩:=o;obtain⟨z,A,rfl,hn,ae⟩:=L.form;have N:Ext w (w.alloc (.cells #[m.name,.slice z m.args.length A,m.ret.kind,m.ret.name,m.locals,m.stack,D,E] 113)):=(jh _);have K:=h9.new w 113 #[m.name,.slice z m.args.length A,m.ret.kind,m.ret.name,m.locals,m.stack,D,E];have J:=Zy (hH.Eo K _ rfl);clear K;have b:=Zy (Pg m);cases t:jf m.name
 . have d:=Zy t;clear t;go_enter func139,ntmps139;go_wp2_with (go_at_call 17;refine(nE _ _).mono ?_;rintro a q ⟨rfl,rfl⟩;rw[d.o]);go_ret;exact⟨hQ (by rw[b.o,d.o];rfl),kx⟩
 have d:=Zy t;clear t;by_cases hl:3<m.args.length
 . go_enter func139,ntmps139;go_wp2_with (go_at_call 17;refine(nE _ _).mono ?_;rintro a q ⟨rfl,rfl⟩;rw[d.o]);go_ret;exact⟨hQ (by rw[b.o,RN (p:=m.args.length<=3) Zm];simp),kx⟩
 cases u:kY m.ret
 . have r:=Zy u;clear u;go_enter func139,ntmps139;go_wp2_with (first|(go_at_call 17;refine(nE _ _).mono ?_;rintro a q ⟨rfl,rfl⟩;rw[d.o])|(go_at_call 138;refine(BA m.ret).mono ?_;rintro a q ⟨rfl,c⟩;rw[r.o]));go_ret;exact⟨hQ (by rw[b.o,r.o];simp),Zv⟩
 have r:=Zy u;clear u;go_enter func139,ntmps139;go_wp2_with fail;refine(nE _ _).mono ?_;rintro a q ⟨rfl,rfl⟩;rw[d.o];go_wp2_with fail;refine(BA m.ret).mono ?_;rintro a q ⟨rfl,c⟩;rw[r.o];generalize (w.alloc (.cells #[m.name,.slice z m.args.length A,m.ret.kind,m.ret.name,m.locals,m.stack,D,E] 113))=w0 at*;have y:=Zy (J.ext c);have O:=N.trans c;clear N c J;obtain⟨v,g,h,i,j,k,l,n⟩:=y.eight;simp only[Tq]at g h i j k l n;go_wp2;clear v g h i j k l n;go_loopw [24] (fun C wr=>∃p:Nat,p<=m.args.length/\C=.int .i64 p/\Ext q wr/\Zz ((m.args.take p).all kY=true)) (fun C _=>m.args.length - (intOf C).toNat)
 case atStart=>exact⟨0,T9 _,rfl,Kp.rr,Zy Zl⟩
 case round =>
  obtain⟨p,hk,rfl,s,x⟩:=hrel;by_cases U:p<m.args.length
  . obtain⟨Q,B⟩:=get_some U;obtain⟨X,af,cs,rfl,hI,rfl,-,P⟩:=L.get B;obtain⟨Y,Z⟩:=((P.ext O).ext s).two;have H:=Zy B;clear B P;cases f:kY Q
    all_goals
     have e:=Zy f;clear f;go_wp2_with (go_at_call 138;refine(BA Q).mono ?_;rintro a W ⟨rfl,c⟩;rw[e.o])
    . go_ret;exact⟨hQ (by rw[b.o,rJ H.o e.o];simp),Zv⟩
    . go_roundw
      case rel=>exact⟨p+1,Zm,by go_num,Zv,Zy (all_succ x.o H.o e.o)⟩
      case measure=>simp[intOf];omega
  . have R:=Zy (qc x Zm);clear x;obtain⟨v,g,h,i,j,k,l,n⟩:=(y.ext s).eight;simp only[Tq]at g h i j k l n;by_cases t1:m.locals<(m.args.length:Int)+1
    . go_wp2;go_ret;exact⟨hQ (by rw[b.o,RN (p:=(m.args.length:Int)+1<=m.locals) Zm];simp),Zv⟩
    by_cases t2:6<m.locals
    . go_wp2;go_ret;exact⟨hQ (by rw[b.o,RN (p:=m.locals<=6) Zm];simp),Zv⟩
    by_cases t3:m.stack<1
    . go_wp2;go_ret;exact⟨hQ (by rw[b.o,RN (p:=1<=m.stack) Zm];simp),Zv⟩
    by_cases t4:5<m.stack
    . go_wp2;go_ret;exact⟨hQ (by rw[b.o,RN (p:=m.stack<=5) Zm];simp),Zv⟩
    have F:Zz (ng m=(codeOk m&&qU m)):=Zy (by
     rw[b.o,d.o,r.o,R.o,SY (p:=m.args.length<=3) Zm,SY (p:=(m.args.length:Int)+1<=m.locals) Zm,SY (p:=m.locals<=6) Zm,SY (p:=1<=m.stack) Zm,SY (p:=m.stack<=5) Zm];rfl)
    have T:=O.trans s;have G:=Zy (jb.stays _ _ _ _ _ _ (Ext.same T) (fun _ o=>o) S);go_wp2_with fail;refine(P5 G).mono ?_;rintro a W ⟨rfl,c⟩;cases f:codeOk m
    . have e:=Zy f;clear f;go_wp2;go_ret;exact⟨hQ (by rw[F.o,e.o];rfl),Zv⟩
    . have e:=Zy f;clear f;clear v g h i j k l n;obtain⟨v,g,h,i,j,k,l,n⟩:=((y.ext s).ext c).eight;simp only[Tq]at g h i j k l n;go_wp2_with fail;refine(Qp (jb.stays _ _ _ _ _ _ (Ext.same c) (fun _ o=>o) G)).mono ?_;rintro a w3 ⟨rfl,aa⟩;go_wp2;go_ret;exact⟨hQ (by rw[F.o,e.o];rfl),Zv⟩
theorem DI{name:α->ByteArray}{ok:α->Bool}{l:List α}{x:α}(a:l[k]?=some x):jw name ok (l.drop k) ((l.take k).map name)=(ok x&& !(((l.take k).map name).any fun b=>decide (b=name x))&&jw name ok (l.drop (k+1)) ((l.take (k+1)).map name)):=by
 rw[drop_at a,Tm,a,U0];rfl
theorem IM{name:α->ByteArray}{l:List α}{j: Nat}{x y:α}(c:l[j]?=some y)(b:j<k)(a:name y=name x):(((l.take k).map name).any fun y=>decide (y=name x))=true:=by
 rw[V8];refine⟨name y,TM.2 ⟨y,?_,rfl⟩,by simp[a]⟩;exact Sy (i:=j) (by rw[Uv,SV b,c])
theorem F5{name:α->ByteArray}{l:List α}{x:α}(d:∀c a,l[c]?=some a->c<k->name a≠name x):(((l.take k).map name).any fun a=>decide (a=name x))=false:=by
 rw[VD];intro h g;obtain⟨a,f,rfl⟩:=TM.1 g;obtain⟨c,b⟩:=VN.1 f;rw[Uv]at b;split at b
 . rename_i e;simpa using d c a b e
 . cases b
theorem Oc(c:Class):mY c=(jf c.name&&(decide (c.je=none_)|| jf c.je)&&decide (c.fields.length<=3)&&decide (c.methods.length<=4)&&
 jw M.Field.name (fun a=>jf a.name&&kY a.kind) c.fields []&&jw M.Method.name ng c.methods []):=rfl
def Dp(c:Class)(k:Nat):Bool:=jw M.Field.name (fun f=>jf f.name&&kY f.kind) (c.fields.drop k) ((c.fields.take k).map M.Field.name)
def Cj(c:Class)(k:Nat):Bool:=jw M.Method.name ng (c.methods.drop k) ((c.methods.take k).map M.Method.name)
theorem Ma(a:c.fields.length<=k):Dp c k=true:=by
 unfold Dp;rw[Vy a];rfl
theorem Mc(a:c.methods.length<=k):Cj c k=true:=by
 unfold Cj;rw[Vy a];rfl
theorem J8{x:M.Field}(a:c.fields[k]?=some x):Dp c k=((jf x.name&&kY x.kind)&& !(((c.fields.take k).map M.Field.name).any fun b=>decide (b=x.name))&&Dp c (k+1)):=DI a
theorem Ka(a:c.methods[k]?=some x):Cj c k=(ng x&& !(((c.methods.take k).map M.Method.name).any fun b=>decide (b=x.name))&&Cj c (k+1)):=DI a
theorem GA (w : World) (I : Nat -> Prop) (cs : List Value) (c : Class) (g : jB w I c cs) :Calls prog 91 #[.agg cs.toArray] w fun i w'=>i=.returned (.bool (mY c))/\Ext w w':=by
 obtain⟨vf,vm,rfl,h1,h2⟩:=g;obtain⟨J,L,rfl,hn,aW⟩:=h1.form;obtain⟨K,N,rfl,aY,aX⟩:=h2.form;have T:Ext w (w.alloc (.cells #[c.name,c.je,.slice J c.fields.length L,.slice K c.methods.length N] 38)):=(jh _);have b0:=h9.new w 38 #[c.name,c.je,.slice J c.fields.length L,.slice K c.methods.length N];have H:=Zy (hH.Eo b0 _ rfl);clear b0;have Y:=Zy (Oc c);cases af:jf c.name
 . have x:=Zy af;clear af;go_enter func91,ntmps91;go_wp2_with (go_at_call 17;refine(nE _ _).mono ?_;rintro i f ⟨rfl,rfl⟩;rw[x.o]);go_ret;exact⟨hQ (by rw[Y.o,x.o];rfl),kx⟩
 have x:=Zy af;clear af;by_cases y:(decide (c.je=none_)|| jf c.je)=true
 case neg=>
  have aj:(decide (c.je=none_))=false:=by
   cases hd:decide (c.je=none_)
   . rfl
   . rw[hd]at y;exact absurd rfl y
  have t:jf c.je=false:=by
   cases hd:jf c.je
   . rfl
   . rw[hd]at y;simp at y
  have hs:=(l7 c.je).trans aj;have aF:=Zy aj;have C:=Zy t;clear aj t y;go_enter func91,ntmps91;go_wp2_with fail;refine(nE _ _).mono ?_;rintro i f ⟨rfl,rfl⟩;rw[x.o];go_wp2_with fail;refine(nE _ _).mono ?_;rintro i f ⟨rfl,rfl⟩;rw[C.o];go_wp2;go_ret;exact⟨hQ (by rw[Y.o,aF.o,C.o];simp),kx⟩
 have ah:=Zy y;clear y;by_cases Z:3<c.fields.length\/4<c.methods.length
 . have r:Zz (mY c=false):=Zy (by
    rw[Y.o];rcases Z with g|g
    . rw[RN (p:=c.fields.length<=3) Zm];simp
    . rw[RN (p:=c.methods.length<=4) Zm];simp)
   have aD:=Zy Z;clear Z;go_enter func91,ntmps91;go_upto_region 1 with(fail);go_cut [25] (fun aA wx=>aA=.bool false/\wx=w.alloc (.cells #[c.name,c.je,.slice J c.fields.length L,.slice K c.methods.length N] 38))
   case first=>
    go_wp2_with fail;refine(nE _ _).mono ?_;rintro i f ⟨rfl,rfl⟩;rw[x.o];cases hs:c.je.toList.isEmpty
    . have t:jf c.je=true:=by
       have:=ah.o;rw[<-l7,hs]at this;exact this
      have C:=Zy t;clear t;go_wp2_with fail;refine(nE _ _).mono ?_;rintro i f ⟨rfl,rfl⟩;rw[C.o];go_wp2;go_meet;exact⟨rfl,rfl⟩
    . go_wp2;go_meet;exact⟨rfl,rfl⟩
   case rest=>
    obtain⟨rfl,rfl⟩:=hcut;rcases aD.o with g|g
    . go_wp2;go_ret;exact⟨hQ r.symm,kx⟩
    . by_cases h':3<c.fields.length
      all_goals
       go_wp2;go_ret;exact⟨hQ r.symm,kx⟩
 have aL:c.fields.length<=3:=Zm
 have aM:c.methods.length<=4:=Zm
 clear Z;have r:Zz (mY c=(Dp c 0&&Cj c 0)):=Zy (by
  rw[Y.o,x.o,ah.o,SY aL,SY aM];rfl)
 go_enter func91,ntmps91;go_upto_region 1 with(fail);go_cut [25] (fun aA wx=>aA=.bool false/\wx=w.alloc (.cells #[c.name,c.je,.slice J c.fields.length L,.slice K c.methods.length N] 38))
 case first=>
  go_wp2_with fail;refine(nE _ _).mono ?_;rintro i f ⟨rfl,rfl⟩;rw[x.o];cases hs:c.je.toList.isEmpty
  . have t:jf c.je=true:=by
     have:=ah.o;rw[<-l7,hs]at this;exact this
    have C:=Zy t;clear t;go_wp2_with fail;refine(nE _ _).mono ?_;rintro i f ⟨rfl,rfl⟩;rw[C.o];go_wp2;go_meet;exact⟨rfl,rfl⟩
  . go_wp2;go_meet;exact⟨rfl,rfl⟩
 case rest =>
  obtain⟨rfl,az⟩:=hcut;rw[<-az]at T;rw[<-az]at H;subst az;generalize aN:(w.alloc (.cells #[c.name,c.je,.slice J c.fields.length L,.slice K c.methods.length N] 38))=w0 at*;clear aN;obtain⟨u,q,l,m⟩:=H.four;simp only[Tq]at q l m;go_wp2;clear u q l m;go_loopw [39] (fun B wr=>∃e:Nat,e<=c.fields.length/\B=.int .i64 e/\Ext w0 wr/\Zz (Dp c 0=Dp c e)) (fun B _=>c.fields.length - (intOf B).toNat)
  case atStart=>exact⟨0,T9 _,rfl,Kp.rr,Zy rfl⟩
  case round =>
   obtain⟨e,hk,rfl,n,j⟩:=hrel;obtain⟨u,q,l,m⟩:=(H.ext n).four;simp only[Tq]at q l m;have hz:=iV u;by_cases aa:e<c.fields.length
   . obtain ⟨d, p⟩ := get_some aa; obtain ⟨aH, aO, cs, rfl, hI, rfl,-, V⟩ := h1.get p; have ⟨G, HX, s⟩ := jr ((V.ext T).ext n) p (J8 p); clear p V; obtain ⟨P, Q, R⟩ := G.three; cases ae : jf d.name
     . have D:=Zy ae;clear ae;go_wp2_with (go_at_call 17;refine(nE _ _).mono ?_;rintro i f ⟨rfl,rfl⟩;rw[D.o]);go_ret;exact⟨hQ (by rw[r.o,j.o,s.o,D.o];simp),Zv⟩
     have D:=Zy ae;clear ae;have B1:=h9.new wr 154 #[d.name,d.kind.kind,d.kind.name];go_wp2_with fail;refine(nE _ _).mono ?_;rintro i f ⟨rfl,rfl⟩;rw[D.o];go_wp2_with fail;refine(BA d.kind).mono ?_;rintro i f ⟨rfl,S⟩;cases o:kY d.kind
     . have v:=Zy o;clear o;go_wp2;go_ret;exact⟨hQ (by rw[r.o,j.o,s.o,v.o];simp),Zv⟩
     have v:=Zy o;clear o;have r2:=S.LH l;have O:=(B1.ext S).c 0 _ rfl;have ak:Ext w0 f:=Zv;have aK:=iV O;clear P Q R u q l m;go_wp2;clear r2;obtain⟨X,rfl⟩:∃X:World,X=wr:=⟨_,rfl⟩;go_loopw [59] (fun a wi=>∃b:Nat,b<=e/\a=.int .i64 b/\Ext f wi/\Zz (∀a k,c.fields[a]?=some k->a<b->M.Field.name k≠M.Field.name d)) (fun a _=>e - (intOf a).toNat)
     case atStart=>exact⟨0,T9 _,rfl,Kp.rr,Zy (fun a k _ g=>absurd g (Ww _))⟩
     case round =>
      obtain⟨b,hq,rfl,U,E⟩:=hrel;have e0:=U.iW O;have aJ:=iV e0;by_cases ay:b<e
      . obtain⟨k,z⟩:=get_some (show b<c.fields.length by omega);obtain⟨b',aP,aI,av,-,rfl,-,W⟩:=h1.get z;cases av;obtain⟨P,Q,R⟩:=(((W.ext T).ext ak).ext U).three;have F:=Zy z;clear z W;cases h:(k.name.toList==d.name.toList)
        . have ag:=Zy h;go_wp2;go_roundw
          case rel=>
           refine⟨b+1,Zm,by go_num,kx,Zy (fun a aB A hj=>?_)⟩;by_cases ax:a<b
           . exact E a aB A ax
           . obtain rfl:a=b:=Zm
             rw[F.o]at A;cases A;rw[nU]at h;simpa using h
          case measure=>simp[intOf];omega
        . have ag:=Zy h;go_wp2;go_ret;rw[nU]at h;exact⟨hQ (by rw[r.o,j.o,s.o,IM F.o ay (by simpa using h)];simp),Zv⟩
      . obtain rfl:b=e:=Zm
        go_wp2;go_roundw
        case rel=>exact⟨b+1,Zm,by go_num,Zv,Zy (by rw[j.o,s.o,D.o,v.o,F5 E.o];rfl)⟩
        case measure=>simp[intOf];omega
   . have HM : Zz (mY c = Cj c 0) := Zy (by rw [r.o, j.o, Ma Zm]; rfl); clear j r; go_wp2; clear u q l m; have au := T.trans n; have P2 := Zy (H.ext n); clear H n T hz; obtain ⟨wl, rfl⟩ : ∃ wl : World, wl = wr := ⟨_, rfl⟩; go_loopw [73] (fun B wr => ∃ e : Nat, e <= c.methods.length /\ B = .int .i64 e /\ Ext wl wr /\ Zz (Cj c 0 = Cj c e)) (fun B _ => c.methods.length - (intOf B).toNat)
     case atStart=>exact⟨0,T9 _,rfl,Kp.rr,Zy rfl⟩
     case round =>
      clear aa hk;obtain⟨e,hk,rfl,n,j⟩:=hrel;obtain⟨u,q,l,m⟩:=(P2.ext n).four;simp only[Tq]at q l m;have hz:=iV u;by_cases aa:e<c.methods.length
      . obtain ⟨d, p⟩ := get_some aa; obtain ⟨aH, aO, cs, rfl, hI, ai,-, V⟩ := h2.get p; obtain ⟨aQ, aT, aR, aU, aS, aV, rfl⟩ := ai.form; have ⟨aG, G, HX, s⟩ := kQ (jb.stays _ _ _ _ _ _ (Ext.same (au.trans n)) (fun _ g => g) ai) ((V.ext au).ext n) p (Ka p); clear p V ai; obtain ⟨P, Q, R, g3, g4, g5, g6, g7⟩ := G.eight; have B1 := h9.new wr 113 #[d.name, .slice aQ d.args.length aT, d.ret.kind, d.ret.name, d.locals, d.stack, .slice aR d.code.length aU, .slice aS d.maps.length aV]; go_wp2_with fail; refine (Rw (jb.stays _ _ _ _ _ _ (Ext.same (jh _)) (fun _ g => g) aG)).mono ?_; rintro i f ⟨rfl, S⟩; cases o : ng d
        . have v:=Zy o;clear o;go_wp2;go_ret;exact⟨hQ (by rw[HM.o,j.o,s.o,v.o];simp),Zv⟩
        have v:=Zy o;clear o;have r3:=S.LH m;have O:=(B1.ext S).c 0 _ rfl;have ak:Ext wl f:=Zv;have aK:=iV O;clear P Q R g3 g4 g5 g6 g7 u q l m;go_wp2;clear r3;obtain⟨X,rfl⟩:∃X:World,X=wr:=⟨_,rfl⟩;go_loopw [86] (fun a wi=>∃b:Nat,b<=e/\a=.int .i64 b/\Ext f wi/\Zz (∀a k,c.methods[a]?=some k->a<b->M.Method.name k≠M.Method.name d)) (fun a _=>e - (intOf a).toNat)
        case atStart=>exact⟨0,T9 _,rfl,Kp.rr,Zy (fun a k _ g=>absurd g (Ww _))⟩
        case round =>
         obtain⟨b,hq,rfl,U,E⟩:=hrel;have e0:=U.iW O;have aJ:=iV e0;by_cases ay:b<e
         . obtain⟨k,z⟩:=get_some (show b<c.methods.length by omega);obtain⟨b',aP,aI,av,-,aC,-,W⟩:=h2.get z;obtain⟨aZ,bn,bf,bq,bg,bu,rfl⟩:=aC.form;cases av;clear aC;obtain⟨P,Q,R,g3,g4,g5,g6,g7⟩:=(((W.ext au).ext ak).ext U).eight;have F:=Zy z;clear z W;cases h:(k.name.toList==d.name.toList)
           . have ag:=Zy h;go_wp2;go_roundw
             case rel=>
              refine⟨b+1,Zm,by go_num,kx,Zy (fun a aB A hj=>?_)⟩;by_cases ax:a<b
              . exact E a aB A ax
              . obtain rfl:a=b:=Zm
                rw[F.o]at A;cases A;rw[nU]at h;simpa using h
             case measure=>simp[intOf];omega
           . have ag:=Zy h;go_wp2;go_ret;rw[nU]at h;exact⟨hQ (by rw[HM.o,j.o,s.o,IM F.o ay (by simpa using h)];simp),Zv⟩
         . obtain rfl:b=e:=Zm
           go_wp2;go_roundw
           case rel=>exact⟨b+1,Zm,by go_num,Zv,Zy (by rw[j.o,s.o,v.o,F5 E.o];rfl)⟩
           case measure=>simp[intOf];omega
      . go_wp2;go_ret;exact⟨hQ (by rw[HM.o,j.o,Mc Zm]),Zv⟩
theorem tu(b:ja w l p)(k:Int):Calls prog 19 #[some l.L,k] w fun f h=>f=.returned (.bool (has p k))/\w=h:=by
 obtain⟨i,j,g,a,c,d,e⟩:=b.cells;have m:=a w (Kp.refl _ w);clear g b a c d e;go_enter func19,ntmps19;go_wp2
 . go_ret;exact⟨hQ (by unfold has;rw[SY (p:=0<=k) Zm];rfl),rfl⟩
 . go_ret;exact⟨hQ (by unfold has;rw[RN (p:=0<=k) Zm];rfl),rfl⟩
def lenOf:Value->Nat| .slice _ n _=>n|_=>0
structure RO(p:hZ)(n:ByteArray)(k:Int)(f:Nat)(asked:List Int)(cur:Int):Prop where
 fuel:f+asked.length=5
 one:1<=asked.length
 nodup:asked.Nodup
 has:∀q∈asked,M.has p q=true
 last:asked.getLastD 0=cur
 eq:path p k n=ou p n f asked cur
theorem KI (f : ja w l p) {k: Int} {n: ByteArray} :Calls prog 140 #[some l.L,k,n] w fun d K=>(∃V,d=.returned (.tuple #[V,.int .i64 (path p k n).2])/\SliceOf 1 pR K (fun z=>w<=z) V (path p k n).1)/\Ext w K:=by
 cases B:has p k
 . have m:=Zy B;clear B;have t:=Zy f;clear f;go_enter func140,ntmps140;go_wp2_with (go_at_call 19;refine(tu t _).mono ?_;rintro d w1 ⟨rfl,rfl⟩;rw[m.o]);go_ret2;refine⟨⟨(),?_,?_⟩,Kp.rr⟩
   . unfold path;rw[m.o];rfl
   . unfold path;rw[m.o];exact SliceOf.nil _ _ _ _
 . have m := Zy B; clear B; obtain ⟨Y, ak, hs, Z, c1, c2, c3⟩ := f.cells; have U := f.Hf; have T := f.He; have t := Zy f; clear f hs; go_enter func140, ntmps140; go_wp2_with (go_at_call 19; refine (tu t _).mono ?_; rintro d w1 ⟨rfl, rfl⟩; rw [m.o]); have ae : Ext w (w.alloc (.cells #[k] 3)) := (jh _); go_loopw [1, 8] (fun O J wr => ∃ i h a, O = .int .i64 h /\ wr.ownsRow w 3 1 J a.length (a.map fun b => Value.int .i64 b) /\ Ext w wr /\ RO p n k i a h) (fun O J wr => 5 - (lenOf J))
   case atStart=>
    refine⟨4,k,[k],rfl,?_,ae,⟨rfl,by simp,by simp,by simp[m.o],rfl,?_⟩⟩
    . exact Vv (size:=1) w #[k] 1 (Tz _) (by unfold maxLen;omega) rfl
    . unfold path;rw[SV m.o]
   case round =>
    obtain⟨i,h,a,rfl,G,g,x⟩:=hrel;obtain⟨aa,cp,rfl,hg,aA,ax⟩:=jP G x.one;have d1:=c1 wr g;have d2:=c2 wr g;have D:=U wr g h n;have C:=T wr g h n;have⟨e,E⟩:=jc x G;have ag:a.length<=5:=SK x.fuel
    clear x G Z c1 c2 c3 U T;have ay:0<i:=by
     have h1:=e.fuel;have h2:=M9 e.nodup e.has;have h3:=(zy t.ok).2;omega
    obtain⟨i,rfl⟩:∃f',i=f'+1:=⟨i - 1,Zm⟩;cases c:ym p h n with
    | none =>
     rw[c]at C;simp only[Vk,VZ]at C;have y:=Zy c;clear c;have v:path p k n=if owned p ⟨h,n⟩then(a,1)else([],2):=by
      rw[e.o.eq];unfold ou;rw[y.o]
     have u:=Zy v;clear v;rw[JA]at D;cases r:owned p ⟨h,n⟩
     . rw[r]at D;have F:=Zy r;clear r;go_wp2;go_ret2;have d:path p k n=([],2):=by rw[u.o,F.o];rfl
       rw[d];exact⟨⟨(),rfl,SliceOf.nil _ _ _ _⟩,g⟩
     . rw[r]at D;have F:=Zy r;clear r;go_wp2;go_ret2;have d:path p k n=(a,1):=by rw[u.o,F.o];rfl
       rw[d];exact⟨⟨_,rfl,SliceOf.l5 (fun b=>[Value.int .i64 b]) E rfl (Ji) (fun _ _=>rfl) (fun _ _=>rfl) (fun z o _=>o) (TD ag Zm)⟩,g⟩
    | some next =>
     rw[c]at C;simp only[U7,VY]at C;have y:=Zy c;clear c D;have v:path p k n=if a.contains next then([],3)else ou p n i (a++[next]) next:=by
      rw[e.o.eq];conv=>lhs;unfold ou
      rw[y.o]
     have u:=Zy v;clear v;go_wp2;go_loop [36] (fun I=>∃b:Nat,b<=a.length/\I=.int .i64 b/\Zz (∀j s,a[j]?=some s->j<b->s≠next)) (fun I=>a.length - (intOf I).toNat)
     case atStart=>exact⟨0,T9 _,rfl,Zy (fun _ _ _ f=>absurd f (Ww _))⟩
     case round =>
      obtain⟨b,c,rfl,L⟩:=hrel;by_cases ah:b<a.length
      . obtain⟨s,H⟩:=get_some ah;have av:wr.cell? (aa,b)=some (.int .i64 s):=by
         rw[E.o.cellAt b Zm];simp[H]
        have N:=Zy H;clear H;by_cases S:s=next
        . subst S;go_wp2;go_ret2;have A:a.contains s=true:=by simp[Sy N.o]
          have d:path p k n=([],3):=by rw[u.o,SV A]
          rw[d];exact⟨⟨(),rfl,SliceOf.nil _ _ _ _⟩,g⟩
        . go_wp2;go_round
          case rel=>
           refine⟨b+1,Zm,by go_num,Zy (fun j aj q aC=>?_)⟩;by_cases af:j<b
           . exact L j aj q af
           . obtain rfl:j=b:=Zm
             rw[N.o]at q;cases q;exact S
          case measure=>simp[intOf];omega
      . go_wp2_with (at_builtin;refine sO Dz _ rfl _ _ rfl w _ _ _ rfl (E.alloc _) wr 1 [next] rfl rfl ?c1 ?c2 ?c3 ?c4 ?_)
        case c1=>exact hH.Eo (h9.new _ _ _) _ rfl
        case c2=>simp[Value.oneCell']
        case c3=>omega
        case c4=>have:=g.size;simp;omega
        obtain rfl:b=a.length:=Zm
        intro v' K R P g1 au ai az aB;subst ai;have X:=Zy R;have W:=Zy P;clear R P;go_wp2;go_roundw
        case rel =>
         refine⟨i,next,a++[next],rfl,by simpa using X.o,?_,?_⟩
         . refine(g.alloc _).own W ?_;intro z o;simp only[Value.ownBlock,TF]at o;omega
         . have A:a.contains next=false:=by
            cases Q:a.contains next
            . rfl
            . rw[UO]at Q;obtain⟨j,q⟩:=VN.1 Q;exact absurd rfl (L.o j next q (Tv.1 q).1)
           refine⟨by have:=e.fuel;simp;omega,by simp,?_,?_,by simp,by rw[u.o,A];rfl⟩
           . rw[List.nodup_append];refine⟨e.nodup,by simp,fun Y ha z o d=>?_⟩;simp only[TU]at o;subst o d;have:=UO.2 ha;rw[A]at this;cases this
           . intro b c;rcases Ty.1 c with c|c
             . exact e.has b c
             . rw[TU]at c;subst c;exact Kw t.ok y
        case measure=>have:=e.fuel;simp[lenOf];omega
theorem Ni{k:Int}{n:ByteArray}(a:(path p k n).2=1):(path p k n).1≠[]:=by
 have e:∀c (b:List Int) k,b≠[]->(ou p n c b k).2=1->(ou p n c b k).1≠[]:=by
  intro c;induction c with
  |zero=>intro b k _ a;simp[ou]at a
  |succ c i=>
   intro b k g a;unfold ou at a |-;split at a
   . split at a
     . rename_i f d;simp[d,g]
     . simp at a
   . rename_i next f
     split at a
     . simp at a
     . rename_i d;rw[SX d];exact i _ _ Zl a
 unfold path at a |-;split at a
 . rename_i h;rw[SV h];exact e _ _ _ Zl a
 . simp at a
theorem zT(o:ja w l p){k:Int}{n:ByteArray}:Calls prog 92 #[some l.L,k,n] w fun j D=>j=.returned (.tuple #[.agg #[.int .i64 (M.resolve p k n).1.keeper,.string (M.resolve p k n).1.name],.int .i64 (M.resolve p k n).2])/\Ext w D:=by
 have t:=Zy (o.ext ((Kp.refl _ w).alloc (.cells #[SS, ""] 64)));clear o;have x:=h9.new w 64 #[SS, ""];have I:Ext w (w.alloc (.cells #[SS, ""] 64)):=(jh _);go_enter func92,ntmps92;go_wp2_with fail;refine(KI t).mono ?_;rintro j O ⟨⟨v,rfl,b⟩,A⟩;have g:=x.ext A;obtain⟨-,h,i,-⟩:=g.ca;obtain⟨G,H,-⟩:=g.fz;by_cases a:(path p k n).2=1
 . have r:=Ni a;obtain⟨u,y,e,C,B⟩:=b.form;subst e;have L:=Vi.2 r;obtain⟨s,f⟩:=get_some (l:=(path p k n).1) (k:=(path p k n).1.length - 1) Zm;obtain⟨E,N,F,rfl,J,rfl,-,q⟩:=b.get f;have z:=q.one;rw[V6]at z;have d:Zz (M.resolve p k n=(⟨s,n⟩,1)):=Zy (by
    unfold M.resolve;rw[SV a,List.getLastD_eq_getLast?,List.getLast?_eq_getElem?,f];rfl)
   rw[a];clear f b r q a;generalize (path p k n).1.length=m at*;go_wp2;refine Px (v:=.tuple #[.agg #[s,n],.int .i64 1]) (by simp[results,results92,go_sem,h,i]) rfl ?_;exact⟨by rw[d.o],Zw⟩
 . have d:Zz (M.resolve p k n=(vV,(path p k n).2)):=Zy (by unfold M.resolve;rw[SX a]);have K:=SI.2 a;obtain⟨u,y,e,C,B⟩:=b.form;subst e;clear b a;generalize (path p k n).2=c at*;generalize (path p k n).1.length=m at*;go_wp2;refine Px (v:=.tuple #[.agg #[SS, ""],c]) (by simp[results,results92,go_sem,h,i]) rfl ?_;exact⟨by rw[d.o];rfl,Zw⟩
theorem oK{P:Program}{Q:Exit->Act->World->Prop}{id:Nat}{l:List Oper}{a:Act}(n:Nat)(e:P.follows .mixedOrders=true)(d:Region.lexTailB .any l.toArray n=true)(c:wpStill P l.toArray w.drew (fun b=>wpList P l.toArray Q (l.drop n) b w.drew) (l.take n) a):(Code.region id l.toArray true).wp P Q a w:=wp_region_still_tail n e d c
theorem rQ(l:iZ)(p:hZ)(a:ja w l p)(k:Int)(n:ByteArray)(c:Class)(h:cls? p ⟨k,n⟩=some c):Calls prog 74 #[some l.L,.agg #[k,n]] w fun E N=>(∃f,jB w (· <l.O) c f/\E=.returned (.agg f.toArray))/\Ext w N:=by
 obtain⟨K,J,e,r,u,ai⟩:=Br h;obtain⟨d,s⟩:=Dc h;simp only at d s;obtain⟨k,rfl⟩:=Int.eq_ofNat_of_zero_le d;have t:p[k]?=some K:=by
  unfold lF at e;rw[SV d]at e;exact e
 obtain⟨S,W,v,j,m,C,D⟩:=a.cells;have y:=a.OY;obtain⟨U,av,f,rfl,hI,I,-,o⟩:=v.get t;obtain⟨vo,va,rfl,i,L⟩:=I;obtain⟨T,X,rfl,ak,ah⟩:=i.form;obtain⟨V,ax,Y,rfl,aa,g,-,q⟩:=i.get u;obtain⟨O,Q,P,R,rfl⟩:=g.form;obtain⟨G,g1⟩:=o.two;obtain⟨F,e1,e2,e3⟩:=q.four;have x:∀b,Ext w b->(Instr.lookup 97 (.map (some l.O)) (.agg #[.int .i64 (k:Int),n]) false).run prog b=.ok J b:=by
  intro b H;rw[y b H,r];rfl
 have au:(p.length:Int)<=3:=SK ((zy a.ok).2)
 have l2:=fun(A B:Obj)=>x _ ((((Kp.refl _ w).alloc A).alloc B).drew);clear x;have z:=Zy g;have af:=iV G;have ag:=iV F;have ae:=a.lt;have Z:=j _ (Kp.refl _ w);have d1:=m _ (Kp.refl _ w);have hO:=a.ord;clear y g v i L o q j m C D t u e r h a;have aj:k<p.length:=Zm
 clear d s;go_enter func74,ntmps74;go_wp2;refine oK 17 Zo Zo ?_;(simp only[Us,UT,Ur,UI]);(repeat still_step);refine Vz ?_;go_wp2;refine Px (v:=.agg #[c.name,c.je,.slice O c.fields.length Q,.slice P c.methods.length R]) (by simp[results,results74,go_sem]) rfl ?_;exact⟨⟨_,z,rfl⟩,kx⟩
end Go.Proofs.YtenhnldnpdlniaaGreat
