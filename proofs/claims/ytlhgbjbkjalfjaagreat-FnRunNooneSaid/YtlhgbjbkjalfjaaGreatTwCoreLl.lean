/- Walks. -/
import Derived.Test.YtlhgbjbkjalfjaaGreatTwCoreLi
set_option maxRecDepth 100000
set_option maxHeartbeats 4000000
set_option linter.all false
namespace Go.Proofs.YtlhgbjbkjalfjaaGreat
open Go Go.RowKit Tryz M
variable {b i j k: Nat}{D I: Nat->Prop}{r: Ref}{α: Type}{W a c w: World}{p: iZ}{l: jk}{Q: mD}
theorem SliceOf.drop{R:lZ α}{c n a: Nat}{xs:List α}(h:SliceOf k R w I (.slice (some ⟨b,c,none⟩) n a) xs){i:Nat}(x:i<=xs.length):SliceOf k R w I (.slice (some ⟨b,c+i*k,none⟩) (xs.length - i) (a - i)) (xs.drop i):=by
 obtain⟨r,t,f,u,v,j⟩:=h;cases f;refine⟨some ⟨b,c+i*k,none⟩,a - i,by rw[Ui],by rw[Ui];omega,by rw[Ui];omega,fun y q d=>?_⟩;rw[UD]at d;obtain⟨s,z,e,g,l,p,o,m⟩:=j _ q d;cases g;refine⟨b,_,e,rfl,l,p,o,?_⟩;rw[Ue,<-Nat.add_mul];exact m
theorem oM{xs:List α}{x:α}(b:xs[k]?=some x):xs.drop k=x::xs.drop (k+1):=by
 obtain⟨a,rfl⟩:=Tw.1 b;exact Vy a
theorem xx (B : ji w l p) {I: Nat -> Prop} {v: Value} {xs: List Ref} (q : SliceOf 2 xI w I v xs) (J : ∀ e ∈ xs, ∃ o, cls? p e = some o) :Calls prog 96 #[some l.L,v] w fun A w'=>A=.returned (.bool (mH p xs))/\Ext w w':=by
 have L:=Zy B;clear B;have u:=Zy J;clear J;obtain⟨ai,z,rfl,hn,au⟩:=q.form;go_enter func96,ntmps96;go_wp2;go_loopw [11] (fun i wr=>∃k:Nat,k<=xs.length/\i=.int .i64 k/\Ext w wr/\Zz (mH p xs=mH p (xs.drop k))) (fun i _=>xs.length - (intOf i).toNat)
 case atStart=>exact⟨0,SV _,rfl,Kp.rr,Zy rfl⟩
 case round =>
  obtain⟨k,hk,rfl,Y,s⟩:=hrel;by_cases aa:k<xs.length
  . obtain ⟨a, d⟩ := get_some aa; obtain ⟨T, af, cs, rfl, hI, rfl,-, D⟩ := q.get d; obtain ⟨W, X⟩ := (D.ext Y).two; have HX := Zy d; have ax : (0 : Int) <= (k : Int) + 1 := by omega
    have ay:(k:Int)+1<=xs.length:=Zm
    have az:(xs.length:Int)<=z:=Zm
    have g:Zz (mH p xs=((xs.drop (k+1)).all (pQ p a)&&mH p (xs.drop (k+1)))):=Zy (by
     rw[s.o,oM d];rfl)
    obtain⟨cx,F⟩:=u.o a (RA d);have O:=Zy F;clear d D F;by_cases av:z=k+1
    . have hz:xs.length - (k+1)=0:=Zm
      have ae:Zz (xs.drop (k+1)=[]):=Zy (U4 Zm);go_wp2;go_loopw [21] (fun i r=>i=.int .i64 0/\Ext wr r) (fun i _=>0)
      case atStart=>exact⟨rfl,kx⟩
      case round=>
       obtain⟨rfl,h⟩:=hrel;go_wp2;go_roundw
       case rel=>exact⟨k+1,Zm,by go_num,Zv,Zy (by rw[g.o,ae.o];rfl)⟩
       case measure=>simp[intOf];omega
    . have sd := q.drop (i := k + 1) Zm; have H : (xs.drop (k + 1)).length = xs.length - (k + 1) := Ui; have S : Zz (∀ e ∈ xs.drop (k + 1), ∃ o, cls? p e = some o) := Zy (fun e hr => u.o e (Vv hr)); have ah : Zz (mH p xs = ((xs.drop (k + 1)).all (pQ p a) && mH p (xs.drop (k + 1)))) := g; obtain ⟨c, rfl⟩ : ∃ c : World, c = wr := ⟨_, rfl⟩; go_wp2; have V := hZ.new c 60 #[a.keeper, a.name]; have C : Ext w (c.alloc (.cells #[a.keeper, a.name] 60)) := kx; have R := Zy (L.ext C); have aA : (c.alloc (.cells #[a.keeper, a.name] 60)).heap.size = c + 1 := by simp
      go_loopw [21] (fun i r=>∃b:Nat,b<=xs.length - (k+1)/\i=.int .i64 b/\Ext (c.alloc (.cells #[a.keeper,a.name] 60)) r/\Zz (((xs.drop (k+1)).take b).all (pQ p a)=true)) (fun i _=>xs.length - (k+1) - (intOf i).toNat)
      case atStart=>exact⟨0,SV _,rfl,Kp.rr,Zy Zl⟩
      case round =>
       obtain⟨b,hj,rfl,h,t⟩:=hrel;by_cases Z:b<xs.length - (k+1)
       . obtain⟨f,m⟩:=get_some (l:=xs.drop (k+1)) (k:=b) (by rw[H];exact Z);obtain⟨U,ag,aj,j,ak,rfl,-,E⟩:=sd.get m;obtain⟨rfl,rfl⟩:U=T/\ag=af+(k+1)*2:=by simp only[TT,Addr.mk.injEq,UF]at j;exact⟨j.1.symm,j.2.symm⟩
         obtain⟨q0,q1⟩:=(E.ext (C.trans h)).two;have y:=V.ext h;obtain⟨zx,x0,x1,-⟩:=y.ca;obtain⟨cy,G⟩:=S.o f (RA m);have⟨P,x,Q⟩:=jB G m ((R.ext h).ext (jw (.cells #[f.keeper,f.name] 60)));clear E j y G m W X;cases K:pQ p a f
         all_goals
          have n:=Zy K;clear K;go_wp2_with fail;refine(DV Q a f O P).mono ?_;rintro A w1 ⟨rfl,hB⟩;rw[n.o];go_wp2
         . go_ret;exact⟨hQ (by rw[g.o,rM x.o n.o];rfl),Zv⟩
         . go_roundw
           case rel=>exact⟨b+1,Zm,by go_num,Zv,Zy (all_succ t.o x.o n.o)⟩
           case measure=>simp[intOf];omega
       . have N:=Zy (qg t (by rw[H];omega));go_wp2;go_roundw
         case rel=>exact⟨k+1,Zm,by go_num,Zv,Zy (by rw[g.o,N.o];rfl)⟩
         case measure=>simp[intOf];omega
  . go_wp2;go_ret;exact⟨hQ (by rw[s.o,U4 Zm];rfl),kx⟩
theorem ES:∀(f:Nat) (r:Ref) (c:List Ref),ky p f r=some c->(∃d,cls? p r=some d)->∀g∈c,∃d,cls? p g=some d:=by
 intro f;induction f with
 |zero=>intro r c a;simp[ky]at a
 |succ f j=>
  intro r c a h g b;unfold ky at a;split at a
  . cases a;simp at b;subst b;exact h
  . split at a
    . rename_i i;cases e:ky p f (M.resolve p r.keeper (jl p r)).1 with
      |none=>rw[e]at a;simp at a
      |some k=>
       rw[e]at a;simp at a;subst a;rcases Ud.1 b with rfl|b
       . exact h
       . exact j _ _ e (l8 i) g b
    . cases a
theorem DU(a:nT p r=true):∃c,cls? p r=some c:=by
 unfold nT find at a;by_cases b:(M.resolve p r.keeper r.name).2=1
 . rw[Tv b]at a;split at a
   . simp at a;rw[<-a];exact l8 b
   . simp at a
 . rw[Tt b]at a;simp at a;exact absurd a.1 b
theorem ng:∀c∈chain p r,∃d,cls? p c=some d:=by
 intro c a;unfold chain at a;split at a
 . rename_i e;cases b:uC p r with
   |none=>rw[b]at a;simp at a
   |some f=>
    rw[b]at a;exact ES 6 r f b (DU e) c (by simpa using a)
 . simp at a
theorem ji.PZ{f: World}(a:ji w l p)(c:Kp (·=l.D) w f)(n:∃b,kE f l.D b/\∀h i j,look b (h,i)=some j->j=if ko p ⟨h,i⟩then 1 else 2):ji f l p:=by
 obtain⟨s,t,u⟩:=a.ord;refine⟨a.ok,a.ord,?_,?_,?_,n⟩
 . obtain⟨k,m,g,o⟩:=a.blk;exact⟨k,m,g.kp c Zm,o.keep ja.stays (Kp.same c fun q g r=>Zm) fun _ a=>a⟩
 . obtain⟨b,d,e⟩:=a.own;exact⟨b,d.kp c Zm,e⟩
 . obtain⟨b,d,e⟩:=a.ask;exact⟨b,d.kp c Zm,e⟩
theorem mU(h:ji w l p)(r:Ref):Calls prog 53 #[some l.L,.agg #[r.keeper,r.name]] w fun y Y=>y=.returned (.bool (ko p r))/\ji Y l p/\Kp (·=l.D) w Y:=by
 obtain⟨u,s,q⟩:=h.laid;have z:Ext w (w.alloc (.cells #[r.keeper,r.name] 60)).drew:=kx;have t:=wV (s.kp z fun a=>a) r.keeper r.name;obtain⟨au,av,f,c0,c1,c2,x⟩:=h.cells;have R:=x _ (Kp.refl _ w);have aB:=jc R;have⟨D,aa⟩:=jf h (h.ext z);have O:=(hZ.new w 60 #[r.keeper,r.name]);clear f c0 c1 c2 h;cases m:look u (r.keeper,r.name)with
 | some L =>
  have g:=q _ _ _ m;rw[m]at t;simp only[Vp]at t;have d:=Zy (Tn s q);clear s q m x;cases I:ko p r
  all_goals
   have S:ko p ⟨r.keeper,r.name⟩=_:=I;rw[S]at g;have HC:=Zy I;clear I S;simp at g;subst g;go_enter func53,ntmps53;go_wp2;refine oG 6 Zo Zo ?_;(simp only[Us,UJ,Uh,UB]);(repeat still_step);refine Vo ?_;go_wp2;go_ret;exact⟨rfl,D.ext kx |> fun h=>h,(kx:Ext w _).any⟩
 | none =>
  rw[m]at t;simp only[Ve]at t;have⟨d,E⟩:=jf (Tn s (Tn q m)) x;clear s q m x;go_enter func53,ntmps53;go_wp2;refine oG 6 Zo Zo ?_;(simp only[Us,UJ,Uh,UB]);(repeat still_step);refine Vo ?_;go_wp2_with fail;refine(q9 aa _).mono ?_;rintro y w1 ⟨⟨L,rfl,f⟩,H⟩;obtain⟨a',ax,rfl,hn,ay⟩:=f.form;have e:=z.trans H;have Q:=E.o _ e;have⟨N,ae⟩:=jf (D.ext e) (d.1.kp e fun a=>a);have P:=((O.ext (jg)).ext H);obtain⟨W,q0,q1,-⟩:=P.ca;have J:Zz (ko p r=(!(chain p r).isEmpty&&mH p (chain p r))):=Zy rfl;have T:Zz (∀a∈chain p r,∃af,cls? p a=some af):=Zy ng;have j:Zz (∀G v,Ext w G->kE v l.D (u++[((r.keeper,r.name),if ko p r then 1 else 2)])->Kp (·=l.D) G v->ji v l p):=Zy (fun G v hW ai ag=>(D.ext hW).PZ ag ⟨_,ai,fun V X L g=>by
   by_cases A:((V,X):Key)=(r.keeper,r.name)
   . rw[A,uG d.o.2.2]at g;cases g;simp only[Wp]at A;obtain⟨rfl,rfl⟩:=A;rfl
   . rw[tF A]at g;exact d.2.1 V X L g⟩)
  clear H O P t R z;generalize chain p r=xs at*;cases xs with
  |nil=>
   have c:ko p r=false:=J.o;rw[c]at j;have n:=Zy c;clear c;clear f;go_wp2;refine oG 5 Zo Zo ?_;(simp only[Us,UJ,Uh,UB]);(repeat still_step);refine Vo ?_;refine lW rfl rfl l.D u r.keeper r.name 2 rfl rfl rfl (ae.kp ((Kp.refl (fun _=>False) _).drew) fun a=>a) d.2.2 ?_;intro Z aj U aA;go_wp2;go_ret;exact⟨hQ n.symm,j _ _ ((e).drew) aj U,((e.drew).any:Kp (·=l.D) w _).trans U⟩
  |cons B C=>
   have ah:((B::C).length:Int)≠0:=by simp;omega
   have az:=SF.2 ah;cases k:mH p (B::C)
   . have c:ko p r=false:=by rw[J.o,k];rfl
     rw[c]at j;have⟨n,F⟩:=jf c k;clear c k;generalize (B::C)=xs at*;go_wp2_with fail;refine(xx N f T).mono ?_;rintro y Z ⟨rfl,b⟩;rw[F.o];have d2:=E.o _ (e.trans b);have p0:=b.je q0;have p1:=b.je q1;have i:=e.trans b;clear q0 q1 Q b W f;go_wp2;refine oG 5 Zo Zo ?_;(simp only[Us,UJ,Uh,UB]);(repeat still_step);refine Vo ?_;refine lW rfl rfl l.D u r.keeper r.name 2 rfl rfl rfl ((d.1.kp i fun a=>a).kp ((Kp.refl (fun _=>False) _).drew) fun a=>a) d.2.2 ?_;intro w3 K o ak;go_wp2;go_ret;exact⟨hQ n.symm,j _ _ ((i).drew) K o,((i.drew).any:Kp (·=l.D) w _).trans o⟩
   . have c:ko p r=true:=by rw[J.o,k];rfl
     rw[c]at j;have⟨n,F⟩:=jf c k;clear c k;generalize (B::C)=xs at*;go_wp2_with fail;refine(xx N f T).mono ?_;rintro y Z ⟨rfl,b⟩;rw[F.o];have d2:=E.o _ (e.trans b);have p0:=b.je q0;have p1:=b.je q1;have i:=e.trans b;clear q0 q1 Q b W f;go_wp2;refine oG 5 Zo Zo ?_;(simp only[Us,UJ,Uh,UB]);(repeat still_step);refine Vo ?_;refine lW rfl rfl l.D u r.keeper r.name 1 rfl rfl rfl ((d.1.kp i fun a=>a).kp ((Kp.refl (fun _=>False) _).drew) fun a=>a) d.2.2 ?_;intro w3 K o ak;go_wp2;go_ret;exact⟨hQ n.symm,j _ _ ((i).drew) K o,((i.drew).any:Kp (·=l.D) w _).trans o⟩
def xG(p:iZ)(k i:Nat)(q:Int)(s:ByteArray):Option Int:=
 if q<k then(vZ p ⟨q,s⟩).map Int.ofNat else if q=k then((p[k]?).bind fun Q=>(Q.owns.take i).findIdx? fun c=>decide (c.name=s)).map Int.ofNat else none
def xE(p:iZ)(k i:Nat)(q:Int)(s:ByteArray):Option Int:=
 if q<k then zK p q s else if q=k then((p[k]?).bind fun Q=>((Q.asks.take i).find? fun a=>decide (a.name=s)).map M.Ask.keeper)else none
theorem Dx(p:iZ)(k:Nat):pW p (k:Int)=p[k]?:=by
 unfold pW;rw[Tv Zm];rfl
theorem wM{q:Int}(a:q<0\/(p.length:Int)<=q):pW p q=none:=by
 unfold pW;split
 . rw[List.getElem?_eq_none_iff];omega
 . rfl
theorem Oe(p:iZ)(q:Int)(s:ByteArray):xG p 0 0 q s=none:=by
 unfold xG;split
 . unfold vZ;rw[wM (.inl (by simpa using ‹q<((0:Nat):Int)›))];rfl
 . split
   . simp
   . rfl
theorem M0(p:iZ)(q:Int)(s:ByteArray):xE p 0 0 q s=none:=by
 unfold xE;split
 . unfold zK;rw[wM (.inl (by simpa using ‹q<((0:Nat):Int)›))];rfl
 . split
   . simp
   . rfl
theorem Od{c:Class}(j:p[k]?=some Q)(g:Q.owns[i]?=some c)(f:xG p k i k c.name=none)(q:Int)(s:ByteArray):xG p k (i+1) q s=if q=k/\s=c.name then some (i:Int)else xG p k i q s:=by
 have l:=(Tw.1 g).1;unfold xG at*;rw[j]at f |-;simp only[Int.lt_irrefl,TA,U2,UM]at f |-;by_cases d:q<k
 . rw[Tv d,Tv d,Tt Zm]
 . rw [Tt d, Tt d]; by_cases a : q = k
   . rw[Tv a,Tv a,TQ,g];simp only[Wt,List.findIdx?_append,Tj,U5 (VL l)];by_cases e:s=c.name
     . subst e;rw[Tv ⟨a,rfl⟩];have:(Q.owns.take i).findIdx? (fun m=>decide (m.name=c.name))=none:=by simpa using f
       rw[this];simp[VY]
     . rw[Tt (fun b=>e b.2)];have h:¬c.name=s:=fun b=>e b.symm;simp[VY,h]
   . rw[Tt a,Tt a,Tt (fun b=>a b.1)]
theorem MZ{a:M.Ask}(h:p[k]?=some Q)(j:Q.asks[i]?=some a)(f:xE p k i k a.name=none)(q:Int)(s:ByteArray):xE p k (i+1) q s=if q=k/\s=a.name then some a.keeper else xE p k i q s:=by
 unfold xE at*;rw[h]at f |-;simp only[Int.lt_irrefl,TA,U2,UM]at f |-;by_cases d:q<k
 . rw[Tv d,Tv d,Tt Zm]
 . rw [Tt d, Tt d]; by_cases b : q = k
   . rw[Tv b,Tv b,TQ,j];simp only[Wt,Vk];by_cases e:s=a.name
     . subst e;rw[Tv ⟨b,rfl⟩];have:(Q.asks.take i).find? (fun l=>decide (l.name=a.name))=none:=by simpa using f
       rw[this];simp
     . rw[Tt (fun c=>e c.2)];have g:¬a.name=s:=fun c=>e c.symm;simp[g]
   . rw[Tt b,Tt b,Tt (fun c=>b c.1)]
theorem PQ(c:p[k]?=some Q)(q:Int)(s:ByteArray):xG p (k+1) 0 q s=xG p k Q.owns.length q s:=by
 unfold xG;by_cases a:q<k
 . rw[Tv Zm,Tv a]
 . by_cases b:q=k
   . subst b;rw[Tv Zm,Tt a,Tv rfl,c];unfold vZ;rw[Dx,c,UM,UM,TV (T9 _)]
   . rw[Tt Zm,Tt a,Tt b];split
     . cases p[k+1]?<;>simp
     . rfl
theorem O5(c:p[k]?=some Q)(q:Int)(s:ByteArray):xE p (k+1) 0 q s=xE p k Q.asks.length q s:=by
 unfold xE;by_cases a:q<k
 . rw[Tv Zm,Tv a]
 . by_cases b:q=k
   . subst b;rw[Tv Zm,Tt a,Tv rfl,c];unfold zK;rw[Dx,c,UM,UM,TV (T9 _)]
   . rw[Tt Zm,Tt a,Tt b];split
     . cases p[k+1]?<;>simp
     . rfl
theorem PN(p:iZ)(q:Int)(s:ByteArray):xG p p.length 0 q s=(vZ p ⟨q,s⟩).map Int.ofNat:=by
 unfold xG;by_cases a:q<p.length
 . rw[Tv a]
 . rw[Tt a];unfold vZ;rw[wM (.inr (by show(p.length:Int)<=q;omega))];split
   . simp
   . rfl
theorem O4(p:iZ)(q:Int)(s:ByteArray):xE p p.length 0 q s=zK p q s:=by
 unfold xE;by_cases a:q<p.length
 . rw[Tv a]
 . rw[Tt a];unfold zK;rw[wM (.inr (by show(p.length:Int)<=q;omega))];split
   . simp
   . rfl
theorem FV{m:List (Key×Int)}{f g:Int->ByteArray->Option Int}{k v:Int}{n:ByteArray}(d:∀a b,look m (a,b)=f a b)(i:f k n=none)(h:∀a b,g a b=if a=k/\b=n then some v else f a b):∀a b,look (m++[((k,n),v)]) (a,b)=g a b:=by
 intro a b;rw[h];by_cases c:a=k/\b=n
 . obtain⟨rfl,rfl⟩:=c;rw[Tv ⟨rfl,rfl⟩,uG (by rw[d];exact i)]
 . rw[Tt c,tF (fun e=>c (by simpa using e)),d]
structure nK(w:World)(l:jk)(p:iZ)(k i j:Nat):Prop where
 ord:l.O<l.A/\l.A<l.D/\l.D<l.L
 blk:∃a cap,hZ w l.L 118 #[.slice a p.length cap,.map (some l.O),.map (some l.A),.map (some l.D)]/\SliceOf 2 ja w (· <l.O) (.slice a p.length cap) p
 own:∃m,kE w l.O m/\∀q s,look m (q,s)=xG p k i q s
 ask:∃m,kE w l.A m/\∀q s,look m (q,s)=xE p k j q s
 laid:kE w l.D []
theorem nK.ext{d: World}(a:nK w l p k i j)(b:Ext w d):nK d l p k i j:=by
 obtain⟨e,f,o,q⟩:=a.blk;obtain⟨r,m,g⟩:=a.own;obtain⟨s,n,h⟩:=a.ask;exact⟨a.ord,⟨e,f,o.ext b,q.ext ja.stays b⟩,⟨r,m.kp b fun c=>c,g⟩,⟨s,n.kp b fun c=>c,h⟩,a.laid.kp b fun c=>c⟩
theorem nK.Ru{e: Nat}(a:nK w l p k i j)(b:Kp (·=l.O) w c)(r:∃f,kE c l.O f/\∀g h,look f (g,h)=xG p k e g h):nK c l p k e j:=by
 obtain⟨x,y,z⟩:=a.ord;obtain⟨m,n,d,s⟩:=a.blk;obtain⟨t,q,o⟩:=a.ask;exact⟨a.ord,⟨m,n,d.kp b Zm,s.keep ja.stays (Kp.same b fun u d v=>Zm) fun _ a=>a⟩,r,⟨t,q.kp b Zm,o⟩,a.laid.kp b Zm⟩
theorem nK.Rt{e: Nat}(a:nK w l p k i j)(b:Kp (·=l.A) w c)(r:∃f,kE c l.A f/\∀g h,look f (g,h)=xE p k e g h):nK c l p k i e:=by
 obtain⟨x,y,z⟩:=a.ord;obtain⟨m,n,d,s⟩:=a.blk;obtain⟨t,q,o⟩:=a.own;exact⟨a.ord,⟨m,n,d.kp b Zm,s.keep ja.stays (Kp.same b fun u d v=>Zm) fun _ a=>a⟩,⟨t,q.kp b Zm,o⟩,r,a.laid.kp b Zm⟩
theorem nK.done(c:nK w l p p.length 0 0)(h:kQ p=true):ji w l p:=by
 obtain⟨j,f,d⟩:=c.own;obtain⟨k,g,e⟩:=c.ask;exact⟨h,c.ord,c.blk,⟨j,f,fun a b=>(d a b).trans (PN p a b)⟩,⟨k,g,fun a b=>(e a b).trans (O4 p a b)⟩,⟨[],c.laid,fun a b m i=>by cases i⟩⟩
theorem nK.next(a:nK w l p k Q.owns.length Q.asks.length)(d:p[k]?=some Q):nK w l p (k+1) 0 0:=by
 obtain⟨i,g,e⟩:=a.own;obtain⟨j,h,f⟩:=a.ask;exact⟨a.ord,a.blk,⟨i,g,fun b c=>(e b c).trans (PQ d b c).symm⟩,⟨j,h,fun b c=>(f b c).trans (O5 d b c).symm⟩,a.laid⟩
theorem xZ{a:Option Addr}{n c:Nat}(f:w.cell? b=some (.slice a n c)){k:Int}:Calls prog 41 #[some b,k] w fun d e=>d=.returned (.bool (decide (0<=k)&&decide (k<n)))/\w=e:=by
 go_enter func41,ntmps41;go_wp2
 . go_ret;exact⟨hQ (by rw[Tz (p:=0<=k) Zm];rfl),rfl⟩
 . go_ret;exact⟨hQ (by rw[SL (p:=0<=k) Zm];rfl),rfl⟩
theorem nK.GK(b:nK w l p k i j)(q:Int)(s:ByteArray):(Instr.lookup 116 (.map (some l.O)) (.agg #[q,s]) true).run prog w=.ok (.tuple #[.int .i64 ((xG p k i q s).getD 0),.bool (xG p k i q s).isSome]) w:=by
 obtain⟨d,c,a⟩:=b.own;rw[oK c,a]
theorem nK.GJ(b:nK w l p k i j)(q:Int)(s:ByteArray):(Instr.lookup 116 (.map (some l.A)) (.agg #[q,s]) true).run prog w=.ok (.tuple #[.int .i64 ((xE p k j q s).getD 0),.bool (xE p k j q s).isSome]) w:=by
 obtain⟨d,c,a⟩:=b.ask;rw[oK c,a]
theorem IJ(a:p[k]?=some Q)(s:ByteArray):(xG p k i k s).isSome=(((Q.owns.take i).map Class.name).any fun b=>decide (b=s)):=by
 unfold xG;rw[Tt Zm,Tv rfl,a,UM,VK,Vh,Wh];rfl
theorem Ht(a:p[k]?=some Q)(s:ByteArray):(xE p k i k s).isSome=(((Q.asks.take i).map M.Ask.name).any fun b=>decide (b=s)):=by
 unfold xE;rw[Tt Zm,Tv rfl,a,UM,VK,Wh,UI,Wq];simp
theorem Cg{name:α->ByteArray}{ok:α->Bool}{l:List α}{x:α}(a:l[i]?=some x):kW name ok (l.drop i) ((l.take i).map name)=(ok x&& !(((l.take i).map name).any fun b=>decide (b=name x))&&kW name ok (l.drop (i+1)) ((l.take (i+1)).map name)):=by
 rw[oM a,TQ,a];simp only[kW,Wt,TB,UU,VR]
abbrev Ry(l:jk):Nat->Prop:=fun b=>b=l.O\/b=l.A
theorem Ih (L : p[k]? = some Q) (X : nK w l p k 0 0) :Calls prog 48 #[some l.L,k] w fun a w'=>a=.returned (.bool (lF p Q))/\Kp (Ry l) w w'/\(lF p Q=true->nK w' l p (k+1) 0 0):=by
 obtain⟨d,aM,hb,hs⟩:=X.blk;obtain⟨aA,aZ,cs,rfl,hI,aG,-,hc⟩:=hs.get L;obtain⟨vo,va,rfl,s1,s2⟩:=aG;obtain⟨S,V,rfl,aT,aS⟩:=s1.form;obtain⟨T,W,rfl,aU,N⟩:=s2.form;obtain⟨g0,g1⟩:=hc.two;have aP:=(Tw.1 L).1;obtain⟨aX,d0,-⟩:=hb.ca;have⟨H0,v⟩:=jf X L;have t:Ext w (w.alloc (.cells #[.slice S Q.owns.length V,.slice T Q.asks.length W] 145)):=(jw _);have bK:=hZ.new w 145 #[.slice S Q.owns.length V,.slice T Q.asks.length W];clear X L hc;have G:Zz (lF p Q=(decide (Q.owns.length<=5)&&decide (Q.asks.length<=4)&&kW Class.name rP Q.owns []&&kW M.Ask.name (fun d=>jJ d.name&&has p d.keeper) Q.asks [])):=Zy rfl;by_cases aQ:5<Q.owns.length
 . have hF:Zz (lF p Q=false):=Zy (by rw[G.o,SL (p:=Q.owns.length<=5) Zm];rfl);go_enter func48,ntmps48;go_wp2;go_ret;exact⟨hQ hF.symm,t.any,fun a=>by rw[hF.o]at a;cases a⟩
 by_cases aR:4<Q.asks.length
 . have hF:Zz (lF p Q=false):=Zy (by rw[G.o,SL (p:=Q.asks.length<=4) Zm];simp);go_enter func48,ntmps48;go_wp2;go_ret;exact⟨hQ hF.symm,t.any,fun a=>by rw[hF.o]at a;cases a⟩
 have H:Zz (lF p Q=(kW Class.name rP Q.owns []&&kW M.Ask.name (fun d=>jJ d.name&&has p d.keeper) Q.asks [])):=Zy (by
  rw[G.o,Tz (p:=Q.owns.length<=5) Zm,Tz (p:=Q.asks.length<=4) Zm];rfl)
 clear G;go_enter func48,ntmps48;go_wp2;generalize av:(w.alloc (.cells #[.slice S Q.owns.length V,.slice T Q.asks.length W] 145))=w0 at*;have aV:(w0:Nat)=w+1:=by rw[<-av];simp
 clear av;go_loopw [36] (fun i wr=>∃c:Nat,c<=Q.owns.length/\i=.int .i64 c/\Kp (Ry l) w0 wr/\Zz (nK wr l p k c 0)/\Zz (kW Class.name rP Q.owns []=kW Class.name rP (Q.owns.drop c) ((Q.owns.take c).map Class.name))) (fun i _=>Q.owns.length - (intOf i).toNat)
 case atStart=>exact⟨0,SV _,rfl,Kp.rr,Zy (H0.ext t),Zy rfl⟩
 case round =>
  obtain⟨c,hn,rfl,e,f,j⟩:=hrel;by_cases ae:c<Q.owns.length
  . obtain⟨b,r⟩:=get_some ae;obtain⟨b',aL,cs,he,Y,aa,-,B⟩:=s1.get r;subst he;obtain⟨o1,o2,o3⟩:=f.ord;have K:∀x,x<l.O->¬Ry l x:=fun x hz a=>by rcases a with a|a<;>omega
    have C:=(B.ext t).keep fun aK ah hv=>e.lL hv (K _ Y);have ak:=jM.kp jh.stays e K (jM.ext jh.stays t aa);obtain⟨y1,z1,y2,z2,rfl⟩:=aa.form;obtain⟨e0,e1,e2,e3⟩:=C.four;obtain⟨ma,aJ,A,-⟩:=f.blk;obtain⟨aI,-,r1,-⟩:=A.ca;have⟨R,ay⟩:=jf r ak;have h:Ext wr ((wr.alloc (.cells #[b.name,b.jl,.slice y1 b.fields.length z1,.slice y2 b.methods.length z2] 47)).alloc (.cells #[k,b.name] 60)):=kx;have m:=fun z=>(f.ext (h.drewN z)).GK k b.name;have q:=IJ (i:=c) v b.name;have s:=Zy (Cg (name:=Class.name) (ok:=rP) r);clear r B C aa ak A;cases g:xG p k c k b.name with
    |some ah=>
     rw[g]at m q;simp only[Vp,VW]at m;have hF:Zz (lF p Q=false):=Zy (by rw[H.o,j.o,s.o,<-q];simp);clear g q;go_wp2;go_quiet (fail);go_wp2;go_ret;exact⟨hQ hF.symm,(t.any.trans e).trans (kx:Ext wr _).any,fun a=>by rw[hF.o]at a;cases a⟩
    | none =>
     have o:=Zy g;rw[g]at m q;simp only[Ve,VX]at m;have bC:=(hZ.new wr 47 #[b.name,b.jl,.slice y1 b.fields.length z1,.slice y2 b.methods.length z2]).ext (jw (.cells #[k,b.name] 60));obtain⟨-,q0,q1,q2,q3,-⟩:=bC.ca;have U:=hZ.new (wr.alloc (.cells #[b.name,b.jl,.slice y1 b.fields.length z1,.slice y2 b.methods.length z2] 47)) 60 #[k,b.name];simp only[Tp]at U;have az:=Zy (fun z=>jM.ext jh.stays (h.drewN z) ay);cases u:rP b
     all_goals
      have n:=Zy u;clear u g;go_wp2;go_quiet (fail);go_wp2_with fail;refine(zM _ _ _ _ (az _)).mono ?_;rintro a F ⟨rfl,J⟩;rw[n.o];have bf:=((h.drewN _).trans J).je r1;have ai:=(U.ext (Kp.rr.drewN _)).ext J;obtain⟨uz,u0,u1,-⟩:=ai.ca;have Z:=(h.drewN _).trans J;clear e0 e1 e2 e3 q0 q1 q2 q3 r1 bC U ai m J h
     . have hF:Zz (lF p Q=false):=Zy (by rw[H.o,j.o,s.o,n.o];simp);go_wp2;go_ret;exact⟨hQ hF.symm,(t.any.trans e).trans Z.any,fun a=>by rw[hF.o]at a;cases a⟩
     . go_wp2;refine oG 6 Zo Zo ?_;(simp only[Us,UJ,Uh,UB]);(repeat still_step);refine Vo ?_;have aj:=f.ext (Z.drew);obtain⟨ag,hm,E⟩:=aj.own;have P:=Zy aj;refine lW rfl rfl l.O ag k b.name c rfl rfl rfl hm (by rw[E];exact o) ?_;intro w2 N D aH;go_wp2;go_roundw
       case rel=>
        refine⟨c+1,Zm,by go_num,?_,Zy (P.o.Ru D ⟨_,N,FV E o.o (Od v.o R.o o.o)⟩),Zy ?_⟩
        . exact(e.trans (Z.drew).any).trans (D.weak fun _ _ a=>.inl a)
        . rw[j.o,s.o,n.o,<-IJ v.o,o.o];rfl
       case measure=>simp[intOf];omega
  . have af : c = Q.owns.length := by omega
    subst af;have I:Zz (lF p Q=kW M.Ask.name (fun d=>jJ d.name&&has p d.keeper) Q.asks []):=Zy (by
     rw[H.o,j.o,U4 (T9 _)];rfl)
    have aD:=t.any.trans e;have aO:aA<l.O:=hI;have K:∀x,x<l.O->¬Ry l x:=by
     obtain⟨o1,o2,o3⟩:=f.ord;exact fun x hz a=>by rcases a with a|a<;>omega
    have aY:=e.size;have aN:l.A<l.L:=by obtain⟨o1,o2,o3⟩:=f.ord;omega
    have aB:=bK.kp e (fun a=>by obtain⟨o1,o2,o3⟩:=f.ord;rcases a with a|a<;>omega);obtain⟨aW,-,v1,-⟩:=aB.ca;clear j H bK;obtain⟨wo,rfl⟩:∃wo:World,wo=wr:=⟨_,rfl⟩;go_wp2;go_loopw [70] (fun i wr=>∃c:Nat,c<=Q.asks.length/\i=.int .i64 c/\Kp (Ry l) w wr/\Zz (nK wr l p k Q.owns.length c)/\Zz (kW M.Ask.name (fun d=>jJ d.name&&has p d.keeper) Q.asks []=kW M.Ask.name (fun d=>jJ d.name&&has p d.keeper) (Q.asks.drop c) ((Q.asks.take c).map M.Ask.name))) (fun i _=>Q.asks.length - (intOf i).toNat)
    case atStart=>exact⟨0,SV _,rfl,aD,f,Zy rfl⟩
    case round=>
     obtain⟨c,hn,rfl,e,f,j⟩:=hrel;by_cases ae:c<Q.asks.length
     . obtain⟨b,r⟩:=get_some ae;obtain⟨b',aL,cs,he,Y,rfl,-,B⟩:=s2.get r;subst he;have C:=B.keep fun aK ah hv=>e.lL hv (K _ Y);obtain⟨e0,e1⟩:=C.two;obtain⟨ma,aJ,A,-⟩:=f.blk;obtain⟨aI,r0,-,r2,-⟩:=A.ca;have R:=Zy r;have h:Ext wr ((wr.alloc (.cells #[b.name,b.keeper] 150)).alloc (.cells #[k,b.name] 60)):=kx;have m:=fun z=>(f.ext (h.drewN z)).GJ k b.name;have q:=Ht (i:=c) v b.name;have s:=Zy (Cg (name:=M.Ask.name) (ok:=fun d=>jJ d.name&&has p d.keeper) r);clear r B C A;cases g:xE p k c k b.name with
       |some ah=>
        rw[g]at m q;simp only[Vp,VW]at m;have hF:Zz (lF p Q=false):=Zy (by rw[I.o,j.o,s.o,<-q];simp);clear g q;go_wp2;go_quiet (fail);go_wp2;go_ret;exact⟨hQ hF.symm,e.trans (kx:Ext wr _).any,fun a=>by rw[hF.o]at a;cases a⟩
       |none=>
        have o:=Zy g;rw[g]at m q;simp only[Ve,VX]at m;cases u:jJ b.name
        . have n:=Zy u;have hF:Zz (lF p Q=false):=Zy (by rw[I.o,j.o,s.o,u];simp);clear u g;go_wp2;go_quiet (fail);go_wp2_with (go_at_call 24;refine(mf _ _).mono ?_;rintro a F ⟨rfl,rfl⟩;rw[n.o]);go_ret;exact⟨hQ hF.symm,e.trans (kx:Ext wr _).any,fun a=>by rw[hF.o]at a;cases a⟩
        . have n:=Zy u;clear u;have au:has p b.keeper=(decide (0<=b.keeper)&&decide (b.keeper<p.length)):=rfl;cases y:has p b.keeper
          . have hF:Zz (lF p Q=false):=Zy (by rw[I.o,j.o,s.o,y];simp);have O:Zz ((decide (0<=b.keeper)&&decide (b.keeper<p.length))=false):=Zy y;clear y g au;go_wp2;go_quiet (fail);go_wp2_with (first|(go_at_call 24;refine(mf _ _).mono ?_;rintro a F ⟨rfl,rfl⟩;rw[n.o])|(go_at_call 41;refine(xZ ((h.drewN _).je r0)).mono ?_;rintro a F ⟨rfl,rfl⟩;rw[O.o]));go_ret;exact⟨hQ hF.symm,e.trans (kx:Ext wr _).any,fun a=>by rw[hF.o]at a;cases a⟩
          . have O:Zz ((decide (0<=b.keeper)&&decide (b.keeper<p.length))=true):=Zy y;have ax:=Zy y;clear y g au;go_wp2;go_quiet (fail);go_wp2_with (first|(go_at_call 24;refine(mf _ _).mono ?_;rintro a F ⟨rfl,rfl⟩;rw[n.o])|(go_at_call 41;refine(xZ ((h.drewN _).je r0)).mono ?_;rintro a F ⟨rfl,rfl⟩;rw[O.o]));obtain⟨ag,hm,E⟩:=f.ask;have P:=Zy f.o;refine oG 7 Zo Zo ?_;(simp only[Us,UJ,Uh,UB]);(repeat still_step);refine Vo ?_;refine lW rfl rfl l.A ag k b.name b.keeper rfl rfl rfl (hm.kp ((h.drewN _).drew) fun b=>b) (by rw[E];exact o) ?_;intro w2 N D aH;have⟨aF,aC⟩:=jf (P.ext ((h.drewN _).drew)|>.Rt D ⟨_,N,FV E o (MZ v R o)⟩) ((e.trans ((h.drewN _).drew).any).trans (D.weak fun _ _ a=>.inr a));go_wp2;go_roundw
            case rel=>
             refine⟨c+1,Zm,by go_num,aC.o,aF,Zy ?_⟩;rw[j.o,s.o,n.o,ax.o,<-Ht v.o,o.o];rfl
            case measure=>simp[intOf];omega
     . have af:c=Q.asks.length:=Zm
       subst af;have hF:Zz (lF p Q=true):=Zy (by rw[I.o,j.o,U4 (T9 _)];rfl);go_wp2;go_ret;exact⟨hQ hF.symm,e,fun _=>f.next v⟩
theorem MX{f:α->Bool}{l:List α}{x:α}(a:l[k]?=some x):(l.drop k).all f=(f x&&(l.drop (k+1)).all f):=by
 rw[oM a,List.all_cons]
theorem qh(w:World)(I:Nat->Prop)(v:Value)(p:iZ)(C:SliceOf 2 ja w I v p)(hI:∀e,I e->e<w.heap.size):Calls prog 19 #[.agg #[v]] w fun l K=>Ext w K/\((kQ p=false/\l=.returned (.pointer none))\/(kQ p=true/\∃c:jk,l=.returned (some c.L)/\ji K c p/\w<=c.O)):=by
 obtain⟨a,b,rfl,S,W⟩:=C.form;by_cases X:p.length<1
 . have hF:Zz (kQ p=false):=Zy (by unfold kQ;rw[SL (p:=1<=p.length) Zm];rfl);go_enter func19,ntmps19;go_wp2;go_ret;exact⟨kx,.inl ⟨hF,rfl⟩⟩
 by_cases Y:3<p.length
 . have hF:Zz (kQ p=false):=Zy (by unfold kQ;rw[SL (p:=p.length<=3) Zm];simp);go_enter func19,ntmps19;go_wp2;go_ret;exact⟨kx,.inl ⟨hF,rfl⟩⟩
 have x:Zz (kQ p=p.all (lF p)):=Zy (by unfold kQ;rw[Tz (p:=1<=p.length) Zm,Tz (p:=p.length<=3) Zm];rfl);have U:∀j:World,(Instr.makeMap 116 none).run prog j=.ok (.map (some j.heap.size)) (j.alloc (.map #[] 0)):=fun j=>by kernel_rfl
 have D:Ext w (((((w.alloc (.cells #[.slice a p.length b] 25)).alloc (.map #[] 0)).alloc (.map #[] 0)).alloc (.map #[] 0)).alloc (.cells #[.slice a p.length b,.map (some (w.heap.size+1)),.map (some (w.heap.size+1+1)),.map (some (w.heap.size+1+1+1))] 118)):=kx;have F:nK (((((w.alloc (.cells #[.slice a p.length b] 25)).alloc (.map #[] 0)).alloc (.map #[] 0)).alloc (.map #[] 0)).alloc (.cells #[.slice a p.length b,.map (some (w.heap.size+1)),.map (some (w.heap.size+1+1)),.map (some (w.heap.size+1+1+1))] 118)) ⟨w.heap.size+1+1+1+1,w.heap.size+1,w.heap.size+1+1,w.heap.size+1+1+1⟩ p 0 0 0:=by
  have y:=kE.new (w.alloc (.cells #[.slice a p.length b] 25));have z:=kE.new ((w.alloc (.cells #[.slice a p.length b] 25)).alloc (.map #[] 0));have A:=kE.new (((w.alloc (.cells #[.slice a p.length b] 25)).alloc (.map #[] 0)).alloc (.map #[] 0));have B:=hZ.new ((((w.alloc (.cells #[.slice a p.length b] 25)).alloc (.map #[] 0)).alloc (.map #[] 0)).alloc (.map #[] 0)) 118 #[.slice a p.length b,.map (some (w.heap.size+1)),.map (some (w.heap.size+1+1)),.map (some (w.heap.size+1+1+1))];simp only[Tp]at y z A B;refine⟨⟨Vd _,Vd _,Vd _⟩,⟨a,b,B,C.keep ja.stays (Ext.same D) fun e f=>Nat.lt_succ_of_lt (hI e f)⟩,⟨[],y.kp (((((Kp.refl (fun _=>False) _).alloc _).alloc _).alloc _)) fun h=>h,fun r s=>(Oe p r s).symm⟩,⟨[],z.kp ((((Kp.refl (fun _=>False) _).alloc _).alloc _)) fun h=>h,fun r s=>(M0 p r s).symm⟩,A.kp ((Kp.refl (fun _=>False) _).alloc _) fun h=>h⟩
 go_enter func19,ntmps19;go_wp2;obtain⟨c,g⟩:∃c:jk,c=⟨w.heap.size+1+1+1+1,w.heap.size+1,w.heap.size+1+1,w.heap.size+1+1+1⟩:=⟨_,rfl⟩;have P:w.heap.size+1+1+1+1=c.L:=by rw[g]
 have Q:w<c.O/\w<c.A:=by rw[g];exact⟨Vd _,by show w.heap.size<w.heap.size+1+1;omega⟩
 rw[<-g]at F;generalize (((((w.alloc (.cells #[.slice a p.length b] 25)).alloc (.map #[] 0)).alloc (.map #[] 0)).alloc (.map #[] 0)).alloc (.cells #[.slice a p.length b,.map (some (w.heap.size+1)),.map (some (w.heap.size+1+1)),.map (some (w.heap.size+1+1+1))] 118))=w1 at*;rw[P];have V:=Zy g;clear g U;go_loopw [25] (fun q wr=>∃d:Nat,d<=p.length/\q=.int .i64 d/\Kp (Ry c) w1 wr/\Zz (nK wr c p d 0 0)/\Zz (p.all (lF p)=(p.drop d).all (lF p))) (fun q _=>p.length - (intOf q).toNat)
 case atStart=>exact⟨0,SV _,rfl,Kp.rr,Zy F,Zy rfl⟩
 case round =>
  obtain⟨d,S,rfl,G,u,k⟩:=hrel;have E:=D.own G (fun e f=>by rcases f with rfl|rfl<;>omega);by_cases R:d<p.length
  . obtain⟨O,J⟩:=get_some R;have m:=MX (f:=lF p) J;have t:=Zy m;go_wp2_with fail;refine(Ih J u).mono ?_;rintro l Z ⟨rfl,H,n⟩;cases o:lF p O
    . have i:Zz (kQ p=false):=Zy (by rw[x.o,k.o,t.o,o];rfl);clear n m;go_wp2;go_ret;exact⟨E.own H (fun e f=>by rcases f with rfl|rfl<;>omega),.inl ⟨i.o,rfl⟩⟩
    . have L:=Zy (n o);have N:=Zy o;clear n m;go_wp2;go_roundw
      case rel=>exact⟨d+1,Zm,by go_num,G.trans H,L,Zy (by rw[k.o,t.o,N.o];rfl)⟩
      case measure=>simp[intOf];omega
  . have T:d=p.length:=Zm
    subst T;have i:Zz (kQ p=true):=Zy (by rw[x.o,k.o,U4 (T9 _)];rfl);go_wp2;go_ret;exact⟨E,.inr ⟨i,c,rfl,u.done i,VL Q.1⟩⟩
def qw:rH:=⟨⟨0,none_⟩,0⟩
theorem DX(w:World)(l:jk)(p:iZ)(x:ji w l p)(r:Ref)(n:ByteArray):Calls prog 142 #[some l.L,.agg #[r.keeper,r.name],n] w fun f w'=>f=.returned (.tuple #[.agg #[.int .i64 ((pick p r n).getD qw).of.keeper,.string ((pick p r n).getD qw).of.name,.int .i64 ((pick p r n).getD qw).at_],.bool (pick p r n).isSome])/\ji w' l p/\Kp (·=l.D) w w':=by
 have L:Ext w ((w.alloc (.cells #[r.keeper,r.name] 60)).alloc (.cells #[Tc, "",Tc] 78)):=kx;have Q:=Zy (x.ext L);have af:=x.lt;have aA:l.D<l.L:=x.ord.2.2;clear x;have T:=(hZ.new w 60 #[r.keeper,r.name]).ext (jw (.cells #[Tc, "",Tc] 78));have H:=hZ.new (w.alloc (.cells #[r.keeper,r.name] 60)) 78 #[Tc, "",Tc];simp only[Tp]at H;go_enter func142,ntmps142;go_wp2_with fail;generalize ((w.alloc (.cells #[r.keeper,r.name] 60)).alloc (.cells #[Tc, "",Tc] 78))=w0 at*;refine(mU Q r).mono ?_;rintro f P ⟨rfl,ae,z⟩;have X:=T.kp z Zm;have h:=H.kp z Zm;have N:=(L.any).trans z;obtain⟨-,p0,p1,-⟩:=X.ca;obtain⟨-,q0,q1,q2,-⟩:=h.ca;obtain⟨s,t,u,-⟩:=h.fz;have m:=Zy ae;have D:=h.lt;clear T H Q L ae z;cases A:ko p r
 . have j:pick p r n=none:=by unfold pick;rw[A];rfl
   have o:=Zy j;clear A j;go_wp2;refine Cv (v:=.tuple #[.agg #[Tc, "",Tc],.bool false]) (by simp[results,results142,go_sem,q0,q1,q2]) rfl ?_;have d:Kp (·=w+1) P (((P.setCell ⟨w+1,0,none⟩ Tc).setCell ⟨w+1,1,none⟩ "").setCell ⟨w+1,2,none⟩ Tc):=
    (((Kp.refl (·=w+1) P).setCell (p:=⟨w+1,0,none⟩) (fun _=>rfl) _).setCell (p:=⟨w+1,1,none⟩) (fun _=>rfl) _).setCell (p:=⟨w+1,2,none⟩) (fun _=>rfl) _
   exact⟨by rw[o.o];rfl,m.kp d (fun b C f=>Zm),N.own d (fun b C=>Zm)⟩
 . have j:pick p r n=sI p n (chain p r):=by unfold pick;rw[A];rfl
   have o:=Zy j;clear A j;go_wp2_with fail;refine(q9 m _).mono ?_;rintro f w2 ⟨⟨v,rfl,hs⟩,y⟩;obtain⟨ax,az,rfl,hn,aB⟩:=hs.form;have HO:Zz (∀a∈chain p r,∃g,cls? p a=some g):=Zy ng;have S:=Zy (m.ext y);have aj:=h.ext y;have ak:=N.trans y.any;clear p0 p1 q0 q1 q2 s t u D X h N y m;generalize chain p r=xs at*;go_wp2;go_loopw [20] (fun c wr=>∃b:Nat,b<=xs.length/\c=.int .i64 b/\Ext w2 wr/\Zz (sI p n xs=sI p n (xs.drop b))) (fun c _=>xs.length - (intOf c).toNat)
   case atStart=>exact⟨0,SV _,rfl,Kp.rr,Zy rfl⟩
   case round=>
    obtain⟨b,C,rfl,i,R⟩:=hrel;have q:=aj.ext i;obtain⟨D,q0,q1,q2,-⟩:=q.ca;obtain⟨s,t,u,-⟩:=q.fz;have d:Zz (∀e (F v E:Value),Ext w2 e->Kp (·=l.D) w (((e.setCell ⟨w+1,0,none⟩ F).setCell ⟨w+1,1,none⟩ v).setCell ⟨w+1,2,none⟩ E)/\ji (((e.setCell ⟨w+1,0,none⟩ F).setCell ⟨w+1,1,none⟩ v).setCell ⟨w+1,2,none⟩ E) l p):=Zy (fun e F v E hW=>by
     have d:Kp (·=w+1) e (((e.setCell ⟨w+1,0,none⟩ F).setCell ⟨w+1,1,none⟩ v).setCell ⟨w+1,2,none⟩ E):=
      (((Kp.refl (·=w+1) e).setCell (p:=⟨w+1,0,none⟩) (fun _=>rfl) _).setCell (p:=⟨w+1,1,none⟩) (fun _=>rfl) _).setCell (p:=⟨w+1,2,none⟩) (fun _=>rfl) _
     exact⟨(ak.trans hW.any).own d (fun b C=>Zm),(S.o.ext hW).kp d (fun b C f=>Zm)⟩)
    by_cases af:b<xs.length
    . obtain⟨a,k⟩:=get_some af;obtain⟨ay,aD,cs,rfl,hI,rfl,-,hc⟩:=hs.get k;obtain⟨g0,g1⟩:=(hc.ext i).two;obtain⟨g,O⟩:=HO.o a (RA k);have⟨HX,ai⟩:=jf k O;have ag:Zz (sI p n xs=match oC g n with|some c=>some ⟨a,c⟩|none=>sI p n (xs.drop (b+1))):=Zy (by
       rw[R.o,oM k];have au:cls p a=g:=by unfold cls;rw[O];rfl
       rw[<-au];rfl)
      clear k hc O;have U:=hZ.new wr 60 #[.int .i64 a.keeper,.string a.name];go_wp2_with fail;refine(p9 _ _ (S.ext (i.alloc (.cells #[.int .i64 a.keeper,.string a.name] 60))) _ _ _ ai).mono ?_;rintro f w3 ⟨⟨cs,av,rfl⟩,J⟩;have ah:=Zy (jM.ext jh.stays J av);have Z:=((Kp.refl (fun _=>False) wr).alloc (.cells #[.int .i64 a.keeper,.string a.name] 60)).trans J;have V:=U.ext J;have Y:=q.ext Z;clear q0 q1 q2 s t u D g0 g1 U;go_wp2_with fail;refine(yV _ ah _).mono ?_;rintro f w4 ⟨rfl,K⟩;have W:=V.ext K;obtain⟨xz,x0,x1,-⟩:=W.ca;have I:=Y.ext K;obtain⟨D,q0,q1,q2,-⟩:=I.ca;obtain⟨s,t,u,-⟩:=I.fz;have aa:=(i.trans Z).trans K;clear V W Y I q;cases B:oC g n with
      |none=>
       have G:=Zy (ag.trans (by rw[B]));simp only[Hh,Option.elim];clear B;go_wp2;go_roundw
       case rel=>exact⟨b+1,Zm,by go_num,aa,Zy G.o⟩
       case measure=>simp[intOf];omega
      |some c=>
       have G:=Zy (ag.trans (by rw[B]));simp only[Hh,Option.elim];clear B;have aC:(0:Int)<=(c:Int):=Zm
       go_wp2;refine Cv (v:=.tuple #[.agg #[.int .i64 a.keeper,.string a.name,c],.bool true]) (by simp[results,results142,go_sem,q0,q1,q2]) rfl ?_;have:=d.o w4 (.int .i64 a.keeper) (.string a.name) c aa;exact⟨by rw[o.o,G.o];rfl,this.2,this.1⟩
    . go_wp2;refine Cv (v:=.tuple #[.agg #[Tc, "",Tc],.bool false]) (by simp[results,results142,go_sem,q0,q1,q2]) rfl ?_;have:=d.o wr Tc "" Tc i;exact⟨by rw[o.o,R.o,U4 Zm];rfl,this.2,this.1⟩
def Hk(w:World)(ev:Value)(code:Int):Prop:=(code=1/\ev=Value.nilIface)\/(code≠1/\∃b,ev=.iface 248 (.pointer (some ⟨b,0,none⟩))/\hZ w b 250 #[.int .i64 code])
theorem xA(h:ji w l p){k:Int}{n m:ByteArray}:Calls prog 141 #[some l.L,k,n,m] w fun a d=>(∃x,a=.returned (.tuple #[.agg #[.int .i64 (jP p k n m).1.keeper,.string (jP p k n m).1.name],x])/\Hk d x (jP p k n m).2)/\ji d l p/\Kp (·=l.D) w d:=by
 have aa:Ext w (w.alloc (.cells #[Tc, ""] 60)):=kx;have⟨q,B⟩:=jf (h.ext aa) h;have ax:=h.lt;have au:l.D<l.L:=h.ord.2.2;clear h;have S:=hZ.new w 60 #[Tc, ""];obtain⟨-,H,I,-⟩:=S.ca;have O:Zz (¬(has p k&&jJ n&&jJ m)=true->jP p k n m=(vL,2)):=Zy (fun h=>by unfold jP;rw[Tt h]);have af:Zz ((has p k&&jJ n&&jJ m)=true->jP p k n m=(if(find p k n).2=1 then(if ko p (find p k n).1 then((find p k n).1,1)else(vL,4))else(vL,2))):=Zy (fun h=>by unfold jP;rw[Tv h]);have A:Zz (∀(a:Ending) (d:World) (E:Nat),jP p k n m=(vL,2)->a=.returned (.tuple #[.agg #[Tc, ""],.iface 248 (some E)])->hZ d E 250 #[.int .i64 2]->ji d l p->Kp (·=l.D) w d→
     (∃x,a=.returned (.tuple #[.agg #[.int .i64 (jP p k n m).1.keeper,.string (jP p k n m).1.name],x])/\Hk d x (jP p k n m).2)/\ji d l p/\Kp (·=l.D) w d):=Zy (fun a d E Y e2 e3 e4 e5=>by
  rw[Y];exact⟨⟨_,e2,.inr ⟨by decide,E,rfl,e3⟩⟩,e4,e5⟩)
 cases j:has p k
 . have u:=Zy j;have c:=Zy (O (by rw[j];simp));clear j;go_enter func141,ntmps141;go_wp2_with (go_at_call 41;refine(oU q _).mono ?_;rintro a b ⟨rfl,rfl⟩;rw[u.o]);refine Cv (v:=.tuple #[.agg #[Tc, ""],.iface 248 (.pointer (some ⟨w+1,0,none⟩))]) (by simp[results,results141,go_sem,H,I]) rfl ?_;refine A _ _ _ c rfl ?_ (B.ext kx) (kx:Ext w _).any;have:=hZ.new (w.alloc (.cells #[Tc, ""] 60)) 250 #[.int .i64 2];simpa only[Tp]using this
 have u:=Zy j;cases o:jJ n
 . have C:=Zy o;have c:=Zy (O (by rw[o];simp));clear j o;go_enter func141,ntmps141;go_wp2_with (first|(go_at_call 41;refine(oU q _).mono ?_;rintro a b ⟨rfl,rfl⟩;rw[u.o])|(go_at_call 24;refine(mf _ _).mono ?_;rintro a b ⟨rfl,rfl⟩;rw[C.o]));refine Cv (v:=.tuple #[.agg #[Tc, ""],.iface 248 (.pointer (some ⟨w+1,0,none⟩))]) (by simp[results,results141,go_sem,H,I]) rfl ?_;refine A _ _ _ c rfl ?_ (B.ext kx) (kx:Ext w _).any;have:=hZ.new (w.alloc (.cells #[Tc, ""] 60)) 250 #[.int .i64 2];simpa only[Tp]using this
 have C:=Zy o;cases r:jJ m
 . have Q:=Zy r;have c:=Zy (O (by rw[r];simp));clear j o r;go_enter func141,ntmps141;go_wp2_with fail;refine(oU q _).mono ?_;rintro a b ⟨rfl,rfl⟩;rw[u.o];go_wp2_with fail;refine(mf _ _).mono ?_;rintro a b ⟨rfl,rfl⟩;rw[C.o];go_wp2_with fail;refine(mf _ _).mono ?_;rintro a b ⟨rfl,rfl⟩;rw[Q.o];go_wp2;refine Cv (v:=.tuple #[.agg #[Tc, ""],.iface 248 (.pointer (some ⟨w+1,0,none⟩))]) (by simp[results,results141,go_sem,H,I]) rfl ?_;refine A _ _ _ c rfl ?_ (B.ext kx) (kx:Ext w _).any;have:=hZ.new (w.alloc (.cells #[Tc, ""] 60)) 250 #[.int .i64 2];simpa only[Tp]using this
 have⟨Q,D⟩:=jf r (af (by rw[j,o,r];rfl));clear j o r O af;go_enter func141,ntmps141;go_wp2_with fail;refine(oU q _).mono ?_;rintro a b ⟨rfl,rfl⟩;rw[u.o];go_wp2_with fail;refine(mf _ _).mono ?_;rintro a b ⟨rfl,rfl⟩;rw[C.o];go_wp2_with fail;refine(mf _ _).mono ?_;rintro a b ⟨rfl,rfl⟩;rw[Q.o];go_wp2_with fail;refine(mJ _ _ _ q _ _).mono ?_;rintro a b ⟨rfl,T⟩;have G:=S.ext T;obtain⟨hz,q0,q1,-⟩:=G.ca;obtain⟨f0,f1,-⟩:=G.fz;have J:=aa.trans T;have U:=Zy (B.ext J);clear H I q T S;have R:Zz (∀(i:World) (s v:Value),Kp (·=w) i ((i.setCell w s).setCell (w,1) v)):=Zy (fun i s v=>nH);have ag:Zz (∀(i:World) (s v P:Value),hZ (((i.setCell w s).setCell (w,1) v).alloc (.cells #[P] 250)) i 250 #[P]):=Zy (fun i s v P=>by
  have:=hZ.new ((i.setCell w s).setCell (w,1) v) 250 #[P];simpa using this)
 generalize find p k n=F at*;obtain⟨⟨f,g⟩,ai⟩:=F;simp only at*;by_cases L:ai=1
 . subst L;have X:=hZ.new b 60 #[f,g];go_wp2_with fail;refine(mU (U.ext (jw (.cells #[f,g] 60))) ⟨f,g⟩).mono ?_;rintro a t ⟨rfl,aj,K⟩;have ak:l.D<b:=SX J.size
   have ah:=X.kp K Zm;have W:=(G.ext (jw (.cells #[f,g] 60))).kp K Zm;obtain⟨uz,u0,u1,-⟩:=ah.ca;obtain⟨Z,r0,r1,-⟩:=W.ca;obtain⟨e0,Y,-⟩:=W.fz;have ae:=((J.alloc _).any).trans K;clear q0 q1 f0 f1 G X K;have e:Kp (·=w) t ((t.setCell w Tc).setCell (w,1) ""):=nH;clear e;have V:=Zy aj;cases N:ko p ⟨f,g⟩
   . have c:Zz (jP p k n m=(vL,4)):=Zy (by rw[D.o,N];rfl);clear N;go_wp2;refine Cv (v:=.tuple #[.agg #[Tc, ""],.iface 248 (some t)]) (by simp[results,results141,go_sem,r0,r1,Z]) rfl ?_;have e:=R.o t Tc "";rw[c.o];exact⟨⟨_,rfl,.inr ⟨by decide,_,rfl,ag t _ _ _⟩⟩,(V.kp e (fun z y a=>Zm)).ext (jw _),(ae.own e (fun z y=>Zm)).alloc _⟩
   . have c:Zz (jP p k n m=(⟨f,g⟩,1)):=Zy (by rw[D.o,N];rfl);clear N;go_wp2;refine Cv (v:=.tuple #[.agg #[f,g],Value.nilIface]) (by simp[results,results141,go_sem,r0,r1,Z]) rfl ?_;have e:=R.o t f g;rw[c.o];exact⟨⟨_,rfl,.inl ⟨rfl,rfl⟩⟩,V.kp e (fun z y a=>Zm),ae.own e (fun z y=>Zm)⟩
 . have av:=TI.2 L;have c:Zz (jP p k n m=(vL,2)):=Zy (by rw[D.o,Tt L]);clear L D;go_wp2;refine Cv (v:=.tuple #[.agg #[Tc, ""],.iface 248 (.pointer (some ⟨b+1,0,none⟩))]) (by simp[results,results141,go_sem,q0,q1,hz]) rfl ?_;have e:=R.o b Tc "";refine A _ _ _ c rfl ?_ ((U.kp e (fun z y a=>Zm)).ext ((jw _).alloc _)) (((J.any.own e (fun z y=>Zm)).alloc _).alloc _);have:=hZ.new (((b.setCell w Tc).setCell (w,1) "").alloc (.cells #[f,g] 60)) 250 #[.int .i64 2];simpa using this
theorem GI(w:World)(l:jk)(p:iZ)(z:ji w l p)(k:Int)(n:ByteArray)(i:Nat)(c:Class)(m:M.Method)(F:cls? p ⟨k,n⟩=some c)(B:c.methods[i]?=some m):Calls prog 55 #[some l.L,.agg #[k,n,i]] w fun y K=>(∃r,jd K (· <l.O) m r/\y=.returned (.agg r.toArray))/\Ext w K:=by
 have ak:=(Tw.1 B).1;have⟨O,C,Q,R⟩:=jU z z F B;clear z F B;have E:=(hZ.new w 78 #[k,n,i]);obtain⟨-,q0,q1,q2,-⟩:=E.ca;clear E;go_enter func55,ntmps55;go_upto_region 1 with(fail);first|(go_region_with (go_at_call 52;refine(p9 l p (O.ext kx) k n c Q).mono ?_;rintro y u ⟨⟨r,A,rfl⟩,s⟩;obtain⟨y1,z1,L,N,rfl⟩:=A.form;obtain⟨ae,af⟩:=Hu s;have ag:∀e,(Instr.field 47 (.agg #[c.name,c.jl,.slice y1 c.fields.length z1,.slice L c.methods.length N]) 3).run prog e=.ok (.slice L c.methods.length N) e:=(fun e=>by kernel_rfl);obtain⟨ax,ay,H,-,J⟩:=jM.ext jh.stays s A;simp only[TH,UF,V8]at H;obtain⟨rfl,rfl⟩:=H;obtain⟨b',av,r,rfl,ai,I,-,G⟩:=J.get R;have S:=Zy I;obtain⟨f,j,g,o,h,q,rfl⟩:=I.form;obtain⟨T,U,V,W,X,Y,Z,g7⟩:=G.eight))|fail
 all_goals
  have v:=((hZ.new (w.alloc (.cells #[k,n,i] 78)) 132 #["",(),Tc, "",Tc,Tc,(),()]).ext (jg)).ext s;simp only[Tp]at v;have b:=(((((((v.jy 0 m.name).jy 1 (.slice f m.args.length j)).jy 2 m.ret.kind).jy 3 m.ret.name).jy 4 m.locals).jy 5 m.stack).jy 6 (.slice g m.code.length o)).jy 7 (.slice h m.maps.length q);have t:∀(d:Nat->Prop),d (w+1)->Kp d u ((((((((u.setCell ⟨w+1,0,none⟩ m.name).setCell ⟨w+1,1,none⟩ (.slice f m.args.length j)).setCell ⟨w+1,2,none⟩ m.ret.kind).setCell ⟨w+1,3,none⟩ m.ret.name).setCell ⟨w+1,4,none⟩ m.locals).setCell ⟨w+1,5,none⟩ m.stack).setCell ⟨w+1,6,none⟩ (.slice g m.code.length o)).setCell ⟨w+1,7,none⟩ (.slice h m.maps.length q)):=fun d a=>
   ((((((((Kp.refl d u).setCell (p:=⟨w+1,0,none⟩) (fun _=>a) _).setCell (p:=⟨w+1,1,none⟩) (fun _=>a) _).setCell (p:=⟨w+1,2,none⟩) (fun _=>a) _).setCell (p:=⟨w+1,3,none⟩) (fun _=>a) _).setCell (p:=⟨w+1,4,none⟩) (fun _=>a) _).setCell (p:=⟨w+1,5,none⟩) (fun _=>a) _).setCell (p:=⟨w+1,6,none⟩) (fun _=>a) _).setCell (p:=⟨w+1,7,none⟩) (fun _=>a) _
  have aa:=((((Kp.refl _ w).alloc _).alloc _).drew).trans s;clear ae af ag T U V W X Y Z g7 q0 q1 q2 G v A J;revert b t;generalize ((((((((u.setCell ⟨w+1,0,none⟩ m.name).setCell ⟨w+1,1,none⟩ (.slice f m.args.length j)).setCell ⟨w+1,2,none⟩ m.ret.kind).setCell ⟨w+1,3,none⟩ m.ret.name).setCell ⟨w+1,4,none⟩ m.locals).setCell ⟨w+1,5,none⟩ m.stack).setCell ⟨w+1,6,none⟩ (.slice g m.code.length o)).setCell ⟨w+1,7,none⟩ (.slice h m.maps.length q))=e;intro b t;have⟨P,D⟩:=jf (hH.l7 b) t;clear t b;have aj:l.O<w:=SY C.ord C.lt
  go_wp2_with fail;refine Cv (v:=.agg #[m.name,.slice f m.args.length j,m.ret.kind,m.ret.name,m.locals,m.stack,.slice g m.code.length o,.slice h m.maps.length q]) (jE Dg rfl (w+1) rfl _ P rfl) rfl ?_;trace "x";exact⟨⟨_,jM.kp jd.stays (D (·=w+1) rfl) (fun ah hb y=>Zm) S.o,rfl⟩,aa.own (D.o (·=w+1) rfl) (fun au hj=>Zm)⟩
structure LC(l:jk)(p:iZ)(w W:World):Prop where
 kp:Kp (·=l.D) w W
 at_:ji W l p
theorem LC.refl(a:ji w l p):LC l p w w:=⟨Kp.rr,a⟩
theorem LC.ext(b:LC l p w W)(c:Ext W a):LC l p w a:=⟨b.kp.trans c.any,b.at_.ext c⟩
theorem LC.drew(a:LC l p w W):LC l p w W.drew:=a.ext jg
theorem LC.step(b:LC l p w W)(c:ji a l p)(d:Kp (·=l.D) W a):LC l p w a:=⟨b.kp.trans d,c⟩
theorem LC.trans(c:LC l p w W)(b:LC l p W a):LC l p w a:=c.step b.at_ b.kp
theorem ji.ET(a:ji w l p):l.D<w:=SY a.lt a.ord
theorem p8(w:World)(l:jk)(p:iZ)(d:ji w l p)(k:Int)(n:ByteArray)(c:Class)(o:cls? p ⟨k,n⟩=some c):∃h,jh w (· <l.O) c h/\∀b,Kp (·=l.D) w b→ Calls prog 52 #[some l.L,.agg #[k,n]] b fun O V=>O=.returned (.agg h.toArray)/\Ext b V:=by
 obtain⟨T,S,g,A,F,ax⟩:=Br o;obtain⟨f,B⟩:=CS o;simp only at f B;obtain⟨k,rfl⟩:=Int.eq_ofNat_of_zero_le f;have C:p[k]?=some T:=by
  unfold pW at g;rw[Tv f]at g;exact g
 obtain⟨aa,af,G,r,s,K,L⟩:=d.cells;obtain⟨mm,D,E⟩:=d.own;obtain⟨ae,aB,h,rfl,hI,Q,-,y⟩:=G.get C;obtain⟨vo,va,rfl,q,U⟩:=Q;obtain⟨a1,ag,rfl,az,av⟩:=q.form;obtain⟨b1,aC,ah,rfl,ai,m,-,z⟩:=q.get F;obtain⟨X,Z,Y,z2,rfl⟩:=m.form;obtain⟨j,x⟩:=y.two;obtain⟨i,t,u,v⟩:=z.four;have aA:(p.length:Int)<=3:=SX ((Bw d.ok).2)
 have hO:=d.ord;have R:=d.lt;refine⟨_,m,fun b a=>?_⟩;have H:∀e,Ext b e->(Instr.lookup 116 (.map (some l.O)) (.agg #[.int .i64 (k:Int),n]) false).run prog e=.ok S e:=by
  intro e P;rw[wV ((D.kp a Zm).kp P fun W=>W),E,A];rfl
 have l2:=fun(I J:Obj)=>H _ ((((Kp.refl _ b).alloc I).alloc J).drew);clear H;have N:=a.lL (r _ (Kp.refl _ w)) Zm;have d1:=a.lL (s _ (Kp.refl _ w)) Zm;replace j:=a.lL j Zm;replace x:=a.lL x Zm;replace i:=a.lL i Zm;replace t:=a.lL t Zm;replace u:=a.lL u Zm;replace v:=a.lL v Zm;have ak:=jc j;have au:=jc i;have aj:=jc N;clear D E m G q U y z r s K L C F g A o d R a;have ay:k<p.length:=Zm
 clear f B;go_enter func52,ntmps52;go_wp2;refine oG 17 Zo Zo ?_;(simp only[Us,UJ,Uh,UB]);(repeat still_step);refine Vo ?_;go_wp2;refine Cv (v:=.agg #[c.name,c.jl,.slice X c.fields.length Z,.slice Y c.methods.length z2]) (by simp[results,results52,go_sem]) rfl ?_;exact⟨rfl,kx⟩
def oO(f:rF):List Value:=[.int .i64 f.of.keeper,.string f.of.name,.int .i64 f.at_,.int .i64 f.kind.kind,.string f.kind.name]
def RH:lZ rF:=fun _ _ x cs=>cs=oO x
theorem N9{x:rF}:∀a∈oO x,a.oneCell'=true:=by simp[oO,Value.oneCell']
theorem La:Elem 252 211 5:=kP (z:=.agg #[Tc, "",Tc,Tc, ""]) (bytes:=56) underlying252 Zo rfl Zn Zn
theorem De{c:Ref}{d:List M.Field}{a:List rF}{x:M.Field}(e:d[k]?=some x):kU c (d.take (k+1)) a=kU c (d.take k) a++[⟨c,(kU c (d.take k) a).length,x.kind⟩]:=by
 rw[TQ,e];have:∀(b:List M.Field) (a:List rF),kU c (b++[x]) a=kU c b a++[⟨c,(kU c b a).length,x.kind⟩]:=by
  intro b;induction b with
  |nil=>intro a;rfl
  |cons h g f=>intro a;simp only[TF,kU];rw[f]
 exact this _ _
theorem Kp.mix{D': Nat->Prop}{b: World}(d:Kp D w a)(e:Kp D' a b)(h:∀c,c<w.heap.size->D' c->D c):Kp D w b:=
 ⟨e.os.trans d.os,e.tape.trans d.tape,e.output.trans d.output,TL d.size e.size,
  fun c f g=>(e.block c (Tx f d.size) (fun i=>g (h c f i))).trans (d.block c f g)⟩
theorem hH.Fh{g:Nat}(t:TypeId)(cs:Array Value)(a:W=g):hH (W.alloc (.cells cs t)).drew g 0 cs.toList:=(hH.nL t cs a).ext (jg)
theorem Hv (w : World) (e n : Nat) (vs : Value) {h: List rF} (c : Ref) (I : Nat -> Prop) {vf: Value} (i : List M.Field) (K : hZ w e 298 #[vs]) (S : w.ownsRow n 211 5 vs h.length (h.flatMap oO))(N:SliceOf 3 lv w I vf i) (hI:∀d,I d->d<n/\d≠e) (aS:n<=w) (aV:h.length+i.length<=1000) (av:vs.ownBlock≠some e):Calls prog 187 #[some e,.agg #[c.keeper,c.name],vf] w fun b W=>b=.returned (.tuple #[])/\∃V,hZ W e 298 #[V]/\W.ownsRow n 211 5 V (h.length+i.length) ((kU c i h).flatMap oO)/\V.ownBlock≠some e/\Kp (fun d=>d=e\/vs.ownBlock=some d) w W:=by
 obtain⟨va,vc,rfl,hn,aU⟩:=N.form;have hz:=K.lt;have t:=hZ.new w 60 #[c.keeper,c.name];have k:Ext w (w.alloc (.cells #[c.keeper,c.name] 60)):=kx;have⟨HF,Z,ae⟩:=jB N hI av;have R0:Zz (hZ (w.alloc (.cells #[c.keeper,c.name] 60)) e 298 #[vs]/\(w.alloc (.cells #[c.keeper,c.name] 60)).ownsRow n 211 5 vs h.length ((kU c (i.take 0) h).flatMap oO)/\(∀j,vs.ownBlock=some j->vs.ownBlock=some j\/w.heap.size<j)/\
     Kp (fun d=>d=e\/vs.ownBlock=some d) w (w.alloc (.cells #[c.keeper,c.name] 60))/\hZ (w.alloc (.cells #[c.keeper,c.name] 60)) w 60 #[c.keeper,c.name]):=
  Zy ⟨K.ext k,jb (D:=fun _=>False) S k fun _ _ _ l=>l,fun j a=>.inl a,k.any,t⟩
 have G:=Zy fun j hg=>S.lt j hg;clear K S N hI av t k;go_enter func187,ntmps187;go_wp2;go_loopw [10] (fun R wr=>∃(m f:Nat) (x:Value),m<=i.length/\R=.int .i64 m/\Zz (f=h.length+m)/\Zz (hZ wr e 298 #[x]/\wr.ownsRow n 211 5 x f ((kU c (i.take m) h).flatMap oO)/\
     (∀j,x.ownBlock=some j->vs.ownBlock=some j\/w.heap.size<j)/\Kp (fun d=>d=e\/vs.ownBlock=some d) w wr/\hZ wr w 60 #[c.keeper,c.name])) (fun R _=>i.length - (intOf R).toNat)
 case atStart=>exact⟨0,h.length,vs,SV _,rfl,Zy rfl,R0⟩
 case round =>
  obtain⟨m,f,x,hk,rfl,y,g⟩:=hrel;by_cases aM:m<i.length
  . obtain⟨l,Q⟩:=get_some aM;obtain⟨d,aY,cs,rfl,ah,rfl,-,hc⟩:=HF.get Q;have aT:=(Z d ah).1;have aI:=(Z d ah).2;have ax:Same (·=d) w wr:=Kp.same g.2.2.2.1 (fun T r b=>by
     subst r;rcases b with rfl|b
     . exact aI rfl
     . have:=G.o _ b;omega)
    have ak:=hc.keep fun aP U hv=>ax d aP U rfl hv;obtain⟨g0,g1,q⟩:=ak.three;have gz:=jc g0;have aX:(w:Nat)<=wr:=g.2.2.2.1.size;have HX:=Zy Q;clear Q hc ak ax;have F:=g.2.1;obtain⟨o,p,rfl⟩:=jA F;have O:(Value.slice o f p).ownBlock≠some e:=fun b=>by
     rcases g.o.2.2.1 _ b with a|a
     . exact ae a
     . omega
    obtain⟨A,L,k,b7⟩:=nu wr #[l.name,l.kind.kind,l.kind.name] 216;have J:=g.1.ext k;have t:=g.2.2.2.2.ext k;have aA:(A:Nat)=wr+1:=by rw[L];simp
    obtain⟨aQ,aR,aW,s⟩:=qC.ex (fun aH=>Kp (fun d=>(Value.slice o f p).ownBlock=some d) A aH) _ Kp.rr;have az:¬(Value.slice o f p).ownBlock=some wr.heap.size:=fun b=>SX ((F.lt _ b).2)
    have ay:¬(Value.slice o f p).ownBlock=some w.heap.size:=fun b=>by
     rcases g.o.2.2.1 _ b with a|a
     . have:=(G _ a).2;omega
     . omega
    have r0:=fun v=>(J.kp (s.jv v) O).c 0 (.slice o f p) rfl;obtain⟨-,r4,r5,-⟩:=hZ.lC fun v=>(t.kp (s.jv v) ay);obtain⟨-,-,r7,r8,-⟩:=hZ.lC fun v=>(b7.kp (s.jv v) az);have⟨H,aB,X⟩:=jB s J k;have af:=Zy O;have⟨aD,aG,ag⟩:=jB (jb (D:=fun _=>False) F k fun _ _ _ l=>l) L aA;have aN:f+1<=4294967296:=SX y.o
    clear J t b7 F O az ay s k aA;go_wp2;rw[<-aG.o];clear L g0 g1 q;refine jW H 16 [([0,1,2,3,4,5,6,7,8,9,10,11,12,13],14),([],15)] [] ?_ ?_
    . exact jg
    refine lJ ?_;intro z u;go_wp2_with fail;refine kk H u kx ?_;clear u z;refine kN rfl fun z u=>?_;refine jo La rfl (.tmp 18) (.tmp 28) rfl n (.slice o f p) f _ rfl (jb (D:=fun _=>False) aD kx fun _ _ _ l=>l) A 1 (oO ⟨c,f,l.kind⟩) rfl rfl (hH.Fh _ _ rfl) (N9) aN ?_ ?_
    . have:=ag.o;simp;omega
    intro q c2 w1 aj ai au;have Y:Zz ((Value.slice o f p).ownBlock=some q\/w<q):=Zy (by
     rcases au with a|a
     . exact .inl a
     . right;have:=ag.o;simp at a;omega)
    clear au;change z _ _;have E:=(kx:Ext A _).any.trans ai;refine kk H u E ?_;clear u z;have C:=aB.kp E af;obtain⟨z1,d0,-⟩:=C.ca;have e0:=C.frozen 0;have⟨aC,aF,aa⟩:=jB C aj E;clear aj ai E C r0 r4 r5 r7 r8;refine ku ?_;go_wp2;have P:=fun D hD U=>(Kp.refl D w1).setCell (p:=⟨e,0,none⟩) (fun _=>hD) U;have aJ:q≠e:=fun b=>by
     subst b;rcases Y.o with a|a
     . exact af a
     . omega
    have aO:¬w=e:=Zm
    have aL:(kU c (i.take m) h).length=f:=by rw[sM,y.o,Tj];omega
    refine⟨⟨m+1,f+1,(q,f+1,c2),Zm,by go_num,Zy (SX y.o),Zy ⟨?_,?_,?_,?_,?_⟩⟩,by simp[intOf];omega⟩
    . exact aC.jy 0 _
    . rw[De HX.o,Uz,aL];have B:=jb aF (P (·=e) rfl (q,f+1,c2)) (fun T r _ b=>by cases r;exact aJ b);simpa using B
    . intro T r;cases r;rcases Y.o with a|a
      . rcases g.o.2.2.1 _ a with a|a
        . exact .inl a
        . exact .inr a
      . exact .inr a
    . refine((g.2.2.2.1.trans X.any).mix aa (fun T r b=>?_)).trans (P _ (.inl rfl) _);rcases g.o.2.2.1 _ b with a|a
      . exact .inr a
      . omega
    . exact((g.2.2.2.2.ext X).kp aa (fun b=>by
       rcases g.o.2.2.1 _ b with a|a
       . have:=(G _ a).2;omega
       . omega)).kp (P (·=e) rfl _) aO
  . have aK:m=i.length:=Zm
    subst aK;go_wp2;refine Ta ?_;refine⟨rfl,x,g.1,?_,?_,g.2.2.2.1⟩
    . have B:=g.2.1;rw[y.o,TC]at B;exact B
    . intro b;rcases g.o.2.2.1 _ b with a|a
      . exact ae a
      . omega
theorem CG(i:ji w l p)(m:rH):Calls prog 159 #[some l.L,.agg #[m.of.keeper,m.of.name,m.at_]] w fun h C=>h=.returned (.bool (kC p m))/\ji C l p/\Kp (·=l.D) w C:=by
 have J:=i.ET;have r:Ext w (w.alloc (.cells #[m.of.keeper,m.of.name,m.at_] 78)):=kx;have x:=(hZ.new w 78 #[m.of.keeper,m.of.name,m.at_]);obtain⟨O,z,R,f⟩:=qC.ex (LC l p (w.alloc (.cells #[m.of.keeper,m.of.name,m.at_] 78))) _ (LC.refl (i.ext r));obtain⟨-,q0,q1,q2,-⟩:=hZ.lC fun d=>(x.kp (f.jv d).kp Zm);have⟨q,N,a,E⟩:=jU (i.ext r) i f r;have s:Zz (∀d,ji (z d) l p/\Kp (·=l.D) w (z d)):=Zy (fun d=>⟨(f.jv d).at_,E.any.trans (f.jv d).kp⟩);clear x J i r f;cases n:ko p m.of
 . have g:Zz (kC p m=false):=Zy (by unfold kC;rw[n];rfl);have c:=Zy n;clear n;go_enter func159,ntmps159;go_wp2;refine C8 a ?_ ?_;rotate_left;(repeat (go_big_quiet_step ((go_at_call 53;refine(mU (a.jv _).at_ m.of).mono ?_;rintro h e ⟨rfl,k,j⟩;rw[c.o];exact⟨rfl,a.o.o e ((a.jv _).step k j)⟩))));refine TD ?_;(rintro _ ⟨o,rfl⟩);rotate_left
   . exact(LC.refl q).drew
   go_wp2;go_ret;exact⟨hQ g.symm,s o⟩
 . have c:=Zy n;clear n;by_cases H:m.at_ <0
   . have g:Zz (kC p m=false):=Zy (by unfold kC;rw[c.o,SL (p:=0<=m.at_) Zm];rfl);go_enter func159,ntmps159;go_wp2;have L:decide (0<=m.at_)=false:=SL Zm;refine C8 a ?_ ?_;rotate_left;(repeat (go_big_quiet_step ((go_at_call 53;refine(mU (a.jv _).at_ m.of).mono ?_;rintro h e ⟨rfl,k,j⟩;rw[c.o];exact⟨rfl,a.o.o e ((a.jv _).step k j)⟩))));refine TD ?_;(rintro _ ⟨o,rfl⟩);rotate_left
     . exact(LC.refl q).drew
     go_wp2;go_ret;exact⟨hQ g.symm,s o⟩
   . obtain⟨b,u⟩:=M.ng (Ak c).2;obtain⟨P,B,A⟩:=p8 _ l p q m.of.keeper m.of.name b u;obtain⟨F,G,v,y,rfl⟩:=B.form;have Q:∀t,(Instr.field 47 (.agg #[b.name,b.jl,.slice F b.fields.length G,.slice v b.methods.length y]) 3).run prog t=.ok (.slice v b.methods.length y) t:=(fun t=>by kernel_rfl);have D:=Zy A;have I:0<=m.at_:=Zm
     have g:Zz (kC p m=decide (m.at_ <b.methods.length)):=Zy (by
      unfold kC;rw[c.o,Tz (p:=0<=m.at_) Zm];have:cls p m.of=b:=by unfold cls;rw[u];rfl
      rw[this];rfl)
     clear u B A H;go_enter func159,ntmps159;go_wp2;have L:=Tz I;refine C8 a ?_ ?_;rotate_left;(repeat (go_big_quiet_step (first|(go_at_call 53;refine(mU (a.jv _).at_ m.of).mono ?_;rintro h e ⟨rfl,k,j⟩;rw[c.o];exact⟨rfl,a.o.o e ((a.jv _).step k j)⟩)|(go_at_call 52;refine(D _ (a.jv _).kp).mono ?_;rintro h e ⟨rfl,K⟩;exact⟨rfl,a.o.o e ((a.jv _).ext K)⟩))));refine TD ?_;(rintro _ ⟨o,rfl⟩);rotate_left
     . exact(LC.refl q).drew
     go_wp2;go_ret;exact⟨hQ g.symm,s o⟩
end Go.Proofs.YtlhgbjbkjalfjaaGreat
