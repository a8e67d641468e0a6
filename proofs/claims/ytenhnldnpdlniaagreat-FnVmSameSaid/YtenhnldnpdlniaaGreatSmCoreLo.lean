/- Walks. -/
import Derived.Test.YtenhnldnpdlniaaGreatSmCoreLl
set_option maxRecDepth 100000
set_option maxHeartbeats 4000000
set_option linter.all false
namespace Go.Proofs.YtenhnldnpdlniaaGreat
open Go Go.RowKit Tryz M
variable {i j k n: Nat}{a: Option Addr}{α: Type}{W c w: World}{l: jB}{p: jl}{Q: mZ}
def xV(p:jl)(k i:Nat)(q:Int)(s:ByteArray):Option Int:=
 if q<k then(wQ p ⟨q,s⟩).map Int.ofNat else if q=k then((p[k]?).bind fun Q=>(Q.owns.take i).findIdx? fun c=>decide (c.name=s)).map Int.ofNat else none
def xU(p:jl)(k i:Nat)(q:Int)(s:ByteArray):Option Int:=
 if q<k then ve p q s else if q=k then((p[k]?).bind fun Q=>((Q.asks.take i).find? fun a=>decide (a.name=s)).map M.Ask.keeper)else none
theorem En(p:jl)(k:Nat):mQ p (k:Int)=p[k]?:=by
 unfold mQ;rw[Ty Zm];rfl
theorem xg{q:Int}(a:q<0\/(p.length:Int)<=q):mQ p q=none:=by
 unfold mQ;split
 . rw[List.getElem?_eq_none_iff];omega
 . rfl
theorem Pt(p:jl)(q:Int)(s:ByteArray):xV p 0 0 q s=none:=by
 unfold xV;split
 . unfold wQ;rw[xg (.inl (by simpa using ‹q<((0:Nat):Int)›))];rfl
 . split
   . simp
   . rfl
theorem Og(p:jl)(q:Int)(s:ByteArray):xU p 0 0 q s=none:=by
 unfold xU;split
 . unfold ve;rw[xg (.inl (by simpa using ‹q<((0:Nat):Int)›))];rfl
 . split
   . simp
   . rfl
theorem Ps{c:Class}(j:p[k]?=some Q)(g:Q.owns[i]?=some c)(f:xV p k i k c.name=none)(q:Int)(s:ByteArray):xV p k (i+1) q s=if q=k/\s=c.name then some (i:Int)else xV p k i q s:=by
 have l:=(Tt.1 g).1;unfold xV at*;rw[j]at f |-;simp only[Int.lt_irrefl,Uq,Uy,Tn]at f |-;by_cases d:q<k
 . rw[Ty d,Ty d,T9 Zm]
 . rw[T9 d,T9 d];by_cases a:q=k
   . rw[Ty a,Ty a,Td,g];simp only[V3,List.findIdx?_append,TN,UN (Nat.le_of_lt l)];by_cases e:s=c.name
     . subst e;rw[Ty ⟨a,rfl⟩];have:(Q.owns.take i).findIdx? (fun m=>decide (m.name=c.name))=none:=by simpa using f
       rw[this];simp[VM]
     . rw[T9 (fun b=>e b.2)];have h:¬c.name=s:=fun b=>e b.symm;simp[VM,h]
   . rw[T9 a,T9 a,T9 (fun b=>a b.1)]
theorem Oe{a:M.Ask}(h:p[k]?=some Q)(j:Q.asks[i]?=some a)(f:xU p k i k a.name=none)(q:Int)(s:ByteArray):xU p k (i+1) q s=if q=k/\s=a.name then some a.keeper else xU p k i q s:=by
 unfold xU at*;rw[h]at f |-;simp only[Int.lt_irrefl,Uq,Uy,Tn]at f |-;by_cases d:q<k
 . rw[Ty d,Ty d,T9 Zm]
 . rw[T9 d,T9 d];by_cases b:q=k
   . rw[Ty b,Ty b,Td,j];simp only[V3,Ws];by_cases e:s=a.name
     . subst e;rw[Ty ⟨b,rfl⟩];have:(Q.asks.take i).find? (fun l=>decide (l.name=a.name))=none:=by simpa using f
       rw[this];simp
     . rw[T9 (fun c=>e c.2)];have g:¬a.name=s:=fun c=>e c.symm;simp[g]
   . rw[T9 b,T9 b,T9 (fun c=>b c.1)]
theorem QD(c:p[k]?=some Q)(q:Int)(s:ByteArray):xV p (k+1) 0 q s=xV p k Q.owns.length q s:=by
 unfold xV;by_cases a:q<k
 . rw[Ty Zm,Ty a]
 . by_cases b:q=k
   . subst b;rw[Ty Zm,T9 a,Ty rfl,c];unfold wQ;rw[En,c,Tn,Tn,Tq (Tu _)]
   . rw[T9 Zm,T9 a,T9 b];split
     . cases p[k+1]?<;>simp
     . rfl
theorem Qe(c:p[k]?=some Q)(q:Int)(s:ByteArray):xU p (k+1) 0 q s=xU p k Q.asks.length q s:=by
 unfold xU;by_cases a:q<k
 . rw[Ty Zm,Ty a]
 . by_cases b:q=k
   . subst b;rw[Ty Zm,T9 a,Ty rfl,c];unfold ve;rw[En,c,Tn,Tn,Tq (Tu _)]
   . rw[T9 Zm,T9 a,T9 b];split
     . cases p[k+1]?<;>simp
     . rfl
theorem QC(p:jl)(q:Int)(s:ByteArray):xV p p.length 0 q s=(wQ p ⟨q,s⟩).map Int.ofNat:=by
 unfold xV;by_cases a:q<p.length
 . rw[Ty a]
 . rw[T9 a];unfold wQ;rw[xg (.inr (by show(p.length:Int)<=q;omega))];split
   . simp
   . rfl
theorem Qd(p:jl)(q:Int)(s:ByteArray):xU p p.length 0 q s=ve p q s:=by
 unfold xU;by_cases a:q<p.length
 . rw[Ty a]
 . rw[T9 a];unfold ve;rw[xg (.inr (by show(p.length:Int)<=q;omega))];split
   . simp
   . rfl
theorem Gy{m:List (Key×Int)}{f g:Int->ByteArray->Option Int}{k v:Int}{n:ByteArray}(d:∀a b,look m (a,b)=f a b)(i:f k n=none)(h:∀a b,g a b=if a=k/\b=n then some v else f a b):∀a b,look (m++[((k,n),v)]) (a,b)=g a b:=by
 intro a b;rw[h];by_cases c:a=k/\b=n
 . obtain⟨rfl,rfl⟩:=c;rw[Ty ⟨rfl,rfl⟩,yO (by rw[d];exact i)]
 . rw[T9 c,xQ (fun e=>c (by simpa using e)),d]
structure nP(w:World)(l:jB)(p:jl)(k i j:Nat):Prop where
 ord:l.O<l.A/\l.A<l.D/\l.D<l.L
 blk:∃a cap,jq w l.L 99 #[.slice a p.length cap,.map (some l.O),.map (some l.A),.map (some l.D)]/\SliceOf 2 jo w (· <l.O) (.slice a p.length cap) p
 own:∃m,pE w l.O m/\∀q s,look m (q,s)=xV p k i q s
 ask:∃m,pE w l.A m/\∀q s,look m (q,s)=xU p k j q s
 laid:pE w l.D []
theorem nP.lt(a:nP w l p k i j):l.L<w:=by
 obtain⟨c,d,b,_⟩:=a.blk;exact b.lt
theorem nP.ext{d: World}(a:nP w l p k i j)(b:Ext w d):nP d l p k i j:=by
 obtain⟨e,f,o,q⟩:=a.blk;obtain⟨r,m,g⟩:=a.own;obtain⟨s,n,h⟩:=a.ask;exact⟨a.ord,⟨e,f,o.ext b,q.ext jo.stays b⟩,⟨r,m.kp b fun c=>c,g⟩,⟨s,n.kp b fun c=>c,h⟩,a.laid.kp b fun c=>c⟩
theorem nP.RO{e: Nat}(a:nP w l p k i j)(b:Kp (·=l.O) w c)(r:∃f,pE c l.O f/\∀g h,look f (g,h)=xV p k e g h):nP c l p k e j:=by
 obtain⟨x,y,z⟩:=a.ord;obtain⟨m,n,d,s⟩:=a.blk;obtain⟨t,q,o⟩:=a.ask;exact⟨a.ord,⟨m,n,d.kp b Zm,s.keep jo.stays (Kp.same b fun u d v=>Zm) fun _ a=>a⟩,r,⟨t,q.kp b Zm,o⟩,a.laid.kp b Zm⟩
theorem nP.RN{e: Nat}(a:nP w l p k i j)(b:Kp (·=l.A) w c)(r:∃f,pE c l.A f/\∀g h,look f (g,h)=xU p k e g h):nP c l p k i e:=by
 obtain⟨x,y,z⟩:=a.ord;obtain⟨m,n,d,s⟩:=a.blk;obtain⟨t,q,o⟩:=a.own;exact⟨a.ord,⟨m,n,d.kp b Zm,s.keep jo.stays (Kp.same b fun u d v=>Zm) fun _ a=>a⟩,⟨t,q.kp b Zm,o⟩,r,a.laid.kp b Zm⟩
theorem nP.done(c:nP w l p p.length 0 0)(h:kv p=true):jD w l p:=by
 obtain⟨j,f,d⟩:=c.own;obtain⟨k,g,e⟩:=c.ask;exact⟨h,c.ord,c.blk,⟨j,f,fun a b=>(d a b).trans (QC p a b)⟩,⟨k,g,fun a b=>(e a b).trans (Qd p a b)⟩,⟨[],c.laid,fun a b m i=>by cases i⟩⟩
theorem nP.next(a:nP w l p k Q.owns.length Q.asks.length)(d:p[k]?=some Q):nP w l p (k+1) 0 0:=by
 obtain⟨i,g,e⟩:=a.own;obtain⟨j,h,f⟩:=a.ask;exact⟨a.ord,a.blk,⟨i,g,fun b c=>(e b c).trans (QD d b c).symm⟩,⟨j,h,fun b c=>(f b c).trans (Qe d b c).symm⟩,a.laid⟩
theorem yM{b:Nat}{c: Nat}(f:w.cell? b=some (.slice a n c)){k:Int}:Calls prog 19 #[some b,k] w fun d e=>d=.returned (.bool (decide (0<=k)&&decide (k<n)))/\w=e:=by
 go_enter func19,ntmps19;go_wp2
 . go_ret;exact⟨hV (by rw[Tw (p:=0<=k) Zm];rfl),rfl⟩
 . go_ret;exact⟨hV (by rw[SS (p:=0<=k) Zm];rfl),rfl⟩
theorem nP.Ho(b:nP w l p k i j)(q:Int)(s:ByteArray):(Instr.lookup 97 (.map (some l.O)) (.agg #[q,s]) true).run prog w=.ok (.tuple #[.int .i64 ((xV p k i q s).getD 0),.bool (xV p k i q s).isSome]) w:=by
 obtain⟨d,c,a⟩:=b.own;rw[uw c,a]
theorem nP.Hn(b:nP w l p k i j)(q:Int)(s:ByteArray):(Instr.lookup 97 (.map (some l.A)) (.agg #[q,s]) true).run prog w=.ok (.tuple #[.int .i64 ((xU p k j q s).getD 0),.bool (xU p k j q s).isSome]) w:=by
 obtain⟨d,c,a⟩:=b.ask;rw[uw c,a]
theorem JA(a:p[k]?=some Q)(s:ByteArray):(xV p k i k s).isSome=(((Q.owns.take i).map Class.name).any fun b=>decide (b=s)):=by
 unfold xV;rw[T9 Zm,Ty rfl,a,Tn,Option.isSome_map,VA,List.any_map];rfl
theorem IM(a:p[k]?=some Q)(s:ByteArray):(xU p k i k s).isSome=(((Q.asks.take i).map M.Ask.name).any fun b=>decide (b=s)):=by
 unfold xU;rw[T9 Zm,Ty rfl,a,Tn,Option.isSome_map,List.any_map,Vz,Wt];simp
theorem Cy{name:α->ByteArray}{ok:α->Bool}{l:List α}{x:α}(a:l[i]?=some x):jU name ok (l.drop i) ((l.take i).map name)=(ok x&& !(((l.take i).map name).any fun b=>decide (b=name x))&&jU name ok (l.drop (i+1)) ((l.take (i+1)).map name)):=by
 rw[mM a,Td,a];simp only[jU,V3,Ux,Ur,Vb]
abbrev RS(l:jB):Nat->Prop:=fun b=>b=l.O\/b=l.A
theorem Jh (L : p[k]? = some Q)(X : nP w l p k 0 0) :Calls prog 41 #[some l.L,k] w fun a w'=>a=.returned (.bool (kC p Q))/\Kp (RS l) w w'/\(kC p Q=true->nP w' l p (k+1) 0 0):=by
 obtain⟨d,aM,hb,hs⟩:=X.blk;obtain⟨aA,aZ,cs,rfl,hI,aG,-,hc⟩:=hs.get L;obtain⟨vo,va,rfl,s1,s2⟩:=aG;obtain⟨S,V,rfl,aT,aS⟩:=s1.form;obtain⟨T,W,rfl,aU,N⟩:=s2.form;obtain⟨g0,g1⟩:=hc.two;have aP:=(Tt.1 L).1;obtain⟨aX,d0,-⟩:=hb.ca;have⟨H0,v⟩:=jw X L;have t:Ext w (w.alloc (.cells #[.slice S Q.owns.length V,.slice T Q.asks.length W] 32)):=(jJ _);have bK:=jq.new w 32 #[.slice S Q.owns.length V,.slice T Q.asks.length W];clear X L hc;have G:Zz (kC p Q=(decide (Q.owns.length<=5)&&decide (Q.asks.length<=4)&&jU Class.name o9 Q.owns []&&jU M.Ask.name (fun d=>jL d.name&&has p d.keeper) Q.asks [])):=Zy rfl;by_cases aQ:5<Q.owns.length
 . have hF:Zz (kC p Q=false):=Zy (by rw[G.o,SS (p:=Q.owns.length<=5) Zm];rfl);go_enter func41,ntmps41;go_wp2;go_ret;exact⟨hV hF.symm,t.any,fun a=>by rw[hF.o]at a;cases a⟩
 by_cases aR:4<Q.asks.length
 . have hF:Zz (kC p Q=false):=Zy (by rw[G.o,SS (p:=Q.asks.length<=4) Zm];simp);go_enter func41,ntmps41;go_wp2;go_ret;exact⟨hV hF.symm,t.any,fun a=>by rw[hF.o]at a;cases a⟩
 have H:Zz (kC p Q=(jU Class.name o9 Q.owns []&&jU M.Ask.name (fun d=>jL d.name&&has p d.keeper) Q.asks [])):=Zy (by
  rw[G.o,Tw (p:=Q.owns.length<=5) Zm,Tw (p:=Q.asks.length<=4) Zm];rfl)
 clear G;go_enter func41,ntmps41;go_wp2;generalize av:(w.alloc (.cells #[.slice S Q.owns.length V,.slice T Q.asks.length W] 32))=w0 at*;have aV:(w0:Nat)=w+1:=by rw[<-av];simp
 clear av;go_loopw [36] (fun i wr=>∃c:Nat,c<=Q.owns.length/\i=.int .i64 c/\Kp (RS l) w0 wr/\Zz (nP wr l p k c 0)/\Zz (jU Class.name o9 Q.owns []=jU Class.name o9 (Q.owns.drop c) ((Q.owns.take c).map Class.name))) (fun i _=>Q.owns.length - (intOf i).toNat)
 case atStart=>exact⟨0,Tz _,rfl,Kp.rr,Zy (H0.ext t),Zy rfl⟩
 case round=>
  obtain⟨c,hn,rfl,e,f,j⟩:=hrel;by_cases ae:c<Q.owns.length
  . obtain⟨b,r⟩:=get_some ae;obtain⟨b',aL,cs,he,Y,aa,-,B⟩:=s1.get r;subst he;obtain⟨o1,o2,o3⟩:=f.ord;have K:∀x,x<l.O->¬RS l x:=fun x hz a=>by rcases a with a|a<;>omega
    have C:=(B.ext t).keep fun aK ah hv=>e.mJ hv (K _ Y);have ak:=kE.kp jT.stays e K (kE.ext jT.stays t aa);obtain⟨y1,z1,y2,z2,rfl⟩:=aa.form;obtain⟨e0,e1,e2,e3⟩:=C.four;obtain⟨ma,aJ,A,-⟩:=f.blk;obtain⟨aI,-,r1,-⟩:=A.ca;have⟨R,ay⟩:=jw r ak;have h:Ext wr ((wr.alloc (.cells #[b.name,b.jE,.slice y1 b.fields.length z1,.slice y2 b.methods.length z2] 38)).alloc (.cells #[k,b.name] 64)):=kx;have m:=fun z=>(f.ext (h.drewN z)).Ho k b.name;have q:=JA (i:=c) v b.name;have s:=Zy (Cy (name:=Class.name) (ok:=o9) r);clear r B C aa ak A;cases g:xV p k c k b.name with
    |some ah=>
     rw[g]at m q;simp only[TC,Ul]at m;have hF:Zz (kC p Q=false):=Zy (by rw[H.o,j.o,s.o,<-q];simp);clear g q;go_wp2;go_quiet (fail);go_wp2;go_ret;exact⟨hV hF.symm,(t.any.trans e).trans (kx:Ext wr _).any,fun a=>by rw[hF.o]at a;cases a⟩
    | none =>
     have o:=Zy g;rw[g]at m q;simp only[Vv,Ua]at m;have bC:=(jq.new wr 38 #[b.name,b.jE,.slice y1 b.fields.length z1,.slice y2 b.methods.length z2]).ext (jJ (.cells #[k,b.name] 64));obtain⟨-,q0,q1,q2,q3,-⟩:=bC.ca;have U:=jq.new (wr.alloc (.cells #[b.name,b.jE,.slice y1 b.fields.length z1,.slice y2 b.methods.length z2] 38)) 64 #[k,b.name];simp only[Tp]at U;have az:=Zy (fun z=>kE.ext jT.stays (h.drewN z) ay);cases u:o9 b
     all_goals
      have n:=Zy u;clear u g;go_wp2;go_quiet (fail);go_wp2_with fail;refine(BC _ _ _ _ (az _)).mono ?_;rintro a F ⟨rfl,J⟩;rw[n.o];have bf:=((h.drewN _).trans J).jm r1;have ai:=(U.ext (Kp.rr.drewN _)).ext J;obtain⟨uz,u0,u1,-⟩:=ai.ca;have Z:=(h.drewN _).trans J;clear e0 e1 e2 e3 q0 q1 q2 q3 r1 bC U ai m J h
     . have hF:Zz (kC p Q=false):=Zy (by rw[H.o,j.o,s.o,n.o];simp);go_wp2;go_ret;exact⟨hV hF.symm,(t.any.trans e).trans Z.any,fun a=>by rw[hF.o]at a;cases a⟩
     . go_wp2;refine pI 6 Zo Zo ?_;(simp only[Uh,UO,Ug,UF]);(repeat still_step);refine Vd ?_;have aj:=f.ext (Z.drew);obtain⟨ag,hm,E⟩:=aj.own;have P:=Zy aj;refine nT rfl rfl l.O ag k b.name c rfl rfl rfl hm (by rw[E];exact o) ?_;intro w2 N D aH;go_wp2;go_roundw
       case rel=>
        refine⟨c+1,Zm,Zk,?_,Zy (P.o.RO D ⟨_,N,Gy E o.o (Ps v.o R.o o.o)⟩),Zy ?_⟩
        . exact(e.trans (Z.drew).any).trans (D.weak fun _ _ a=>.inl a)
        . rw[j.o,s.o,n.o,<-JA v.o,o.o];rfl
       case measure=>exact Zj
  . have af:c=Q.owns.length:=Zm
    subst af;have I:Zz (kC p Q=jU M.Ask.name (fun d=>jL d.name&&has p d.keeper) Q.asks []):=Zy (by
     rw[H.o,j.o,U7 (Tu _)];rfl)
    have aD:=t.any.trans e;have aO:aA<l.O:=hI;have K:∀x,x<l.O->¬RS l x:=by
     obtain⟨o1,o2,o3⟩:=f.ord;exact fun x hz a=>by rcases a with a|a<;>omega
    have aY:=e.size;have aN:l.A<l.L:=by obtain⟨o1,o2,o3⟩:=f.ord;omega
    have aB:=bK.kp e (fun a=>by obtain⟨o1,o2,o3⟩:=f.ord;rcases a with a|a<;>omega);obtain⟨aW,-,v1,-⟩:=aB.ca;clear j H bK;obtain⟨wo,rfl⟩:∃wo:World,wo=wr:=⟨_,rfl⟩;go_wp2;go_loopw [70] (fun i wr=>∃c:Nat,c<=Q.asks.length/\i=.int .i64 c/\Kp (RS l) w wr/\Zz (nP wr l p k Q.owns.length c)/\Zz (jU M.Ask.name (fun d=>jL d.name&&has p d.keeper) Q.asks []=jU M.Ask.name (fun d=>jL d.name&&has p d.keeper) (Q.asks.drop c) ((Q.asks.take c).map M.Ask.name))) (fun i _=>Q.asks.length - (intOf i).toNat)
    case atStart=>exact⟨0,Tz _,rfl,aD,f,Zy rfl⟩
    case round=>
     obtain⟨c,hn,rfl,e,f,j⟩:=hrel;by_cases ae:c<Q.asks.length
     . obtain⟨b,r⟩:=get_some ae;obtain⟨b',aL,cs,he,Y,rfl,-,B⟩:=s2.get r;subst he;have C:=B.keep fun aK ah hv=>e.mJ hv (K _ Y);obtain⟨e0,e1⟩:=C.two;obtain⟨ma,aJ,A,-⟩:=f.blk;obtain⟨aI,r0,-,r2,-⟩:=A.ca;have R:=Zy r;have h:Ext wr ((wr.alloc (.cells #[b.name,b.keeper] 93)).alloc (.cells #[k,b.name] 64)):=kx;have m:=fun z=>(f.ext (h.drewN z)).Hn k b.name;have q:=IM (i:=c) v b.name;have s:=Zy (Cy (name:=M.Ask.name) (ok:=fun d=>jL d.name&&has p d.keeper) r);clear r B C A;cases g:xU p k c k b.name with
       |some ah=>
        rw[g]at m q;simp only[TC,Ul]at m;have hF:Zz (kC p Q=false):=Zy (by rw[I.o,j.o,s.o,<-q];simp);clear g q;go_wp2;go_quiet (fail);go_wp2;go_ret;exact⟨hV hF.symm,e.trans (kx:Ext wr _).any,fun a=>by rw[hF.o]at a;cases a⟩
       |none=>
        have o:=Zy g;rw[g]at m q;simp only[Vv,Ua]at m;cases u:jL b.name
        . have n:=Zy u;have hF:Zz (kC p Q=false):=Zy (by rw[I.o,j.o,s.o,u];simp);clear u g;go_wp2;go_quiet (fail);go_wp2_with (go_at_call 17;refine(og _ _).mono ?_;rintro a F ⟨rfl,rfl⟩;rw[n.o]);go_ret;exact⟨hV hF.symm,e.trans (kx:Ext wr _).any,fun a=>by rw[hF.o]at a;cases a⟩
        . have n:=Zy u;clear u;have au:has p b.keeper=(decide (0<=b.keeper)&&decide (b.keeper<p.length)):=rfl;cases y:has p b.keeper
          . have hF:Zz (kC p Q=false):=Zy (by rw[I.o,j.o,s.o,y];simp);have O:Zz ((decide (0<=b.keeper)&&decide (b.keeper<p.length))=false):=Zy y;clear y g au;go_wp2;go_quiet (fail);go_wp2_with (first|(go_at_call 17;refine(og _ _).mono ?_;rintro a F ⟨rfl,rfl⟩;rw[n.o])|(go_at_call 19;refine(yM ((h.drewN _).jm r0)).mono ?_;rintro a F ⟨rfl,rfl⟩;rw[O.o]));go_ret;exact⟨hV hF.symm,e.trans (kx:Ext wr _).any,fun a=>by rw[hF.o]at a;cases a⟩
          . have O:Zz ((decide (0<=b.keeper)&&decide (b.keeper<p.length))=true):=Zy y;have ax:=Zy y;clear y g au;go_wp2;go_quiet (fail);go_wp2_with (first|(go_at_call 17;refine(og _ _).mono ?_;rintro a F ⟨rfl,rfl⟩;rw[n.o])|(go_at_call 19;refine(yM ((h.drewN _).jm r0)).mono ?_;rintro a F ⟨rfl,rfl⟩;rw[O.o]));obtain⟨ag,hm,E⟩:=f.ask;have P:=Zy f.o;refine pI 7 Zo Zo ?_;(simp only[Uh,UO,Ug,UF]);(repeat still_step);refine Vd ?_;refine nT rfl rfl l.A ag k b.name b.keeper rfl rfl rfl (hm.kp ((h.drewN _).drew) fun b=>b) (by rw[E];exact o) ?_;intro w2 N D aH;have⟨aF,aC⟩:=jw (P.ext ((h.drewN _).drew)|>.RN D ⟨_,N,Gy E o (Oe v R o)⟩) ((e.trans ((h.drewN _).drew).any).trans (D.weak fun _ _ a=>.inr a));go_wp2;go_roundw
            case rel=>
             refine⟨c+1,Zm,Zk,aC.o,aF,Zy ?_⟩;rw[j.o,s.o,n.o,ax.o,<-IM v.o,o.o];rfl
            case measure=>exact Zj
     . have af:c=Q.asks.length:=Zm
       subst af;have hF:Zz (kC p Q=true):=Zy (by rw[I.o,j.o,U7 (Tu _)];rfl);go_wp2;go_ret;exact⟨hV hF.symm,e,fun _=>f.next v⟩
theorem Od{f:α->Bool}{l:List α}{x:α}(a:l[k]?=some x):(l.drop k).all f=(f x&&(l.drop (k+1)).all f):=by
 rw[mM a,List.all_cons]
theorem BV(w:World)(I:Nat->Prop)(v:Value)(p:jl)(C:SliceOf 2 jo w I v p)(hI:∀e,I e->e<w.heap.size):Calls prog 18 #[.agg #[v]] w fun l K=>Ext w K/\((kv p=false/\l=.returned (.pointer none))\/(kv p=true/\∃c:jB,l=.returned (some c.L)/\jD K c p/\w<=c.O)):=by
 obtain⟨a,b,rfl,S,W⟩:=C.form;by_cases X:p.length<1
 . have hF:Zz (kv p=false):=Zy (by unfold kv;rw[SS (p:=1<=p.length) Zm];rfl);go_enter func18,ntmps18;go_wp2;go_ret;exact⟨kx,.inl ⟨hF,rfl⟩⟩
 by_cases Y:3<p.length
 . have hF:Zz (kv p=false):=Zy (by unfold kv;rw[SS (p:=p.length<=3) Zm];simp);go_enter func18,ntmps18;go_wp2;go_ret;exact⟨kx,.inl ⟨hF,rfl⟩⟩
 have x:Zz (kv p=p.all (kC p)):=Zy (by unfold kv;rw[Tw (p:=1<=p.length) Zm,Tw (p:=p.length<=3) Zm];rfl);have U:∀j:World,(Instr.makeMap 97 none).run prog j=.ok (.map (some j.heap.size)) (j.alloc (.map #[] 0)):=fun j=>by kernel_rfl
 have D:Ext w (((((w.alloc (.cells #[.slice a p.length b] 25)).alloc (.map #[] 0)).alloc (.map #[] 0)).alloc (.map #[] 0)).alloc (.cells #[.slice a p.length b,.map (some (w.heap.size+1)),.map (some (w.heap.size+1+1)),.map (some (w.heap.size+1+1+1))] 99)):=kx;have F:nP (((((w.alloc (.cells #[.slice a p.length b] 25)).alloc (.map #[] 0)).alloc (.map #[] 0)).alloc (.map #[] 0)).alloc (.cells #[.slice a p.length b,.map (some (w.heap.size+1)),.map (some (w.heap.size+1+1)),.map (some (w.heap.size+1+1+1))] 99)) ⟨w.heap.size+1+1+1+1,w.heap.size+1,w.heap.size+1+1,w.heap.size+1+1+1⟩ p 0 0 0:=by
  have y:=pE.new (w.alloc (.cells #[.slice a p.length b] 25));have z:=pE.new ((w.alloc (.cells #[.slice a p.length b] 25)).alloc (.map #[] 0));have A:=pE.new (((w.alloc (.cells #[.slice a p.length b] 25)).alloc (.map #[] 0)).alloc (.map #[] 0));have B:=jq.new ((((w.alloc (.cells #[.slice a p.length b] 25)).alloc (.map #[] 0)).alloc (.map #[] 0)).alloc (.map #[] 0)) 99 #[.slice a p.length b,.map (some (w.heap.size+1)),.map (some (w.heap.size+1+1)),.map (some (w.heap.size+1+1+1))];simp only[Tp]at y z A B;refine⟨⟨VQ _,VQ _,VQ _⟩,⟨a,b,B,C.keep jo.stays (Ext.same D) fun e f=>Nat.lt_succ_of_lt (hI e f)⟩,⟨[],y.kp (((((Kp.refl (fun _=>False) _).alloc _).alloc _).alloc _)) fun h=>h,fun r s=>(Pt p r s).symm⟩,⟨[],z.kp ((((Kp.refl (fun _=>False) _).alloc _).alloc _)) fun h=>h,fun r s=>(Og p r s).symm⟩,A.kp ((Kp.refl (fun _=>False) _).alloc _) fun h=>h⟩
 go_enter func18,ntmps18;go_wp2;obtain⟨c,g⟩:∃c:jB,c=⟨w.heap.size+1+1+1+1,w.heap.size+1,w.heap.size+1+1,w.heap.size+1+1+1⟩:=⟨_,rfl⟩;have P:w.heap.size+1+1+1+1=c.L:=by rw[g]
 have Q:w<c.O/\w<c.A:=by rw[g];exact⟨VQ _,by show w.heap.size<w.heap.size+1+1;omega⟩
 rw[<-g]at F;generalize (((((w.alloc (.cells #[.slice a p.length b] 25)).alloc (.map #[] 0)).alloc (.map #[] 0)).alloc (.map #[] 0)).alloc (.cells #[.slice a p.length b,.map (some (w.heap.size+1)),.map (some (w.heap.size+1+1)),.map (some (w.heap.size+1+1+1))] 99))=w1 at*;rw[P];have V:=Zy g;clear g U;go_loopw [25] (fun q wr=>∃d:Nat,d<=p.length/\q=.int .i64 d/\Kp (RS c) w1 wr/\Zz (nP wr c p d 0 0)/\Zz (p.all (kC p)=(p.drop d).all (kC p))) (fun q _=>p.length - (intOf q).toNat)
 case atStart=>exact⟨0,Tz _,rfl,Kp.rr,Zy F,Zy rfl⟩
 case round=>
  obtain⟨d,S,rfl,G,u,k⟩:=hrel;have E:=D.own G (fun e f=>by rcases f with rfl|rfl<;>omega);by_cases R:d<p.length
  . obtain⟨O,J⟩:=get_some R;have m:=Od (f:=kC p) J;have t:=Zy m;go_wp2_with fail;refine(Jh J u).mono ?_;rintro l Z ⟨rfl,H,n⟩;cases o:kC p O
    . have i:Zz (kv p=false):=Zy (by rw[x.o,k.o,t.o,o];rfl);clear n m;go_wp2;go_ret;exact⟨E.own H (fun e f=>by rcases f with rfl|rfl<;>omega),.inl ⟨i.o,rfl⟩⟩
    . have L:=Zy (n o);have N:=Zy o;clear n m;go_wp2;go_roundw
      case rel=>exact⟨d+1,Zm,Zk,G.trans H,L,Zy (by rw[k.o,t.o,N.o];rfl)⟩
      case measure=>exact Zj
  . have T:d=p.length:=Zm
    subst T;have i:Zz (kv p=true):=Zy (by rw[x.o,k.o,U7 (Tu _)];rfl);go_wp2;go_ret;exact⟨E,.inr ⟨i,c,rfl,u.done i,Nat.le_of_lt Q.1⟩⟩
def oN:pU:=⟨⟨0,none_⟩,0⟩
theorem Ew(w:World)(l:jB)(p:jl)(x:jD w l p)(r:Ref)(n:ByteArray):Calls prog 96 #[some l.L,.agg #[r.keeper,r.name],n] w fun f w'=>f=.returned (.tuple #[.agg #[.int .i64 ((pick p r n).getD oN).of.keeper,.string ((pick p r n).getD oN).of.name,.int .i64 ((pick p r n).getD oN).at_],.bool (pick p r n).isSome])/\jD w' l p/\Kp (·=l.D) w w':=by
 have L:Ext w ((w.alloc (.cells #[r.keeper,r.name] 64)).alloc (.cells #[Tj,"",Tj] 66)):=kx;have Q:=Zy (x.ext L);have af:=x.lt;have aA:l.D<l.L:=x.ord.2.2;clear x;have T:=(jq.new w 64 #[r.keeper,r.name]).ext (jJ (.cells #[Tj,"",Tj] 66));have H:=jq.new (w.alloc (.cells #[r.keeper,r.name] 64)) 66 #[Tj,"",Tj];simp only[Tp]at H;go_enter func96,ntmps96;go_wp2_with fail;generalize ((w.alloc (.cells #[r.keeper,r.name] 64)).alloc (.cells #[Tj,"",Tj] 66))=w0 at*;refine(nM Q r).mono ?_;rintro f P ⟨rfl,ae,z⟩;have X:=T.kp z Zm;have h:=H.kp z Zm;have N:=(L.any).trans z;obtain⟨-,p0,p1,-⟩:=X.ca;obtain⟨-,q0,q1,q2,-⟩:=h.ca;obtain⟨s,t,u,-⟩:=h.fz;have m:=Zy ae;have D:=h.lt;clear T H Q L ae z;cases A:jW p r
 . have j:pick p r n=none:=by unfold pick;rw[A];rfl
   have o:=Zy j;clear A j;go_wp2;refine PG (v:=.tuple #[.agg #[Tj,"",Tj],.bool false]) (by simp[results,results96,go_sem,q0,q1,q2]) rfl ?_;have d:Kp (·=w+1) P (((P.setCell ⟨w+1,0,none⟩ Tj).setCell ⟨w+1,1,none⟩ "").setCell ⟨w+1,2,none⟩ Tj):=
    (((Kp.refl (·=w+1) P).setCell (p:=⟨w+1,0,none⟩) (fun _=>rfl) _).setCell (p:=⟨w+1,1,none⟩) (fun _=>rfl) _).setCell (p:=⟨w+1,2,none⟩) (fun _=>rfl) _
   exact⟨by rw[o.o];rfl,m.kp d (fun b C f=>Zm),N.own d (fun b C=>Zm)⟩
 . have j:pick p r n=mq p n (chain p r):=by unfold pick;rw[A];rfl
   have o:=Zy j;clear A j;go_wp2_with fail;refine(sH m _).mono ?_;rintro f w2 ⟨⟨v,rfl,hs⟩,y⟩;obtain⟨ax,az,rfl,hn,aB⟩:=hs.form;have HO:Zz (∀a∈chain p r,∃g,cls? p a=some g):=Zy mr;have S:=Zy (m.ext y);have aj:=h.ext y;have ak:=N.trans y.any;clear p0 p1 q0 q1 q2 s t u D X h N y m;generalize chain p r=xs at*;go_wp2;go_loopw [20] (fun c wr=>∃b:Nat,b<=xs.length/\c=.int .i64 b/\Ext w2 wr/\Zz (mq p n xs=mq p n (xs.drop b))) (fun c _=>xs.length - (intOf c).toNat)
   case atStart=>exact⟨0,Tz _,rfl,Kp.rr,Zy rfl⟩
   case round=>
    obtain⟨b,C,rfl,i,R⟩:=hrel;have q:=aj.ext i;obtain⟨D,q0,q1,q2,-⟩:=q.ca;obtain⟨s,t,u,-⟩:=q.fz;have d:Zz (∀e (F v E:Value),Ext w2 e->Kp (·=l.D) w (((e.setCell ⟨w+1,0,none⟩ F).setCell ⟨w+1,1,none⟩ v).setCell ⟨w+1,2,none⟩ E)/\jD (((e.setCell ⟨w+1,0,none⟩ F).setCell ⟨w+1,1,none⟩ v).setCell ⟨w+1,2,none⟩ E) l p):=Zy (fun e F v E hW=>by
     have d:Kp (·=w+1) e (((e.setCell ⟨w+1,0,none⟩ F).setCell ⟨w+1,1,none⟩ v).setCell ⟨w+1,2,none⟩ E):=
      (((Kp.refl (·=w+1) e).setCell (p:=⟨w+1,0,none⟩) (fun _=>rfl) _).setCell (p:=⟨w+1,1,none⟩) (fun _=>rfl) _).setCell (p:=⟨w+1,2,none⟩) (fun _=>rfl) _
     exact⟨(ak.trans hW.any).own d (fun b C=>Zm),(S.o.ext hW).kp d (fun b C f=>Zm)⟩)
    by_cases af:b<xs.length
    . obtain⟨a,k⟩:=get_some af;obtain⟨ay,aD,cs,rfl,hI,rfl,-,hc⟩:=hs.get k;obtain⟨g0,g1⟩:=(hc.ext i).two;obtain⟨g,O⟩:=HO.o a (Tx k);have⟨HX,ai⟩:=jw k O;have ag:Zz (mq p n xs=match pY g n with|some c=>some ⟨a,c⟩|none=>mq p n (xs.drop (b+1))):=Zy (by
       rw[R.o,mM k];have au:cls p a=g:=by unfold cls;rw[O];rfl
       rw[<-au];rfl)
      clear k hc O;have U:=jq.new wr 64 #[.int .i64 a.keeper,.string a.name];go_wp2_with fail;refine(sI _ _ (S.ext (i.alloc (.cells #[.int .i64 a.keeper,.string a.name] 64))) _ _ _ ai).mono ?_;rintro f w3 ⟨⟨cs,av,rfl⟩,J⟩;have ah:=Zy (kE.ext jT.stays J av);have Z:=((Kp.refl (fun _=>False) wr).alloc (.cells #[.int .i64 a.keeper,.string a.name] 64)).trans J;have V:=U.ext J;have Y:=q.ext Z;clear q0 q1 q2 s t u D g0 g1 U;go_wp2_with fail;refine(BS ah).mono ?_;rintro f w4 ⟨rfl,K⟩;have W:=V.ext K;obtain⟨xz,x0,x1,-⟩:=W.ca;have I:=Y.ext K;obtain⟨D,q0,q1,q2,-⟩:=I.ca;obtain⟨s,t,u,-⟩:=I.fz;have aa:=(i.trans Z).trans K;clear V W Y I q;cases B:pY g n with
      |none=>
       have G:=Zy (ag.trans (by rw[B]));simp only[De,Option.elim];clear B;go_wp2;go_roundw
       case rel=>exact⟨b+1,Zm,Zk,aa,Zy G.o⟩
       case measure=>exact Zj
      |some c=>
       have G:=Zy (ag.trans (by rw[B]));simp only[De,Option.elim];clear B;have aC:(0:Int)<=(c:Int):=Zm
       go_wp2;refine PG (v:=.tuple #[.agg #[.int .i64 a.keeper,.string a.name,c],.bool true]) (by simp[results,results96,go_sem,q0,q1,q2]) rfl ?_;have:=d.o w4 (.int .i64 a.keeper) (.string a.name) c aa;exact⟨by rw[o.o,G.o];rfl,this.2,this.1⟩
    . go_wp2;refine PG (v:=.tuple #[.agg #[Tj,"",Tj],.bool false]) (by simp[results,results96,go_sem,q0,q1,q2]) rfl ?_;have:=d.o wr Tj "" Tj i;exact⟨by rw[o.o,R.o,U7 Zm];rfl,this.2,this.1⟩
def DJ(w:World)(ev:Value)(code:Int):Prop:=(code=1/\ev=Value.nilIface)\/(code≠1/\∃b,ev=.iface 166 (.pointer (some ⟨b,0,none⟩))/\jq w b 168 #[.int .i64 code])
theorem xP(h:jD w l p){k:Int}{n m:ByteArray}:Calls prog 95 #[some l.L,k,n,m] w fun a d=>(∃x,a=.returned (.tuple #[.agg #[.int .i64 (ko p k n m).1.keeper,.string (ko p k n m).1.name],x])/\DJ d x (ko p k n m).2)/\jD d l p/\Kp (·=l.D) w d:=by
 have aa:Ext w (w.alloc (.cells #[Tj,""] 64)):=kx;have⟨q,B⟩:=jw (h.ext aa) h;have ax:=h.lt;have au:l.D<l.L:=h.ord.2.2;clear h;have S:=jq.new w 64 #[Tj,""];obtain⟨-,H,I,-⟩:=S.ca;have O:Zz (¬(has p k&&jL n&&jL m)=true->ko p k n m=(q9,2)):=Zy (fun h=>by unfold ko;rw[T9 h]);have af:Zz ((has p k&&jL n&&jL m)=true->ko p k n m=(if(find p k n).2=1 then(if jW p (find p k n).1 then((find p k n).1,1)else(q9,4))else(q9,2))):=Zy (fun h=>by unfold ko;rw[Ty h]);have A:Zz (∀(a:Ending)(d:World)(E:Nat),ko p k n m=(q9,2)->a=.returned (.tuple #[.agg #[Tj,""],.iface 166 (some E)])->jq d E 168 #[.int .i64 2]->jD d l p->Kp (·=l.D) w d→
     (∃x,a=.returned (.tuple #[.agg #[.int .i64 (ko p k n m).1.keeper,.string (ko p k n m).1.name],x])/\DJ d x (ko p k n m).2)/\jD d l p/\Kp (·=l.D) w d):=Zy (fun a d E Y e2 e3 e4 e5=>by
  rw[Y];exact⟨⟨_,e2,.inr ⟨Zn,E,rfl,e3⟩⟩,e4,e5⟩)
 cases j:has p k
 . have u:=Zy j;have c:=Zy (O (by rw[j];simp));clear j;go_enter func95,ntmps95;go_wp2_with (go_at_call 19;refine(tY q _).mono ?_;rintro a b ⟨rfl,rfl⟩;rw[u.o]);refine PG (v:=.tuple #[.agg #[Tj,""],.iface 166 (.pointer (some ⟨w+1,0,none⟩))]) (by simp[results,results95,go_sem,H,I]) rfl ?_;refine A _ _ _ c rfl ?_ (B.ext kx) (kx:Ext w _).any;have:=jq.new (w.alloc (.cells #[Tj,""] 64)) 168 #[.int .i64 2];simpa only[Tp]using this
 have u:=Zy j;cases o:jL n
 . have C:=Zy o;have c:=Zy (O (by rw[o];simp));clear j o;go_enter func95,ntmps95;go_wp2_with (first|(go_at_call 19;refine(tY q _).mono ?_;rintro a b ⟨rfl,rfl⟩;rw[u.o])|(go_at_call 17;refine(og _ _).mono ?_;rintro a b ⟨rfl,rfl⟩;rw[C.o]));refine PG (v:=.tuple #[.agg #[Tj,""],.iface 166 (.pointer (some ⟨w+1,0,none⟩))]) (by simp[results,results95,go_sem,H,I]) rfl ?_;refine A _ _ _ c rfl ?_ (B.ext kx) (kx:Ext w _).any;have:=jq.new (w.alloc (.cells #[Tj,""] 64)) 168 #[.int .i64 2];simpa only[Tp]using this
 have C:=Zy o;cases r:jL m
 . have Q:=Zy r;have c:=Zy (O (by rw[r];simp));clear j o r;go_enter func95,ntmps95;go_wp2_with fail;refine(tY q _).mono ?_;rintro a b ⟨rfl,rfl⟩;rw[u.o];go_wp2_with fail;refine(og _ _).mono ?_;rintro a b ⟨rfl,rfl⟩;rw[C.o];go_wp2_with fail;refine(og _ _).mono ?_;rintro a b ⟨rfl,rfl⟩;rw[Q.o];go_wp2;refine PG (v:=.tuple #[.agg #[Tj,""],.iface 166 (.pointer (some ⟨w+1,0,none⟩))]) (by simp[results,results95,go_sem,H,I]) rfl ?_;refine A _ _ _ c rfl ?_ (B.ext kx) (kx:Ext w _).any;have:=jq.new (w.alloc (.cells #[Tj,""] 64)) 168 #[.int .i64 2];simpa only[Tp]using this
 have⟨Q,D⟩:=jw r (af (by rw[j,o,r];rfl));clear j o r O af;go_enter func95,ntmps95;go_wp2_with fail;refine(tY q _).mono ?_;rintro a b ⟨rfl,rfl⟩;rw[u.o];go_wp2_with fail;refine(og _ _).mono ?_;rintro a b ⟨rfl,rfl⟩;rw[C.o];go_wp2_with fail;refine(og _ _).mono ?_;rintro a b ⟨rfl,rfl⟩;rw[Q.o];go_wp2_with fail;refine(qj _ _ _ q _ _).mono ?_;rintro a b ⟨rfl,T⟩;have G:=S.ext T;obtain⟨hz,q0,q1,-⟩:=G.ca;obtain⟨f0,f1,-⟩:=G.fz;have J:=aa.trans T;have U:=Zy (B.ext J);clear H I q T S;have R:Zz (∀(i:World)(s v:Value),Kp (·=w) i ((i.setCell w s).setCell (w,1) v)):=Zy (fun i s v=>qM);have ag:Zz (∀(i:World)(s v P:Value),jq (((i.setCell w s).setCell (w,1) v).alloc (.cells #[P] 168)) i 168 #[P]):=Zy (fun i s v P=>by
  have:=jq.new ((i.setCell w s).setCell (w,1) v) 168 #[P];simpa using this)
 generalize find p k n=F at*;obtain⟨⟨f,g⟩,ai⟩:=F;simp only at*;by_cases L:ai=1
 . subst L;have X:=jq.new b 64 #[f,g];go_wp2_with fail;refine(nM (U.ext (jJ (.cells #[f,g] 64))) ⟨f,g⟩).mono ?_;rintro a t ⟨rfl,aj,K⟩;have ak:l.D<b:=Te J.size
   have ah:=X.kp K Zm;have W:=(G.ext (jJ (.cells #[f,g] 64))).kp K Zm;obtain⟨uz,u0,u1,-⟩:=ah.ca;obtain⟨Z,r0,r1,-⟩:=W.ca;obtain⟨e0,Y,-⟩:=W.fz;have ae:=((J.alloc _).any).trans K;clear q0 q1 f0 f1 G X K;have e:Kp (·=w) t ((t.setCell w Tj).setCell (w,1) ""):=qM;clear e;have V:=Zy aj;cases N:jW p ⟨f,g⟩
   . have c:Zz (ko p k n m=(q9,4)):=Zy (by rw[D.o,N];rfl);clear N;go_wp2;refine PG (v:=.tuple #[.agg #[Tj,""],.iface 166 (some t)]) (by simp[results,results95,go_sem,r0,r1,Z]) rfl ?_;have e:=R.o t Tj "";rw[c.o];exact⟨⟨_,rfl,.inr ⟨Zn,_,rfl,ag t _ _ _⟩⟩,(V.kp e (fun z y a=>Zm)).ext (jJ _),(ae.own e (fun z y=>Zm)).alloc _⟩
   . have c:Zz (ko p k n m=(⟨f,g⟩,1)):=Zy (by rw[D.o,N];rfl);clear N;go_wp2;refine PG (v:=.tuple #[.agg #[f,g],Value.nilIface]) (by simp[results,results95,go_sem,r0,r1,Z]) rfl ?_;have e:=R.o t f g;rw[c.o];exact⟨⟨_,rfl,.inl ⟨rfl,rfl⟩⟩,V.kp e (fun z y a=>Zm),ae.own e (fun z y=>Zm)⟩
 . have av:=TE.2 L;have c:Zz (ko p k n m=(q9,2)):=Zy (by rw[D.o,T9 L]);clear L D;go_wp2;refine PG (v:=.tuple #[.agg #[Tj,""],.iface 166 (.pointer (some ⟨b+1,0,none⟩))]) (by simp[results,results95,go_sem,q0,q1,hz]) rfl ?_;have e:=R.o b Tj "";refine A _ _ _ c rfl ?_ ((U.kp e (fun z y a=>Zm)).ext ((jJ _).alloc _)) (((J.any.own e (fun z y=>Zm)).alloc _).alloc _);have:=jq.new (((b.setCell w Tj).setCell (w,1) "").alloc (.cells #[f,g] 64)) 168 #[.int .i64 2];simpa using this
theorem Hm(w:World)(l:jB)(p:jl)(z:jD w l p)(k:Int)(n:ByteArray)(i:Nat)(c:Class)(m:M.Method)(F:cls? p ⟨k,n⟩=some c)(B:c.methods[i]?=some m):Calls prog 46 #[some l.L,.agg #[k,n,i]] w fun y K=>(∃r,jy K (· <l.O) m r/\y=.returned (.agg r.toArray))/\Ext w K:=by
 have ak:=(Tt.1 B).1;have⟨O,C,Q,R⟩:=kD z z F B;clear z F B;have E:=(jq.new w 66 #[k,n,i]);obtain⟨-,q0,q1,q2,-⟩:=E.ca;clear E;go_enter func46,ntmps46;go_upto_region 1 with(fail);first|(go_region_with (go_at_call 74;refine(sI l p (O.ext kx) k n c Q).mono ?_;rintro y u ⟨⟨r,A,rfl⟩,s⟩;obtain⟨y1,z1,L,N,rfl⟩:=A.form;obtain⟨ae,af⟩:=IP s;have ag:∀e,(Instr.field 38 (.agg #[c.name,c.jE,.slice y1 c.fields.length z1,.slice L c.methods.length N]) 3).run prog e=.ok (.slice L c.methods.length N) e:=(fun e=>by kernel_rfl);obtain⟨ax,ay,H,-,J⟩:=kE.ext jT.stays s A;simp only[U2,Vm,VR]at H;obtain⟨rfl,rfl⟩:=H;obtain⟨b',av,r,rfl,ai,I,-,G⟩:=J.get R;have S:=Zy I;obtain⟨f,j,g,o,h,q,rfl⟩:=I.form;obtain⟨T,U,V,W,X,Y,Z,g7⟩:=G.eight))|fail
 all_goals
  have v:=((jq.new (w.alloc (.cells #[k,n,i] 66)) 113 #["",(),Tj,"",Tj,Tj,(),()]).ext (jA)).ext s;simp only[Tp]at v;have b:=(((((((v.jR 0 m.name).jR 1 (.slice f m.args.length j)).jR 2 m.ret.kind).jR 3 m.ret.name).jR 4 m.locals).jR 5 m.stack).jR 6 (.slice g m.code.length o)).jR 7 (.slice h m.maps.length q);have t:∀(d:Nat->Prop),d (w+1)->Kp d u ((((((((u.setCell ⟨w+1,0,none⟩ m.name).setCell ⟨w+1,1,none⟩ (.slice f m.args.length j)).setCell ⟨w+1,2,none⟩ m.ret.kind).setCell ⟨w+1,3,none⟩ m.ret.name).setCell ⟨w+1,4,none⟩ m.locals).setCell ⟨w+1,5,none⟩ m.stack).setCell ⟨w+1,6,none⟩ (.slice g m.code.length o)).setCell ⟨w+1,7,none⟩ (.slice h m.maps.length q)):=fun d a=>
   ((((((((Kp.refl d u).setCell (p:=⟨w+1,0,none⟩) (fun _=>a) _).setCell (p:=⟨w+1,1,none⟩) (fun _=>a) _).setCell (p:=⟨w+1,2,none⟩) (fun _=>a) _).setCell (p:=⟨w+1,3,none⟩) (fun _=>a) _).setCell (p:=⟨w+1,4,none⟩) (fun _=>a) _).setCell (p:=⟨w+1,5,none⟩) (fun _=>a) _).setCell (p:=⟨w+1,6,none⟩) (fun _=>a) _).setCell (p:=⟨w+1,7,none⟩) (fun _=>a) _
  have aa:=((((Kp.refl _ w).alloc _).alloc _).drew).trans s;clear ae af ag T U V W X Y Z g7 q0 q1 q2 G v A J;revert b t;generalize ((((((((u.setCell ⟨w+1,0,none⟩ m.name).setCell ⟨w+1,1,none⟩ (.slice f m.args.length j)).setCell ⟨w+1,2,none⟩ m.ret.kind).setCell ⟨w+1,3,none⟩ m.ret.name).setCell ⟨w+1,4,none⟩ m.locals).setCell ⟨w+1,5,none⟩ m.stack).setCell ⟨w+1,6,none⟩ (.slice g m.code.length o)).setCell ⟨w+1,7,none⟩ (.slice h m.maps.length q))=e;intro b t;have⟨P,D⟩:=jw (hQ.kX b) t;clear t b;have aj:l.O<w:=Tf C.ord C.lt
  go_wp2_with fail;refine PG (v:=.agg #[m.name,.slice f m.args.length j,m.ret.kind,m.ret.name,m.locals,m.stack,.slice g m.code.length o,.slice h m.maps.length q]) (jM DR rfl (w+1) rfl _ P rfl) rfl ?_;trace "x";exact⟨⟨_,kE.kp jy.stays (D (·=w+1) rfl) (fun ah hb y=>Zm) S.o,rfl⟩,aa.own (D.o (·=w+1) rfl) (fun au hj=>Zm)⟩
structure LC(l:jB)(p:jl)(w W:World):Prop where
 kp:Kp (·=l.D) w W
 at_:jD W l p
theorem LC.refl(a:jD w l p):LC l p w w:=⟨Kp.rr,a⟩
theorem LC.ext{a: World}(b:LC l p w W)(c:Ext W a):LC l p w a:=⟨b.kp.trans c.any,b.at_.ext c⟩
theorem LC.drew(a:LC l p w W):LC l p w W.drew:=a.ext jA
theorem LC.step{a: World}(b:LC l p w W)(c:jD a l p)(d:Kp (·=l.D) W a):LC l p w a:=⟨b.kp.trans d,c⟩
theorem LC.trans{a: World}(c:LC l p w W)(b:LC l p W a):LC l p w a:=c.step b.at_ b.kp
theorem jD.FR(a:jD w l p):l.D<w:=Tf a.lt a.ord
theorem vP(l:jB)(p:jl)(d:jD w l p)(k:Int)(n:ByteArray)(c:Class)(o:cls? p ⟨k,n⟩=some c):∃h,jT w (· <l.O) c h/\∀b,Kp (·=l.D) w b→ Calls prog 74 #[some l.L,.agg #[k,n]] b fun O V=>O=.returned (.agg h.toArray)/\Ext b V:=by
 obtain⟨T,S,g,A,F,ax⟩:=BD o;obtain⟨f,B⟩:=Aw o;simp only at f B;obtain⟨k,rfl⟩:=Int.eq_ofNat_of_zero_le f;have C:p[k]?=some T:=by
  unfold mQ at g;rw[Ty f]at g;exact g
 obtain⟨aa,af,G,r,s,K,L⟩:=d.cells;obtain⟨mm,D,E⟩:=d.own;obtain⟨ae,aB,h,rfl,hI,Q,-,y⟩:=G.get C;obtain⟨vo,va,rfl,q,U⟩:=Q;obtain⟨a1,ag,rfl,az,av⟩:=q.form;obtain⟨b1,aC,ah,rfl,ai,m,-,z⟩:=q.get F;obtain⟨X,Z,Y,z2,rfl⟩:=m.form;obtain⟨j,x⟩:=y.two;obtain⟨i,t,u,v⟩:=z.four;have aA:(p.length:Int)<=3:=Te ((wN d.ok).2)
 have hO:=d.ord;have R:=d.lt;refine⟨_,m,fun b a=>?_⟩;have H:∀e,Ext b e->(Instr.lookup 97 (.map (some l.O)) (.agg #[.int .i64 (k:Int),n]) false).run prog e=.ok S e:=by
  intro e P;rw[Al ((D.kp a Zm).kp P fun W=>W),E,A];rfl
 have l2:=fun(I J:Obj)=>H _ ((((Kp.refl _ b).alloc I).alloc J).drew);clear H;have N:=a.mJ (r _ (Kp.refl _ w)) Zm;have d1:=a.mJ (s _ (Kp.refl _ w)) Zm;replace j:=a.mJ j Zm;replace x:=a.mJ x Zm;replace i:=a.mJ i Zm;replace t:=a.mJ t Zm;replace u:=a.mJ u Zm;replace v:=a.mJ v Zm;have ak:=jv j;have au:=jv i;have aj:=jv N;clear D E m G q U y z r s K L C F g A o d R a;have ay:k<p.length:=Zm
 clear f B;go_enter func74,ntmps74;go_wp2;refine pI 17 Zo Zo ?_;(simp only[Uh,UO,Ug,UF]);(repeat still_step);refine Vd ?_;go_wp2;refine PG (v:=.agg #[c.name,c.jE,.slice X c.fields.length Z,.slice Y c.methods.length z2]) (by simp[results,results74,go_sem]) rfl ?_;exact⟨rfl,kx⟩
def nX(f:oO):List Value:=[.int .i64 f.of.keeper,.string f.of.name,.int .i64 f.at_,.int .i64 f.kind.kind,.string f.kind.name]
def xY:om oO:=fun _ _ x cs=>cs=nX x
theorem xY.stays:kE xY:=fun _ _ _ _ _ _ _ _ a=>a
theorem Jy{x:oO}:∀a∈nX x,a.oneCell'=true:=by simp[nX,Value.oneCell']
theorem Gl:Elem 170 173 5:=oH (z:=.agg #[Tj,"",Tj,Tj,""]) (bytes:=56) underlying170 Zo rfl Zn Zn
theorem yo{c:Ref}{d:List M.Field}{a:List oO}{x:M.Field}(e:d[k]?=some x):kK c (d.take (k+1)) a=kK c (d.take k) a++[⟨c,(kK c (d.take k) a).length,x.kind⟩]:=by
 rw[Td,e];have:∀(b:List M.Field)(a:List oO),kK c (b++[x]) a=kK c b a++[⟨c,(kK c b a).length,x.kind⟩]:=by
  intro b;induction b with
  |nil=>intro a;rfl
  |cons h g f=>intro a;simp only[TR,kK];rw[f]
 exact this _ _
theorem Kp.mix{D D':Nat->Prop}{a b: World}(d:Kp D w a)(e:Kp D' a b)(h:∀c,c<w.heap.size->D' c->D c):Kp D w b:=
 ⟨e.os.trans d.os,e.tape.trans d.tape,e.output.trans d.output,TV d.size e.size,
  fun c f g=>(e.block c (Ta f d.size) (fun i=>g (h c f i))).trans (d.block c f g)⟩
theorem hQ.KO{g:Nat}(t:TypeId)(cs:Array Value)(a:W=g):hQ (W.alloc (.cells cs t)).drew g 0 cs.toList:=(hQ.oI t cs a).ext (jA)
theorem IQ(w:World)(e n:Nat)(vs:Value){h:List oO}(c:Ref)(I:Nat->Prop){vf:Value}(i:List M.Field)(K:jq w e 225 #[vs])(S:w.ownsRow n 173 5 vs h.length (h.flatMap nX))(N:SliceOf 3 lI w I vf i)(hI:∀d,I d->d<n/\d≠e)(aS:n<=w)(aV:h.length+i.length<=1000)(av:vs.ownBlock≠some e):Calls prog 146 #[some e,.agg #[c.keeper,c.name],vf] w fun b W=>b=.returned (.tuple #[])/\∃V,jq W e 225 #[V]/\W.ownsRow n 173 5 V (h.length+i.length) ((kK c i h).flatMap nX)/\V.ownBlock≠some e/\Kp (fun d=>d=e\/vs.ownBlock=some d) w W:=by
 obtain⟨va,vc,rfl,hn,aU⟩:=N.form;have hz:=K.lt;have t:=jq.new w 64 #[c.keeper,c.name];have k:Ext w (w.alloc (.cells #[c.keeper,c.name] 64)):=kx;have⟨HF,Z,ae⟩:=jI N hI av;have R0:Zz (jq (w.alloc (.cells #[c.keeper,c.name] 64)) e 225 #[vs]/\(w.alloc (.cells #[c.keeper,c.name] 64)).ownsRow n 173 5 vs h.length ((kK c (i.take 0) h).flatMap nX)/\(∀j,vs.ownBlock=some j->vs.ownBlock=some j\/w.heap.size<j)/\
     Kp (fun d=>d=e\/vs.ownBlock=some d) w (w.alloc (.cells #[c.keeper,c.name] 64))/\jq (w.alloc (.cells #[c.keeper,c.name] 64)) w 64 #[c.keeper,c.name]):=
  Zy ⟨K.ext k,jr (D:=fun _=>False) S k fun _ _ _ l=>l,fun j a=>.inl a,k.any,t⟩
 have G:=Zy fun j hg=>S.lt j hg;clear K S N hI av t k;go_enter func146,ntmps146;go_wp2;go_loopw [10] (fun R wr=>∃(m f:Nat)(x:Value),m<=i.length/\R=.int .i64 m/\Zz (f=h.length+m)/\Zz (jq wr e 225 #[x]/\wr.ownsRow n 173 5 x f ((kK c (i.take m) h).flatMap nX)/\
     (∀j,x.ownBlock=some j->vs.ownBlock=some j\/w.heap.size<j)/\Kp (fun d=>d=e\/vs.ownBlock=some d) w wr/\jq wr w 64 #[c.keeper,c.name])) (fun R _=>i.length - (intOf R).toNat)
 case atStart=>exact⟨0,h.length,vs,Tz _,rfl,Zy rfl,R0⟩
 case round=>
  obtain⟨m,f,x,hk,rfl,y,g⟩:=hrel;by_cases aM:m<i.length
  . obtain⟨l,Q⟩:=get_some aM;obtain⟨d,aY,cs,rfl,ah,rfl,-,hc⟩:=HF.get Q;have aT:=(Z d ah).1;have aI:=(Z d ah).2;have ax:Same (·=d) w wr:=Kp.same g.2.2.2.1 (fun T r b=>by
     subst r;rcases b with rfl|b
     . exact aI rfl
     . have:=G.o _ b;omega)
    have ak:=hc.keep fun aP U hv=>ax d aP U rfl hv;obtain⟨g0,g1,q⟩:=ak.three;have gz:=jv g0;have aX:(w:Nat)<=wr:=g.2.2.2.1.size;have HX:=Zy Q;clear Q hc ak ax;have F:=g.2.1;obtain⟨o,p,rfl⟩:=jS F;have O:(Value.slice o f p).ownBlock≠some e:=fun b=>by
     rcases g.o.2.2.1 _ b with a|a
     . exact ae a
     . omega
    obtain⟨A,L,k,b7⟩:=nu wr #[l.name,l.kind.kind,l.kind.name] 154;have J:=g.1.ext k;have t:=g.2.2.2.2.ext k;have aA:(A:Nat)=wr+1:=by rw[L];simp
    obtain⟨aQ,aR,aW,s⟩:=tN.ex (fun aH=>Kp (fun d=>(Value.slice o f p).ownBlock=some d) A aH) _ Kp.rr;have az:¬(Value.slice o f p).ownBlock=some wr.heap.size:=fun b=>Te ((F.lt _ b).2)
    have ay:¬(Value.slice o f p).ownBlock=some w.heap.size:=fun b=>by
     rcases g.o.2.2.1 _ b with a|a
     . have:=(G _ a).2;omega
     . omega
    have r0:=fun v=>(J.kp (s.jC v) O).c 0 (.slice o f p) rfl;obtain⟨-,r4,r5,-⟩:=jq.pq fun v=>(t.kp (s.jC v) ay);obtain⟨-,-,r7,r8,-⟩:=jq.pq fun v=>(b7.kp (s.jC v) az);have⟨H,aB,X⟩:=jI s J k;have af:=Zy O;have⟨aD,aG,ag⟩:=jI (jr (D:=fun _=>False) F k fun _ _ _ l=>l) L aA;have aN:f+1<=4294967296:=Te y.o
    clear J t b7 F O az ay s k aA;go_wp2;rw[<-aG.o];clear L g0 g1 q;refine lq H 16 [([0,1,2,3,4,5,6,7,8,9,10,11,12,13],14),([],15)] [] ?_ ?_
    . exact jA
    refine nE ?_;intro z u;go_wp2_with fail;refine kk H u kx ?_;clear u z;refine mF rfl fun z u=>?_;refine jF Gl rfl (.tmp 18) (.tmp 28) rfl n (.slice o f p) f _ rfl (jr (D:=fun _=>False) aD kx fun _ _ _ l=>l) A 1 (nX ⟨c,f,l.kind⟩) rfl rfl (hQ.KO _ _ rfl) (Jy) aN ?_ ?_
    . have:=ag.o;simp;omega
    intro q c2 w1 aj ai au;have Y:Zz ((Value.slice o f p).ownBlock=some q\/w<q):=Zy (by
     rcases au with a|a
     . exact .inl a
     . right;have:=ag.o;simp at a;omega)
    clear au;change z _ _;have E:=(kx:Ext A _).any.trans ai;refine kk H u E ?_;clear u z;have C:=aB.kp E af;obtain⟨z1,d0,-⟩:=C.ca;have e0:=C.frozen 0;have⟨aC,aF,aa⟩:=jI C aj E;clear aj ai E C r0 r4 r5 r7 r8;refine lD ?_;go_wp2;have P:=fun D hD U=>(Kp.refl D w1).setCell (p:=⟨e,0,none⟩) (fun _=>hD) U;have aJ:q≠e:=fun b=>by
     subst b;rcases Y.o with a|a
     . exact af a
     . omega
    have aO:¬w=e:=Zm
    have aL:(kK c (i.take m) h).length=f:=by rw[qC,y.o,TN];omega
    refine⟨⟨m+1,f+1,(q,f+1,c2),Zm,Zk,Zy (Te y.o),Zy ⟨?_,?_,?_,?_,?_⟩⟩,Zj⟩
    . exact aC.jR 0 _
    . rw[yo HX.o,TD,aL];have B:=jr aF (P (·=e) rfl (q,f+1,c2)) (fun T r _ b=>by cases r;exact aJ b);simpa using B
    . intro T r;cases r;rcases Y.o with a|a
      . rcases g.o.2.2.1 _ a with a|a
        . exact .inl a
        . exact .inr a
      . exact .inr a
    . refine((g.2.2.2.1.trans X.any).mix aa (fun T r b=>?_)).trans (P _ (.inl rfl) _);rcases g.o.2.2.1 _ b with a|a
      . exact .inr a
      . omega
    . exact((g.2.2.2.2.ext X).kp aa (fun b=>by
       rcases g.o.2.2.1 _ b with a|a
       . have:=(G _ a).2;omega
       . omega)).kp (P (·=e) rfl _) aO
  . have aK:m=i.length:=Zm
    subst aK;go_wp2;refine Ti ?_;refine⟨rfl,x,g.1,?_,?_,g.2.2.2.1⟩
    . have B:=g.2.1;rw[y.o,TA]at B;exact B
    . intro b;rcases g.o.2.2.1 _ b with a|a
      . exact ae a
      . omega
attribute [local go_sem] Oper.semAt_some
theorem Au{c: Nat}:Calls prog 145 #[.slice a n c] w fun b d=>b=.returned (.func (.func 178) #[] #[some w])/\w.alloc (.cells #[.slice a n c] 80)=d:=by
 go_enter func145,ntmps145;go_wp2;go_ret;exact⟨rfl,rfl⟩
def backTo{α:Type}(l:List α):Nat->List (Int×α)
 |0=>[]
 |n+1=>(match l[n]? with|some x=>[((n:Int),x)]|none=>[])++backTo l n
theorem yu{l:List α}{x:α}(a:l[n]?=some x):backTo l (n+1)=((n:Int),x)::backTo l n:=by
 simp[backTo,a]
theorem qO(l:List α):∀n,n<=l.length->(backTo l n).map Prod.snd=(l.take n).reverse
 |0,_=>by simp[backTo]
 |n+1,h=>by
  rw[yu (CU (show n<l.length by omega)),VJ (show n<l.length by omega),Ur,qO l n Zm,UC];rfl
def Gm(x:Int×Ref):Array Value:=#[.int .i64 x.1,.agg #[.int .i64 x.2.keeper,.string x.2.name]]
theorem zS(a:List Ref)(g:Nat)(v:Value)(I w:Nat->Prop)(hBd:∀b,w b->b≠g/\¬I b):Iter prog 178 #[some g] Gm (fun _=>False) w (fun xs=>xs=backTo a a.length) (fun c=>∃u,backTo a a.length=c++u) (fun _=>True) (fun k=>jq k g 80 #[v]/\SliceOf 2 qN k I v a) (fun c e=>∃u,backTo a a.length=c++e::u):=by
 intro lp N Jx k ⟨p,s⟩ z A U o T;obtain⟨l,h,rfl,hn,ai⟩:=s.form;refine callsIn_of_wp func178 rfl trivial ?_ rfl;simp only[ntmps178,UE,TL,U8,Nat.reduceAdd,Nat.reduceSub,Un,Um,UR,Uf,TZ,TR];have c0:=p.c 0 (.slice l a.length h) rfl;have G:IntKind.i64.wrap ((a.length:Int) - 1)=(a.length:Int) - 1:=TM _ Zm;gi_wp2;clear G;gi_loopg [3] a.length (fun i J wr=>∃c:List (Int×Ref),((i=0/\J=.int .i64 (-1))\/∃b:Nat,i=b+1/\J=.int .i64 b)/\i<=a.length/\Zz (backTo a a.length=c++backTo a i)/\Zz (N c wr/\jq wr g 80 #[.slice l a.length h]/\SliceOf 2 qN wr I (.slice l a.length h) a))
 case atStart=>
  refine⟨[],?_,Tu _,Zy Zl,Zy ⟨T,p,s⟩⟩;rcases Ww a.length with m|m
  . left;exact⟨m,by rw[m];rfl⟩
  . right;exact⟨a.length - 1,Zm,by congr 1;omega⟩
 case round=>
  obtain⟨c,Y,ak,x,y⟩:=hrel;rcases Y with⟨rfl,rfl⟩|⟨b,rfl,rfl⟩
  . have L:Zz (backTo a a.length=c):=Zy (by rw[x.o];simp[backTo]);gi_wp2;refine Ti ?_;exact⟨⟨_,rfl⟩,.inl ⟨c,L.symm,y.1⟩⟩
  . obtain⟨e,t⟩:=get_some (show b<a.length by omega);obtain⟨D,d,r⟩:=y.o;obtain⟨O,aa,cs,rfl,hI,rfl,-,C⟩:=r.get t;obtain⟨Q,R⟩:=C.two;have P:=d.c 0 (.slice (some ⟨O,aa,none⟩) a.length h) rfl;have X:(0:Int)<=(b:Int):=Zm
    have aj:(b:Int)<a.length:=Zm
    have V:=Tw X;have j:Zz (backTo a a.length=(c++[((b:Int),e)])++backTo a b):=Zy (by rw[x.o,yu t,TG];rfl);obtain⟨fn,av,af,ag,H,n⟩:=o c ((b:Int),e) wr ⟨backTo a b,by rw[j.o,TG];rfl⟩ D;simp only[Gm]at H n;have⟨HY,ae,f⟩:=jI o (Tm z A) (Tm hBd (Tm d r));have G:IntKind.i64.wrap ((b:Int) - 1)=(b:Int) - 1:=TM _ Zm;clear o z A U hBd d r s t C D p;gi_wp2_with fail;refine n.mono ?_;rintro ah W1 ⟨q,(⟨rfl,E⟩|⟨rfl,W⟩)⟩
    . have B:=f.2.1.kp q (fun d=>(f.1 _ d).1 rfl);have F:=f.2.2.keep qN.stays (Kp.same q fun au Z d=>(f.1 _ d).2 Z) (fun _ S=>S);have K:=Zy (Tm E (Tm B F));clear E B F q Q R P H n V;gi_wp2_with fail;gi_roundg b
      case measure=>omega
      case rel=>
       refine⟨c++[((b:Int),e)],?_,Zm,j,K⟩;cases b with
       |zero=>left;exact⟨rfl,rfl⟩
       |succ b=>right;exact⟨b,rfl,by congr 1;omega⟩
    . gi_wp2_with fail;refine Ti ?_;exact⟨⟨_,rfl⟩,.inr ⟨_,⟨_,j⟩,W⟩⟩
end Go.Proofs.YtenhnldnpdlniaaGreat
namespace Go.Proofs.YtenhnldnpdlniaaGreat
open Go Go.RowKit Tryz M
variable {w: World}{p: jl}
attribute [local go_sem] Oper.semAt_some
theorem vB(b:kv p=true){r:Ref}{c:Class}(a:cls? p r=some c):c.fields.length<=3:=by
 have:=M.BC b a;unfold o9 at this;simp only[RV,Tv]at this;exact this.1.1.1.2
theorem qi(d:kv p=true)(a:List Ref):(kL p a []).length<=a.length*3:=by
 rw[xh];induction a with
 |nil=>simp
 | cons b g e =>
  have:(cls p b).fields.length<=3:=by
   unfold cls;cases c:cls? p b with
   |none=>simp[Su]
   |some f=>exact vB d c
  simp only[Ur,List.sum_cons,TL,U8]at e |-;omega
theorem wh(p:jl)(a:List Ref)(c:Ref):kL p (a++[c]) []=kK c (cls p c).fields (kL p a []):=by
 rw[qy];rfl
theorem CV{I:Nat->Prop}{v:Value}{xs:List Ref}(g:SliceOf 2 qN w I v xs):SliceOf 2 qN w (fun a=>I a/\a<w) v xs:=by
 obtain⟨c,d,e,h,i,j⟩:=g;refine⟨c,d,e,h,i,fun n p m=>?_⟩;obtain⟨a,o,q,f,k,rfl,l,b⟩:=j n p m;exact⟨a,o,_,f,⟨k,jv b.two.1⟩,rfl,l,b⟩
def Sa(p:jl)(w2:World)(bb S:Nat)(pre:List (Int×Ref))(W:World):Prop:=
 ∃v',jq W bb 225 #[v']/\W.ownsRow S 173 5 v' (kL p (pre.map Prod.snd) []).length ((kL p (pre.map Prod.snd) []).flatMap nX)/\Kp (·=bb) w2 W
theorem xq{l:jB}(a:jD w l p)(r:Ref):Calls prog 98 #[some l.L,.agg #[r.keeper,r.name]] w fun g w'=>(∃au,g=.returned au/\SliceOf 5 xY w' (fun m=>w<=m) au (layout p r))/\jD w' l p/\Kp (·=l.D) w w':=by
 have bB:=a.FR;have bC:=a.lt;have hO:=a.ord;have ae:Ext w ((w.alloc (.cells #[some l.L] 58)).alloc (.cells #[r.keeper,r.name] 64)):=kx;have aQ:=Zy (a.ext ae);have X:=(jq.new w 58 #[some l.L]).ext (jJ (.cells #[r.keeper,r.name] 64));have G:=jq.new (w.alloc (.cells #[some l.L] 58)) 64 #[r.keeper,r.name];simp only[Tp]at G;have aT:=Zy ae;clear a ae;refine(Ut (n:=10)).1 ?_;refine callsIn_of_wp_marks func98 rfl trivial ?_ rfl;simp only[ntmps98,UE,TL,U8,Nat.reduceAdd,Nat.reduceSub,Un,Um,UR,Uf,TZ,TR];have q2:=X.c 0 (some l.L) rfl;obtain⟨-,q3,q4,-⟩:=G.ca;cases aG:jW p r
 all_goals
  have N:=Zy aG;clear aG;gi_wp2_with fail;refine⟨trivial,?_⟩;refine(Ut.2 (nM aQ r)).mono ?_;rintro g v ⟨rfl,aC,A⟩;rw[N.o];have bK:(w:Nat)+1<(v:Nat):=by have:=A.size;simp at this;omega
  have bJ:(w:Nat)<v:=Zm
  have Y:=X.kp A Zm;have Z:=G.kp A Zm;have⟨av,P⟩:=jw (aT.any.trans A) aC;have p2:=Y.c 0 (some l.L) rfl;obtain⟨-,p3,p4,-⟩:=Z.ca;clear q2 q3 q4 A aC
 . have S:Zz (layout p r=[]):=Zy (by unfold layout;rw[N.o];rfl);gi_wp2_with fail;refine⟨(),by simp[results,Tryz.f98,go_sem],⟨_,rfl,by rw[S.o];exact SliceOf.nil _ _ _ _⟩,P,av⟩
 . have S:Zz (layout p r=kL p (chain p r).reverse []):=Zy (by unfold layout;rw[N.o];rfl);have b5:=jq.new v 225 #[()];gi_wp2_with fail;refine⟨trivial,?_⟩;refine(Ut.2 (sH (P.ext kx) r)).mono ?_;rintro g c ⟨⟨au,rfl,hs⟩,o⟩;obtain⟨x,y,rfl,hn,bF⟩:=hs.form;gi_wp2_with fail;refine⟨trivial,?_⟩;refine(Ut.2 (Au)).mono ?_;rintro g w3 ⟨rfl,rfl⟩;gi_wp2_with fail;have bn:=o.size;simp only[Tp]at bn;have aa:=b5.ext o;have⟨Q,aV,B2⟩:=jI ((P.ext kx).ext o) (av.trans ((kx:Ext v _).any.trans o.any)) (Tm ((Y.ext kx).ext o) ((Z.ext kx).ext o));have bD:(v:Nat)<c:=Zm
   clear X G Y Z b5 p2 p3 p4 o;generalize bE:v=bb at*;have⟨HS,ax⟩:=jw hs (wJ p r);have aX:Zz (∀b∈chain p r,∃i,cls? p b=some i):=Zy fun b hx=>M.mr hx;clear hs;generalize chain p r=xs at*;refine ER (gf:=178) (lb:=#[some c]) (α:=Int×Ref) rfl (enters_of func178 Zo rfl) (encs:=Gm) (fun b=>rfl)
    (Bb:=fun e=>e=bb\/c+3<=e)
    (zS xs c (.slice x xs.length y) (fun m=>bb+1<=m/\m<c) _ ?hBd) ?hIt ?hD1 ?hD2 ?hB1 ?hB2
    (Sa p c bb (c+3)) (fun _ _ _=>False) ?hI ?hIx ?h0 ?hIB
    (fun q b d W V=>Sa p c bb (c+3) q d/\(∃aP,backTo xs xs.length=q++b::aP)/\
     c.heap.size+2<(d:Nat)/\V=d.alloc (.cells #[.int .i64 b.2.keeper,.string b.2.name] 64)/\
     W={tmps:=#[some l.L,.agg #[r.keeper,r.name],some w,.pointer (some ⟨w+1,0,none⟩),(),some bb,undef,.pointer (some ⟨d,0,none⟩),
      some l.L,.agg #[r.keeper,r.name],.bool true,.bool false,some l.L,.agg #[r.keeper,r.name],.slice x xs.length y,.func (.func 178) #[] #[some c],
      .int .i64 b.1,.agg #[.int .i64 b.2.keeper,.string b.2.name],undef,undef,undef,undef,undef,undef,undef,undef],defers:=[]}) ?hassign ?hAx ?hbody ?hdone ?hstop
   case hBd=>
    intro e f;have bf:(e=bb\/c+3<=e)\/e=(c.alloc (.cells #[.slice x xs.length y] 80)).heap.size+1:=f;simp only[Tp]at bf;omega
   case hIt=>
    intro d hW;refine⟨(jq.new _ _ _).ext hW,?_⟩;refine(CV HS).keep qN.stays (Ext.same (((Kp.refl _ c).alloc _:Ext c _).trans hW)) (fun m hb=>?_);have:=hb.1;simp only[Tp]at this;exact⟨Zm,hb.2⟩
   case hD1=>exact fun a=>a
   case hD2=>exact fun a=>a
   case hB1=>simp only[Tp];omega
   case hB2=>simp only[Tp];omega
   case hI=>
    rintro L bq bu ⟨s,k,h,j⟩ f;simp only[Tp]at f;exact⟨s,k.kp f Zr,jr h f (fun az _ hg a=>by simp at a;omega),j.own f (fun e f=>by simp at f;omega)⟩
   case hIx=>exact fun _ _ _ _ a=>a.elim
   case h0=>exact⟨(),aa.ext kx,Uw _ _ _ _,(kx:Ext c _).any⟩
   case hIB=>exact fun _ _ _=>trivial
   case hassign=>
    intro q b d F aL hi aJ n;simp only[Gm];simp only[Tp]at aJ;gi_wp2
   case hAx=>
    rintro q b d W V ⟨_,_,_,rfl,_⟩;exact((Kp.refl _ d).alloc _)
   case hbody=>
    rintro q b d W V t ⟨⟨s,k,h,j⟩,aL,aJ,rfl,rfl⟩ u ai;simp only[Tp]at u ai;obtain⟨aP,aM⟩:=aL;have bg:b.2∈xs:=by
     have:=congrArg (List.map Prod.snd) aM;rw[qO _ _ (Tu _),TA]at this;have z:b.2∈xs.reverse:=by rw[this];simp
     simpa using z
    have bH:(q.map Prod.snd).length<=6:=by
     have:=congrArg List.length aM;have z:=congrArg List.length (qO xs xs.length (Tu _));simp at this z;have:=ax.o;simp;omega
    obtain⟨i,J⟩:=aX.o _ bg;have C:=(j.alloc _).own u (fun e f=>Zm);have I:=Q.kp C (fun e f g=>Zm);obtain⟨cs,aH,aF⟩:=vP l p I b.2.keeper b.2.name i J;obtain⟨a1,c1,a2,c2,rfl⟩:=aH.form;obtain⟨bM,bN,aI,sf,-⟩:=aH;simp only[U2,Vm,VR]at aI;obtain⟨rfl,rfl⟩:=aI;have bG:∀d,(Instr.field 38 (.agg #[.string i.name,.string i.jE,.slice a1 i.fields.length c1,.slice a2 i.methods.length c2]) 2).run prog d=.ok (.slice a1 i.fields.length c1) d:=(fun d=>by kernel_rfl);have cb:=(jq.new d 64 #[.int .i64 b.2.keeper,.string b.2.name]).kp u Zm;obtain⟨uz,u0,u1,-⟩:=cb.ca;have t2:=(B2.1.kp C Zm).c 0 (some l.L) rfl;have tz:=jv t2;have g1:=(k.ext ((Kp.refl _ d).alloc _)).kp u Zm;have g2:=jr (jr (D:=fun _=>False) h ((Kp.refl _ d).alloc (.cells #[.int .i64 b.2.keeper,.string b.2.name] 64)) (fun _ _ _ a=>a)) u (fun az _ hg=>Zm);have⟨O,aY,aR,aW,aU,aS⟩:=pR (Tm g1 (Tm g2 C)) sf aF I (vB I.ok J) J;have bL:(c:Nat)+3<=(t:Nat):=Zm
    have aO:¬s.ownBlock=some d.heap.size:=fun g=>Te ((h.lt _ g).2)
    have aj:∀ak,s.ownBlock=some ak->c.heap.size+3<=ak:=fun ak hq=>(h.lt _ hq).1;obtain⟨bz,bA,bI,E⟩:=tN.ex (fun W'=>Kp (fun e=>e=bb\/s.ownBlock=some e) t W') _ Kp.rr;have r2:=fun L=>((B2.1.kp C Zm).kp (E.jC L) (by intro a;rcases a with a|a;(· omega);(· have:=aj _ a;omega))).c 0 (some l.L) rfl;obtain⟨-,r7,r8,-⟩:=jq.pq fun L=>(cb.kp (E.jC L) (by intro a;rcases a with a|a;(· omega);(· exact aO a)));have⟨R,T⟩:=jw E aj;clear k h j cb g1 g2 C sf aF I J u ai aa t2 u0 u1 E aj aO;gi_wp2_with fail;refine PI R 6 [([0,1,2],3),([4],5)] [] ?_ (fun _=>trivial) ?_
    . exact jA
    refine OQ [_,_,_] rfl rfl fun F n=>?_;(repeat (go_big_quiet_step (fail)));refine qn n fun U B=>?_;clear n F;gi_wp2_with fail;refine⟨trivial,?_⟩;refine(CallsIn.inRound _ (Ut.2 (aR _ (jA)))).mono ?_;rintro g w4 ⟨rfl,aB⟩;have H:∀D:Nat->Prop,Kp D t w4:=fun D=>(((Kp.refl _ t).drew:Ext t _).trans aB).any;gi_wp2_with fail;refine kk R B (H _) ?_;clear B U;refine OQ [_] rfl rfl fun F n=>?_;(repeat (go_big_quiet_step (fail)));refine qn n fun U B=>?_;clear n F;gi_wp2_with fail;refine⟨trivial,?_⟩;have K:Ext t w4:=H _;refine(CallsIn.inRound _ (Ut.2 (IQ w4 bb (c+3) s b.2 (· <l.O) i.fields (O.1.ext K) (jr (D:=fun _=>False) O.2.1 K fun _ _ _ b=>b) (SliceOf.ext aY lI.stays K) (fun m hb=>Zm) (Te K.size) ?hl (fun g=>Te (T.o _ g))))).mono ?_
    case hl=>
     have h1:=aU.o;have z:=qi aW.ok (q.map Prod.snd);omega
    rintro g w5 ⟨rfl,v5,aA,aD,aK,af⟩;have ay:=Zy (Tm aA (Tm aD (Tm aK af)));have ag:=(H _).trans af;clear aA aD aK af aB H;gi_wp2_with fail;refine kk R B ag ?_;clear B U;refine OT ?_;gi_wp2_with fail;have aZ:cls p b.2=i:=by unfold cls;rw[aS.o];rfl
    refine⟨ag.weak ?_,v5,ay.1,?_,(O.2.2.mix ag ?_)⟩
    . intro e f a;rcases a with a|a
      . exact .inl a
      . exact .inr (T _ a)
    . rw[Ux,Ur,Vb,wh,aZ,qC];exact ay.2.1
    . intro e f a;rcases a with a|a
      . exact a
      . have:=T.o _ a;omega
   case hdone=>
    rintro ys d rfl ⟨s,k,h,j⟩ n;obtain⟨va,vc,rfl⟩:=jS h;have k0:=k.c 0 _ rfl;have HE:=Zy (Tm k (Tm h j));clear k h j aa;simp only[Exit.inBlock,Exit.then];gi_wp2;obtain⟨k,h,j⟩:=HE.o;refine⟨Zl,.inl ⟨_,_,rfl,run_takeDeferred n,?_⟩⟩;have ah:=Kp.putObj d (c.alloc (.cells #[.slice x xs.length y] 80)).heap.size (.deferred none);have ai:(c.alloc (.cells #[.slice x xs.length y] 80)).heap.size=c+1:=by simp
    refine⟨.slice va (kL p ((backTo xs xs.length).map Prod.snd) []).length vc,by simp[results,Tryz.f98,go_sem],⟨_,rfl,?_⟩,?_,?_⟩
    . have aN:(backTo xs xs.length).map Prod.snd=xs.reverse:=by rw[qO _ _ (Tu _),TA]
      rw[S.o,<-aN];have h1:=qi Q.ok ((backTo xs xs.length).map Prod.snd);have z:((backTo xs xs.length).map Prod.snd).length=xs.length:=by rw[aN,UB]
      have h3:=ax.o;exact SliceOf.mD (base:=c.heap.size+3) nX (jr h ah (fun az _ hg=>Zm)) rfl rfl (fun _ _=>rfl) (fun _ _=>rfl) (fun m a h'=>by show w.heap.size<=m;omega) Zm
    . exact(Q.kp j (fun e f g=>Zm)).kp ah (fun e f g=>Zm)
    . exact((aV.own j (fun e f=>Zm))).own ah (fun e f=>Zm)
   case hstop=>exact fun _ _ _ _ a=>a.elim
end Go.Proofs.YtenhnldnpdlniaaGreat
namespace Go.Proofs.YtenhnldnpdlniaaGreat
open Go Go.RowKit Tryz M
theorem Df{w:World}{l:jB}{p:jl}(i:jD w l p)(m:pU):Calls prog 101 #[some l.L,.agg #[m.of.keeper,m.of.name,m.at_]] w fun h C=>h=.returned (.bool (kg p m))/\jD C l p/\Kp (·=l.D) w C:=by
 have J:=i.FR;have r:Ext w (w.alloc (.cells #[m.of.keeper,m.of.name,m.at_] 66)):=kx;have x:=(jq.new w 66 #[m.of.keeper,m.of.name,m.at_]);obtain⟨O,z,R,f⟩:=tN.ex (LC l p (w.alloc (.cells #[m.of.keeper,m.of.name,m.at_] 66))) _ (LC.refl (i.ext r));obtain⟨-,q0,q1,q2,-⟩:=jq.pq fun d=>(x.kp (f.jC d).kp Zm);have⟨q,N,a,E⟩:=kD (i.ext r) i f r;have s:Zz (∀d,jD (z d) l p/\Kp (·=l.D) w (z d)):=Zy (fun d=>⟨(f.jC d).at_,E.any.trans (f.jC d).kp⟩);clear x J i r f;cases n:jW p m.of
 . have g:Zz (kg p m=false):=Zy (by unfold kg;rw[n];rfl);have c:=Zy n;clear n;go_enter func101,ntmps101;go_wp2;refine zJ a ?_ ?_;rotate_left;(repeat (go_big_quiet_step ((go_at_call 43;refine(nM (a.jC _).at_ m.of).mono ?_;rintro h e ⟨rfl,k,j⟩;rw[c.o];exact⟨rfl,a.o.o e ((a.jC _).step k j)⟩))));refine TP ?_;(rintro _ ⟨o,rfl⟩);rotate_left
   . exact(LC.refl q).drew
   go_wp2;go_ret;exact⟨hV g.symm,s o⟩
 . have c:=Zy n;clear n;by_cases H:m.at_ <0
   . have g:Zz (kg p m=false):=Zy (by unfold kg;rw[c.o,SS (p:=0<=m.at_) Zm];rfl);go_enter func101,ntmps101;go_wp2;have L:decide (0<=m.at_)=false:=SS Zm;refine zJ a ?_ ?_;rotate_left;(repeat (go_big_quiet_step ((go_at_call 43;refine(nM (a.jC _).at_ m.of).mono ?_;rintro h e ⟨rfl,k,j⟩;rw[c.o];exact⟨rfl,a.o.o e ((a.jC _).step k j)⟩))));refine TP ?_;(rintro _ ⟨o,rfl⟩);rotate_left
     . exact(LC.refl q).drew
     go_wp2;go_ret;exact⟨hV g.symm,s o⟩
   . obtain⟨b,u⟩:=M.mr (oG c).2;obtain⟨P,B,A⟩:=vP l p q m.of.keeper m.of.name b u;obtain⟨F,G,v,y,rfl⟩:=B.form;have Q:∀t,(Instr.field 38 (.agg #[b.name,b.jE,.slice F b.fields.length G,.slice v b.methods.length y]) 3).run prog t=.ok (.slice v b.methods.length y) t:=(fun t=>by kernel_rfl);have D:=Zy A;have I:0<=m.at_:=Zm
     have g:Zz (kg p m=decide (m.at_ <b.methods.length)):=Zy (by
      unfold kg;rw[c.o,Tw (p:=0<=m.at_) Zm];have:cls p m.of=b:=by unfold cls;rw[u];rfl
      rw[this];rfl)
     clear u B A H;go_enter func101,ntmps101;go_wp2;have L:=Tw I;refine zJ a ?_ ?_;rotate_left;(repeat (go_big_quiet_step (first|(go_at_call 43;refine(nM (a.jC _).at_ m.of).mono ?_;rintro h e ⟨rfl,k,j⟩;rw[c.o];exact⟨rfl,a.o.o e ((a.jC _).step k j)⟩)|(go_at_call 74;refine(D _ (a.jC _).kp).mono ?_;rintro h e ⟨rfl,K⟩;exact⟨rfl,a.o.o e ((a.jC _).ext K)⟩))));refine TP ?_;(rintro _ ⟨o,rfl⟩);rotate_left
     . exact(LC.refl q).drew
     go_wp2;go_ret;exact⟨hV g.symm,s o⟩
end Go.Proofs.YtenhnldnpdlniaaGreat
