/- Walks. -/
import Derived.Test.YtlhlnddgfcmfkaaGreatRsCoreLk
set_option maxRecDepth 100000
set_option maxHeartbeats 4000000
set_option linter.all false
namespace Go.Proofs.YtlhlnddgfcmfkaaGreat
open Go Go.RowKit Tryz
def xm(p:M.hZ)(k i:Nat)(q:Int)(s:ByteArray):Option Int:=
 if q<k then(M.vS p ⟨q,s⟩).map Int.ofNat else if q=k then((p[k]?).bind fun Q=>(Q.owns.take i).findIdx? fun c=>decide (c.name=s)).map Int.ofNat else none
def xe(p:M.hZ)(k i:Nat)(q:Int)(s:ByteArray):Option Int:=
 if q<k then M.zh p q s else if q=k then((p[k]?).bind fun Q=>((Q.asks.take i).find? fun a=>decide (a.name=s)).map M.Ask.keeper)else none
theorem Dc(p:M.hZ)(k:Nat):M.pI p (k:Int)=p[k]?:=by
 unfold M.pI;rw[if_pos Zm];rfl
theorem wD{p:M.hZ}{q:Int}(a:q<0∨(p.length:Int)<=q):M.pI p q=none:=by
 unfold M.pI;split
 . rw[List.getElem?_eq_none_iff];omega
 . rfl
theorem Ni(p:M.hZ)(q:Int)(s:ByteArray):xm p 0 0 q s=none:=by
 unfold xm;split
 . unfold M.vS;rw[wD (.inl (by simpa using ‹q<((0:Nat):Int)›))];rfl
 . split
   . simp
   . rfl
theorem LZ(p:M.hZ)(q:Int)(s:ByteArray):xe p 0 0 q s=none:=by
 unfold xe;split
 . unfold M.zh;rw[wD (.inl (by simpa using ‹q<((0:Nat):Int)›))];rfl
 . split
   . simp
   . rfl
theorem Nh{p:M.hZ}{k i:Nat}{Q:M.nk}{c:M.Class}(j:p[k]?=some Q)(g:Q.owns[i]?=some c)(f:xm p k i k c.name=none)(q:Int)(s:ByteArray):xm p k (i+1) q s=if q=k∧s=c.name then some (i:Int)else xm p k i q s:=by
 have l:=(List.getElem?_eq_some_iff.1 g).1;unfold xm at*;rw[j]at f ⊢;simp only[Int.lt_irrefl,if_false,if_true,Option.bind_some]at f ⊢;by_cases d:q<k
 . rw[if_pos d,if_pos d,if_neg Zm]
 . rw [if_neg d, if_neg d]; by_cases a : q = k
   . rw[if_pos a,if_pos a,List.take_add_one,g];simp only[Option.toList_some,List.findIdx?_append,List.length_take,Nat.min_eq_left (Nat.le_of_lt l)];by_cases e:s=c.name
     . subst e;rw[if_pos ⟨a,rfl⟩];have:(Q.owns.take i).findIdx? (fun m=>decide (m.name=c.name))=none:=by simpa using f
       rw[this];simp[List.findIdx?_cons]
     . rw[if_neg (fun b=>e b.2)];have h:¬c.name=s:=fun b=>e b.symm;simp[List.findIdx?_cons,h]
   . rw[if_neg a,if_neg a,if_neg (fun b=>a b.1)]
theorem LY{p:M.hZ}{k i:Nat}{Q:M.nk}{a:M.Ask}(h:p[k]?=some Q)(j:Q.asks[i]?=some a)(f:xe p k i k a.name=none)(q:Int)(s:ByteArray):xe p k (i+1) q s=if q=k∧s=a.name then some a.keeper else xe p k i q s:=by
 unfold xe at*;rw[h]at f ⊢;simp only[Int.lt_irrefl,if_false,if_true,Option.bind_some]at f ⊢;by_cases d:q<k
 . rw[if_pos d,if_pos d,if_neg Zm]
 . rw [if_neg d, if_neg d]; by_cases b : q = k
   . rw[if_pos b,if_pos b,List.take_add_one,j];simp only[Option.toList_some,List.find?_append];by_cases e:s=a.name
     . subst e;rw[if_pos ⟨b,rfl⟩];have:(Q.asks.take i).find? (fun l=>decide (l.name=a.name))=none:=by simpa using f
       rw[this];simp
     . rw[if_neg (fun c=>e c.2)];have g:¬a.name=s:=fun c=>e c.symm;simp[g]
   . rw[if_neg b,if_neg b,if_neg (fun c=>b c.1)]
theorem OI{p:M.hZ}{k:Nat}{Q:M.nk}(c:p[k]?=some Q)(q:Int)(s:ByteArray):xm p (k+1) 0 q s=xm p k Q.owns.length q s:=by
 unfold xm;by_cases a:q<k
 . rw[if_pos Zm,if_pos a]
 . by_cases b:q=k
   . subst b;rw[if_pos Zm,if_neg a,if_pos rfl,c];unfold M.vS;rw[Dc,c,Option.bind_some,Option.bind_some,List.take_of_length_le (Nat.le_refl _)]
   . rw[if_neg Zm,if_neg a,if_neg b];split
     . cases p[k+1]?<;>simp
     . rfl
theorem N8{p:M.hZ}{k:Nat}{Q:M.nk}(c:p[k]?=some Q)(q:Int)(s:ByteArray):xe p (k+1) 0 q s=xe p k Q.asks.length q s:=by
 unfold xe;by_cases a:q<k
 . rw[if_pos Zm,if_pos a]
 . by_cases b:q=k
   . subst b;rw[if_pos Zm,if_neg a,if_pos rfl,c];unfold M.zh;rw[Dc,c,Option.bind_some,Option.bind_some,List.take_of_length_le (Nat.le_refl _)]
   . rw[if_neg Zm,if_neg a,if_neg b];split
     . cases p[k+1]?<;>simp
     . rfl
theorem OH(p:M.hZ)(q:Int)(s:ByteArray):xm p p.length 0 q s=(M.vS p ⟨q,s⟩).map Int.ofNat:=by
 unfold xm;by_cases a:q<p.length
 . rw[if_pos a]
 . rw[if_neg a];unfold M.vS;rw[wD (.inr (by show(p.length:Int)<=q;omega))];split
   . simp
   . rfl
theorem N7(p:M.hZ)(q:Int)(s:ByteArray):xe p p.length 0 q s=M.zh p q s:=by
 unfold xe;by_cases a:q<p.length
 . rw[if_pos a]
 . rw[if_neg a];unfold M.zh;rw[wD (.inr (by show(p.length:Int)<=q;omega))];split
   . simp
   . rfl
theorem E9{m:List (Key×Int)}{f g:Int->ByteArray->Option Int}{k v:Int}{n:ByteArray}(d:∀a b,look m (a,b)=f a b)(i:f k n=none)(h:∀a b,g a b=if a=k∧b=n then some v else f a b):∀a b,look (m++[((k,n),v)]) (a,b)=g a b:=by
 intro a b;rw[h];by_cases c:a=k∧b=n
 . obtain⟨rfl,rfl⟩:=c;rw[if_pos ⟨rfl,rfl⟩,uy (by rw[d];exact i)]
 . rw[if_neg c,sZ (fun e=>c (by simpa using e)),d]
structure mO(w:World)(l:jh)(p:M.hZ)(k i j:Nat):Prop where
 ord:l.O<l.A∧l.A<l.D∧l.D<l.L
 blk:∃a cap,hV w l.L 127 #[.slice a p.length cap,.map (some l.O),.map (some l.A),.map (some l.D)]∧SliceOf 2 jc w (· <l.O) (.slice a p.length cap) p
 own:∃m,kH w l.O m∧∀q s,look m (q,s)=xm p k i q s
 ask:∃m,kH w l.A m∧∀q s,look m (q,s)=xe p k j q s
 laid:kH w l.D []
theorem mO.lt{w:World}{l:jh}{p:M.hZ}{k i j:Nat}(a:mO w l p k i j):l.L<w:=by
 obtain⟨c,d,b,_⟩:=a.blk;exact b.lt
theorem mO.ext{w d:World}{l:jh}{p:M.hZ}{k i j:Nat}(a:mO w l p k i j)(b:Ext w d):mO d l p k i j:=by
 obtain⟨e,f,o,q⟩:=a.blk;obtain⟨r,m,g⟩:=a.own;obtain⟨s,n,h⟩:=a.ask;exact⟨a.ord,⟨e,f,o.ext b,q.ext jc.stays b⟩,⟨r,m.kp b fun c=>c,g⟩,⟨s,n.kp b fun c=>c,h⟩,a.laid.kp b fun c=>c⟩
theorem mO.Qv{w c:World}{l:jh}{p:M.hZ}{k i e j:Nat}(a:mO w l p k i j)(b:Kp (·=l.O) w c)(r:∃f,kH c l.O f∧∀g h,look f (g,h)=xm p k e g h):mO c l p k e j:=by
 obtain⟨x,y,z⟩:=a.ord;obtain⟨m,n,d,s⟩:=a.blk;obtain⟨t,q,o⟩:=a.ask;exact⟨a.ord,⟨m,n,d.kp b Zm,s.keep jc.stays (Kp.same b fun u d v=>by omega) fun _ a=>a⟩,r,⟨t,q.kp b Zm,o⟩,a.laid.kp b Zm⟩
theorem mO.Qu{w c:World}{l:jh}{p:M.hZ}{k i j e:Nat}(a:mO w l p k i j)(b:Kp (·=l.A) w c)(r:∃f,kH c l.A f∧∀g h,look f (g,h)=xe p k e g h):mO c l p k i e:=by
 obtain⟨x,y,z⟩:=a.ord;obtain⟨m,n,d,s⟩:=a.blk;obtain⟨t,q,o⟩:=a.own;exact⟨a.ord,⟨m,n,d.kp b Zm,s.keep jc.stays (Kp.same b fun u d v=>by omega) fun _ a=>a⟩,⟨t,q.kp b Zm,o⟩,r,a.laid.kp b Zm⟩
theorem mO.done{w:World}{l:jh}{p:M.hZ}(c:mO w l p p.length 0 0)(h:M.kU p=true):jg w l p:=by
 obtain⟨j,f,d⟩:=c.own;obtain⟨k,g,e⟩:=c.ask;exact⟨h,c.ord,c.blk,⟨j,f,fun a b=>(d a b).trans (OH p a b)⟩,⟨k,g,fun a b=>(e a b).trans (N7 p a b)⟩,⟨[],c.laid,fun a b m i=>by cases i⟩⟩
theorem mO.next{w:World}{l:jh}{p:M.hZ}{k:Nat}{Q:M.nk}(a:mO w l p k Q.owns.length Q.asks.length)(d:p[k]?=some Q):mO w l p (k+1) 0 0:=by
 obtain⟨i,g,e⟩:=a.own;obtain⟨j,h,f⟩:=a.ask;exact⟨a.ord,a.blk,⟨i,g,fun b c=>(e b c).trans (OI d b c).symm⟩,⟨j,h,fun b c=>(f b c).trans (N8 d b c).symm⟩,a.laid⟩
theorem xM{w:World}{b:Nat}{a:Option Addr}{n c:Nat}(f:w.cell? b=some (.slice a n c)){k:Int}:Calls prog 40 #[some b,k] w fun d e=>d=.returned (.bool (decide (0<=k)&&decide (k<n)))∧w=e:=by
 go_enter func40,ntmps40;go_wp2
 . go_ret;exact⟨hQ (by rw[decide_eq_true (p:=0<=k) Zm];rfl),rfl⟩
 . go_ret;exact⟨hQ (by rw[decide_eq_false (p:=0<=k) Zm];rfl),rfl⟩
theorem mO.F6{w:World}{l:jh}{p:M.hZ}{k i j:Nat}(b:mO w l p k i j)(q:Int)(s:ByteArray):(Instr.lookup 125 (.map (some l.O)) (.agg #[q,s]) true).run prog w=.ok (.tuple #[.int .i64 ((xm p k i q s).getD 0),.bool (xm p k i q s).isSome]) w:=by
 obtain⟨d,c,a⟩:=b.own;rw[oD c,a]
theorem mO.F5{w:World}{l:jh}{p:M.hZ}{k i j:Nat}(b:mO w l p k i j)(q:Int)(s:ByteArray):(Instr.lookup 125 (.map (some l.A)) (.agg #[q,s]) true).run prog w=.ok (.tuple #[.int .i64 ((xe p k j q s).getD 0),.bool (xe p k j q s).isSome]) w:=by
 obtain⟨d,c,a⟩:=b.ask;rw[oD c,a]
theorem Ht{p:M.hZ}{k i:Nat}{Q:M.nk}(a:p[k]?=some Q)(s:ByteArray):(xm p k i k s).isSome=(((Q.owns.take i).map M.Class.name).any fun b=>decide (b=s)):=by
 unfold xm;rw[if_neg Zm,if_pos rfl,a,Option.bind_some,Option.isSome_map,List.findIdx?_isSome,List.any_map];rfl
theorem GL{p:M.hZ}{k i:Nat}{Q:M.nk}(a:p[k]?=some Q)(s:ByteArray):(xe p k i k s).isSome=(((Q.asks.take i).map M.Ask.name).any fun b=>decide (b=s)):=by
 unfold xe;rw[if_neg Zm,if_pos rfl,a,Option.bind_some,Option.isSome_map,List.any_map,Bool.eq_iff_iff,List.find?_isSome];simp
theorem BF{α:Type}{name:α->ByteArray}{ok:α->Bool}{l:List α}{i:Nat}{x:α}(a:l[i]?=some x):M.jI name ok (l.drop i) ((l.take i).map name)=(ok x&& !(((l.take i).map name).any fun b=>decide (b=name x))&&M.jI name ok (l.drop (i+1)) ((l.take (i+1)).map name)):=by
 rw[oG a,List.take_add_one,a];simp only[M.jI,Option.toList_some,List.map_append,List.map_cons,List.map_nil]
abbrev Qz(l:jh):Nat->Prop:=fun b=>b=l.O∨b=l.A
theorem Hb {w: World} {l: jh} {p: M.hZ} {k: Nat} {Q: M.nk} (L : p[k]? = some Q) (X : mO w l p k 0 0) :Calls prog 47 #[some l.L,k] w fun a w'=>a=.returned (.bool (M.kr p Q))∧Kp (Qz l) w w'∧(M.kr p Q=true->mO w' l p (k+1) 0 0):=by
 obtain⟨d,aM,hb,hs⟩:=X.blk;obtain⟨aA,aZ,cs,rfl,hI,aG,-,hc⟩:=hs.get L;obtain⟨vo,va,rfl,s1,s2⟩:=aG;obtain⟨S,V,rfl,aT,aS⟩:=s1.form;obtain⟨T,W,rfl,aU,N⟩:=s2.form;obtain⟨g0,g1⟩:=hc.two;have aP:=(List.getElem?_eq_some_iff.1 L).1;obtain⟨aX,d0,-⟩:=hb.ca;have⟨H0,v⟩:=je X L;have t:Ext w (w.alloc (.cells #[.slice S Q.owns.length V,.slice T Q.asks.length W] 90)):=(jr _);have bK:=hV.new w 90 #[.slice S Q.owns.length V,.slice T Q.asks.length W];clear X L hc;have G:Zz (M.kr p Q=(decide (Q.owns.length<=5)&&decide (Q.asks.length<=4)&&M.jI M.Class.name M.nV Q.owns []&&M.jI M.Ask.name (fun d=>M.jC d.name&&M.has p d.keeper) Q.asks [])):=Zy rfl;by_cases aQ:5<Q.owns.length
 . have hF:Zz (M.kr p Q=false):=Zy (by rw[G.o,decide_eq_false (p:=Q.owns.length<=5) Zm];rfl);go_enter func47,ntmps47;go_wp2;go_ret;exact⟨hQ hF.symm,t.any,fun a=>by rw[hF.o]at a;cases a⟩
 by_cases aR:4<Q.asks.length
 . have hF:Zz (M.kr p Q=false):=Zy (by rw[G.o,decide_eq_false (p:=Q.asks.length<=4) Zm];simp);go_enter func47,ntmps47;go_wp2;go_ret;exact⟨hQ hF.symm,t.any,fun a=>by rw[hF.o]at a;cases a⟩
 have H:Zz (M.kr p Q=(M.jI M.Class.name M.nV Q.owns []&&M.jI M.Ask.name (fun d=>M.jC d.name&&M.has p d.keeper) Q.asks [])):=Zy (by
  rw[G.o,decide_eq_true (p:=Q.owns.length<=5) Zm,decide_eq_true (p:=Q.asks.length<=4) Zm];rfl)
 clear G;go_enter func47,ntmps47;go_wp2;generalize av:(w.alloc (.cells #[.slice S Q.owns.length V,.slice T Q.asks.length W] 90))=w0 at*;have aV:(w0:Nat)=w+1:=by rw[<-av];simp
 clear av;go_loopw [36] (fun i wr=>∃c:Nat,c<=Q.owns.length∧i=.int .i64 c∧Kp (Qz l) w0 wr∧Zz (mO wr l p k c 0)∧Zz (M.jI M.Class.name M.nV Q.owns []=M.jI M.Class.name M.nV (Q.owns.drop c) ((Q.owns.take c).map M.Class.name))) (fun i _=>Q.owns.length - (intOf i).toNat)
 case atStart=>exact⟨0,Nat.zero_le _,rfl,Kp.rr,Zy (H0.ext t),Zy rfl⟩
 case round =>
  obtain⟨c,hn,rfl,e,f,j⟩:=hrel;by_cases ae:c<Q.owns.length
  . obtain⟨b,r⟩:=get_some ae;obtain⟨b',aL,cs,he,Y,aa,-,B⟩:=s1.get r;subst he;obtain⟨o1,o2,o3⟩:=f.ord;have K:∀x,x<l.O->¬Qz l x:=fun x hz a=>by rcases a with a|a<;>omega
    have C:=(B.ext t).keep fun aK ah hv=>e.lW hv (K _ Y);have ak:=jL.kp jv.stays e K (jL.ext jv.stays t aa);obtain⟨y1,z1,y2,z2,rfl⟩:=aa.form;obtain⟨e0,e1,e2,e3⟩:=C.four;obtain⟨ma,aJ,A,-⟩:=f.blk;obtain⟨aI,-,r1,-⟩:=A.ca;have⟨R,ay⟩:=je r ak;have h:Ext wr ((wr.alloc (.cells #[b.name,b.jl,.slice y1 b.fields.length z1,.slice y2 b.methods.length z2] 95)).alloc (.cells #[k,b.name] 63)):=kx;have m:=fun z=>(f.ext (h.drewN z)).F6 k b.name;have q:=Ht (i:=c) v b.name;have s:=Zy (BF (name:=M.Class.name) (ok:=M.nV) r);clear r B C aa ak A;cases g:xm p k c k b.name with
    |some ah=>
     rw[g]at m q;simp only[Option.getD_some,Option.isSome_some]at m;have hF:Zz (M.kr p Q=false):=Zy (by rw[H.o,j.o,s.o,<-q];simp);clear g q;go_wp2;go_quiet (fail);go_wp2;go_ret;exact⟨hQ hF.symm,(t.any.trans e).trans (kx:Ext wr _).any,fun a=>by rw[hF.o]at a;cases a⟩
    | none =>
     have o:=Zy g;rw[g]at m q;simp only[Option.getD_none,Option.isSome_none]at m;have bC:=(hV.new wr 95 #[b.name,b.jl,.slice y1 b.fields.length z1,.slice y2 b.methods.length z2]).ext (jr (.cells #[k,b.name] 63));obtain⟨-,q0,q1,q2,q3,-⟩:=bC.ca;have U:=hV.new (wr.alloc (.cells #[b.name,b.jl,.slice y1 b.fields.length z1,.slice y2 b.methods.length z2] 95)) 63 #[k,b.name];simp only[World.size_alloc]at U;have az:=Zy (fun z=>jL.ext jv.stays (h.drewN z) ay);cases u:M.nV b
     all_goals
      have n:=Zy u;clear u g;go_wp2;go_quiet (fail);go_wp2_with fail;refine(AL _ _ _ _ (az _)).mono ?_;rintro a F ⟨rfl,J⟩;rw[n.o];have bf:=((h.drewN _).trans J).jb r1;have ai:=(U.ext (Kp.rr.drewN _)).ext J;obtain⟨uz,u0,u1,-⟩:=ai.ca;have Z:=(h.drewN _).trans J;clear e0 e1 e2 e3 q0 q1 q2 q3 r1 bC U ai m J h
     . have hF:Zz (M.kr p Q=false):=Zy (by rw[H.o,j.o,s.o,n.o];simp);go_wp2;go_ret;exact⟨hQ hF.symm,(t.any.trans e).trans Z.any,fun a=>by rw[hF.o]at a;cases a⟩
     . go_wp2;refine om 6 Zo Zo ?_;(simp only[List.take_succ_cons,List.take_zero,List.drop_succ_cons,List.drop_zero]);(repeat still_step);refine wpStill_nil ?_;have aj:=f.ext (Z.drew);obtain⟨ag,hm,E⟩:=aj.own;have P:=Zy aj;refine lN rfl rfl l.O ag k b.name c rfl rfl rfl hm (by rw[E];exact o) ?_;intro w2 N D aH;go_wp2;go_roundw
       case rel=>
        refine⟨c+1,by omega,by go_num,?_,Zy (P.o.Qv D ⟨_,N,E9 E o.o (Nh v.o R.o o.o)⟩),Zy ?_⟩
        . exact(e.trans (Z.drew).any).trans (D.weak fun _ _ a=>.inl a)
        . rw[j.o,s.o,n.o,<-Ht v.o,o.o];rfl
       case measure=>simp[intOf];omega
  . have af : c = Q.owns.length := by omega
    subst af;have I:Zz (M.kr p Q=M.jI M.Ask.name (fun d=>M.jC d.name&&M.has p d.keeper) Q.asks []):=Zy (by
     rw[H.o,j.o,List.drop_eq_nil_of_le (Nat.le_refl _)];rfl)
    have aD:=t.any.trans e;have aO:aA<l.O:=hI;have K:∀x,x<l.O->¬Qz l x:=by
     obtain⟨o1,o2,o3⟩:=f.ord;exact fun x hz a=>by rcases a with a|a<;>omega
    have aY:=e.size;have aN:l.A<l.L:=by obtain⟨o1,o2,o3⟩:=f.ord;omega
    have aB:=bK.kp e (fun a=>by obtain⟨o1,o2,o3⟩:=f.ord;rcases a with a|a<;>omega);obtain⟨aW,-,v1,-⟩:=aB.ca;clear j H bK;obtain⟨wo,rfl⟩:∃wo:World,wo=wr:=⟨_,rfl⟩;go_wp2;go_loopw [70] (fun i wr=>∃c:Nat,c<=Q.asks.length∧i=.int .i64 c∧Kp (Qz l) w wr∧Zz (mO wr l p k Q.owns.length c)∧Zz (M.jI M.Ask.name (fun d=>M.jC d.name&&M.has p d.keeper) Q.asks []=M.jI M.Ask.name (fun d=>M.jC d.name&&M.has p d.keeper) (Q.asks.drop c) ((Q.asks.take c).map M.Ask.name))) (fun i _=>Q.asks.length - (intOf i).toNat)
    case atStart=>exact⟨0,Nat.zero_le _,rfl,aD,f,Zy rfl⟩
    case round=>
     obtain⟨c,hn,rfl,e,f,j⟩:=hrel;by_cases ae:c<Q.asks.length
     . obtain⟨b,r⟩:=get_some ae;obtain⟨b',aL,cs,he,Y,rfl,-,B⟩:=s2.get r;subst he;have C:=B.keep fun aK ah hv=>e.lW hv (K _ Y);obtain⟨e0,e1⟩:=C.two;obtain⟨ma,aJ,A,-⟩:=f.blk;obtain⟨aI,r0,-,r2,-⟩:=A.ca;have R:=Zy r;have h:Ext wr ((wr.alloc (.cells #[b.name,b.keeper] 97)).alloc (.cells #[k,b.name] 63)):=kx;have m:=fun z=>(f.ext (h.drewN z)).F5 k b.name;have q:=GL (i:=c) v b.name;have s:=Zy (BF (name:=M.Ask.name) (ok:=fun d=>M.jC d.name&&M.has p d.keeper) r);clear r B C A;cases g:xe p k c k b.name with
       |some ah=>
        rw[g]at m q;simp only[Option.getD_some,Option.isSome_some]at m;have hF:Zz (M.kr p Q=false):=Zy (by rw[I.o,j.o,s.o,<-q];simp);clear g q;go_wp2;go_quiet (fail);go_wp2;go_ret;exact⟨hQ hF.symm,e.trans (kx:Ext wr _).any,fun a=>by rw[hF.o]at a;cases a⟩
       |none=>
        have o:=Zy g;rw[g]at m q;simp only[Option.getD_none,Option.isSome_none]at m;cases u:M.jC b.name
        . have n:=Zy u;have hF:Zz (M.kr p Q=false):=Zy (by rw[I.o,j.o,s.o,u];simp);clear u g;go_wp2;go_quiet (fail);go_wp2_with (go_at_call 22;refine(mE _ _).mono ?_;rintro a F ⟨rfl,rfl⟩;rw[n.o]);go_ret;exact⟨hQ hF.symm,e.trans (kx:Ext wr _).any,fun a=>by rw[hF.o]at a;cases a⟩
        . have n:=Zy u;clear u;have au:M.has p b.keeper=(decide (0<=b.keeper)&&decide (b.keeper<p.length)):=rfl;cases y:M.has p b.keeper
          . have hF:Zz (M.kr p Q=false):=Zy (by rw[I.o,j.o,s.o,y];simp);have O:Zz ((decide (0<=b.keeper)&&decide (b.keeper<p.length))=false):=Zy y;clear y g au;go_wp2;go_quiet (fail);go_wp2_with (first|(go_at_call 22;refine(mE _ _).mono ?_;rintro a F ⟨rfl,rfl⟩;rw[n.o])|(go_at_call 40;refine(xM ((h.drewN _).jb r0)).mono ?_;rintro a F ⟨rfl,rfl⟩;rw[O.o]));go_ret;exact⟨hQ hF.symm,e.trans (kx:Ext wr _).any,fun a=>by rw[hF.o]at a;cases a⟩
          . have O:Zz ((decide (0<=b.keeper)&&decide (b.keeper<p.length))=true):=Zy y;have ax:=Zy y;clear y g au;go_wp2;go_quiet (fail);go_wp2_with (first|(go_at_call 22;refine(mE _ _).mono ?_;rintro a F ⟨rfl,rfl⟩;rw[n.o])|(go_at_call 40;refine(xM ((h.drewN _).jb r0)).mono ?_;rintro a F ⟨rfl,rfl⟩;rw[O.o]));obtain⟨ag,hm,E⟩:=f.ask;have P:=Zy f.o;refine om 7 Zo Zo ?_;(simp only[List.take_succ_cons,List.take_zero,List.drop_succ_cons,List.drop_zero]);(repeat still_step);refine wpStill_nil ?_;refine lN rfl rfl l.A ag k b.name b.keeper rfl rfl rfl (hm.kp ((h.drewN _).drew) fun b=>b) (by rw[E];exact o) ?_;intro w2 N D aH;have⟨aF,aC⟩:=je (P.ext ((h.drewN _).drew)|>.Qu D ⟨_,N,E9 E o (LY v R o)⟩) ((e.trans ((h.drewN _).drew).any).trans (D.weak fun _ _ a=>.inr a));go_wp2;go_roundw
            case rel=>
             refine⟨c+1,by omega,by go_num,aC.o,aF,Zy ?_⟩;rw[j.o,s.o,n.o,ax.o,<-GL v.o,o.o];rfl
            case measure=>simp[intOf];omega
     . have af:c=Q.asks.length:=by omega
       subst af;have hF:Zz (M.kr p Q=true):=Zy (by rw[I.o,j.o,List.drop_eq_nil_of_le (Nat.le_refl _)];rfl);go_wp2;go_ret;exact⟨hQ hF.symm,e,fun _=>f.next v⟩
theorem LX{α:Type}{f:α->Bool}{l:List α}{k:Nat}{x:α}(a:l[k]?=some x):(l.drop k).all f=(f x&&(l.drop (k+1)).all f):=by
 rw[oG a,List.all_cons]
theorem vR(w:World)(I:Nat->Prop)(v:Value)(p:M.hZ)(C:SliceOf 2 jc w I v p)(hI:∀e,I e->e<w.heap.size):Calls prog 17 #[.agg #[v]] w fun l K=>Ext w K∧((M.kU p=false∧l=.returned (.pointer none))∨(M.kU p=true∧∃c:jh,l=.returned (some c.L)∧jg K c p∧w<=c.O)):=by
 obtain⟨a,b,rfl,S,W⟩:=C.form;by_cases X:p.length<1
 . have hF:Zz (M.kU p=false):=Zy (by unfold M.kU;rw[decide_eq_false (p:=1<=p.length) Zm];rfl);go_enter func17,ntmps17;go_wp2;go_ret;exact⟨kx,.inl ⟨hF,rfl⟩⟩
 by_cases Y:3<p.length
 . have hF:Zz (M.kU p=false):=Zy (by unfold M.kU;rw[decide_eq_false (p:=p.length<=3) Zm];simp);go_enter func17,ntmps17;go_wp2;go_ret;exact⟨kx,.inl ⟨hF,rfl⟩⟩
 have x:Zz (M.kU p=p.all (M.kr p)):=Zy (by unfold M.kU;rw[decide_eq_true (p:=1<=p.length) Zm,decide_eq_true (p:=p.length<=3) Zm];rfl);have U:∀j:World,(Instr.makeMap 125 none).run prog j=.ok (.map (some j.heap.size)) (j.alloc (.map #[] 0)):=fun j=>by kernel_rfl
 have D:Ext w (((((w.alloc (.cells #[.slice a p.length b] 25)).alloc (.map #[] 0)).alloc (.map #[] 0)).alloc (.map #[] 0)).alloc (.cells #[.slice a p.length b,.map (some (w.heap.size+1)),.map (some (w.heap.size+1+1)),.map (some (w.heap.size+1+1+1))] 127)):=kx;have F:mO (((((w.alloc (.cells #[.slice a p.length b] 25)).alloc (.map #[] 0)).alloc (.map #[] 0)).alloc (.map #[] 0)).alloc (.cells #[.slice a p.length b,.map (some (w.heap.size+1)),.map (some (w.heap.size+1+1)),.map (some (w.heap.size+1+1+1))] 127)) ⟨w.heap.size+1+1+1+1,w.heap.size+1,w.heap.size+1+1,w.heap.size+1+1+1⟩ p 0 0 0:=by
  have y:=kH.new (w.alloc (.cells #[.slice a p.length b] 25));have z:=kH.new ((w.alloc (.cells #[.slice a p.length b] 25)).alloc (.map #[] 0));have A:=kH.new (((w.alloc (.cells #[.slice a p.length b] 25)).alloc (.map #[] 0)).alloc (.map #[] 0));have B:=hV.new ((((w.alloc (.cells #[.slice a p.length b] 25)).alloc (.map #[] 0)).alloc (.map #[] 0)).alloc (.map #[] 0)) 127 #[.slice a p.length b,.map (some (w.heap.size+1)),.map (some (w.heap.size+1+1)),.map (some (w.heap.size+1+1+1))];simp only[World.size_alloc]at y z A B;refine⟨⟨Nat.lt_succ_self _,Nat.lt_succ_self _,Nat.lt_succ_self _⟩,⟨a,b,B,C.keep jc.stays (Ext.same D) fun e f=>Nat.lt_succ_of_lt (hI e f)⟩,⟨[],y.kp (((((Kp.refl (fun _=>False) _).alloc _).alloc _).alloc _)) fun h=>h,fun r s=>(Ni p r s).symm⟩,⟨[],z.kp ((((Kp.refl (fun _=>False) _).alloc _).alloc _)) fun h=>h,fun r s=>(LZ p r s).symm⟩,A.kp ((Kp.refl (fun _=>False) _).alloc _) fun h=>h⟩
 go_enter func17,ntmps17;go_wp2;obtain⟨c,g⟩:∃c:jh,c=⟨w.heap.size+1+1+1+1,w.heap.size+1,w.heap.size+1+1,w.heap.size+1+1+1⟩:=⟨_,rfl⟩;have P:w.heap.size+1+1+1+1=c.L:=by rw[g]
 have Q:w<c.O∧w<c.A:=by rw[g];exact⟨Nat.lt_succ_self _,by show w.heap.size<w.heap.size+1+1;omega⟩
 rw[<-g]at F;generalize (((((w.alloc (.cells #[.slice a p.length b] 25)).alloc (.map #[] 0)).alloc (.map #[] 0)).alloc (.map #[] 0)).alloc (.cells #[.slice a p.length b,.map (some (w.heap.size+1)),.map (some (w.heap.size+1+1)),.map (some (w.heap.size+1+1+1))] 127))=w1 at*;rw[P];have V:=Zy g;clear g U;go_loopw [25] (fun q wr=>∃d:Nat,d<=p.length∧q=.int .i64 d∧Kp (Qz c) w1 wr∧Zz (mO wr c p d 0 0)∧Zz (p.all (M.kr p)=(p.drop d).all (M.kr p))) (fun q _=>p.length - (intOf q).toNat)
 case atStart=>exact⟨0,Nat.zero_le _,rfl,Kp.rr,Zy F,Zy rfl⟩
 case round =>
  obtain⟨d,S,rfl,G,u,k⟩:=hrel;have E:=D.own G (fun e f=>by rcases f with rfl|rfl<;>omega);by_cases R:d<p.length
  . obtain⟨O,J⟩:=get_some R;have m:=LX (f:=M.kr p) J;have t:=Zy m;go_wp2_with fail;refine(Hb J u).mono ?_;rintro l Z ⟨rfl,H,n⟩;cases o:M.kr p O
    . have i:Zz (M.kU p=false):=Zy (by rw[x.o,k.o,t.o,o];rfl);clear n m;go_wp2;go_ret;exact⟨E.own H (fun e f=>by rcases f with rfl|rfl<;>omega),.inl ⟨i.o,rfl⟩⟩
    . have L:=Zy (n o);have N:=Zy o;clear n m;go_wp2;go_roundw
      case rel=>exact⟨d+1,by omega,by go_num,G.trans H,L,Zy (by rw[k.o,t.o,N.o];rfl)⟩
      case measure=>simp[intOf];omega
  . have T:d=p.length:=by omega
    subst T;have i:Zz (M.kU p=true):=Zy (by rw[x.o,k.o,List.drop_eq_nil_of_le (Nat.le_refl _)];rfl);go_wp2;go_ret;exact⟨E,.inr ⟨i,c,rfl,u.done i,Nat.le_of_lt Q.1⟩⟩
def p9:M.rE:=⟨⟨0,M.none_⟩,0⟩
theorem Dq(w:World)(l:jh)(p:M.hZ)(x:jg w l p)(r:M.Ref)(n:ByteArray):Calls prog 130 #[some l.L,.agg #[r.keeper,r.name],n] w fun f w'=>f=.returned (.tuple #[.agg #[.int .i64 ((M.pick p r n).getD p9).of.keeper,.string ((M.pick p r n).getD p9).of.name,.int .i64 ((M.pick p r n).getD p9).at_],.bool (M.pick p r n).isSome])∧jg w' l p∧Kp (·=l.D) w w':=by
 have L:Ext w ((w.alloc (.cells #[r.keeper,r.name] 63)).alloc (.cells #[.int .i64 0, "",.int .i64 0] 65)):=kx;have Q:=Zy (x.ext L);have af:=x.lt;have aA:l.D<l.L:=x.ord.2.2;clear x;have T:=(hV.new w 63 #[r.keeper,r.name]).ext (jr (.cells #[.int .i64 0, "",.int .i64 0] 65));have H:=hV.new (w.alloc (.cells #[r.keeper,r.name] 63)) 65 #[.int .i64 0, "",.int .i64 0];simp only[World.size_alloc]at H;go_enter func130,ntmps130;go_wp2_with fail;generalize ((w.alloc (.cells #[r.keeper,r.name] 63)).alloc (.cells #[.int .i64 0, "",.int .i64 0] 65))=w0 at*;refine(mJ Q r).mono ?_;rintro f P ⟨rfl,ae,z⟩;have X:=T.kp z Zm;have h:=H.kp z Zm;have N:=(L.any).trans z;obtain⟨-,p0,p1,-⟩:=X.ca;obtain⟨-,q0,q1,q2,-⟩:=h.ca;obtain⟨s,t,u,-⟩:=h.fz;have m:=Zy ae;have D:=h.lt;clear T H Q L ae z;cases A:M.kg p r
 . have j:M.pick p r n=none:=by unfold M.pick;rw[A];rfl
   have o:=Zy j;clear A j;go_wp2;refine bodyPost_ret (v:=.tuple #[.agg #[.int .i64 0, "",.int .i64 0],.bool false]) (by simp[results,results130,go_sem,q0,q1,q2]) rfl ?_;have d:Kp (·=w+1) P (((P.setCell ⟨w+1,0,none⟩ (.int .i64 0)).setCell ⟨w+1,1,none⟩ "").setCell ⟨w+1,2,none⟩ (.int .i64 0)):=
    (((Kp.refl (·=w+1) P).setCell (p:=⟨w+1,0,none⟩) (fun _=>rfl) _).setCell (p:=⟨w+1,1,none⟩) (fun _=>rfl) _).setCell (p:=⟨w+1,2,none⟩) (fun _=>rfl) _
   exact⟨by rw[o.o];rfl,m.kp d (fun b C f=>by omega),N.own d (fun b C=>by omega)⟩
 . have j:M.pick p r n=M.sD p n (M.chain p r):=by unfold M.pick;rw[A];rfl
   have o:=Zy j;clear A j;go_wp2_with fail;refine(qV m _).mono ?_;rintro f w2 ⟨⟨v,rfl,hs⟩,y⟩;obtain⟨ax,az,rfl,hn,aB⟩:=hs.form;have HO:Zz (∀a∈M.chain p r,∃g,M.cls? p a=some g):=Zy mR;have S:=Zy (m.ext y);have aj:=h.ext y;have ak:=N.trans y.any;clear p0 p1 q0 q1 q2 s t u D X h N y m;generalize M.chain p r=xs at*;go_wp2;go_loopw [20] (fun c wr=>∃b:Nat,b<=xs.length∧c=.int .i64 b∧Ext w2 wr∧Zz (M.sD p n xs=M.sD p n (xs.drop b))) (fun c _=>xs.length - (intOf c).toNat)
   case atStart=>exact⟨0,Nat.zero_le _,rfl,Kp.rr,Zy rfl⟩
   case round=>
    obtain⟨b,C,rfl,i,R⟩:=hrel;have q:=aj.ext i;obtain⟨D,q0,q1,q2,-⟩:=q.ca;obtain⟨s,t,u,-⟩:=q.fz;have d:Zz (∀e (F v E:Value),Ext w2 e->Kp (·=l.D) w (((e.setCell ⟨w+1,0,none⟩ F).setCell ⟨w+1,1,none⟩ v).setCell ⟨w+1,2,none⟩ E)∧jg (((e.setCell ⟨w+1,0,none⟩ F).setCell ⟨w+1,1,none⟩ v).setCell ⟨w+1,2,none⟩ E) l p):=Zy (fun e F v E hW=>by
     have d:Kp (·=w+1) e (((e.setCell ⟨w+1,0,none⟩ F).setCell ⟨w+1,1,none⟩ v).setCell ⟨w+1,2,none⟩ E):=
      (((Kp.refl (·=w+1) e).setCell (p:=⟨w+1,0,none⟩) (fun _=>rfl) _).setCell (p:=⟨w+1,1,none⟩) (fun _=>rfl) _).setCell (p:=⟨w+1,2,none⟩) (fun _=>rfl) _
     exact⟨(ak.trans hW.any).own d (fun b C=>by omega),(S.o.ext hW).kp d (fun b C f=>by omega)⟩)
    by_cases af:b<xs.length
    . obtain⟨a,k⟩:=get_some af;obtain⟨ay,aD,cs,rfl,hI,rfl,-,hc⟩:=hs.get k;obtain⟨g0,g1⟩:=(hc.ext i).two;obtain⟨g,O⟩:=HO.o a (List.mem_of_getElem? k);have⟨HX,ai⟩:=je k O;have ag:Zz (M.sD p n xs=match M.og g n with|some c=>some ⟨a,c⟩|none=>M.sD p n (xs.drop (b+1))):=Zy (by
       rw[R.o,oG k];have au:M.cls p a=g:=by unfold M.cls;rw[O];rfl
       rw[<-au];rfl)
      clear k hc O;have U:=hV.new wr 63 #[.int .i64 a.keeper,.string a.name];go_wp2_with fail;refine(sO _ _ (S.ext (i.alloc (.cells #[.int .i64 a.keeper,.string a.name] 63))) _ _ _ ai).mono ?_;rintro f w3 ⟨⟨cs,av,rfl⟩,J⟩;have ah:=Zy (jL.ext jv.stays J av);have Z:=((Kp.refl (fun _=>False) wr).alloc (.cells #[.int .i64 a.keeper,.string a.name] 63)).trans J;have V:=U.ext J;have Y:=q.ext Z;clear q0 q1 q2 s t u D g0 g1 U;go_wp2_with fail;refine(yI _ ah _).mono ?_;rintro f w4 ⟨rfl,K⟩;have W:=V.ext K;obtain⟨xz,x0,x1,-⟩:=W.ca;have I:=Y.ext K;obtain⟨D,q0,q1,q2,-⟩:=I.ca;obtain⟨s,t,u,-⟩:=I.fz;have aa:=(i.trans Z).trans K;clear V W Y I q;cases B:M.og g n with
      |none=>
       have G:=Zy (ag.trans (by rw[B]));simp only[LA,Option.elim];clear B;go_wp2;go_roundw
       case rel=>exact⟨b+1,by omega,by go_num,aa,Zy G.o⟩
       case measure=>simp[intOf];omega
      |some c=>
       have G:=Zy (ag.trans (by rw[B]));simp only[LA,Option.elim];clear B;have aC:(0:Int)<=(c:Int):=by omega
       go_wp2;refine bodyPost_ret (v:=.tuple #[.agg #[.int .i64 a.keeper,.string a.name,c],.bool true]) (by simp[results,results130,go_sem,q0,q1,q2]) rfl ?_;have:=d.o w4 (.int .i64 a.keeper) (.string a.name) c aa;exact⟨by rw[o.o,G.o];rfl,this.2,this.1⟩
    . go_wp2;refine bodyPost_ret (v:=.tuple #[.agg #[.int .i64 0, "",.int .i64 0],.bool false]) (by simp[results,results130,go_sem,q0,q1,q2]) rfl ?_;have:=d.o wr (.int .i64 0) "" (.int .i64 0) i;exact⟨by rw[o.o,R.o,List.drop_eq_nil_of_le Zm];rfl,this.2,this.1⟩
def CK(w:World)(ev:Value)(code:Int):Prop:=(code=1∧ev=Value.nilIface)∨(code≠1∧∃b,ev=.iface 254 (.pointer (some ⟨b,0,none⟩))∧hV w b 256 #[.int .i64 code])
theorem wX{w:World}{l:jh}{p:M.hZ}(i:jg w l p){k:Int}{n m:ByteArray}:Calls prog 146 #[some l.L,k,n,m] w fun a d=>(∃x,a=.returned (.tuple #[.agg #[.int .i64 (M.jN p k n m).1.keeper,.string (M.jN p k n m).1.name],x])∧CK d x (M.jN p k n m).2)∧jg d l p∧Kp (·=l.D) w d:=by
 have aa:Ext w (w.alloc (.cells #[.int .i64 0, ""] 63)):=kx;have⟨r,B⟩:=je (i.ext aa) i;have ax:=i.lt;have au:l.D<l.L:=i.ord.2.2;clear i;have S:=hV.new w 63 #[.int .i64 0, ""];obtain⟨-,H,I,-⟩:=S.ca;have O:Zz (¬(M.has p k&&M.jC n&&M.jC m)=true->M.jN p k n m=(M.vB,2)):=Zy (fun i=>by unfold M.jN;rw[if_neg i]);have af:Zz ((M.has p k&&M.jC n&&M.jC m)=true->M.jN p k n m=(if(M.find p k n).2=1 then(if M.kg p (M.find p k n).1 then((M.find p k n).1,1)else(M.vB,4))else(M.vB,2))):=Zy (fun i=>by unfold M.jN;rw[if_pos i]);have A:Zz (∀(a:Ending) (d:World) (E:Nat),M.jN p k n m=(M.vB,2)->a=.returned (.tuple #[.agg #[.int .i64 0, ""],.iface 254 (some E)])->hV d E 256 #[.int .i64 2]->jg d l p->Kp (·=l.D) w d→
     (∃x,a=.returned (.tuple #[.agg #[.int .i64 (M.jN p k n m).1.keeper,.string (M.jN p k n m).1.name],x])∧CK d x (M.jN p k n m).2)∧jg d l p∧Kp (·=l.D) w d):=Zy (fun a d E Y e2 e3 e4 e5=>by
  rw[Y];exact⟨⟨_,e2,.inr ⟨by decide,E,rfl,e3⟩⟩,e4,e5⟩)
 cases j:M.has p k
 . have u:=Zy j;have c:=Zy (O (by rw[j];simp));clear j;go_enter func146,ntmps146;go_wp2_with (go_at_call 40;refine(oK r _).mono ?_;rintro a b ⟨rfl,rfl⟩;rw[u.o]);refine bodyPost_ret (v:=.tuple #[.agg #[.int .i64 0, ""],.iface 254 (.pointer (some ⟨w+1,0,none⟩))]) (by simp[results,results146,go_sem,H,I]) rfl ?_;refine A _ _ _ c rfl ?_ (B.ext kx) (kx:Ext w _).any;have:=hV.new (w.alloc (.cells #[.int .i64 0, ""] 63)) 256 #[.int .i64 2];simpa only[World.size_alloc]using this
 have u:=Zy j;cases o:M.jC n
 . have C:=Zy o;have c:=Zy (O (by rw[o];simp));clear j o;go_enter func146,ntmps146;go_wp2_with (first|(go_at_call 40;refine(oK r _).mono ?_;rintro a b ⟨rfl,rfl⟩;rw[u.o])|(go_at_call 22;refine(mE _ _).mono ?_;rintro a b ⟨rfl,rfl⟩;rw[C.o]));refine bodyPost_ret (v:=.tuple #[.agg #[.int .i64 0, ""],.iface 254 (.pointer (some ⟨w+1,0,none⟩))]) (by simp[results,results146,go_sem,H,I]) rfl ?_;refine A _ _ _ c rfl ?_ (B.ext kx) (kx:Ext w _).any;have:=hV.new (w.alloc (.cells #[.int .i64 0, ""] 63)) 256 #[.int .i64 2];simpa only[World.size_alloc]using this
 have C:=Zy o;cases s:M.jC m
 . have Q:=Zy s;have c:=Zy (O (by rw[s];simp));clear j o s;go_enter func146,ntmps146;go_wp2_with fail;refine(oK r _).mono ?_;rintro a b ⟨rfl,rfl⟩;rw[u.o];go_wp2_with fail;refine(mE _ _).mono ?_;rintro a b ⟨rfl,rfl⟩;rw[C.o];go_wp2_with fail;refine(mE _ _).mono ?_;rintro a b ⟨rfl,rfl⟩;rw[Q.o];go_wp2;refine bodyPost_ret (v:=.tuple #[.agg #[.int .i64 0, ""],.iface 254 (.pointer (some ⟨w+1,0,none⟩))]) (by simp[results,results146,go_sem,H,I]) rfl ?_;refine A _ _ _ c rfl ?_ (B.ext kx) (kx:Ext w _).any;have:=hV.new (w.alloc (.cells #[.int .i64 0, ""] 63)) 256 #[.int .i64 2];simpa only[World.size_alloc]using this
 have⟨Q,D⟩:=je s (af (by rw[j,o,s];rfl));clear j o s O af;go_enter func146,ntmps146;go_wp2_with fail;refine(oK r _).mono ?_;rintro a b ⟨rfl,rfl⟩;rw[u.o];go_wp2_with fail;refine(mE _ _).mono ?_;rintro a b ⟨rfl,rfl⟩;rw[C.o];go_wp2_with fail;refine(mE _ _).mono ?_;rintro a b ⟨rfl,rfl⟩;rw[Q.o];go_wp2_with fail;refine(ng _ _ _ r _ _).mono ?_;rintro a b ⟨rfl,T⟩;have G:=S.ext T;obtain⟨hz,q0,q1,-⟩:=G.ca;obtain⟨f0,f1,-⟩:=G.fz;have J:=aa.trans T;have U:=Zy (B.ext J);clear H I r T S;have R:Zz (∀(f:World) (t v:Value),Kp (·=w) f ((f.setCell w t).setCell (w,1) v)):=Zy (fun f t v=>((Kp.refl (·=w) f).setCell (p:=⟨w,0,none⟩) (fun _=>rfl) _).setCell (p:=⟨w,1,none⟩) (fun _=>rfl) _);have ag:Zz (∀(f:World) (t v P:Value),hV (((f.setCell w t).setCell (w,1) v).alloc (.cells #[P] 256)) f 256 #[P]):=Zy (fun f t v P=>by
  have:=hV.new ((f.setCell w t).setCell (w,1) v) 256 #[P];simpa using this)
 generalize M.find p k n=F at*;obtain⟨⟨g,h⟩,ai⟩:=F;simp only at*;by_cases L:ai=1
 . subst L;have X:=hV.new b 63 #[g,h];go_wp2_with fail;refine(mJ (U.ext (jr (.cells #[g,h] 63))) ⟨g,h⟩).mono ?_;rintro a q ⟨rfl,aj,K⟩;have ak:l.D<b:=by have:=J.size;omega
   have ah:=X.kp K Zm;have W:=(G.ext (jr (.cells #[g,h] 63))).kp K Zm;obtain⟨uz,u0,u1,-⟩:=ah.ca;obtain⟨Z,r0,r1,-⟩:=W.ca;obtain⟨e0,Y,-⟩:=W.fz;have ae:=((J.alloc _).any).trans K;clear q0 q1 f0 f1 G X K;have e:Kp (·=w) q ((q.setCell w (.int .i64 0)).setCell (w,1) ""):=((Kp.refl (·=w) q).setCell (p:=⟨w,0,none⟩) (fun _=>rfl) _).setCell (p:=⟨w,1,none⟩) (fun _=>rfl) _;clear e;have V:=Zy aj;cases N:M.kg p ⟨g,h⟩
   . have c:Zz (M.jN p k n m=(M.vB,4)):=Zy (by rw[D.o,N];rfl);clear N;go_wp2;refine bodyPost_ret (v:=.tuple #[.agg #[.int .i64 0, ""],.iface 254 (some q)]) (by simp[results,results146,go_sem,r0,r1,Z]) rfl ?_;have e:=R.o q (.int .i64 0) "";rw[c.o];exact⟨⟨_,rfl,.inr ⟨by decide,_,rfl,ag q _ _ _⟩⟩,(V.kp e (fun z y a=>by omega)).ext (jr _),(ae.own e (fun z y=>by omega)).alloc _⟩
   . have c:Zz (M.jN p k n m=(⟨g,h⟩,1)):=Zy (by rw[D.o,N];rfl);clear N;go_wp2;refine bodyPost_ret (v:=.tuple #[.agg #[g,h],Value.nilIface]) (by simp[results,results146,go_sem,r0,r1,Z]) rfl ?_;have e:=R.o q g h;rw[c.o];exact⟨⟨_,rfl,.inl ⟨rfl,rfl⟩⟩,V.kp e (fun z y a=>by omega),ae.own e (fun z y=>by omega)⟩
 . have av:=bne_iff_ne.2 L;have c:Zz (M.jN p k n m=(M.vB,2)):=Zy (by rw[D.o,if_neg L]);clear L D;go_wp2;refine bodyPost_ret (v:=.tuple #[.agg #[.int .i64 0, ""],.iface 254 (.pointer (some ⟨b+1,0,none⟩))]) (by simp[results,results146,go_sem,q0,q1,hz]) rfl ?_;have e:=R.o b (.int .i64 0) "";refine A _ _ _ c rfl ?_ ((U.kp e (fun z y a=>by omega)).ext ((jr _).alloc _)) (((J.any.own e (fun z y=>by omega)).alloc _).alloc _);have:=hV.new (((b.setCell w (.int .i64 0)).setCell (w,1) "").alloc (.cells #[g,h] 63)) 256 #[.int .i64 2];simpa using this
theorem FZ(w:World)(l:jh)(p:M.hZ)(z:jg w l p)(k:Int)(n:ByteArray)(i:Nat)(c:M.Class)(m:M.Method)(F:M.cls? p ⟨k,n⟩=some c)(B:c.methods[i]?=some m):Calls prog 54 #[some l.L,.agg #[k,n,i]] w fun y K=>(∃r,jd K (· <l.O) m r∧y=.returned (.agg r.toArray))∧Ext w K:=by
 have ak:=(List.getElem?_eq_some_iff.1 B).1;have⟨O,C,Q,R⟩:=jV z z F B;clear z F B;have E:=(hV.new w 65 #[k,n,i]);obtain⟨-,q0,q1,q2,-⟩:=E.ca;clear E;go_enter func54,ntmps54;go_upto_region 1 with(fail);first|(go_region_with (go_at_call 51;refine(sO l p (O.ext kx) k n c Q).mono ?_;rintro y u ⟨⟨r,A,rfl⟩,s⟩;obtain⟨y1,z1,L,N,rfl⟩:=A.form;obtain⟨ae,af⟩:=GM s;have ag:∀e,(Instr.field 95 (.agg #[c.name,c.jl,.slice y1 c.fields.length z1,.slice L c.methods.length N]) 3).run prog e=.ok (.slice L c.methods.length N) e:=(fun e=>by kernel_rfl);obtain⟨ax,ay,H,-,J⟩:=jL.ext jv.stays s A;simp only[List.cons.injEq,and_true,true_and]at H;obtain⟨rfl,rfl⟩:=H;obtain⟨b',av,r,rfl,ai,I,-,G⟩:=J.get R;have S:=Zy I;obtain⟨f,j,g,o,h,q,rfl⟩:=I.form;obtain⟨T,U,V,W,X,Y,Z,g7⟩:=G.eight))|fail
 all_goals
  have v:=((hV.new (w.alloc (.cells #[k,n,i] 65)) 141 #["",(),.int .i64 0, "",.int .i64 0,.int .i64 0,(),()]).ext (jf)).ext s;simp only[World.size_alloc]at v;have b:=(((((((v.jk 0 m.name).jk 1 (.slice f m.args.length j)).jk 2 m.ret.kind).jk 3 m.ret.name).jk 4 m.locals).jk 5 m.stack).jk 6 (.slice g m.code.length o)).jk 7 (.slice h m.maps.length q);have t:∀(d:Nat->Prop),d (w+1)->Kp d u ((((((((u.setCell ⟨w+1,0,none⟩ m.name).setCell ⟨w+1,1,none⟩ (.slice f m.args.length j)).setCell ⟨w+1,2,none⟩ m.ret.kind).setCell ⟨w+1,3,none⟩ m.ret.name).setCell ⟨w+1,4,none⟩ m.locals).setCell ⟨w+1,5,none⟩ m.stack).setCell ⟨w+1,6,none⟩ (.slice g m.code.length o)).setCell ⟨w+1,7,none⟩ (.slice h m.maps.length q)):=fun d a=>
   ((((((((Kp.refl d u).setCell (p:=⟨w+1,0,none⟩) (fun _=>a) _).setCell (p:=⟨w+1,1,none⟩) (fun _=>a) _).setCell (p:=⟨w+1,2,none⟩) (fun _=>a) _).setCell (p:=⟨w+1,3,none⟩) (fun _=>a) _).setCell (p:=⟨w+1,4,none⟩) (fun _=>a) _).setCell (p:=⟨w+1,5,none⟩) (fun _=>a) _).setCell (p:=⟨w+1,6,none⟩) (fun _=>a) _).setCell (p:=⟨w+1,7,none⟩) (fun _=>a) _
  have aa:=((((Kp.refl _ w).alloc _).alloc _).drew).trans s;clear ae af ag T U V W X Y Z g7 q0 q1 q2 G v A J;revert b t;generalize ((((((((u.setCell ⟨w+1,0,none⟩ m.name).setCell ⟨w+1,1,none⟩ (.slice f m.args.length j)).setCell ⟨w+1,2,none⟩ m.ret.kind).setCell ⟨w+1,3,none⟩ m.ret.name).setCell ⟨w+1,4,none⟩ m.locals).setCell ⟨w+1,5,none⟩ m.stack).setCell ⟨w+1,6,none⟩ (.slice g m.code.length o)).setCell ⟨w+1,7,none⟩ (.slice h m.maps.length q))=e;intro b t;have⟨P,D⟩:=je (hH.lV b) t;clear t b;have aj:l.O<w:=by have:=C.ord;have:=C.lt;omega
  go_wp2_with fail;refine bodyPost_ret (v:=.agg #[m.name,.slice f m.args.length j,m.ret.kind,m.ret.name,m.locals,m.stack,.slice g m.code.length o,.slice h m.maps.length q]) (jw CR rfl (w+1) rfl _ P rfl) rfl ?_;trace "x";exact⟨⟨_,jL.kp jd.stays (D (·=w+1) rfl) (fun ah hb y=>by omega) S.o,rfl⟩,aa.own (D.o (·=w+1) rfl) (fun au hj=>by omega)⟩
structure LC(l:jh)(p:M.hZ)(w W:World):Prop where
 kp:Kp (·=l.D) w W
 at_:jg W l p
theorem LC.refl{l:jh}{p:M.hZ}{w:World}(a:jg w l p):LC l p w w:=⟨Kp.rr,a⟩
theorem LC.ext{l:jh}{p:M.hZ}{w W a:World}(b:LC l p w W)(c:Ext W a):LC l p w a:=⟨b.kp.trans c.any,b.at_.ext c⟩
theorem LC.drew{l:jh}{p:M.hZ}{w W:World}(a:LC l p w W):LC l p w W.drew:=a.ext jf
theorem LC.step{l:jh}{p:M.hZ}{w W a:World}(b:LC l p w W)(c:jg a l p)(d:Kp (·=l.D) W a):LC l p w a:=⟨b.kp.trans d,c⟩
theorem LC.trans{l:jh}{p:M.hZ}{w W a:World}(c:LC l p w W)(b:LC l p W a):LC l p w a:=c.step b.at_ b.kp
theorem jg.Ev{w:World}{l:jh}{p:M.hZ}(a:jg w l p):l.D<w:=by have:=a.lt;have:=a.ord;omega
theorem pK(w:World)(l:jh)(p:M.hZ)(d:jg w l p)(k:Int)(n:ByteArray)(c:M.Class)(o:M.cls? p ⟨k,n⟩=some c):∃h,jv w (· <l.O) c h∧∀b,Kp (·=l.D) w b→ Calls prog 51 #[some l.L,.agg #[k,n]] b fun O V=>O=.returned (.agg h.toArray)∧Ext b V:=by
 obtain⟨T,S,g,A,F,ax⟩:=M.AO o;obtain⟨f,B⟩:=M.Cw o;simp only at f B;obtain⟨k,rfl⟩:=Int.eq_ofNat_of_zero_le f;have C:p[k]?=some T:=by
  unfold M.pI at g;rw[if_pos f]at g;exact g
 obtain⟨aa,af,G,r,s,K,L⟩:=d.cells;obtain⟨mm,D,E⟩:=d.own;obtain⟨ae,aB,h,rfl,hI,Q,-,y⟩:=G.get C;obtain⟨vo,va,rfl,q,U⟩:=Q;obtain⟨a1,ag,rfl,az,av⟩:=q.form;obtain⟨b1,aC,ah,rfl,ai,m,-,z⟩:=q.get F;obtain⟨X,Z,Y,z2,rfl⟩:=m.form;obtain⟨j,x⟩:=y.two;obtain⟨i,t,u,v⟩:=z.four;have aA:(p.length:Int)<=3:=by have:=(M.AX d.ok).2;omega
 have hO:=d.ord;have R:=d.lt;refine⟨_,m,fun b a=>?_⟩;have H:∀e,Ext b e->(Instr.lookup 125 (.map (some l.O)) (.agg #[.int .i64 (k:Int),n]) false).run prog e=.ok S e:=by
  intro e P;rw[wL ((D.kp a Zm).kp P fun W=>W),E,A];rfl
 have l2:=fun(I J:Obj)=>H _ ((((Kp.refl _ b).alloc I).alloc J).drew);clear H;have N:=a.lW (r _ (Kp.refl _ w)) Zm;have d1:=a.lW (s _ (Kp.refl _ w)) Zm;replace j:=a.lW j Zm;replace x:=a.lW x Zm;replace i:=a.lW i Zm;replace t:=a.lW t Zm;replace u:=a.lW u Zm;replace v:=a.lW v Zm;have ak:=iY j;have au:=iY i;have aj:=iY N;clear D E m G q U y z r s K L C F g A o d R a;have ay:k<p.length:=by omega
 clear f B;go_enter func51,ntmps51;go_wp2;refine om 17 Zo Zo ?_;(simp only[List.take_succ_cons,List.take_zero,List.drop_succ_cons,List.drop_zero]);(repeat still_step);refine wpStill_nil ?_;go_wp2;refine bodyPost_ret (v:=.agg #[c.name,c.jl,.slice X c.fields.length Z,.slice Y c.methods.length z2]) (by simp[results,results51,go_sem]) rfl ?_;exact⟨rfl,kx⟩
def oI(f:M.ry):List Value:=[.int .i64 f.of.keeper,.string f.of.name,.int .i64 f.at_,.int .i64 f.kind.kind,.string f.kind.name]
def LH:l6 M.ry:=fun _ _ x cs=>cs=oI x
theorem LH.stays:jL LH:=fun _ _ _ _ _ _ _ _ a=>a
theorem Na{x:M.ry}:∀a∈oI x,a.oneCell'=true:=by simp[oI,Value.oneCell']
theorem Kb:Elem 224 213 5:=kN (z:=.agg #[.int .i64 0, "",.int .i64 0,.int .i64 0, ""]) (bytes:=56) underlying224 Zo rfl Zn Zn
theorem CP{c:M.Ref}{d:List M.Field}{a:List M.ry}{k:Nat}{x:M.Field}(e:d[k]?=some x):M.kQ c (d.take (k+1)) a=M.kQ c (d.take k) a++[⟨c,(M.kQ c (d.take k) a).length,x.kind⟩]:=by
 rw[List.take_add_one,e];have:∀(b:List M.Field) (a:List M.ry),M.kQ c (b++[x]) a=M.kQ c b a++[⟨c,(M.kQ c b a).length,x.kind⟩]:=by
  intro b;induction b with
  |nil=>intro a;rfl
  |cons h g f=>intro a;simp only[List.cons_append,M.kQ];rw[f]
 exact this _ _
theorem Kp.mix{D D':Nat->Prop}{w a b:World}(d:Kp D w a)(e:Kp D' a b)(h:∀c,c<w.heap.size->D' c->D c):Kp D w b:=
 ⟨e.os.trans d.os,e.tape.trans d.tape,e.output.trans d.output,Nat.le_trans d.size e.size,
  fun c f g=>(e.block c (Nat.lt_of_lt_of_le f d.size) (fun i=>g (h c f i))).trans (d.block c f g)⟩
theorem hH.Hn{W:World}{g:Nat}(t:TypeId)(cs:Array Value)(a:W=g):hH (W.alloc (.cells cs t)).drew g 0 cs.toList:=(hH.ny t cs a).ext (jf)
theorem GN (w : World) (e n : Nat) (vs : Value) {h: List M.ry} (c : M.Ref) (I : Nat -> Prop) {vf: Value} (i : List M.Field) (K : hV w e 271 #[vs]) (S : w.ownsRow n 213 5 vs h.length (h.flatMap oI))(N:SliceOf 3 lh w I vf i) (hI:∀d,I d->d<n∧d≠e) (aS:n<=w) (aV:h.length+i.length<=1000) (av:vs.ownBlock≠some e):Calls prog 162 #[some e,.agg #[c.keeper,c.name],vf] w fun b W=>b=.returned (.tuple #[])∧∃V,hV W e 271 #[V]∧W.ownsRow n 213 5 V (h.length+i.length) ((M.kQ c i h).flatMap oI)∧V.ownBlock≠some e∧Kp (fun d=>d=e∨vs.ownBlock=some d) w W:=by
 obtain⟨va,vc,rfl,hn,aU⟩:=N.form;have hz:=K.lt;have t:=hV.new w 63 #[c.keeper,c.name];have k:Ext w (w.alloc (.cells #[c.keeper,c.name] 63)):=kx;have⟨HF,Z,ae⟩:=jy N hI av;have R0:Zz (hV (w.alloc (.cells #[c.keeper,c.name] 63)) e 271 #[vs]∧(w.alloc (.cells #[c.keeper,c.name] 63)).ownsRow n 213 5 vs h.length ((M.kQ c (i.take 0) h).flatMap oI)∧(∀j,vs.ownBlock=some j->vs.ownBlock=some j∨w.heap.size<j)∧
     Kp (fun d=>d=e∨vs.ownBlock=some d) w (w.alloc (.cells #[c.keeper,c.name] 63))∧hV (w.alloc (.cells #[c.keeper,c.name] 63)) w 63 #[c.keeper,c.name]):=
  Zy ⟨K.ext k,iZ (D:=fun _=>False) S k fun _ _ _ l=>l,fun j a=>.inl a,k.any,t⟩
 have G:=Zy fun j hg=>S.lt j hg;clear K S N hI av t k;go_enter func162,ntmps162;go_wp2;go_loopw [10] (fun R wr=>∃(m f:Nat) (x:Value),m<=i.length∧R=.int .i64 m∧Zz (f=h.length+m)∧Zz (hV wr e 271 #[x]∧wr.ownsRow n 213 5 x f ((M.kQ c (i.take m) h).flatMap oI)∧
     (∀j,x.ownBlock=some j->vs.ownBlock=some j∨w.heap.size<j)∧Kp (fun d=>d=e∨vs.ownBlock=some d) w wr∧hV wr w 63 #[c.keeper,c.name])) (fun R _=>i.length - (intOf R).toNat)
 case atStart=>exact⟨0,h.length,vs,Nat.zero_le _,rfl,Zy rfl,R0⟩
 case round =>
  obtain⟨m,f,x,hk,rfl,y,g⟩:=hrel;by_cases aM:m<i.length
  . obtain⟨l,Q⟩:=get_some aM;obtain⟨d,aY,cs,rfl,ah,rfl,-,hc⟩:=HF.get Q;have aT:=(Z d ah).1;have aI:=(Z d ah).2;have ax:Same (·=d) w wr:=Kp.same g.2.2.2.1 (fun T r b=>by
     subst r;rcases b with rfl|b
     . exact aI rfl
     . have:=G.o _ b;omega)
    have ak:=hc.keep fun aP U hv=>ax d aP U rfl hv;obtain⟨g0,g1,q⟩:=ak.three;have gz:=iY g0;have aX:(w:Nat)<=wr:=g.2.2.2.1.size;have HX:=Zy Q;clear Q hc ak ax;have F:=g.2.1;obtain⟨o,p,rfl⟩:=jB F;have O:(Value.slice o f p).ownBlock≠some e:=fun b=>by
     rcases g.o.2.2.1 _ b with a|a
     . exact ae a
     . omega
    obtain⟨A,L,k,b7⟩:=nu wr #[l.name,l.kind.kind,l.kind.name] 183;have J:=g.1.ext k;have t:=g.2.2.2.2.ext k;have aA:(A:Nat)=wr+1:=by rw[L];simp
    obtain⟨aQ,aR,aW,s⟩:=rA.ex (fun aH=>Kp (fun d=>(Value.slice o f p).ownBlock=some d) A aH) _ Kp.rr;have az:¬(Value.slice o f p).ownBlock=some wr.heap.size:=fun b=>by have:=(F.lt _ b).2;omega
    have ay:¬(Value.slice o f p).ownBlock=some w.heap.size:=fun b=>by
     rcases g.o.2.2.1 _ b with a|a
     . have:=(G _ a).2;omega
     . omega
    have r0:=fun v=>(J.kp (s.jm v) O).c 0 (.slice o f p) rfl;obtain⟨-,r4,r5,-⟩:=hV.lL fun v=>(t.kp (s.jm v) ay);obtain⟨-,-,r7,r8,-⟩:=hV.lL fun v=>(b7.kp (s.jm v) az);have⟨H,aB,X⟩:=jy s J k;have af:=Zy O;have⟨aD,aG,ag⟩:=jy (iZ (D:=fun _=>False) F k fun _ _ _ l=>l) L aA;have aN:f+1<=4294967296:=by have:=y.o;omega
    clear J t b7 F O az ay s k aA;go_wp2;rw[<-aG.o];clear L g0 g1 q;refine kD H 16 [([0,1,2,3,4,5,6,7,8,9,10,11,12,13],14),([],15)] [] ?_ ?_
    . exact jf
    refine lS ?_;intro z u;go_wp2_with fail;refine kk H u kx ?_;clear u z;refine lF rfl fun z u=>?_;refine jo Kb rfl (.tmp 18) (.tmp 28) rfl n (.slice o f p) f _ rfl (iZ (D:=fun _=>False) aD kx fun _ _ _ l=>l) A 1 (oI ⟨c,f,l.kind⟩) rfl rfl (hH.Hn _ _ rfl) (Na) aN ?_ ?_
    . have:=ag.o;simp;omega
    intro q c2 w1 aj ai au;have Y:Zz ((Value.slice o f p).ownBlock=some q∨w<q):=Zy (by
     rcases au with a|a
     . exact .inl a
     . right;have:=ag.o;simp at a;omega)
    clear au;change z _ _;have E:=(kx:Ext A _).any.trans ai;refine kk H u E ?_;clear u z;have C:=aB.kp E af;obtain⟨z1,d0,-⟩:=C.ca;have e0:=C.frozen 0;have⟨aC,aF,aa⟩:=jy C aj E;clear aj ai E C r0 r4 r5 r7 r8;refine kC ?_;go_wp2;have P:=fun D hD U=>(Kp.refl D w1).setCell (p:=⟨e,0,none⟩) (fun _=>hD) U;have aJ:q≠e:=fun b=>by
     subst b;rcases Y.o with a|a
     . exact af a
     . omega
    have aO:¬w=e:=by omega
    have aL:(M.kQ c (i.take m) h).length=f:=by rw[M.sH,y.o,List.length_take];omega
    refine⟨⟨m+1,f+1,(q,f+1,c2),by omega,by go_num,Zy (by have:=y.o;omega),Zy ⟨?_,?_,?_,?_,?_⟩⟩,by simp[intOf];omega⟩
    . exact aC.jk 0 _
    . rw[CP HX.o,List.flatMap_append,aL];have B:=iZ aF (P (·=e) rfl (q,f+1,c2)) (fun T r _ b=>by cases r;exact aJ b);simpa using B
    . intro T r;cases r;rcases Y.o with a|a
      . rcases g.o.2.2.1 _ a with a|a
        . exact .inl a
        . exact .inr a
      . exact .inr a
    . refine((g.2.2.2.1.trans X.any).mix aa (fun T r b=>?_)).trans (P _ (.inl rfl) _);rcases g.o.2.2.1 _ b with a|a
      . exact .inr a
      . omega
    . exact((g.2.2.2.2.ext X).kp aa (fun b=>by
       rcases g.o.2.2.1 _ b with a|a
       . have:=(G _ a).2;omega
       . omega)).kp (P (·=e) rfl _) aO
  . have aK:m=i.length:=by omega
    subst aK;go_wp2;refine RA ?_;refine⟨rfl,x,g.1,?_,?_,g.2.2.2.1⟩
    . have B:=g.2.1;rw[y.o,List.take_length]at B;exact B
    . intro b;rcases g.o.2.2.1 _ b with a|a
      . exact ae a
      . omega
attribute [local go_sem] Oper.semAt_some
theorem zM{w:World}{a:Option Addr}{n c:Nat}:Calls prog 161 #[.slice a n c] w fun b d=>b=.returned (.func (.func 181) #[] #[some w])∧w.alloc (.cells #[.slice a n c] 130)=d:=by
 go_enter func161,ntmps161;go_wp2;go_ret;exact⟨rfl,rfl⟩
def backTo{α:Type}(l:List α):Nat->List (Int×α)
 |0=>[]
 |n+1=>(match l[n]? with|some x=>[((n:Int),x)]|none=>[])++backTo l n
theorem xE{α:Type}{l:List α}{n:Nat}{x:α}(a:l[n]?=some x):backTo l (n+1)=((n:Int),x)::backTo l n:=by
 simp[backTo,a]
theorem pJ{α:Type}(l:List α):∀n,n<=l.length->(backTo l n).map Prod.snd=(l.take n).reverse
 |0,_=>by simp[backTo]
 |n+1,h=>by
  rw[xE (List.getElem?_eq_getElem (show n<l.length by omega)),List.take_succ_eq_append_getElem (show n<l.length by omega),List.map_cons,pJ l n Zm,List.reverse_append];rfl
def ER(x:Int×M.Ref):Array Value:=#[.int .i64 x.1,.agg #[.int .i64 x.2.keeper,.string x.2.name]]
theorem yU(a:List M.Ref)(g:Nat)(v:Value)(I w:Nat->Prop)(hBd:∀b,w b->b≠g∧¬I b):Iter prog 181 #[some g] ER (fun _=>False) w (fun xs=>xs=backTo a a.length) (fun c=>∃u,backTo a a.length=c++u) (fun _=>True) (fun k=>hV k g 130 #[v]∧SliceOf 2 xu k I v a) (fun c e=>∃u,backTo a a.length=c++e::u):=by
 intro lp N Jx k ⟨p,s⟩ z A U o T;obtain⟨l,h,rfl,hn,ai⟩:=s.form;refine callsIn_of_wp func181 rfl trivial ?_ rfl;simp only[ntmps181,List.size_toArray,List.length_cons,List.length_nil,Nat.reduceAdd,Nat.reduceSub,Array.replicate_succ,Array.replicate_zero,List.push_toArray,List.append_toArray,List.nil_append,List.cons_append];have c0:=p.c 0 (.slice l a.length h) rfl;have G:IntKind.i64.wrap ((a.length:Int) - 1)=(a.length:Int) - 1:=IntWalk.i64_in _ Zm;gi_wp2;clear G;gi_loopg [3] a.length (fun i J wr=>∃c:List (Int×M.Ref),((i=0∧J=.int .i64 (-1))∨∃b:Nat,i=b+1∧J=.int .i64 b)∧i<=a.length∧Zz (backTo a a.length=c++backTo a i)∧Zz (N c wr∧hV wr g 130 #[.slice l a.length h]∧SliceOf 2 xu wr I (.slice l a.length h) a))
 case atStart=>
  refine⟨[],?_,Nat.le_refl _,Zy Zl,Zy ⟨T,p,s⟩⟩;rcases Nat.eq_zero_or_pos a.length with m|m
  . left;exact⟨m,by rw[m];rfl⟩
  . right;exact⟨a.length - 1,by omega,by congr 1;omega⟩
 case round =>
  obtain⟨c,Y,ak,x,y⟩:=hrel;rcases Y with⟨rfl,rfl⟩|⟨b,rfl,rfl⟩
  . have L:Zz (backTo a a.length=c):=Zy (by rw[x.o];simp[backTo]);gi_wp2;refine RA ?_;exact⟨⟨_,rfl⟩,.inl ⟨c,L.symm,y.1⟩⟩
  . obtain⟨e,t⟩:=get_some (show b<a.length by omega);obtain⟨D,d,r⟩:=y.o;obtain⟨O,aa,cs,rfl,hI,rfl,-,C⟩:=r.get t;obtain⟨Q,R⟩:=C.two;have P:=d.c 0 (.slice (some ⟨O,aa,none⟩) a.length h) rfl;have X:(0:Int)<=(b:Int):=by omega
    have aj:(b:Int)<a.length:=by omega
    have V:=decide_eq_true X;have j:Zz (backTo a a.length=(c++[((b:Int),e)])++backTo a b):=Zy (by rw[x.o,xE t,List.append_assoc];rfl);obtain⟨fn,av,af,ag,H,n⟩:=o c ((b:Int),e) wr ⟨backTo a b,by rw[j.o,List.append_assoc];rfl⟩ D;simp only[ER]at H n;have⟨HY,ae,f⟩:=jy o (And.intro z A) (And.intro hBd (And.intro d r));have G:IntKind.i64.wrap ((b:Int) - 1)=(b:Int) - 1:=IntWalk.i64_in _ Zm;clear o z A U hBd d r s t C D p;gi_wp2_with fail;refine n.mono ?_;rintro ah W1 ⟨q,(⟨rfl,E⟩|⟨rfl,W⟩)⟩
    . have B:=f.2.1.kp q (fun d=>(f.1 _ d).1 rfl);have F:=f.2.2.keep xu.stays (Kp.same q fun au Z d=>(f.1 _ d).2 Z) (fun _ S=>S);have K:=Zy (And.intro E (And.intro B F));clear E B F q Q R P H n V;gi_wp2_with fail;gi_roundg b
      case measure=>omega
      case rel=>
       refine⟨c++[((b:Int),e)],?_,by omega,j,K⟩;cases b with
       |zero=>left;exact⟨rfl,rfl⟩
       |succ b=>right;exact⟨b,rfl,by congr 1;omega⟩
    . gi_wp2_with fail;refine RA ?_;exact⟨⟨_,rfl⟩,.inr ⟨_,⟨_,j⟩,W⟩⟩
end Go.Proofs.YtlhlnddgfcmfkaaGreat
namespace Go.Proofs.YtlhlnddgfcmfkaaGreat
open Go Go.RowKit Tryz
attribute [local go_sem] Oper.semAt_some
theorem vZ{p:M.hZ}(b:M.kU p=true){r:M.Ref}{c:M.Class}(a:M.cls? p r=some c):c.fields.length<=3:=by
 have:=M.AL b a;unfold M.nV at this;simp only[Bool.and_eq_true,decide_eq_true_eq]at this;exact this.1.1.1.2
theorem rP{p:M.hZ}(d:M.kU p=true)(a:List M.Ref):(M.ll p a []).length<=a.length*3:=by
 rw[M.zZ];induction a with
 |nil=>simp
 | cons b g e =>
  have:(M.cls p b).fields.length<=3:=by
   unfold M.cls;cases c:M.cls? p b with
   |none=>simp[M.Rf]
   |some f=>exact vZ d c
  simp only[List.map_cons,List.sum_cons,List.length_cons,List.length_nil]at e ⊢;omega
theorem Ew(p:M.hZ)(a:List M.Ref)(c:M.Ref):M.ll p (a++[c]) []=M.kQ c (M.cls p c).fields (M.ll p a []):=by
 rw[M.wV];rfl
theorem Cb{w:World}{I:Nat->Prop}{v:Value}{xs:List M.Ref}(g:SliceOf 2 xu w I v xs):SliceOf 2 xu w (fun a=>I a∧a<w) v xs:=by
 obtain⟨c,d,e,h,i,j⟩:=g;refine⟨c,d,e,h,i,fun n p m=>?_⟩;obtain⟨a,o,q,f,k,rfl,l,b⟩:=j n p m;exact⟨a,o,_,f,⟨k,iY b.two.1⟩,rfl,l,b⟩
def QM(p:M.hZ)(w2:World)(bb S:Nat)(pre:List (Int×M.Ref))(W:World):Prop:=
 ∃v',hV W bb 271 #[v']∧W.ownsRow S 213 5 v' (M.ll p (pre.map Prod.snd) []).length ((M.ll p (pre.map Prod.snd) []).flatMap oI)∧Kp (·=bb) w2 W
theorem wE{w:World}{l:jh}{p:M.hZ}(a:jg w l p)(r:M.Ref):Calls prog 121 #[some l.L,.agg #[r.keeper,r.name]] w fun g w'=>(∃au,g=.returned au∧SliceOf 5 LH w' (fun m=>w<=m) au (M.layout p r))∧jg w' l p∧Kp (·=l.D) w w':=by
 have bB:=a.Ev;have bC:=a.lt;have hO:=a.ord;have ae:Ext w ((w.alloc (.cells #[some l.L] 58)).alloc (.cells #[r.keeper,r.name] 63)):=kx;have aQ:=Zy (a.ext ae);have X:=(hV.new w 58 #[some l.L]).ext (jr (.cells #[r.keeper,r.name] 63));have G:=hV.new (w.alloc (.cells #[some l.L] 58)) 63 #[r.keeper,r.name];simp only[World.size_alloc]at G;have aT:=Zy ae;clear a ae;refine(callsIn_wide (n:=10)).1 ?_;refine callsIn_of_wp_marks func121 rfl trivial ?_ rfl;simp only[ntmps121,List.size_toArray,List.length_cons,List.length_nil,Nat.reduceAdd,Nat.reduceSub,Array.replicate_succ,Array.replicate_zero,List.push_toArray,List.append_toArray,List.nil_append,List.cons_append];have q2:=X.c 0 (some l.L) rfl;obtain⟨-,q3,q4,-⟩:=G.ca;cases aG:M.kg p r
 all_goals
  have N:=Zy aG;clear aG;gi_wp2_with fail;refine⟨trivial,?_⟩;refine(callsIn_wide.2 (mJ aQ r)).mono ?_;rintro g v ⟨rfl,aC,A⟩;rw[N.o];have bK:(w:Nat)+1<(v:Nat):=by have:=A.size;simp at this;omega
  have bJ:(w:Nat)<v:=by omega
  have Y:=X.kp A Zm;have Z:=G.kp A Zm;have⟨av,P⟩:=je (aT.any.trans A) aC;have p2:=Y.c 0 (some l.L) rfl;obtain⟨-,p3,p4,-⟩:=Z.ca;clear q2 q3 q4 A aC
 . have S:Zz (M.layout p r=[]):=Zy (by unfold M.layout;rw[N.o];rfl);gi_wp2_with fail;refine⟨(),by simp[results,Tryz.f121,go_sem],⟨_,rfl,by rw[S.o];exact SliceOf.nil _ _ _ _⟩,P,av⟩
 . have S:Zz (M.layout p r=M.ll p (M.chain p r).reverse []):=Zy (by unfold M.layout;rw[N.o];rfl);have b5:=hV.new v 271 #[()];gi_wp2_with fail;refine⟨trivial,?_⟩;refine(callsIn_wide.2 (qV (P.ext kx) r)).mono ?_;rintro g c ⟨⟨au,rfl,hs⟩,o⟩;obtain⟨x,y,rfl,hn,bF⟩:=hs.form;gi_wp2_with fail;refine⟨trivial,?_⟩;refine(callsIn_wide.2 (zM)).mono ?_;rintro g w3 ⟨rfl,rfl⟩;gi_wp2_with fail;have bn:=o.size;simp only[World.size_alloc]at bn;have aa:=b5.ext o;have⟨Q,aV,B2⟩:=jy ((P.ext kx).ext o) (av.trans ((kx:Ext v _).any.trans o.any)) (And.intro ((Y.ext kx).ext o) ((Z.ext kx).ext o));have bD:(v:Nat)<c:=by omega
   clear X G Y Z b5 p2 p3 p4 o;generalize bE:v=bb at*;have⟨HS,ax⟩:=je hs (M.vI p r);have aX:Zz (∀b∈M.chain p r,∃i,M.cls? p b=some i):=Zy fun b hx=>M.mR hx;clear hs;generalize M.chain p r=xs at*;refine DW (gf:=181) (lb:=#[some c]) (α:=Int×M.Ref) rfl (enters_of func181 Zo rfl) (encs:=ER) (fun b=>rfl)
    (Bb:=fun e=>e=bb∨c+3<=e)
    (yU xs c (.slice x xs.length y) (fun m=>bb+1<=m∧m<c) _ ?hBd) ?hIt ?hD1 ?hD2 ?hB1 ?hB2
    (QM p c bb (c+3)) (fun _ _ _=>False) ?hI ?hIx ?h0 ?hIB
    (fun q b d W V=>QM p c bb (c+3) q d∧(∃aP,backTo xs xs.length=q++b::aP)∧
     c.heap.size+2<(d:Nat)∧V=d.alloc (.cells #[.int .i64 b.2.keeper,.string b.2.name] 63)∧
     W={tmps:=#[some l.L,.agg #[r.keeper,r.name],some w,.pointer (some ⟨w+1,0,none⟩),(),some bb,undef,.pointer (some ⟨d,0,none⟩),
      some l.L,.agg #[r.keeper,r.name],.bool true,.bool false,some l.L,.agg #[r.keeper,r.name],.slice x xs.length y,.func (.func 181) #[] #[some c],
      .int .i64 b.1,.agg #[.int .i64 b.2.keeper,.string b.2.name],undef,undef,undef,undef,undef,undef,undef,undef],defers:=[]}) ?hassign ?hAx ?hbody ?hdone ?hstop
   case hBd=>
    intro e f;have bf:(e=bb∨c+3<=e)∨e=(c.alloc (.cells #[.slice x xs.length y] 130)).heap.size+1:=f;simp only[World.size_alloc]at bf;omega
   case hIt=>
    intro d hW;refine⟨(hV.new _ _ _).ext hW,?_⟩;refine(Cb HS).keep xu.stays (Ext.same (((Kp.refl _ c).alloc _:Ext c _).trans hW)) (fun m hb=>?_);have:=hb.1;simp only[World.size_alloc]at this;exact⟨by omega,hb.2⟩
   case hD1=>exact fun a=>a
   case hD2=>exact fun a=>a
   case hB1=>simp only[World.size_alloc];omega
   case hB2=>simp only[World.size_alloc];omega
   case hI=>
    rintro L bq bu ⟨s,k,h,j⟩ f;simp only[World.size_alloc]at f;exact⟨s,k.kp f Zr,iZ h f (fun az _ hg a=>by simp at a;omega),j.own f (fun e f=>by simp at f;omega)⟩
   case hIx=>exact fun _ _ _ _ a=>a.elim
   case h0=>exact⟨(),aa.ext kx,World.ownsRow_nil _ _ _ _,(kx:Ext c _).any⟩
   case hIB=>exact fun _ _ _=>trivial
   case hassign=>
    intro q b d F aL hi aJ n;simp only[ER];simp only[World.size_alloc]at aJ;gi_wp2
   case hAx=>
    rintro q b d W V ⟨_,_,_,rfl,_⟩;exact((Kp.refl _ d).alloc _)
   case hbody=>
    rintro q b d W V t ⟨⟨s,k,h,j⟩,aL,aJ,rfl,rfl⟩ u ai;simp only[World.size_alloc]at u ai;obtain⟨aP,aM⟩:=aL;have bg:b.2∈xs:=by
     have:=congrArg (List.map Prod.snd) aM;rw[pJ _ _ (Nat.le_refl _),List.take_length]at this;have z:b.2∈xs.reverse:=by rw[this];simp
     simpa using z
    have bH:(q.map Prod.snd).length<=6:=by
     have:=congrArg List.length aM;have z:=congrArg List.length (pJ xs xs.length (Nat.le_refl _));simp at this z;have:=ax.o;simp;omega
    obtain⟨i,J⟩:=aX.o _ bg;have C:=(j.alloc _).own u (fun e f=>by omega);have I:=Q.kp C (fun e f g=>by omega);obtain⟨cs,aH,aF⟩:=pK _ l p I b.2.keeper b.2.name i J;obtain⟨a1,c1,a2,c2,rfl⟩:=aH.form;obtain⟨bM,bN,aI,sf,-⟩:=aH;simp only[List.cons.injEq,and_true,true_and]at aI;obtain⟨rfl,rfl⟩:=aI;have bG:∀d,(Instr.field 95 (.agg #[.string i.name,.string i.jl,.slice a1 i.fields.length c1,.slice a2 i.methods.length c2]) 2).run prog d=.ok (.slice a1 i.fields.length c1) d:=(fun d=>by kernel_rfl);have cb:=(hV.new d 63 #[.int .i64 b.2.keeper,.string b.2.name]).kp u Zm;obtain⟨uz,u0,u1,-⟩:=cb.ca;have t2:=(B2.1.kp C Zm).c 0 (some l.L) rfl;have tz:=iY t2;have g1:=(k.ext ((Kp.refl _ d).alloc _)).kp u Zm;have g2:=iZ (iZ (D:=fun _=>False) h ((Kp.refl _ d).alloc (.cells #[.int .i64 b.2.keeper,.string b.2.name] 63)) (fun _ _ _ a=>a)) u (fun az _ hg=>by omega);have⟨O,aY,aR,aW,aU,aS⟩:=nZ (And.intro g1 (And.intro g2 C)) sf aF I (vZ I.ok J) J;have bL:(c:Nat)+3<=(t:Nat):=by omega
    have aO:¬s.ownBlock=some d.heap.size:=fun g=>by have:=(h.lt _ g).2;omega
    have aj:∀ak,s.ownBlock=some ak->c.heap.size+3<=ak:=fun ak hq=>(h.lt _ hq).1;obtain⟨bz,bA,bI,E⟩:=rA.ex (fun W'=>Kp (fun e=>e=bb∨s.ownBlock=some e) t W') _ Kp.rr;have r2:=fun L=>((B2.1.kp C Zm).kp (E.jm L) (by intro a;rcases a with a|a;(· omega);(· have:=aj _ a;omega))).c 0 (some l.L) rfl;obtain⟨-,r7,r8,-⟩:=hV.lL fun L=>(cb.kp (E.jm L) (by intro a;rcases a with a|a;(· omega);(· exact aO a)));have⟨R,T⟩:=je E aj;clear k h j cb g1 g2 C sf aF I J u ai aa t2 u0 u1 E aj aO;gi_wp2_with fail;refine Ny R 6 [([0,1,2],3),([4],5)] [] ?_ (fun _=>trivial) ?_
    . exact jf
    refine MF [_,_,_] rfl rfl fun F n=>?_;(repeat (go_big_quiet_step (fail)));refine qn n fun U B=>?_;clear n F;gi_wp2_with fail;refine⟨trivial,?_⟩;refine(CallsIn.inRound _ (callsIn_wide.2 (aR _ (jf)))).mono ?_;rintro g w4 ⟨rfl,aB⟩;have H:∀D:Nat->Prop,Kp D t w4:=fun D=>(((Kp.refl _ t).drew:Ext t _).trans aB).any;gi_wp2_with fail;refine kk R B (H _) ?_;clear B U;refine MF [_] rfl rfl fun F n=>?_;(repeat (go_big_quiet_step (fail)));refine qn n fun U B=>?_;clear n F;gi_wp2_with fail;refine⟨trivial,?_⟩;have K:Ext t w4:=H _;refine(CallsIn.inRound _ (callsIn_wide.2 (GN w4 bb (c+3) s b.2 (· <l.O) i.fields (O.1.ext K) (iZ (D:=fun _=>False) O.2.1 K fun _ _ _ b=>b) (SliceOf.ext aY lh.stays K) (fun m hb=>by omega) (by have:=K.size;omega) ?hl (fun g=>by have:=T.o _ g;omega)))).mono ?_
    case hl=>
     have h1:=aU.o;have z:=rP aW.ok (q.map Prod.snd);omega
    rintro g w5 ⟨rfl,v5,aA,aD,aK,af⟩;have ay:=Zy (And.intro aA (And.intro aD (And.intro aK af)));have ag:=(H _).trans af;clear aA aD aK af aB H;gi_wp2_with fail;refine kk R B ag ?_;clear B U;refine MG ?_;gi_wp2_with fail;have aZ:M.cls p b.2=i:=by unfold M.cls;rw[aS.o];rfl
    refine⟨ag.weak ?_,v5,ay.1,?_,(O.2.2.mix ag ?_)⟩
    . intro e f a;rcases a with a|a
      . exact .inl a
      . exact .inr (T _ a)
    . rw[List.map_append,List.map_cons,List.map_nil,Ew,aZ,M.sH];exact ay.2.1
    . intro e f a;rcases a with a|a
      . exact a
      . have:=T.o _ a;omega
   case hdone=>
    rintro ys d rfl ⟨s,k,h,j⟩ n;obtain⟨va,vc,rfl⟩:=jB h;have k0:=k.c 0 _ rfl;have HE:=Zy (And.intro k (And.intro h j));clear k h j aa;simp only[Exit.inBlock,Exit.then];gi_wp2;obtain⟨k,h,j⟩:=HE.o;refine⟨by simp,.inl ⟨_,_,rfl,run_takeDeferred n,?_⟩⟩;have ah:=Kp.putObj d (c.alloc (.cells #[.slice x xs.length y] 130)).heap.size (.deferred none);have ai:(c.alloc (.cells #[.slice x xs.length y] 130)).heap.size=c+1:=by simp
    refine⟨.slice va (M.ll p ((backTo xs xs.length).map Prod.snd) []).length vc,by simp[results,Tryz.f121,go_sem],⟨_,rfl,?_⟩,?_,?_⟩
    . have aN:(backTo xs xs.length).map Prod.snd=xs.reverse:=by rw[pJ _ _ (Nat.le_refl _),List.take_length]
      rw[S.o,<-aN];have h1:=rP Q.ok ((backTo xs xs.length).map Prod.snd);have z:((backTo xs xs.length).map Prod.snd).length=xs.length:=by rw[aN,List.length_reverse]
      have h3:=ax.o;exact SliceOf.lJ (base:=c.heap.size+3) oI (iZ h ah (fun az _ hg=>by omega)) rfl rfl (fun _ _=>rfl) (fun _ _=>rfl) (fun m a h'=>by show w.heap.size<=m;omega) Zm
    . exact(Q.kp j (fun e f g=>by omega)).kp ah (fun e f g=>by omega)
    . exact((aV.own j (fun e f=>by omega))).own ah (fun e f=>by omega)
   case hstop=>exact fun _ _ _ _ a=>a.elim
end Go.Proofs.YtlhlnddgfcmfkaaGreat
namespace Go.Proofs.YtlhlnddgfcmfkaaGreat
open Go Go.RowKit Tryz
attribute [local go_sem] Oper.semAt_some
def QI(p:M.hZ)(of:M.Ref)(xs:List M.Ref)(w2:World)(fb:Nat)(pre:List (Int×M.Ref))(W:World):Prop:=
 ∃n:Nat,n<=pre.length*3∧hV W fb 3 #[.int .i64 n]∧Kp (·=fb) w2 W∧∀rest,xs.reverse=pre.map Prod.snd++rest->M.oU p of xs.reverse 0=M.oU p of rest n
def Rk(p:M.hZ)(of:M.Ref)(xs:List M.Ref)(w2:World)(fb:Nat)(c:Code)(_:List (Int×M.Ref))(W:World):Prop:=
 c=.exit 0∧∃n:Nat,hV W fb 3 #[.int .i64 n]∧Kp (·=fb) w2 W∧M.oU p of xs.reverse 0=n
theorem AY{w:World}{l:jh}{p:M.hZ}(m:jg w l p)(b c:M.Ref):Calls prog 155 #[some l.L,.agg #[b.keeper,b.name],.agg #[c.keeper,c.name]] w fun s w'=>s=.returned (M.ou p b c)∧Ext w w':=by
 have aZ:=m.Ev;have bf:=m.lt;have hO:=m.ord;obtain⟨u,t⟩:=Ry ((((w.alloc (.cells #[some l.L] 58)).alloc (.cells #[b.keeper,b.name] 63)).alloc (.cells #[c.keeper,c.name] 63)).alloc (.cells #[.int .i64 0] 3));have Y:Ext w u:=by rw[t];exact kx
 have af:=Zy (m.ext Y);have b2:hV u w 58 #[some l.L]:=by rw[t];exact(hV.new w _ _).ext kx
 have b3:hV u (w+1) 63 #[b.keeper,b.name]:=by
  rw[t];have:=(hV.new (w.alloc (.cells #[some l.L] 58)) 63 #[b.keeper,b.name]);simp only[World.size_alloc]at this;exact this.ext kx
 have b4:hV u (w.heap.size+1+1) 63 #[c.keeper,c.name]:=by
  rw[t];have:=(hV.new ((w.alloc (.cells #[some l.L] 58)).alloc (.cells #[b.keeper,b.name] 63)) 63 #[c.keeper,c.name]);simp only[World.size_alloc]at this;exact this.ext kx
 have b5:hV u (w.heap.size+1+1+1) 3 #[.int .i64 0]:=by
  rw[t];have:=(hV.new (((w.alloc (.cells #[some l.L] 58)).alloc (.cells #[b.keeper,b.name] 63)).alloc (.cells #[c.keeper,c.name] 63)) 3 #[.int .i64 0]);simpa only[World.size_alloc]using this
 have bE:u.heap.size=w+4:=by rw[t];simp
 have⟨aM,aT⟩:=je Y t;clear m Y;refine(callsIn_wide (n:=10)).1 ?_;refine callsIn_of_wp_marks func155 rfl trivial ?_ rfl;simp only[ntmps155,List.size_toArray,List.length_cons,List.length_nil,Nat.reduceAdd,Nat.reduceSub,Array.replicate_succ,Array.replicate_zero,List.push_toArray,List.append_toArray,List.nil_append,List.cons_append];clear t;gi_wp2_with fail;rw[<-aT.o];refine⟨trivial,?_⟩;refine(callsIn_wide.2 (qV af c)).mono ?_;rintro s f ⟨⟨aF,rfl,hs⟩,A⟩;obtain⟨v,x,rfl,hn,bq⟩:=hs.form;gi_wp2_with fail;refine⟨trivial,?_⟩;refine(callsIn_wide.2 (zM)).mono ?_;rintro s w3 ⟨rfl,rfl⟩;gi_wp2_with fail;have bF:=A.size;have K:=b5.ext A;have⟨aQ,ag,B2⟩:=jy (af.ext A) (aM.trans A) (And.intro (b2.ext A) (b3.ext A));clear b2 b3 b4 b5 A;generalize bn:w.heap.size+1+1+1=fb at*;have bg:fb<f:=by omega
 have⟨HS,aR⟩:=je hs (M.vI p c);have aS:Zz (∀a∈M.chain p c,∃j,M.cls? p a=some j):=Zy fun a hx=>M.mR hx;have HV:Zz (M.ou p b c=M.oU p b (M.chain p c).reverse 0):=Zy rfl;clear hs;generalize M.chain p c=xs at*;refine DW (gf:=181) (lb:=#[some f]) (α:=Int×M.Ref) rfl (enters_of func181 Zo rfl) (encs:=ER) (fun a=>rfl)
  (Bb:=fun o=>o=fb)
  (yU xs f (.slice v xs.length x) (fun V=>fb+1<=V∧V<f) _ ?hBd) ?hIt ?hD1 ?hD2 ?hB1 ?hB2
  (QI p b xs f fb) (Rk p b xs f fb) ?hI ?hIx ?h0 ?hIB
  (fun B a d U S=>QI p b xs f fb B d∧(∃P,backTo xs xs.length=B++a::P)∧
   f.heap.size+2<(d:Nat)∧S=d.alloc (.cells #[.int .i64 a.2.keeper,.string a.2.name] 63)∧
   U={tmps:=#[some l.L,.agg #[b.keeper,b.name],.agg #[c.keeper,c.name],some w,.pointer (some ⟨w+1,0,none⟩),.pointer (some ⟨w.heap.size+1+1,0,none⟩),.int .i64 0,some fb,undef,.pointer (some ⟨d,0,none⟩),
    some l.L,.agg #[c.keeper,c.name],.slice v xs.length x,.func (.func 181) #[] #[some f],
    .int .i64 a.1,.agg #[.int .i64 a.2.keeper,.string a.2.name],undef,undef,undef,undef,undef,undef,undef,undef,undef,undef,undef],defers:=[]}) ?hassign ?hAx ?hbody ?hdone ?hstop
 case hBd=>
  intro o e;have aV:(o=fb)∨o=(f.alloc (.cells #[.slice v xs.length x] 130)).heap.size+1:=e;simp only[World.size_alloc]at aV;omega
 case hIt=>
  intro d hW;refine⟨(hV.new _ _ _).ext hW,?_⟩;refine(Cb HS).keep xu.stays (Ext.same (((Kp.refl _ f).alloc _:Ext f _).trans hW)) (fun V hb=>?_);have:=hb.1;exact⟨by omega,hb.2⟩
 case hD1=>exact fun m=>m
 case hD2=>exact fun m=>m
 case hB1=>simp only[World.size_alloc];omega
 case hB2=>simp only[World.size_alloc];omega
 case hI=>
  rintro C aG aH ⟨n,y,h,i,g⟩ e;simp only[World.size_alloc]at e;exact⟨n,y,h.kp e Zr,i.own e (fun o e=>by simp at e;omega),g⟩
 case hIx=>
  rintro j C aG aH ⟨y,n,h,i,g⟩ e;simp only[World.size_alloc]at e;exact⟨y,n,h.kp e Zr,i.own e (fun o e=>by simp at e;omega),g⟩
 case h0=>exact⟨0,by simp,K.ext kx,(kx:Ext f _).any,fun P m=>by simp at m;rw[m]⟩
 case hIB=>exact fun _ _ _=>trivial
 case hassign=>
  intro B a d I aB hi aA r;simp only[ER];simp only[World.size_alloc]at aA;gi_wp2
 case hAx=>
  rintro B a d U S ⟨_,_,_,rfl,_⟩;exact((Kp.refl _ d).alloc _)
 case hbody=>
  rintro B a d U S T ⟨⟨n,y,h,i,g⟩,aB,aA,rfl,rfl⟩ G O;simp only[World.size_alloc]at G O;obtain⟨P,aC⟩:=aB;have D:xs.reverse=B.map Prod.snd++a.2::P.map Prod.snd:=by
   have:=congrArg (List.map Prod.snd) aC;rw[pJ _ _ (Nat.le_refl _),List.take_length]at this;simpa using this
  have aW:a.2∈xs:=by
   have q:a.2∈xs.reverse:=by rw[D];simp
   simpa using q
  have bB:n<=18:=by
   have k:=congrArg List.length D;simp at k;have:=aR.o;omega
  have az:=g _ D;obtain⟨j,N⟩:=aS.o _ aW;have F:=(i.alloc _).own G (fun o e=>by omega);have Z:=aQ.kp F (fun o e s=>by omega);obtain⟨cs,ax,av⟩:=pK _ l p Z a.2.keeper a.2.name j N;obtain⟨a1,c1,a2,c2,rfl⟩:=ax.form;have bA:∀d,(Instr.field 95 (.agg #[.string j.name,.string j.jl,.slice a1 j.fields.length c1,.slice a2 j.methods.length c2]) 2).run prog d=.ok (.slice a1 j.fields.length c1) d:=(fun d=>by kernel_rfl);have W:=(hV.new d 63 #[.int .i64 a.2.keeper,.string a.2.name]).kp G Zm;obtain⟨-,u0,u1,-⟩:=W.ca;obtain⟨-,t2,t3,-⟩:=(B2.2.kp F Zm).ca;have X:=(h.ext ((Kp.refl _ d).alloc _)).kp G Zm;have⟨H,aK,ah⟩:=jy (And.intro X F) av (vZ Z.ok N);have ay:M.cls p a.2=j:=by unfold M.cls;rw[N];rfl
  have⟨aL,aP,aO⟩:=jy ay az g;have aN:=Zy y;obtain⟨aX,aY,bC,E⟩:=kY T;have r2:=fun C=>((B2.1.kp F Zm).ext (E.jm C)).c 0 (some l.L) rfl;have r5:=fun C=>(X.ext (E.jm C)).c 0 n rfl;obtain⟨-,r7,r8,-⟩:=hV.lL fun C=>(W.ext (E.jm C));have aj:=Zy E;clear y h i g W X F av Z N G O K E ay az D aC ax;have aU:((b.keeper=a.2.keeper∧b.name=a.2.name)∧a.2=b)∨(((b.keeper=a.2.keeper∧(a.2.name.toList==b.name.toList)=false)∨(a.2.keeper==b.keeper)=false)∧¬a.2=b):=by
   rcases yN a.2.keeper b.keeper a.2.name b.name with⟨k,q⟩|⟨k,q,z⟩|⟨k,q⟩
   . exact .inl ⟨⟨k.symm,q.symm⟩,M.Ref.nX.2 ⟨k,q⟩⟩
   . exact .inr ⟨.inl ⟨k.symm,q⟩,fun s=>z (by rw[s])⟩
   . exact .inr ⟨.inr k,fun s=>q (by rw[s])⟩
  rcases aU with⟨⟨k,q⟩,z⟩|⟨k,z⟩
  . have Q:=Zy z;clear z;gi_wp2_with fail;refine⟨Kp.rr,rfl,n,H.1,H.2,?_⟩;rw[aP.o];unfold M.oU;rw[if_pos Q.o]
  . have Q:=Zy z;clear z;have bD:(n:Int)<=18:=by omega
    have bu:(j.fields.length:Int)<=3:=by have:=ah.o;omega
    rcases k with⟨k,q⟩|k
    all_goals
     gi_wp2_with fail;refine Ny aj 7 [([0,1,2],3)] [4,5,6] ?_ (fun _=>trivial) ?_
     . exact jf
     refine MF [_,_,_] rfl rfl fun I r=>?_;(repeat (go_big_quiet_step (fail)));refine qn r fun K2 au=>?_;clear r I;gi_wp2_with fail;refine⟨trivial,?_⟩;refine(CallsIn.inRound _ (callsIn_wide.2 (aK _ (jf)))).mono ?_;rintro s w4 ⟨rfl,ak⟩;have L:=((Kp.refl _ T).drew:Ext T _).trans ak;have J:=H.1.ext L;obtain⟨z0,d0,-⟩:=J.ca;have f0:=J.frozen 0;have aJ:=Zy J;have ai:=Zy L;clear J ak;gi_wp2_with fail;refine kk aj au L ?_;clear au K2;clear L;refine Pf [_,_,_] rfl fun I r=>?_;(repeat (go_big_quiet_step (fail)));refine qn r ?_;clear r I;gi_wp2_with fail;have aD:=fun aI hD aF=>(Kp.refl aI w4).setCell (p:=⟨fb,0,none⟩) (fun _=>hD) aF;have bz:=ah.o;refine⟨ai.any.trans (aD (·=fb) rfl _),n+j.fields.length,by have:=aN.o;simp;omega,?_,(H.o.2.trans ai.o.any).trans (aD (·=fb) rfl _),fun ae hr=>?_⟩
     . have:=aJ.jk 0 (.int .i64 ((n:Int)+j.fields.length));simpa using this
     . rw[aO.o (a.2::ae) (by rw[hr];simp)];rw[show M.oU p b (a.2::ae) n=if a.2=b then n else M.oU p b ae (n+(M.cls p a.2).fields.length)from rfl,if_neg Q.o,aL.o]
 case hdone=>
  rintro ys d rfl ⟨n,y,h,i,g⟩ r;have k0:=h.c 0 _ rfl;have R:=Zy (And.intro h (And.intro i g));clear h i g K;simp only[Exit.inBlock,Exit.then];gi_wp2;obtain⟨h,i,g⟩:=R.o;refine⟨by simp,.inl ⟨_,_,rfl,run_takeDeferred r,?_⟩⟩;have aa:=Kp.putObj d (f.alloc (.cells #[.slice v xs.length x] 130)).heap.size (.deferred none);have O:(f.alloc (.cells #[.slice v xs.length x] 130)).heap.size=f+1:=by simp
  refine⟨n,by simp[results,Tryz.f155,go_sem],?_,?_⟩
  . have D:(backTo xs xs.length).map Prod.snd=xs.reverse:=by rw[pJ _ _ (Nat.le_refl _),List.take_length]
    rw[HV.o,g [] (by rw[D];simp)];rfl
  . exact((ag.own i (fun o e=>by omega))).own aa (fun o e=>by omega)
 case hstop=>
  rintro j B d hS ⟨rfl,n,h,i,g⟩ r;have k0:=h.c 0 _ rfl;have R:=Zy (And.intro h (And.intro i g));clear h i g K;gi_wp2;obtain⟨h,i,g⟩:=R.o;refine⟨by simp,.inl ⟨_,_,rfl,run_takeDeferred r,?_⟩⟩;have aa:=Kp.putObj d (f.alloc (.cells #[.slice v xs.length x] 130)).heap.size (.deferred none);have O:(f.alloc (.cells #[.slice v xs.length x] 130)).heap.size=f+1:=by simp
  refine⟨n,by simp[results,Tryz.f155,go_sem],?_,?_⟩
  . rw[HV.o,g]
  . exact((ag.own i (fun o e=>by omega))).own aa (fun o e=>by omega)
end Go.Proofs.YtlhlnddgfcmfkaaGreat
namespace Go.Proofs.YtlhlnddgfcmfkaaGreat
open Go Go.RowKit Tryz
theorem Cj{w:World}{l:jh}{p:M.hZ}(i:jg w l p)(m:M.rE):Calls prog 119 #[some l.L,.agg #[m.of.keeper,m.of.name,m.at_]] w fun h C=>h=.returned (.bool (M.ky p m))∧jg C l p∧Kp (·=l.D) w C:=by
 have J:=i.Ev;have r:Ext w (w.alloc (.cells #[m.of.keeper,m.of.name,m.at_] 65)):=kx;have x:=(hV.new w 65 #[m.of.keeper,m.of.name,m.at_]);obtain⟨O,z,R,f⟩:=rA.ex (LC l p (w.alloc (.cells #[m.of.keeper,m.of.name,m.at_] 65))) _ (LC.refl (i.ext r));obtain⟨-,q0,q1,q2,-⟩:=hV.lL fun d=>(x.kp (f.jm d).kp Zm);have⟨q,N,a,E⟩:=jV (i.ext r) i f r;have s:Zz (∀d,jg (z d) l p∧Kp (·=l.D) w (z d)):=Zy (fun d=>⟨(f.jm d).at_,E.any.trans (f.jm d).kp⟩);clear x J i r f;cases n:M.kg p m.of
 . have g:Zz (M.ky p m=false):=Zy (by unfold M.ky;rw[n];rfl);have c:=Zy n;clear n;go_enter func119,ntmps119;go_wp2;refine Bl a ?_ ?_;rotate_left;(repeat (go_big_quiet_step ((go_at_call 52;refine(mJ (a.jm _).at_ m.of).mono ?_;rintro h e ⟨rfl,k,j⟩;rw[c.o];exact⟨rfl,a.o.o e ((a.jm _).step k j)⟩))));refine wpQuiet_nil ?_;(rintro _ ⟨o,rfl⟩);rotate_left
   . exact(LC.refl q).drew
   go_wp2;go_ret;exact⟨hQ g.symm,s o⟩
 . have c:=Zy n;clear n;by_cases H:m.at_ <0
   . have g:Zz (M.ky p m=false):=Zy (by unfold M.ky;rw[c.o,decide_eq_false (p:=0<=m.at_) Zm];rfl);go_enter func119,ntmps119;go_wp2;have L:decide (0<=m.at_)=false:=decide_eq_false Zm;refine Bl a ?_ ?_;rotate_left;(repeat (go_big_quiet_step ((go_at_call 52;refine(mJ (a.jm _).at_ m.of).mono ?_;rintro h e ⟨rfl,k,j⟩;rw[c.o];exact⟨rfl,a.o.o e ((a.jm _).step k j)⟩))));refine wpQuiet_nil ?_;(rintro _ ⟨o,rfl⟩);rotate_left
     . exact(LC.refl q).drew
     go_wp2;go_ret;exact⟨hQ g.symm,s o⟩
   . obtain⟨b,u⟩:=M.mR (M.zN c).2;obtain⟨P,B,A⟩:=pK _ l p q m.of.keeper m.of.name b u;obtain⟨F,G,v,y,rfl⟩:=B.form;have Q:∀t,(Instr.field 95 (.agg #[b.name,b.jl,.slice F b.fields.length G,.slice v b.methods.length y]) 3).run prog t=.ok (.slice v b.methods.length y) t:=(fun t=>by kernel_rfl);have D:=Zy A;have I:0<=m.at_:=by omega
     have g:Zz (M.ky p m=decide (m.at_ <b.methods.length)):=Zy (by
      unfold M.ky;rw[c.o,decide_eq_true (p:=0<=m.at_) Zm];have:M.cls p m.of=b:=by unfold M.cls;rw[u];rfl
      rw[this];rfl)
     clear u B A H;go_enter func119,ntmps119;go_wp2;have L:=decide_eq_true I;refine Bl a ?_ ?_;rotate_left;(repeat (go_big_quiet_step (first|(go_at_call 52;refine(mJ (a.jm _).at_ m.of).mono ?_;rintro h e ⟨rfl,k,j⟩;rw[c.o];exact⟨rfl,a.o.o e ((a.jm _).step k j)⟩)|(go_at_call 51;refine(D _ (a.jm _).kp).mono ?_;rintro h e ⟨rfl,K⟩;exact⟨rfl,a.o.o e ((a.jm _).ext K)⟩))));refine wpQuiet_nil ?_;(rintro _ ⟨o,rfl⟩);rotate_left
     . exact(LC.refl q).drew
     go_wp2;go_ret;exact⟨hQ g.symm,s o⟩
end Go.Proofs.YtlhlnddgfcmfkaaGreat
