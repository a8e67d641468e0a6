/- Walks. -/
import Derived.Test.YtenhnldnpdlniaaGreatOtCoreLl
set_option maxRecDepth 100000
set_option maxHeartbeats 4000000
set_option linter.all false
namespace Go.Proofs.YtenhnldnpdlniaaGreat
open Go Go.RowKit Tryz M
variable {i j k n: Nat}{a: Option Addr}{α: Type}{W c w: World}{p: hZ}{l: iZ}{Q: kC}
def yl(p:hZ)(k i:Nat)(q:Int)(s:ByteArray):Option Int:=
 if q<k then(wJ p ⟨q,s⟩).map Int.ofNat else if q=k then((p[k]?).bind fun Q=>(Q.owns.take i).findIdx? fun c=>decide (c.name=s)).map Int.ofNat else none
def yh(p:hZ)(k i:Nat)(q:Int)(s:ByteArray):Option Int:=
 if q<k then ym p q s else if q=k then((p[k]?).bind fun Q=>((Q.asks.take i).find? fun a=>decide (a.name=s)).map M.Ask.keeper)else none
theorem DN(p:hZ)(k:Nat):lF p (k:Int)=p[k]?:=by
 unfold lF;rw[SV Zm];rfl
theorem xg{q:Int}(a:q<0\/(p.length:Int)<=q):lF p q=none:=by
 unfold lF;split
 . rw[List.getElem?_eq_none_iff];omega
 . rfl
theorem Pt(p:hZ)(q:Int)(s:ByteArray):yl p 0 0 q s=none:=by
 unfold yl;split
 . unfold wJ;rw[xg (.inl (by simpa using ‹q<((0:Nat):Int)›))];rfl
 . split
   . simp
   . rfl
theorem N9(p:hZ)(q:Int)(s:ByteArray):yh p 0 0 q s=none:=by
 unfold yh;split
 . unfold ym;rw[xg (.inl (by simpa using ‹q<((0:Nat):Int)›))];rfl
 . split
   . simp
   . rfl
theorem Ps{c:Class}(j:p[k]?=some Q)(g:Q.owns[i]?=some c)(f:yl p k i k c.name=none)(q:Int)(s:ByteArray):yl p k (i+1) q s=if q=k/\s=c.name then some (i:Int)else yl p k i q s:=by
 have l:=(Tv.1 g).1;unfold yl at*;rw[j]at f |-;simp only[Int.lt_irrefl,UJ,UC,TT]at f |-;by_cases d:q<k
 . rw[SV d,SV d,SX Zm]
 . rw [SX d, SX d]; by_cases a : q = k
   . rw[SV a,SV a,Tm,g];simp only[UD,List.findIdx?_append,Tf,Ue (Nat.le_of_lt l)];by_cases e:s=c.name
     . subst e;rw[SV ⟨a,rfl⟩];have:(Q.owns.take i).findIdx? (fun m=>decide (m.name=c.name))=none:=by simpa using f
       rw[this];simp[Vb]
     . rw[SX (fun b=>e b.2)];have h:¬c.name=s:=fun b=>e b.symm;simp[Vb,h]
   . rw[SX a,SX a,SX (fun b=>a b.1)]
theorem N8{a:M.Ask}(h:p[k]?=some Q)(j:Q.asks[i]?=some a)(f:yh p k i k a.name=none)(q:Int)(s:ByteArray):yh p k (i+1) q s=if q=k/\s=a.name then some a.keeper else yh p k i q s:=by
 unfold yh at*;rw[h]at f |-;simp only[Int.lt_irrefl,UJ,UC,TT]at f |-;by_cases d:q<k
 . rw[SV d,SV d,SX Zm]
 . rw [SX d, SX d]; by_cases b : q = k
   . rw[SV b,SV b,Tm,j];simp only[UD,VO];by_cases e:s=a.name
     . subst e;rw[SV ⟨b,rfl⟩];have:(Q.asks.take i).find? (fun l=>decide (l.name=a.name))=none:=by simpa using f
       rw[this];simp
     . rw[SX (fun c=>e c.2)];have g:¬a.name=s:=fun c=>e c.symm;simp[g]
   . rw[SX b,SX b,SX (fun c=>b c.1)]
theorem Qu(c:p[k]?=some Q)(q:Int)(s:ByteArray):yl p (k+1) 0 q s=yl p k Q.owns.length q s:=by
 unfold yl;by_cases a:q<k
 . rw[SV Zm,SV a]
 . by_cases b:q=k
   . subst b;rw[SV Zm,SX a,SV rfl,c];unfold wJ;rw[DN,c,TT,TT,Tu (Tz _)]
   . rw[SX Zm,SX a,SX b];split
     . cases p[k+1]?<;>simp
     . rfl
theorem PZ(c:p[k]?=some Q)(q:Int)(s:ByteArray):yh p (k+1) 0 q s=yh p k Q.asks.length q s:=by
 unfold yh;by_cases a:q<k
 . rw[SV Zm,SV a]
 . by_cases b:q=k
   . subst b;rw[SV Zm,SX a,SV rfl,c];unfold ym;rw[DN,c,TT,TT,Tu (Tz _)]
   . rw[SX Zm,SX a,SX b];split
     . cases p[k+1]?<;>simp
     . rfl
theorem Qt(p:hZ)(q:Int)(s:ByteArray):yl p p.length 0 q s=(wJ p ⟨q,s⟩).map Int.ofNat:=by
 unfold yl;by_cases a:q<p.length
 . rw[SV a]
 . rw[SX a];unfold wJ;rw[xg (.inr (by show(p.length:Int)<=q;omega))];split
   . simp
   . rfl
theorem PY(p:hZ)(q:Int)(s:ByteArray):yh p p.length 0 q s=ym p q s:=by
 unfold yh;by_cases a:q<p.length
 . rw[SV a]
 . rw[SX a];unfold ym;rw[xg (.inr (by show(p.length:Int)<=q;omega))];split
   . simp
   . rfl
theorem Gc{m:List (Key×Int)}{f g:Int->ByteArray->Option Int}{k v:Int}{n:ByteArray}(d:∀a b,look m (a,b)=f a b)(i:f k n=none)(h:∀a b,g a b=if a=k/\b=n then some v else f a b):∀a b,look (m++[((k,n),v)]) (a,b)=g a b:=by
 intro a b;rw[h];by_cases c:a=k/\b=n
 . obtain⟨rfl,rfl⟩:=c;rw[SV ⟨rfl,rfl⟩,yL (by rw[d];exact i)]
 . rw[SX c,x8 (fun e=>c (by simpa using e)),d]
structure mV(w:World)(l:iZ)(p:hZ)(k i j:Nat):Prop where
 ord:l.O<l.A/\l.A<l.D/\l.D<l.L
 blk:∃a cap,h9 w l.L 99 #[.slice a p.length cap,.map (some l.O),.map (some l.A),.map (some l.D)]/\SliceOf 2 iX w (· <l.O) (.slice a p.length cap) p
 own:∃m,oF w l.O m/\∀q s,look m (q,s)=yl p k i q s
 ask:∃m,oF w l.A m/\∀q s,look m (q,s)=yh p k j q s
 laid:oF w l.D []
theorem mV.lt(a:mV w l p k i j):l.L<w:=by
 obtain⟨c,d,b,_⟩:=a.blk;exact b.lt
theorem mV.ext{d: World}(a:mV w l p k i j)(b:Ext w d):mV d l p k i j:=by
 obtain⟨e,f,o,q⟩:=a.blk;obtain⟨r,m,g⟩:=a.own;obtain⟨s,n,h⟩:=a.ask;exact⟨a.ord,⟨e,f,o.ext b,q.ext iX.stays b⟩,⟨r,m.kp b fun c=>c,g⟩,⟨s,n.kp b fun c=>c,h⟩,a.laid.kp b fun c=>c⟩
theorem mV.RF{e: Nat}(a:mV w l p k i j)(b:Kp (·=l.O) w c)(r:∃f,oF c l.O f/\∀g h,look f (g,h)=yl p k e g h):mV c l p k e j:=by
 obtain⟨x,y,z⟩:=a.ord;obtain⟨m,n,d,s⟩:=a.blk;obtain⟨t,q,o⟩:=a.ask;exact⟨a.ord,⟨m,n,d.kp b Zm,s.keep iX.stays (Kp.same b fun u d v=>Zm) fun _ a=>a⟩,r,⟨t,q.kp b Zm,o⟩,a.laid.kp b Zm⟩
theorem mV.RD{e: Nat}(a:mV w l p k i j)(b:Kp (·=l.A) w c)(r:∃f,oF c l.A f/\∀g h,look f (g,h)=yh p k e g h):mV c l p k i e:=by
 obtain⟨x,y,z⟩:=a.ord;obtain⟨m,n,d,s⟩:=a.blk;obtain⟨t,q,o⟩:=a.own;exact⟨a.ord,⟨m,n,d.kp b Zm,s.keep iX.stays (Kp.same b fun u d v=>Zm) fun _ a=>a⟩,⟨t,q.kp b Zm,o⟩,r,a.laid.kp b Zm⟩
theorem mV.done(c:mV w l p p.length 0 0)(h:jY p=true):ja w l p:=by
 obtain⟨j,f,d⟩:=c.own;obtain⟨k,g,e⟩:=c.ask;exact⟨h,c.ord,c.blk,⟨j,f,fun a b=>(d a b).trans (Qt p a b)⟩,⟨k,g,fun a b=>(e a b).trans (PY p a b)⟩,⟨[],c.laid,fun a b m i=>by cases i⟩⟩
theorem mV.next(a:mV w l p k Q.owns.length Q.asks.length)(d:p[k]?=some Q):mV w l p (k+1) 0 0:=by
 obtain⟨i,g,e⟩:=a.own;obtain⟨j,h,f⟩:=a.ask;exact⟨a.ord,a.blk,⟨i,g,fun b c=>(e b c).trans (Qu d b c).symm⟩,⟨j,h,fun b c=>(f b c).trans (PZ d b c).symm⟩,a.laid⟩
theorem yJ{b:Nat}{c: Nat}(f:w.cell? b=some (.slice a n c)){k:Int}:Calls prog 19 #[some b,k] w fun d e=>d=.returned (.bool (decide (0<=k)&&decide (k<n)))/\w=e:=by
 go_enter func19,ntmps19;go_wp2
 . go_ret;exact⟨hQ (by rw[SY (p:=0<=k) Zm];rfl),rfl⟩
 . go_ret;exact⟨hQ (by rw[RN (p:=0<=k) Zm];rfl),rfl⟩
theorem mV.Hf(b:mV w l p k i j)(q:Int)(s:ByteArray):(Instr.lookup 97 (.map (some l.O)) (.agg #[q,s]) true).run prog w=.ok (.tuple #[.int .i64 ((yl p k i q s).getD 0),.bool (yl p k i q s).isSome]) w:=by
 obtain⟨d,c,a⟩:=b.own;rw[tT c,a]
theorem mV.He(b:mV w l p k i j)(q:Int)(s:ByteArray):(Instr.lookup 97 (.map (some l.A)) (.agg #[q,s]) true).run prog w=.ok (.tuple #[.int .i64 ((yh p k j q s).getD 0),.bool (yh p k j q s).isSome]) w:=by
 obtain⟨d,c,a⟩:=b.ask;rw[tT c,a]
theorem JB(a:p[k]?=some Q)(s:ByteArray):(yl p k i k s).isSome=(((Q.owns.take i).map Class.name).any fun b=>decide (b=s)):=by
 unfold yl;rw[SX Zm,SV rfl,a,TT,Option.isSome_map,VL,List.any_map];rfl
theorem Iq(a:p[k]?=some Q)(s:ByteArray):(yh p k i k s).isSome=(((Q.asks.take i).map M.Ask.name).any fun b=>decide (b=s)):=by
 unfold yh;rw[SX Zm,SV rfl,a,TT,Option.isSome_map,List.any_map,Ud,List.find?_isSome];simp
theorem Cs{name:α->ByteArray}{ok:α->Bool}{l:List α}{x:α}(a:l[i]?=some x):jw name ok (l.drop i) ((l.take i).map name)=(ok x&& !(((l.take i).map name).any fun b=>decide (b=name x))&&jw name ok (l.drop (i+1)) ((l.take (i+1)).map name)):=by
 rw[pV a,Tm,a];simp only[jw,UD,U0,TH,Vm]
abbrev RJ(l:iZ):Nat->Prop:=fun b=>b=l.O\/b=l.A
theorem I8 (L : p[k]? = some Q) (X : mV w l p k 0 0) :Calls prog 41 #[some l.L,k] w fun a w'=>a=.returned (.bool (jC p Q))/\Kp (RJ l) w w'/\(jC p Q=true->mV w' l p (k+1) 0 0):=by
 obtain⟨d,aM,hb,hs⟩:=X.blk;obtain⟨aA,aZ,cs,rfl,hI,aG,-,hc⟩:=hs.get L;obtain⟨vo,va,rfl,s1,s2⟩:=aG;obtain⟨S,V,rfl,aT,aS⟩:=s1.form;obtain⟨T,W,rfl,aU,N⟩:=s2.form;obtain⟨g0,g1⟩:=hc.two;have aP:=(Tv.1 L).1;obtain⟨aX,d0,-⟩:=hb.ca;have⟨H0,v⟩:=jc X L;have t:Ext w (w.alloc (.cells #[.slice S Q.owns.length V,.slice T Q.asks.length W] 32)):=(jh _);have bK:=h9.new w 32 #[.slice S Q.owns.length V,.slice T Q.asks.length W];clear X L hc;have G:Zz (jC p Q=(decide (Q.owns.length<=5)&&decide (Q.asks.length<=4)&&jw Class.name mY Q.owns []&&jw M.Ask.name (fun d=>jf d.name&&has p d.keeper) Q.asks [])):=Zy rfl;by_cases aQ:5<Q.owns.length
 . have hF:Zz (jC p Q=false):=Zy (by rw[G.o,RN (p:=Q.owns.length<=5) Zm];rfl);go_enter func41,ntmps41;go_wp2;go_ret;exact⟨hQ hF.symm,t.any,fun a=>by rw[hF.o]at a;cases a⟩
 by_cases aR:4<Q.asks.length
 . have hF:Zz (jC p Q=false):=Zy (by rw[G.o,RN (p:=Q.asks.length<=4) Zm];simp);go_enter func41,ntmps41;go_wp2;go_ret;exact⟨hQ hF.symm,t.any,fun a=>by rw[hF.o]at a;cases a⟩
 have H:Zz (jC p Q=(jw Class.name mY Q.owns []&&jw M.Ask.name (fun d=>jf d.name&&has p d.keeper) Q.asks [])):=Zy (by
  rw[G.o,SY (p:=Q.owns.length<=5) Zm,SY (p:=Q.asks.length<=4) Zm];rfl)
 clear G;go_enter func41,ntmps41;go_wp2;generalize av:(w.alloc (.cells #[.slice S Q.owns.length V,.slice T Q.asks.length W] 32))=w0 at*;have aV:(w0:Nat)=w+1:=by rw[<-av];simp
 clear av;go_loopw [36] (fun i wr=>∃c:Nat,c<=Q.owns.length/\i=.int .i64 c/\Kp (RJ l) w0 wr/\Zz (mV wr l p k c 0)/\Zz (jw Class.name mY Q.owns []=jw Class.name mY (Q.owns.drop c) ((Q.owns.take c).map Class.name))) (fun i _=>Q.owns.length - (intOf i).toNat)
 case atStart=>exact⟨0,T9 _,rfl,Kp.rr,Zy (H0.ext t),Zy rfl⟩
 case round =>
  obtain⟨c,hn,rfl,e,f,j⟩:=hrel;by_cases ae:c<Q.owns.length
  . obtain⟨b,r⟩:=get_some ae;obtain⟨b',aL,cs,he,Y,aa,-,B⟩:=s1.get r;subst he;obtain⟨o1,o2,o3⟩:=f.ord;have K:∀x,x<l.O->¬RJ l x:=fun x hz a=>by rcases a with a|a<;>omega
    have C:=(B.ext t).keep fun aK ah hv=>e.nQ hv (K _ Y);have ak:=jK.kp jB.stays e K (jK.ext jB.stays t aa);obtain⟨y1,z1,y2,z2,rfl⟩:=aa.form;obtain⟨e0,e1,e2,e3⟩:=C.four;obtain⟨ma,aJ,A,-⟩:=f.blk;obtain⟨aI,-,r1,-⟩:=A.ca;have⟨R,ay⟩:=jc r ak;have h:Ext wr ((wr.alloc (.cells #[b.name,b.je,.slice y1 b.fields.length z1,.slice y2 b.methods.length z2] 38)).alloc (.cells #[k,b.name] 64)):=kx;have m:=fun z=>(f.ext (h.drewN z)).Hf k b.name;have q:=JB (i:=c) v b.name;have s:=Zy (Cs (name:=Class.name) (ok:=mY) r);clear r B C aa ak A;cases g:yl p k c k b.name with
    |some ah=>
     rw[g]at m q;simp only[U7,VY]at m;have hF:Zz (jC p Q=false):=Zy (by rw[H.o,j.o,s.o,<-q];simp);clear g q;go_wp2;go_quiet (fail);go_wp2;go_ret;exact⟨hQ hF.symm,(t.any.trans e).trans (kx:Ext wr _).any,fun a=>by rw[hF.o]at a;cases a⟩
    | none =>
     have o:=Zy g;rw[g]at m q;simp only[Vk,VZ]at m;have bC:=(h9.new wr 38 #[b.name,b.je,.slice y1 b.fields.length z1,.slice y2 b.methods.length z2]).ext (jh (.cells #[k,b.name] 64));obtain⟨-,q0,q1,q2,q3,-⟩:=bC.ca;have U:=h9.new (wr.alloc (.cells #[b.name,b.je,.slice y1 b.fields.length z1,.slice y2 b.methods.length z2] 38)) 64 #[k,b.name];simp only[Tw]at U;have az:=Zy (fun z=>jK.ext jB.stays (h.drewN z) ay);cases u:mY b
     all_goals
      have n:=Zy u;clear u g;go_wp2;go_quiet (fail);go_wp2_with fail;refine(GA _ _ _ _ (az _)).mono ?_;rintro a F ⟨rfl,J⟩;rw[n.o];have bf:=((h.drewN _).trans J).iW r1;have ai:=(U.ext (Kp.rr.drewN _)).ext J;obtain⟨uz,u0,u1,-⟩:=ai.ca;have Z:=(h.drewN _).trans J;clear e0 e1 e2 e3 q0 q1 q2 q3 r1 bC U ai m J h
     . have hF:Zz (jC p Q=false):=Zy (by rw[H.o,j.o,s.o,n.o];simp);go_wp2;go_ret;exact⟨hQ hF.symm,(t.any.trans e).trans Z.any,fun a=>by rw[hF.o]at a;cases a⟩
     . go_wp2;refine oK 6 Zo Zo ?_;(simp only[Us,UT,Ur,UI]);(repeat still_step);refine Vz ?_;have aj:=f.ext (Z.drew);obtain⟨ag,hm,E⟩:=aj.own;have P:=Zy aj;refine ny rfl rfl l.O ag k b.name c rfl rfl rfl hm (by rw[E];exact o) ?_;intro w2 N D aH;go_wp2;go_roundw
       case rel=>
        refine⟨c+1,Zm,by go_num,?_,Zy (P.o.RF D ⟨_,N,Gc E o.o (Ps v.o R.o o.o)⟩),Zy ?_⟩
        . exact(e.trans (Z.drew).any).trans (D.weak fun _ _ a=>.inl a)
        . rw[j.o,s.o,n.o,<-JB v.o,o.o];rfl
       case measure=>simp[intOf];omega
  . have af : c = Q.owns.length := by omega
    subst af;have I:Zz (jC p Q=jw M.Ask.name (fun d=>jf d.name&&has p d.keeper) Q.asks []):=Zy (by
     rw[H.o,j.o,TW (Tz _)];rfl)
    have aD:=t.any.trans e;have aO:aA<l.O:=hI;have K:∀x,x<l.O->¬RJ l x:=by
     obtain⟨o1,o2,o3⟩:=f.ord;exact fun x hz a=>by rcases a with a|a<;>omega
    have aY:=e.size;have aN:l.A<l.L:=by obtain⟨o1,o2,o3⟩:=f.ord;omega
    have aB:=bK.kp e (fun a=>by obtain⟨o1,o2,o3⟩:=f.ord;rcases a with a|a<;>omega);obtain⟨aW,-,v1,-⟩:=aB.ca;clear j H bK;obtain⟨wo,rfl⟩:∃wo:World,wo=wr:=⟨_,rfl⟩;go_wp2;go_loopw [70] (fun i wr=>∃c:Nat,c<=Q.asks.length/\i=.int .i64 c/\Kp (RJ l) w wr/\Zz (mV wr l p k Q.owns.length c)/\Zz (jw M.Ask.name (fun d=>jf d.name&&has p d.keeper) Q.asks []=jw M.Ask.name (fun d=>jf d.name&&has p d.keeper) (Q.asks.drop c) ((Q.asks.take c).map M.Ask.name))) (fun i _=>Q.asks.length - (intOf i).toNat)
    case atStart=>exact⟨0,T9 _,rfl,aD,f,Zy rfl⟩
    case round=>
     obtain⟨c,hn,rfl,e,f,j⟩:=hrel;by_cases ae:c<Q.asks.length
     . obtain⟨b,r⟩:=get_some ae;obtain⟨b',aL,cs,he,Y,rfl,-,B⟩:=s2.get r;subst he;have C:=B.keep fun aK ah hv=>e.nQ hv (K _ Y);obtain⟨e0,e1⟩:=C.two;obtain⟨ma,aJ,A,-⟩:=f.blk;obtain⟨aI,r0,-,r2,-⟩:=A.ca;have R:=Zy r;have h:Ext wr ((wr.alloc (.cells #[b.name,b.keeper] 93)).alloc (.cells #[k,b.name] 64)):=kx;have m:=fun z=>(f.ext (h.drewN z)).He k b.name;have q:=Iq (i:=c) v b.name;have s:=Zy (Cs (name:=M.Ask.name) (ok:=fun d=>jf d.name&&has p d.keeper) r);clear r B C A;cases g:yh p k c k b.name with
       |some ah=>
        rw[g]at m q;simp only[U7,VY]at m;have hF:Zz (jC p Q=false):=Zy (by rw[I.o,j.o,s.o,<-q];simp);clear g q;go_wp2;go_quiet (fail);go_wp2;go_ret;exact⟨hQ hF.symm,e.trans (kx:Ext wr _).any,fun a=>by rw[hF.o]at a;cases a⟩
       |none=>
        have o:=Zy g;rw[g]at m q;simp only[Vk,VZ]at m;cases u:jf b.name
        . have n:=Zy u;have hF:Zz (jC p Q=false):=Zy (by rw[I.o,j.o,s.o,u];simp);clear u g;go_wp2;go_quiet (fail);go_wp2_with (go_at_call 17;refine(nE _ _).mono ?_;rintro a F ⟨rfl,rfl⟩;rw[n.o]);go_ret;exact⟨hQ hF.symm,e.trans (kx:Ext wr _).any,fun a=>by rw[hF.o]at a;cases a⟩
        . have n:=Zy u;clear u;have au:has p b.keeper=(decide (0<=b.keeper)&&decide (b.keeper<p.length)):=rfl;cases y:has p b.keeper
          . have hF:Zz (jC p Q=false):=Zy (by rw[I.o,j.o,s.o,y];simp);have O:Zz ((decide (0<=b.keeper)&&decide (b.keeper<p.length))=false):=Zy y;clear y g au;go_wp2;go_quiet (fail);go_wp2_with (first|(go_at_call 17;refine(nE _ _).mono ?_;rintro a F ⟨rfl,rfl⟩;rw[n.o])|(go_at_call 19;refine(yJ ((h.drewN _).iW r0)).mono ?_;rintro a F ⟨rfl,rfl⟩;rw[O.o]));go_ret;exact⟨hQ hF.symm,e.trans (kx:Ext wr _).any,fun a=>by rw[hF.o]at a;cases a⟩
          . have O:Zz ((decide (0<=b.keeper)&&decide (b.keeper<p.length))=true):=Zy y;have ax:=Zy y;clear y g au;go_wp2;go_quiet (fail);go_wp2_with (first|(go_at_call 17;refine(nE _ _).mono ?_;rintro a F ⟨rfl,rfl⟩;rw[n.o])|(go_at_call 19;refine(yJ ((h.drewN _).iW r0)).mono ?_;rintro a F ⟨rfl,rfl⟩;rw[O.o]));obtain⟨ag,hm,E⟩:=f.ask;have P:=Zy f.o;refine oK 7 Zo Zo ?_;(simp only[Us,UT,Ur,UI]);(repeat still_step);refine Vz ?_;refine ny rfl rfl l.A ag k b.name b.keeper rfl rfl rfl (hm.kp ((h.drewN _).drew) fun b=>b) (by rw[E];exact o) ?_;intro w2 N D aH;have⟨aF,aC⟩:=jc (P.ext ((h.drewN _).drew)|>.RD D ⟨_,N,Gc E o (N8 v R o)⟩) ((e.trans ((h.drewN _).drew).any).trans (D.weak fun _ _ a=>.inr a));go_wp2;go_roundw
            case rel=>
             refine⟨c+1,Zm,by go_num,aC.o,aF,Zy ?_⟩;rw[j.o,s.o,n.o,ax.o,<-Iq v.o,o.o];rfl
            case measure=>simp[intOf];omega
     . have af:c=Q.asks.length:=Zm
       subst af;have hF:Zz (jC p Q=true):=Zy (by rw[I.o,j.o,TW (Tz _)];rfl);go_wp2;go_ret;exact⟨hQ hF.symm,e,fun _=>f.next v⟩
theorem NY{f:α->Bool}{l:List α}{x:α}(a:l[k]?=some x):(l.drop k).all f=(f x&&(l.drop (k+1)).all f):=by
 rw[pV a,List.all_cons]
theorem BL(w:World)(I:Nat->Prop)(v:Value)(p:hZ)(C:SliceOf 2 iX w I v p)(hI:∀e,I e->e<w.heap.size):Calls prog 18 #[.agg #[v]] w fun l K=>Ext w K/\((jY p=false/\l=.returned (.pointer none))\/(jY p=true/\∃c:iZ,l=.returned (some c.L)/\ja K c p/\w<=c.O)):=by
 obtain⟨a,b,rfl,S,W⟩:=C.form;by_cases X:p.length<1
 . have hF:Zz (jY p=false):=Zy (by unfold jY;rw[RN (p:=1<=p.length) Zm];rfl);go_enter func18,ntmps18;go_wp2;go_ret;exact⟨kx,.inl ⟨hF,rfl⟩⟩
 by_cases Y:3<p.length
 . have hF:Zz (jY p=false):=Zy (by unfold jY;rw[RN (p:=p.length<=3) Zm];simp);go_enter func18,ntmps18;go_wp2;go_ret;exact⟨kx,.inl ⟨hF,rfl⟩⟩
 have x:Zz (jY p=p.all (jC p)):=Zy (by unfold jY;rw[SY (p:=1<=p.length) Zm,SY (p:=p.length<=3) Zm];rfl);have U:∀j:World,(Instr.makeMap 97 none).run prog j=.ok (.map (some j.heap.size)) (j.alloc (.map #[] 0)):=fun j=>by kernel_rfl
 have D:Ext w (((((w.alloc (.cells #[.slice a p.length b] 25)).alloc (.map #[] 0)).alloc (.map #[] 0)).alloc (.map #[] 0)).alloc (.cells #[.slice a p.length b,.map (some (w.heap.size+1)),.map (some (w.heap.size+1+1)),.map (some (w.heap.size+1+1+1))] 99)):=kx;have F:mV (((((w.alloc (.cells #[.slice a p.length b] 25)).alloc (.map #[] 0)).alloc (.map #[] 0)).alloc (.map #[] 0)).alloc (.cells #[.slice a p.length b,.map (some (w.heap.size+1)),.map (some (w.heap.size+1+1)),.map (some (w.heap.size+1+1+1))] 99)) ⟨w.heap.size+1+1+1+1,w.heap.size+1,w.heap.size+1+1,w.heap.size+1+1+1⟩ p 0 0 0:=by
  have y:=oF.new (w.alloc (.cells #[.slice a p.length b] 25));have z:=oF.new ((w.alloc (.cells #[.slice a p.length b] 25)).alloc (.map #[] 0));have A:=oF.new (((w.alloc (.cells #[.slice a p.length b] 25)).alloc (.map #[] 0)).alloc (.map #[] 0));have B:=h9.new ((((w.alloc (.cells #[.slice a p.length b] 25)).alloc (.map #[] 0)).alloc (.map #[] 0)).alloc (.map #[] 0)) 99 #[.slice a p.length b,.map (some (w.heap.size+1)),.map (some (w.heap.size+1+1)),.map (some (w.heap.size+1+1+1))];simp only[Tw]at y z A B;refine⟨⟨Vj _,Vj _,Vj _⟩,⟨a,b,B,C.keep iX.stays (Ext.same D) fun e f=>Nat.lt_succ_of_lt (hI e f)⟩,⟨[],y.kp (((((Kp.refl (fun _=>False) _).alloc _).alloc _).alloc _)) fun h=>h,fun r s=>(Pt p r s).symm⟩,⟨[],z.kp ((((Kp.refl (fun _=>False) _).alloc _).alloc _)) fun h=>h,fun r s=>(N9 p r s).symm⟩,A.kp ((Kp.refl (fun _=>False) _).alloc _) fun h=>h⟩
 go_enter func18,ntmps18;go_wp2;obtain⟨c,g⟩:∃c:iZ,c=⟨w.heap.size+1+1+1+1,w.heap.size+1,w.heap.size+1+1,w.heap.size+1+1+1⟩:=⟨_,rfl⟩;have P:w.heap.size+1+1+1+1=c.L:=by rw[g]
 have Q:w<c.O/\w<c.A:=by rw[g];exact⟨Vj _,by show w.heap.size<w.heap.size+1+1;omega⟩
 rw[<-g]at F;generalize (((((w.alloc (.cells #[.slice a p.length b] 25)).alloc (.map #[] 0)).alloc (.map #[] 0)).alloc (.map #[] 0)).alloc (.cells #[.slice a p.length b,.map (some (w.heap.size+1)),.map (some (w.heap.size+1+1)),.map (some (w.heap.size+1+1+1))] 99))=w1 at*;rw[P];have V:=Zy g;clear g U;go_loopw [25] (fun q wr=>∃d:Nat,d<=p.length/\q=.int .i64 d/\Kp (RJ c) w1 wr/\Zz (mV wr c p d 0 0)/\Zz (p.all (jC p)=(p.drop d).all (jC p))) (fun q _=>p.length - (intOf q).toNat)
 case atStart=>exact⟨0,T9 _,rfl,Kp.rr,Zy F,Zy rfl⟩
 case round =>
  obtain⟨d,S,rfl,G,u,k⟩:=hrel;have E:=D.own G (fun e f=>by rcases f with rfl|rfl<;>omega);by_cases R:d<p.length
  . obtain⟨O,J⟩:=get_some R;have m:=NY (f:=jC p) J;have t:=Zy m;go_wp2_with fail;refine(I8 J u).mono ?_;rintro l Z ⟨rfl,H,n⟩;cases o:jC p O
    . have i:Zz (jY p=false):=Zy (by rw[x.o,k.o,t.o,o];rfl);clear n m;go_wp2;go_ret;exact⟨E.own H (fun e f=>by rcases f with rfl|rfl<;>omega),.inl ⟨i.o,rfl⟩⟩
    . have L:=Zy (n o);have N:=Zy o;clear n m;go_wp2;go_roundw
      case rel=>exact⟨d+1,Zm,by go_num,G.trans H,L,Zy (by rw[k.o,t.o,N.o];rfl)⟩
      case measure=>simp[intOf];omega
  . have T:d=p.length:=Zm
    subst T;have i:Zz (jY p=true):=Zy (by rw[x.o,k.o,TW (Tz _)];rfl);go_wp2;go_ret;exact⟨E,.inr ⟨i,c,rfl,u.done i,Nat.le_of_lt Q.1⟩⟩
def qO:p8:=⟨⟨0,none_⟩,0⟩
theorem D6(w:World)(l:iZ)(p:hZ)(x:ja w l p)(r:Ref)(n:ByteArray):Calls prog 96 #[some l.L,.agg #[r.keeper,r.name],n] w fun f w'=>f=.returned (.tuple #[.agg #[.int .i64 ((pick p r n).getD qO).of.keeper,.string ((pick p r n).getD qO).of.name,.int .i64 ((pick p r n).getD qO).at_],.bool (pick p r n).isSome])/\ja w' l p/\Kp (·=l.D) w w':=by
 have L:Ext w ((w.alloc (.cells #[r.keeper,r.name] 64)).alloc (.cells #[SS, "",SS] 66)):=kx;have Q:=Zy (x.ext L);have af:=x.lt;have aA:l.D<l.L:=x.ord.2.2;clear x;have T:=(h9.new w 64 #[r.keeper,r.name]).ext (jh (.cells #[SS, "",SS] 66));have H:=h9.new (w.alloc (.cells #[r.keeper,r.name] 64)) 66 #[SS, "",SS];simp only[Tw]at H;go_enter func96,ntmps96;go_wp2_with fail;generalize ((w.alloc (.cells #[r.keeper,r.name] 64)).alloc (.cells #[SS, "",SS] 66))=w0 at*;refine(mM Q r).mono ?_;rintro f P ⟨rfl,ae,z⟩;have X:=T.kp z Zm;have h:=H.kp z Zm;have N:=(L.any).trans z;obtain⟨-,p0,p1,-⟩:=X.ca;obtain⟨-,q0,q1,q2,-⟩:=h.ca;obtain⟨s,t,u,-⟩:=h.fz;have m:=Zy ae;have D:=h.lt;clear T H Q L ae z;cases A:jD p r
 . have j:pick p r n=none:=by unfold pick;rw[A];rfl
   have o:=Zy j;clear A j;go_wp2;refine Px (v:=.tuple #[.agg #[SS, "",SS],.bool false]) (by simp[results,results96,go_sem,q0,q1,q2]) rfl ?_;have d:Kp (·=w+1) P (((P.setCell ⟨w+1,0,none⟩ SS).setCell ⟨w+1,1,none⟩ "").setCell ⟨w+1,2,none⟩ SS):=
    (((Kp.refl (·=w+1) P).setCell (p:=⟨w+1,0,none⟩) (fun _=>rfl) _).setCell (p:=⟨w+1,1,none⟩) (fun _=>rfl) _).setCell (p:=⟨w+1,2,none⟩) (fun _=>rfl) _
   exact⟨by rw[o.o];rfl,m.kp d (fun b C f=>Zm),N.own d (fun b C=>Zm)⟩
 . have j:pick p r n=pO p n (chain p r):=by unfold pick;rw[A];rfl
   have o:=Zy j;clear A j;go_wp2_with fail;refine(rP m _).mono ?_;rintro f w2 ⟨⟨v,rfl,hs⟩,y⟩;obtain⟨ax,az,rfl,hn,aB⟩:=hs.form;have HO:Zz (∀a∈chain p r,∃g,cls? p a=some g):=Zy kI;have S:=Zy (m.ext y);have aj:=h.ext y;have ak:=N.trans y.any;clear p0 p1 q0 q1 q2 s t u D X h N y m;generalize chain p r=xs at*;go_wp2;go_loopw [20] (fun c wr=>∃b:Nat,b<=xs.length/\c=.int .i64 b/\Ext w2 wr/\Zz (pO p n xs=pO p n (xs.drop b))) (fun c _=>xs.length - (intOf c).toNat)
   case atStart=>exact⟨0,T9 _,rfl,Kp.rr,Zy rfl⟩
   case round=>
    obtain⟨b,C,rfl,i,R⟩:=hrel;have q:=aj.ext i;obtain⟨D,q0,q1,q2,-⟩:=q.ca;obtain⟨s,t,u,-⟩:=q.fz;have d:Zz (∀e (F v E:Value),Ext w2 e->Kp (·=l.D) w (((e.setCell ⟨w+1,0,none⟩ F).setCell ⟨w+1,1,none⟩ v).setCell ⟨w+1,2,none⟩ E)/\ja (((e.setCell ⟨w+1,0,none⟩ F).setCell ⟨w+1,1,none⟩ v).setCell ⟨w+1,2,none⟩ E) l p):=Zy (fun e F v E hW=>by
     have d:Kp (·=w+1) e (((e.setCell ⟨w+1,0,none⟩ F).setCell ⟨w+1,1,none⟩ v).setCell ⟨w+1,2,none⟩ E):=
      (((Kp.refl (·=w+1) e).setCell (p:=⟨w+1,0,none⟩) (fun _=>rfl) _).setCell (p:=⟨w+1,1,none⟩) (fun _=>rfl) _).setCell (p:=⟨w+1,2,none⟩) (fun _=>rfl) _
     exact⟨(ak.trans hW.any).own d (fun b C=>Zm),(S.o.ext hW).kp d (fun b C f=>Zm)⟩)
    by_cases af:b<xs.length
    . obtain⟨a,k⟩:=get_some af;obtain⟨ay,aD,cs,rfl,hI,rfl,-,hc⟩:=hs.get k;obtain⟨g0,g1⟩:=(hc.ext i).two;obtain⟨g,O⟩:=HO.o a (Sy k);have⟨HX,ai⟩:=jc k O;have ag:Zz (pO p n xs=match q8 g n with|some c=>some ⟨a,c⟩|none=>pO p n (xs.drop (b+1))):=Zy (by
       rw[R.o,pV k];have au:cls p a=g:=by unfold cls;rw[O];rfl
       rw[<-au];rfl)
      clear k hc O;have U:=h9.new wr 64 #[.int .i64 a.keeper,.string a.name];go_wp2_with fail;refine(rQ _ _ (S.ext (i.alloc (.cells #[.int .i64 a.keeper,.string a.name] 64))) _ _ _ ai).mono ?_;rintro f w3 ⟨⟨cs,av,rfl⟩,J⟩;have ah:=Zy (jK.ext jB.stays J av);have Z:=((Kp.refl (fun _=>False) wr).alloc (.cells #[.int .i64 a.keeper,.string a.name] 64)).trans J;have V:=U.ext J;have Y:=q.ext Z;clear q0 q1 q2 s t u D g0 g1 U;go_wp2_with fail;refine(BI ah).mono ?_;rintro f w4 ⟨rfl,K⟩;have W:=V.ext K;obtain⟨xz,x0,x1,-⟩:=W.ca;have I:=Y.ext K;obtain⟨D,q0,q1,q2,-⟩:=I.ca;obtain⟨s,t,u,-⟩:=I.fz;have aa:=(i.trans Z).trans K;clear V W Y I q;cases B:q8 g n with
      |none=>
       have G:=Zy (ag.trans (by rw[B]));simp only[PV,Option.elim];clear B;go_wp2;go_roundw
       case rel=>exact⟨b+1,Zm,by go_num,aa,Zy G.o⟩
       case measure=>simp[intOf];omega
      |some c=>
       have G:=Zy (ag.trans (by rw[B]));simp only[PV,Option.elim];clear B;have aC:(0:Int)<=(c:Int):=Zm
       go_wp2;refine Px (v:=.tuple #[.agg #[.int .i64 a.keeper,.string a.name,c],.bool true]) (by simp[results,results96,go_sem,q0,q1,q2]) rfl ?_;have:=d.o w4 (.int .i64 a.keeper) (.string a.name) c aa;exact⟨by rw[o.o,G.o];rfl,this.2,this.1⟩
    . go_wp2;refine Px (v:=.tuple #[.agg #[SS, "",SS],.bool false]) (by simp[results,results96,go_sem,q0,q1,q2]) rfl ?_;have:=d.o wr SS "" SS i;exact⟨by rw[o.o,R.o,TW Zm];rfl,this.2,this.1⟩
def Dn(w:World)(ev:Value)(code:Int):Prop:=(code=1/\ev=Value.nilIface)\/(code≠1/\∃b,ev=.iface 166 (.pointer (some ⟨b,0,none⟩))/\h9 w b 168 #[.int .i64 code])
theorem xZ(h:ja w l p){k:Int}{n m:ByteArray}:Calls prog 95 #[some l.L,k,n,m] w fun a d=>(∃x,a=.returned (.tuple #[.agg #[.int .i64 (jy p k n m).1.keeper,.string (jy p k n m).1.name],x])/\Dn d x (jy p k n m).2)/\ja d l p/\Kp (·=l.D) w d:=by
 have aa:Ext w (w.alloc (.cells #[SS, ""] 64)):=kx;have⟨q,B⟩:=jc (h.ext aa) h;have ax:=h.lt;have au:l.D<l.L:=h.ord.2.2;clear h;have S:=h9.new w 64 #[SS, ""];obtain⟨-,H,I,-⟩:=S.ca;have O:Zz (¬(has p k&&jf n&&jf m)=true->jy p k n m=(vV,2)):=Zy (fun h=>by unfold jy;rw[SX h]);have af:Zz ((has p k&&jf n&&jf m)=true->jy p k n m=(if(find p k n).2=1 then(if jD p (find p k n).1 then((find p k n).1,1)else(vV,4))else(vV,2))):=Zy (fun h=>by unfold jy;rw[SV h]);have A:Zz (∀(a:Ending) (d:World) (E:Nat),jy p k n m=(vV,2)->a=.returned (.tuple #[.agg #[SS, ""],.iface 166 (some E)])->h9 d E 168 #[.int .i64 2]->ja d l p->Kp (·=l.D) w d→
     (∃x,a=.returned (.tuple #[.agg #[.int .i64 (jy p k n m).1.keeper,.string (jy p k n m).1.name],x])/\Dn d x (jy p k n m).2)/\ja d l p/\Kp (·=l.D) w d):=Zy (fun a d E Y e2 e3 e4 e5=>by
  rw[Y];exact⟨⟨_,e2,.inr ⟨by decide,E,rfl,e3⟩⟩,e4,e5⟩)
 cases j:has p k
 . have u:=Zy j;have c:=Zy (O (by rw[j];simp));clear j;go_enter func95,ntmps95;go_wp2_with (go_at_call 19;refine(tu q _).mono ?_;rintro a b ⟨rfl,rfl⟩;rw[u.o]);refine Px (v:=.tuple #[.agg #[SS, ""],.iface 166 (.pointer (some ⟨w+1,0,none⟩))]) (by simp[results,results95,go_sem,H,I]) rfl ?_;refine A _ _ _ c rfl ?_ (B.ext kx) (kx:Ext w _).any;have:=h9.new (w.alloc (.cells #[SS, ""] 64)) 168 #[.int .i64 2];simpa only[Tw]using this
 have u:=Zy j;cases o:jf n
 . have C:=Zy o;have c:=Zy (O (by rw[o];simp));clear j o;go_enter func95,ntmps95;go_wp2_with (first|(go_at_call 19;refine(tu q _).mono ?_;rintro a b ⟨rfl,rfl⟩;rw[u.o])|(go_at_call 17;refine(nE _ _).mono ?_;rintro a b ⟨rfl,rfl⟩;rw[C.o]));refine Px (v:=.tuple #[.agg #[SS, ""],.iface 166 (.pointer (some ⟨w+1,0,none⟩))]) (by simp[results,results95,go_sem,H,I]) rfl ?_;refine A _ _ _ c rfl ?_ (B.ext kx) (kx:Ext w _).any;have:=h9.new (w.alloc (.cells #[SS, ""] 64)) 168 #[.int .i64 2];simpa only[Tw]using this
 have C:=Zy o;cases r:jf m
 . have Q:=Zy r;have c:=Zy (O (by rw[r];simp));clear j o r;go_enter func95,ntmps95;go_wp2_with fail;refine(tu q _).mono ?_;rintro a b ⟨rfl,rfl⟩;rw[u.o];go_wp2_with fail;refine(nE _ _).mono ?_;rintro a b ⟨rfl,rfl⟩;rw[C.o];go_wp2_with fail;refine(nE _ _).mono ?_;rintro a b ⟨rfl,rfl⟩;rw[Q.o];go_wp2;refine Px (v:=.tuple #[.agg #[SS, ""],.iface 166 (.pointer (some ⟨w+1,0,none⟩))]) (by simp[results,results95,go_sem,H,I]) rfl ?_;refine A _ _ _ c rfl ?_ (B.ext kx) (kx:Ext w _).any;have:=h9.new (w.alloc (.cells #[SS, ""] 64)) 168 #[.int .i64 2];simpa only[Tw]using this
 have⟨Q,D⟩:=jc r (af (by rw[j,o,r];rfl));clear j o r O af;go_enter func95,ntmps95;go_wp2_with fail;refine(tu q _).mono ?_;rintro a b ⟨rfl,rfl⟩;rw[u.o];go_wp2_with fail;refine(nE _ _).mono ?_;rintro a b ⟨rfl,rfl⟩;rw[C.o];go_wp2_with fail;refine(nE _ _).mono ?_;rintro a b ⟨rfl,rfl⟩;rw[Q.o];go_wp2_with fail;refine(pJ _ _ _ q _ _).mono ?_;rintro a b ⟨rfl,T⟩;have G:=S.ext T;obtain⟨hz,q0,q1,-⟩:=G.ca;obtain⟨f0,f1,-⟩:=G.fz;have J:=aa.trans T;have U:=Zy (B.ext J);clear H I q T S;have R:Zz (∀(i:World) (s v:Value),Kp (·=w) i ((i.setCell w s).setCell (w,1) v)):=Zy (fun i s v=>qA);have ag:Zz (∀(i:World) (s v P:Value),h9 (((i.setCell w s).setCell (w,1) v).alloc (.cells #[P] 168)) i 168 #[P]):=Zy (fun i s v P=>by
  have:=h9.new ((i.setCell w s).setCell (w,1) v) 168 #[P];simpa using this)
 generalize find p k n=F at*;obtain⟨⟨f,g⟩,ai⟩:=F;simp only at*;by_cases L:ai=1
 . subst L;have X:=h9.new b 64 #[f,g];go_wp2_with fail;refine(mM (U.ext (jh (.cells #[f,g] 64))) ⟨f,g⟩).mono ?_;rintro a t ⟨rfl,aj,K⟩;have ak:l.D<b:=SK J.size
   have ah:=X.kp K Zm;have W:=(G.ext (jh (.cells #[f,g] 64))).kp K Zm;obtain⟨uz,u0,u1,-⟩:=ah.ca;obtain⟨Z,r0,r1,-⟩:=W.ca;obtain⟨e0,Y,-⟩:=W.fz;have ae:=((J.alloc _).any).trans K;clear q0 q1 f0 f1 G X K;have e:Kp (·=w) t ((t.setCell w SS).setCell (w,1) ""):=qA;clear e;have V:=Zy aj;cases N:jD p ⟨f,g⟩
   . have c:Zz (jy p k n m=(vV,4)):=Zy (by rw[D.o,N];rfl);clear N;go_wp2;refine Px (v:=.tuple #[.agg #[SS, ""],.iface 166 (some t)]) (by simp[results,results95,go_sem,r0,r1,Z]) rfl ?_;have e:=R.o t SS "";rw[c.o];exact⟨⟨_,rfl,.inr ⟨by decide,_,rfl,ag t _ _ _⟩⟩,(V.kp e (fun z y a=>Zm)).ext (jh _),(ae.own e (fun z y=>Zm)).alloc _⟩
   . have c:Zz (jy p k n m=(⟨f,g⟩,1)):=Zy (by rw[D.o,N];rfl);clear N;go_wp2;refine Px (v:=.tuple #[.agg #[f,g],Value.nilIface]) (by simp[results,results95,go_sem,r0,r1,Z]) rfl ?_;have e:=R.o t f g;rw[c.o];exact⟨⟨_,rfl,.inl ⟨rfl,rfl⟩⟩,V.kp e (fun z y a=>Zm),ae.own e (fun z y=>Zm)⟩
 . have av:=TP.2 L;have c:Zz (jy p k n m=(vV,2)):=Zy (by rw[D.o,SX L]);clear L D;go_wp2;refine Px (v:=.tuple #[.agg #[SS, ""],.iface 166 (.pointer (some ⟨b+1,0,none⟩))]) (by simp[results,results95,go_sem,q0,q1,hz]) rfl ?_;have e:=R.o b SS "";refine A _ _ _ c rfl ?_ ((U.kp e (fun z y a=>Zm)).ext ((jh _).alloc _)) (((J.any.own e (fun z y=>Zm)).alloc _).alloc _);have:=h9.new (((b.setCell w SS).setCell (w,1) "").alloc (.cells #[f,g] 64)) 168 #[.int .i64 2];simpa using this
theorem Hd(w:World)(l:iZ)(p:hZ)(z:ja w l p)(k:Int)(n:ByteArray)(i:Nat)(c:Class)(m:M.Method)(F:cls? p ⟨k,n⟩=some c)(B:c.methods[i]?=some m):Calls prog 46 #[some l.L,.agg #[k,n,i]] w fun y K=>(∃r,jb K (· <l.O) m r/\y=.returned (.agg r.toArray))/\Ext w K:=by
 have ak:=(Tv.1 B).1;have⟨O,C,Q,R⟩:=kQ z z F B;clear z F B;have E:=(h9.new w 66 #[k,n,i]);obtain⟨-,q0,q1,q2,-⟩:=E.ca;clear E;go_enter func46,ntmps46;go_upto_region 1 with(fail);first|(go_region_with (go_at_call 74;refine(rQ l p (O.ext kx) k n c Q).mono ?_;rintro y u ⟨⟨r,A,rfl⟩,s⟩;obtain⟨y1,z1,L,N,rfl⟩:=A.form;obtain⟨ae,af⟩:=Ir s;have ag:∀e,(Instr.field 38 (.agg #[c.name,c.je,.slice y1 c.fields.length z1,.slice L c.methods.length N]) 3).run prog e=.ok (.slice L c.methods.length N) e:=(fun e=>by kernel_rfl);obtain⟨ax,ay,H,-,J⟩:=jK.ext jB.stays s A;simp only[TG,Vw,Ve]at H;obtain⟨rfl,rfl⟩:=H;obtain⟨b',av,r,rfl,ai,I,-,G⟩:=J.get R;have S:=Zy I;obtain⟨f,j,g,o,h,q,rfl⟩:=I.form;obtain⟨T,U,V,W,X,Y,Z,g7⟩:=G.eight))|fail
 all_goals
  have v:=((h9.new (w.alloc (.cells #[k,n,i] 66)) 113 #["",(),SS, "",SS,SS,(),()]).ext (jg)).ext s;simp only[Tw]at v;have b:=(((((((v.jE 0 m.name).jE 1 (.slice f m.args.length j)).jE 2 m.ret.kind).jE 3 m.ret.name).jE 4 m.locals).jE 5 m.stack).jE 6 (.slice g m.code.length o)).jE 7 (.slice h m.maps.length q);have t:∀(d:Nat->Prop),d (w+1)->Kp d u ((((((((u.setCell ⟨w+1,0,none⟩ m.name).setCell ⟨w+1,1,none⟩ (.slice f m.args.length j)).setCell ⟨w+1,2,none⟩ m.ret.kind).setCell ⟨w+1,3,none⟩ m.ret.name).setCell ⟨w+1,4,none⟩ m.locals).setCell ⟨w+1,5,none⟩ m.stack).setCell ⟨w+1,6,none⟩ (.slice g m.code.length o)).setCell ⟨w+1,7,none⟩ (.slice h m.maps.length q)):=fun d a=>
   ((((((((Kp.refl d u).setCell (p:=⟨w+1,0,none⟩) (fun _=>a) _).setCell (p:=⟨w+1,1,none⟩) (fun _=>a) _).setCell (p:=⟨w+1,2,none⟩) (fun _=>a) _).setCell (p:=⟨w+1,3,none⟩) (fun _=>a) _).setCell (p:=⟨w+1,4,none⟩) (fun _=>a) _).setCell (p:=⟨w+1,5,none⟩) (fun _=>a) _).setCell (p:=⟨w+1,6,none⟩) (fun _=>a) _).setCell (p:=⟨w+1,7,none⟩) (fun _=>a) _
  have aa:=((((Kp.refl _ w).alloc _).alloc _).drew).trans s;clear ae af ag T U V W X Y Z g7 q0 q1 q2 G v A J;revert b t;generalize ((((((((u.setCell ⟨w+1,0,none⟩ m.name).setCell ⟨w+1,1,none⟩ (.slice f m.args.length j)).setCell ⟨w+1,2,none⟩ m.ret.kind).setCell ⟨w+1,3,none⟩ m.ret.name).setCell ⟨w+1,4,none⟩ m.locals).setCell ⟨w+1,5,none⟩ m.stack).setCell ⟨w+1,6,none⟩ (.slice g m.code.length o)).setCell ⟨w+1,7,none⟩ (.slice h m.maps.length q))=e;intro b t;have⟨P,D⟩:=jc (hH.mO b) t;clear t b;have aj:l.O<w:=SL C.ord C.lt
  go_wp2_with fail;refine Px (v:=.agg #[m.name,.slice f m.args.length j,m.ret.kind,m.ret.name,m.locals,m.stack,.slice g m.code.length o,.slice h m.maps.length q]) (jA Ke rfl (w+1) rfl _ P rfl) rfl ?_;trace "x";exact⟨⟨_,jK.kp jb.stays (D (·=w+1) rfl) (fun ah hb y=>Zm) S.o,rfl⟩,aa.own (D.o (·=w+1) rfl) (fun au hj=>Zm)⟩
structure LC(l:iZ)(p:hZ)(w W:World):Prop where
 kp:Kp (·=l.D) w W
 at_:ja W l p
theorem LC.refl(a:ja w l p):LC l p w w:=⟨Kp.rr,a⟩
theorem LC.ext{a: World}(b:LC l p w W)(c:Ext W a):LC l p w a:=⟨b.kp.trans c.any,b.at_.ext c⟩
theorem LC.drew(a:LC l p w W):LC l p w W.drew:=a.ext jg
theorem LC.step{a: World}(b:LC l p w W)(c:ja a l p)(d:Kp (·=l.D) W a):LC l p w a:=⟨b.kp.trans d,c⟩
theorem LC.trans{a: World}(c:LC l p w W)(b:LC l p W a):LC l p w a:=c.step b.at_ b.kp
theorem ja.Fj(a:ja w l p):l.D<w:=SL a.lt a.ord
theorem vD(l:iZ)(p:hZ)(d:ja w l p)(k:Int)(n:ByteArray)(c:Class)(o:cls? p ⟨k,n⟩=some c):∃h,jB w (· <l.O) c h/\∀b,Kp (·=l.D) w b→ Calls prog 74 #[some l.L,.agg #[k,n]] b fun O V=>O=.returned (.agg h.toArray)/\Ext b V:=by
 obtain⟨T,S,g,A,F,ax⟩:=Br o;obtain⟨f,B⟩:=Dc o;simp only at f B;obtain⟨k,rfl⟩:=Int.eq_ofNat_of_zero_le f;have C:p[k]?=some T:=by
  unfold lF at g;rw[SV f]at g;exact g
 obtain⟨aa,af,G,r,s,K,L⟩:=d.cells;obtain⟨mm,D,E⟩:=d.own;obtain⟨ae,aB,h,rfl,hI,Q,-,y⟩:=G.get C;obtain⟨vo,va,rfl,q,U⟩:=Q;obtain⟨a1,ag,rfl,az,av⟩:=q.form;obtain⟨b1,aC,ah,rfl,ai,m,-,z⟩:=q.get F;obtain⟨X,Z,Y,z2,rfl⟩:=m.form;obtain⟨j,x⟩:=y.two;obtain⟨i,t,u,v⟩:=z.four;have aA:(p.length:Int)<=3:=SK ((zy d.ok).2)
 have hO:=d.ord;have R:=d.lt;refine⟨_,m,fun b a=>?_⟩;have H:∀e,Ext b e->(Instr.lookup 97 (.map (some l.O)) (.agg #[.int .i64 (k:Int),n]) false).run prog e=.ok S e:=by
  intro e P;rw[Ai ((D.kp a Zm).kp P fun W=>W),E,A];rfl
 have l2:=fun(I J:Obj)=>H _ ((((Kp.refl _ b).alloc I).alloc J).drew);clear H;have N:=a.nQ (r _ (Kp.refl _ w)) Zm;have d1:=a.nQ (s _ (Kp.refl _ w)) Zm;replace j:=a.nQ j Zm;replace x:=a.nQ x Zm;replace i:=a.nQ i Zm;replace t:=a.nQ t Zm;replace u:=a.nQ u Zm;replace v:=a.nQ v Zm;have ak:=iV j;have au:=iV i;have aj:=iV N;clear D E m G q U y z r s K L C F g A o d R a;have ay:k<p.length:=Zm
 clear f B;go_enter func74,ntmps74;go_wp2;refine oK 17 Zo Zo ?_;(simp only[Us,UT,Ur,UI]);(repeat still_step);refine Vz ?_;go_wp2;refine Px (v:=.agg #[c.name,c.je,.slice X c.fields.length Z,.slice Y c.methods.length z2]) (by simp[results,results74,go_sem]) rfl ?_;exact⟨rfl,kx⟩
def oW(f:qg):List Value:=[.int .i64 f.of.keeper,.string f.of.name,.int .i64 f.at_,.int .i64 f.kind.kind,.string f.kind.name]
def NR:mH qg:=fun _ _ x cs=>cs=oW x
theorem NR.stays:jK NR:=fun _ _ _ _ _ _ _ _ a=>a
theorem Po{x:qg}:∀a∈oW x,a.oneCell'=true:=by simp[oW,Value.oneCell']
theorem Mj:Elem 170 173 5:=nM (z:=.agg #[SS, "",SS,SS, ""]) (bytes:=56) underlying170 Zo rfl Zn Zn
theorem Dq{c:Ref}{d:List M.Field}{a:List qg}{x:M.Field}(e:d[k]?=some x):ko c (d.take (k+1)) a=ko c (d.take k) a++[⟨c,(ko c (d.take k) a).length,x.kind⟩]:=by
 rw[Tm,e];have:∀(b:List M.Field) (a:List qg),ko c (b++[x]) a=ko c b a++[⟨c,(ko c b a).length,x.kind⟩]:=by
  intro b;induction b with
  |nil=>intro a;rfl
  |cons h g f=>intro a;simp only[Td,ko];rw[f]
 exact this _ _
theorem Kp.mix{D D':Nat->Prop}{a b: World}(d:Kp D w a)(e:Kp D' a b)(h:∀c,c<w.heap.size->D' c->D c):Kp D w b:=
 ⟨e.os.trans d.os,e.tape.trans d.tape,e.output.trans d.output,TD d.size e.size,
  fun c f g=>(e.block c (Tp f d.size) (fun i=>g (h c f i))).trans (d.block c f g)⟩
theorem hH.M8{g:Nat}(t:TypeId)(cs:Array Value)(a:W=g):hH (W.alloc (.cells cs t)).drew g 0 cs.toList:=(hH.nC t cs a).ext (jg)
theorem Iu (w : World) (e n : Nat) (vs : Value) {h: List qg} (c : Ref) (I : Nat -> Prop) {vf: Value} (i : List M.Field) (K : h9 w e 225 #[vs]) (S : w.ownsRow n 173 5 vs h.length (h.flatMap oW))(N:SliceOf 3 lq w I vf i) (hI:∀d,I d->d<n/\d≠e) (aS:n<=w) (aV:h.length+i.length<=1000) (av:vs.ownBlock≠some e):Calls prog 146 #[some e,.agg #[c.keeper,c.name],vf] w fun b W=>b=.returned (.tuple #[])/\∃V,h9 W e 225 #[V]/\W.ownsRow n 173 5 V (h.length+i.length) ((ko c i h).flatMap oW)/\V.ownBlock≠some e/\Kp (fun d=>d=e\/vs.ownBlock=some d) w W:=by
 obtain⟨va,vc,rfl,hn,aU⟩:=N.form;have hz:=K.lt;have t:=h9.new w 64 #[c.keeper,c.name];have k:Ext w (w.alloc (.cells #[c.keeper,c.name] 64)):=kx;have⟨HF,Z,ae⟩:=jr N hI av;have R0:Zz (h9 (w.alloc (.cells #[c.keeper,c.name] 64)) e 225 #[vs]/\(w.alloc (.cells #[c.keeper,c.name] 64)).ownsRow n 173 5 vs h.length ((ko c (i.take 0) h).flatMap oW)/\(∀j,vs.ownBlock=some j->vs.ownBlock=some j\/w.heap.size<j)/\
     Kp (fun d=>d=e\/vs.ownBlock=some d) w (w.alloc (.cells #[c.keeper,c.name] 64))/\h9 (w.alloc (.cells #[c.keeper,c.name] 64)) w 64 #[c.keeper,c.name]):=
  Zy ⟨K.ext k,iY (D:=fun _=>False) S k fun _ _ _ l=>l,fun j a=>.inl a,k.any,t⟩
 have G:=Zy fun j hg=>S.lt j hg;clear K S N hI av t k;go_enter func146,ntmps146;go_wp2;go_loopw [10] (fun R wr=>∃(m f:Nat) (x:Value),m<=i.length/\R=.int .i64 m/\Zz (f=h.length+m)/\Zz (h9 wr e 225 #[x]/\wr.ownsRow n 173 5 x f ((ko c (i.take m) h).flatMap oW)/\
     (∀j,x.ownBlock=some j->vs.ownBlock=some j\/w.heap.size<j)/\Kp (fun d=>d=e\/vs.ownBlock=some d) w wr/\h9 wr w 64 #[c.keeper,c.name])) (fun R _=>i.length - (intOf R).toNat)
 case atStart=>exact⟨0,h.length,vs,T9 _,rfl,Zy rfl,R0⟩
 case round =>
  obtain⟨m,f,x,hk,rfl,y,g⟩:=hrel;by_cases aM:m<i.length
  . obtain⟨l,Q⟩:=get_some aM;obtain⟨d,aY,cs,rfl,ah,rfl,-,hc⟩:=HF.get Q;have aT:=(Z d ah).1;have aI:=(Z d ah).2;have ax:Same (·=d) w wr:=Kp.same g.2.2.2.1 (fun T r b=>by
     subst r;rcases b with rfl|b
     . exact aI rfl
     . have:=G.o _ b;omega)
    have ak:=hc.keep fun aP U hv=>ax d aP U rfl hv;obtain⟨g0,g1,q⟩:=ak.three;have gz:=iV g0;have aX:(w:Nat)<=wr:=g.2.2.2.1.size;have HX:=Zy Q;clear Q hc ak ax;have F:=g.2.1;obtain⟨o,p,rfl⟩:=jL F;have O:(Value.slice o f p).ownBlock≠some e:=fun b=>by
     rcases g.o.2.2.1 _ b with a|a
     . exact ae a
     . omega
    obtain⟨A,L,k,b7⟩:=nu wr #[l.name,l.kind.kind,l.kind.name] 154;have J:=g.1.ext k;have t:=g.2.2.2.2.ext k;have aA:(A:Nat)=wr+1:=by rw[L];simp
    obtain⟨aQ,aR,aW,s⟩:=uD.ex (fun aH=>Kp (fun d=>(Value.slice o f p).ownBlock=some d) A aH) _ Kp.rr;have az:¬(Value.slice o f p).ownBlock=some wr.heap.size:=fun b=>SK ((F.lt _ b).2)
    have ay:¬(Value.slice o f p).ownBlock=some w.heap.size:=fun b=>by
     rcases g.o.2.2.1 _ b with a|a
     . have:=(G _ a).2;omega
     . omega
    have r0:=fun v=>(J.kp (s.jv v) O).c 0 (.slice o f p) rfl;obtain⟨-,r4,r5,-⟩:=h9.qW fun v=>(t.kp (s.jv v) ay);obtain⟨-,-,r7,r8,-⟩:=h9.qW fun v=>(b7.kp (s.jv v) az);have⟨H,aB,X⟩:=jr s J k;have af:=Zy O;have⟨aD,aG,ag⟩:=jr (iY (D:=fun _=>False) F k fun _ _ _ l=>l) L aA;have aN:f+1<=4294967296:=SK y.o
    clear J t b7 F O az ay s k aA;go_wp2;rw[<-aG.o];clear L g0 g1 q;refine kT H 16 [([0,1,2,3,4,5,6,7,8,9,10,11,12,13],14),([],15)] [] ?_ ?_
    . exact jg
    refine mP ?_;intro z u;go_wp2_with fail;refine kk H u kx ?_;clear u z;refine lK rfl fun z u=>?_;refine ji Mj rfl (.tmp 18) (.tmp 28) rfl n (.slice o f p) f _ rfl (iY (D:=fun _=>False) aD kx fun _ _ _ l=>l) A 1 (oW ⟨c,f,l.kind⟩) rfl rfl (hH.M8 _ _ rfl) (Po) aN ?_ ?_
    . have:=ag.o;simp;omega
    intro q c2 w1 aj ai au;have Y:Zz ((Value.slice o f p).ownBlock=some q\/w<q):=Zy (by
     rcases au with a|a
     . exact .inl a
     . right;have:=ag.o;simp at a;omega)
    clear au;change z _ _;have E:=(kx:Ext A _).any.trans ai;refine kk H u E ?_;clear u z;have C:=aB.kp E af;obtain⟨z1,d0,-⟩:=C.ca;have e0:=C.frozen 0;have⟨aC,aF,aa⟩:=jr C aj E;clear aj ai E C r0 r4 r5 r7 r8;refine kG ?_;go_wp2;have P:=fun D hD U=>(Kp.refl D w1).setCell (p:=⟨e,0,none⟩) (fun _=>hD) U;have aJ:q≠e:=fun b=>by
     subst b;rcases Y.o with a|a
     . exact af a
     . omega
    have aO:¬w=e:=Zm
    have aL:(ko c (i.take m) h).length=f:=by rw[tK,y.o,Tf];omega
    refine⟨⟨m+1,f+1,(q,f+1,c2),Zm,by go_num,Zy (SK y.o),Zy ⟨?_,?_,?_,?_,?_⟩⟩,by simp[intOf];omega⟩
    . exact aC.jE 0 _
    . rw[Dq HX.o,TJ,aL];have B:=iY aF (P (·=e) rfl (q,f+1,c2)) (fun T r _ b=>by cases r;exact aJ b);simpa using B
    . intro T r;cases r;rcases Y.o with a|a
      . rcases g.o.2.2.1 _ a with a|a
        . exact .inl a
        . exact .inr a
      . exact .inr a
    . refine((g.2.2.2.1.trans X.any).mix aa (fun T r b=>?_)).trans (P _ (.inl rfl) _);rcases g.o.2.2.1 _ b with a|a
      . exact .inr a
      . omega
    . exact((g.2.2.2.2.ext X).kp aa (fun b=>by
       rcases g.o.2.2.1 _ b with a|a
       . have:=(G _ a).2;omega
       . omega)).kp (P (·=e) rfl _) aO
  . have aK:m=i.length:=Zm
    subst aK;go_wp2;refine SQ ?_;refine⟨rfl,x,g.1,?_,?_,g.2.2.2.1⟩
    . have B:=g.2.1;rw[y.o,TV]at B;exact B
    . intro b;rcases g.o.2.2.1 _ b with a|a
      . exact ae a
      . omega
attribute [local go_sem] Oper.semAt_some
theorem Ao{c: Nat}:Calls prog 145 #[.slice a n c] w fun b d=>b=.returned (.func (.func 178) #[] #[some w])/\w.alloc (.cells #[.slice a n c] 80)=d:=by
 go_enter func145,ntmps145;go_wp2;go_ret;exact⟨rfl,rfl⟩
def backTo{α:Type}(l:List α):Nat->List (Int×α)
 |0=>[]
 |n+1=>(match l[n]? with|some x=>[((n:Int),x)]|none=>[])++backTo l n
theorem yE{l:List α}{x:α}(a:l[n]?=some x):backTo l (n+1)=((n:Int),x)::backTo l n:=by
 simp[backTo,a]
theorem ql(l:List α):∀n,n<=l.length->(backTo l n).map Prod.snd=(l.take n).reverse
 |0,_=>by simp[backTo]
 |n+1,h=>by
  rw[yE (Dj (show n<l.length by omega)),VU (show n<l.length by omega),TH,ql l n Zm,VI];rfl
def FV(x:Int×Ref):Array Value:=#[.int .i64 x.1,.agg #[.int .i64 x.2.keeper,.string x.2.name]]
theorem zP(a:List Ref)(g:Nat)(v:Value)(I w:Nat->Prop)(hBd:∀b,w b->b≠g/\¬I b):Iter prog 178 #[some g] FV (fun _=>False) w (fun xs=>xs=backTo a a.length) (fun c=>∃u,backTo a a.length=c++u) (fun _=>True) (fun k=>h9 k g 80 #[v]/\SliceOf 2 z8 k I v a) (fun c e=>∃u,backTo a a.length=c++e::u):=by
 intro lp N Jx k ⟨p,s⟩ z A U o T;obtain⟨l,h,rfl,hn,ai⟩:=s.form;refine callsIn_of_wp func178 rfl trivial ?_ rfl;simp only[ntmps178,UQ,Tc,U6,Nat.reduceAdd,Nat.reduceSub,U9,Uz,Uf,Uq,Ti,Td];have c0:=p.c 0 (.slice l a.length h) rfl;have G:IntKind.i64.wrap ((a.length:Int) - 1)=(a.length:Int) - 1:=Tg _ Zm;gi_wp2;clear G;gi_loopg [3] a.length (fun i J wr=>∃c:List (Int×Ref),((i=0/\J=.int .i64 (-1))\/∃b:Nat,i=b+1/\J=.int .i64 b)/\i<=a.length/\Zz (backTo a a.length=c++backTo a i)/\Zz (N c wr/\h9 wr g 80 #[.slice l a.length h]/\SliceOf 2 z8 wr I (.slice l a.length h) a))
 case atStart=>
  refine⟨[],?_,Tz _,Zy Zl,Zy ⟨T,p,s⟩⟩;rcases VG a.length with m|m
  . left;exact⟨m,by rw[m];rfl⟩
  . right;exact⟨a.length - 1,Zm,by congr 1;omega⟩
 case round =>
  obtain⟨c,Y,ak,x,y⟩:=hrel;rcases Y with⟨rfl,rfl⟩|⟨b,rfl,rfl⟩
  . have L:Zz (backTo a a.length=c):=Zy (by rw[x.o];simp[backTo]);gi_wp2;refine SQ ?_;exact⟨⟨_,rfl⟩,.inl ⟨c,L.symm,y.1⟩⟩
  . obtain⟨e,t⟩:=get_some (show b<a.length by omega);obtain⟨D,d,r⟩:=y.o;obtain⟨O,aa,cs,rfl,hI,rfl,-,C⟩:=r.get t;obtain⟨Q,R⟩:=C.two;have P:=d.c 0 (.slice (some ⟨O,aa,none⟩) a.length h) rfl;have X:(0:Int)<=(b:Int):=Zm
    have aj:(b:Int)<a.length:=Zm
    have V:=SY X;have j:Zz (backTo a a.length=(c++[((b:Int),e)])++backTo a b):=Zy (by rw[x.o,yE t,Te];rfl);obtain⟨fn,av,af,ag,H,n⟩:=o c ((b:Int),e) wr ⟨backTo a b,by rw[j.o,Te];rfl⟩ D;simp only[FV]at H n;have⟨HY,ae,f⟩:=jr o (Tt z A) (Tt hBd (Tt d r));have G:IntKind.i64.wrap ((b:Int) - 1)=(b:Int) - 1:=Tg _ Zm;clear o z A U hBd d r s t C D p;gi_wp2_with fail;refine n.mono ?_;rintro ah W1 ⟨q,(⟨rfl,E⟩|⟨rfl,W⟩)⟩
    . have B:=f.2.1.kp q (fun d=>(f.1 _ d).1 rfl);have F:=f.2.2.keep z8.stays (Kp.same q fun au Z d=>(f.1 _ d).2 Z) (fun _ S=>S);have K:=Zy (Tt E (Tt B F));clear E B F q Q R P H n V;gi_wp2_with fail;gi_roundg b
      case measure=>omega
      case rel=>
       refine⟨c++[((b:Int),e)],?_,Zm,j,K⟩;cases b with
       |zero=>left;exact⟨rfl,rfl⟩
       |succ b=>right;exact⟨b,rfl,by congr 1;omega⟩
    . gi_wp2_with fail;refine SQ ?_;exact⟨⟨_,rfl⟩,.inr ⟨_,⟨_,j⟩,W⟩⟩
end Go.Proofs.YtenhnldnpdlniaaGreat
namespace Go.Proofs.YtenhnldnpdlniaaGreat
open Go Go.RowKit Tryz M
variable {w: World}{p: hZ}
attribute [local go_sem] Oper.semAt_some
theorem wV(b:jY p=true){r:Ref}{c:Class}(a:cls? p r=some c):c.fields.length<=3:=by
 have:=M.GA b a;unfold mY at this;simp only[S9,SF]at this;exact this.1.1.1.2
theorem sH(d:jY p=true)(a:List Ref):(kv p a []).length<=a.length*3:=by
 rw[AO];induction a with
 |nil=>simp
 | cons b g e =>
  have:(cls p b).fields.length<=3:=by
   unfold cls;cases c:cls? p b with
   |none=>simp[RH]
   |some f=>exact wV d c
  simp only[TH,List.sum_cons,Tc,U6]at e |-;omega
theorem Fq(p:hZ)(a:List Ref)(c:Ref):kv p (a++[c]) []=ko c (cls p c).fields (kv p a []):=by
 rw[xX];rfl
theorem CO{I:Nat->Prop}{v:Value}{xs:List Ref}(g:SliceOf 2 z8 w I v xs):SliceOf 2 z8 w (fun a=>I a/\a<w) v xs:=by
 obtain⟨c,d,e,h,i,j⟩:=g;refine⟨c,d,e,h,i,fun n p m=>?_⟩;obtain⟨a,o,q,f,k,rfl,l,b⟩:=j n p m;exact⟨a,o,_,f,⟨k,iV b.two.1⟩,rfl,l,b⟩
def R3(p:hZ)(w2:World)(bb S:Nat)(pre:List (Int×Ref))(W:World):Prop:=
 ∃v',h9 W bb 225 #[v']/\W.ownsRow S 173 5 v' (kv p (pre.map Prod.snd) []).length ((kv p (pre.map Prod.snd) []).flatMap oW)/\Kp (·=bb) w2 W
theorem xu{l:iZ}(a:ja w l p)(r:Ref):Calls prog 98 #[some l.L,.agg #[r.keeper,r.name]] w fun g w'=>(∃au,g=.returned au/\SliceOf 5 NR w' (fun m=>w<=m) au (layout p r))/\ja w' l p/\Kp (·=l.D) w w':=by
 have bB:=a.Fj;have bC:=a.lt;have hO:=a.ord;have ae:Ext w ((w.alloc (.cells #[some l.L] 58)).alloc (.cells #[r.keeper,r.name] 64)):=kx;have aQ:=Zy (a.ext ae);have X:=(h9.new w 58 #[some l.L]).ext (jh (.cells #[r.keeper,r.name] 64));have G:=h9.new (w.alloc (.cells #[some l.L] 58)) 64 #[r.keeper,r.name];simp only[Tw]at G;have aT:=Zy ae;clear a ae;refine(U5 (n:=10)).1 ?_;refine callsIn_of_wp_marks func98 rfl trivial ?_ rfl;simp only[ntmps98,UQ,Tc,U6,Nat.reduceAdd,Nat.reduceSub,U9,Uz,Uf,Uq,Ti,Td];have q2:=X.c 0 (some l.L) rfl;obtain⟨-,q3,q4,-⟩:=G.ca;cases aG:jD p r
 all_goals
  have N:=Zy aG;clear aG;gi_wp2_with fail;refine⟨trivial,?_⟩;refine(U5.2 (mM aQ r)).mono ?_;rintro g v ⟨rfl,aC,A⟩;rw[N.o];have bK:(w:Nat)+1<(v:Nat):=by have:=A.size;simp at this;omega
  have bJ:(w:Nat)<v:=Zm
  have Y:=X.kp A Zm;have Z:=G.kp A Zm;have⟨av,P⟩:=jc (aT.any.trans A) aC;have p2:=Y.c 0 (some l.L) rfl;obtain⟨-,p3,p4,-⟩:=Z.ca;clear q2 q3 q4 A aC
 . have S:Zz (layout p r=[]):=Zy (by unfold layout;rw[N.o];rfl);gi_wp2_with fail;refine⟨(),by simp[results,Tryz.f98,go_sem],⟨_,rfl,by rw[S.o];exact SliceOf.nil _ _ _ _⟩,P,av⟩
 . have S:Zz (layout p r=kv p (chain p r).reverse []):=Zy (by unfold layout;rw[N.o];rfl);have b5:=h9.new v 225 #[()];gi_wp2_with fail;refine⟨trivial,?_⟩;refine(U5.2 (rP (P.ext kx) r)).mono ?_;rintro g c ⟨⟨au,rfl,hs⟩,o⟩;obtain⟨x,y,rfl,hn,bF⟩:=hs.form;gi_wp2_with fail;refine⟨trivial,?_⟩;refine(U5.2 (Ao)).mono ?_;rintro g w3 ⟨rfl,rfl⟩;gi_wp2_with fail;have bn:=o.size;simp only[Tw]at bn;have aa:=b5.ext o;have⟨Q,aV,B2⟩:=jr ((P.ext kx).ext o) (av.trans ((kx:Ext v _).any.trans o.any)) (Tt ((Y.ext kx).ext o) ((Z.ext kx).ext o));have bD:(v:Nat)<c:=Zm
   clear X G Y Z b5 p2 p3 p4 o;generalize bE:v=bb at*;have⟨HS,ax⟩:=jc hs (wu p r);have aX:Zz (∀b∈chain p r,∃i,cls? p b=some i):=Zy fun b hx=>M.kI hx;clear hs;generalize chain p r=xs at*;refine Ez (gf:=178) (lb:=#[some c]) (α:=Int×Ref) rfl (enters_of func178 Zo rfl) (encs:=FV) (fun b=>rfl)
    (Bb:=fun e=>e=bb\/c+3<=e)
    (zP xs c (.slice x xs.length y) (fun m=>bb+1<=m/\m<c) _ ?hBd) ?hIt ?hD1 ?hD2 ?hB1 ?hB2
    (R3 p c bb (c+3)) (fun _ _ _=>False) ?hI ?hIx ?h0 ?hIB
    (fun q b d W V=>R3 p c bb (c+3) q d/\(∃aP,backTo xs xs.length=q++b::aP)/\
     c.heap.size+2<(d:Nat)/\V=d.alloc (.cells #[.int .i64 b.2.keeper,.string b.2.name] 64)/\
     W={tmps:=#[some l.L,.agg #[r.keeper,r.name],some w,.pointer (some ⟨w+1,0,none⟩),(),some bb,undef,.pointer (some ⟨d,0,none⟩),
      some l.L,.agg #[r.keeper,r.name],.bool true,.bool false,some l.L,.agg #[r.keeper,r.name],.slice x xs.length y,.func (.func 178) #[] #[some c],
      .int .i64 b.1,.agg #[.int .i64 b.2.keeper,.string b.2.name],undef,undef,undef,undef,undef,undef,undef,undef],defers:=[]}) ?hassign ?hAx ?hbody ?hdone ?hstop
   case hBd=>
    intro e f;have bf:(e=bb\/c+3<=e)\/e=(c.alloc (.cells #[.slice x xs.length y] 80)).heap.size+1:=f;simp only[Tw]at bf;omega
   case hIt=>
    intro d hW;refine⟨(h9.new _ _ _).ext hW,?_⟩;refine(CO HS).keep z8.stays (Ext.same (((Kp.refl _ c).alloc _:Ext c _).trans hW)) (fun m hb=>?_);have:=hb.1;simp only[Tw]at this;exact⟨Zm,hb.2⟩
   case hD1=>exact fun a=>a
   case hD2=>exact fun a=>a
   case hB1=>simp only[Tw];omega
   case hB2=>simp only[Tw];omega
   case hI=>
    rintro L bq bu ⟨s,k,h,j⟩ f;simp only[Tw]at f;exact⟨s,k.kp f Zr,iY h f (fun az _ hg a=>by simp at a;omega),j.own f (fun e f=>by simp at f;omega)⟩
   case hIx=>exact fun _ _ _ _ a=>a.elim
   case h0=>exact⟨(),aa.ext kx,U8 _ _ _ _,(kx:Ext c _).any⟩
   case hIB=>exact fun _ _ _=>trivial
   case hassign=>
    intro q b d F aL hi aJ n;simp only[FV];simp only[Tw]at aJ;gi_wp2
   case hAx=>
    rintro q b d W V ⟨_,_,_,rfl,_⟩;exact((Kp.refl _ d).alloc _)
   case hbody=>
    rintro q b d W V t ⟨⟨s,k,h,j⟩,aL,aJ,rfl,rfl⟩ u ai;simp only[Tw]at u ai;obtain⟨aP,aM⟩:=aL;have bg:b.2∈xs:=by
     have:=congrArg (List.map Prod.snd) aM;rw[ql _ _ (Tz _),TV]at this;have z:b.2∈xs.reverse:=by rw[this];simp
     simpa using z
    have bH:(q.map Prod.snd).length<=6:=by
     have:=congrArg List.length aM;have z:=congrArg List.length (ql xs xs.length (Tz _));simp at this z;have:=ax.o;simp;omega
    obtain⟨i,J⟩:=aX.o _ bg;have C:=(j.alloc _).own u (fun e f=>Zm);have I:=Q.kp C (fun e f g=>Zm);obtain⟨cs,aH,aF⟩:=vD l p I b.2.keeper b.2.name i J;obtain⟨a1,c1,a2,c2,rfl⟩:=aH.form;obtain⟨bM,bN,aI,sf,-⟩:=aH;simp only[TG,Vw,Ve]at aI;obtain⟨rfl,rfl⟩:=aI;have bG:∀d,(Instr.field 38 (.agg #[.string i.name,.string i.je,.slice a1 i.fields.length c1,.slice a2 i.methods.length c2]) 2).run prog d=.ok (.slice a1 i.fields.length c1) d:=(fun d=>by kernel_rfl);have cb:=(h9.new d 64 #[.int .i64 b.2.keeper,.string b.2.name]).kp u Zm;obtain⟨uz,u0,u1,-⟩:=cb.ca;have t2:=(B2.1.kp C Zm).c 0 (some l.L) rfl;have tz:=iV t2;have g1:=(k.ext ((Kp.refl _ d).alloc _)).kp u Zm;have g2:=iY (iY (D:=fun _=>False) h ((Kp.refl _ d).alloc (.cells #[.int .i64 b.2.keeper,.string b.2.name] 64)) (fun _ _ _ a=>a)) u (fun az _ hg=>Zm);have⟨O,aY,aR,aW,aU,aS⟩:=rX (Tt g1 (Tt g2 C)) sf aF I (wV I.ok J) J;have bL:(c:Nat)+3<=(t:Nat):=Zm
    have aO:¬s.ownBlock=some d.heap.size:=fun g=>SK ((h.lt _ g).2)
    have aj:∀ak,s.ownBlock=some ak->c.heap.size+3<=ak:=fun ak hq=>(h.lt _ hq).1;obtain⟨bz,bA,bI,E⟩:=uD.ex (fun W'=>Kp (fun e=>e=bb\/s.ownBlock=some e) t W') _ Kp.rr;have r2:=fun L=>((B2.1.kp C Zm).kp (E.jv L) (by intro a;rcases a with a|a;(· omega);(· have:=aj _ a;omega))).c 0 (some l.L) rfl;obtain⟨-,r7,r8,-⟩:=h9.qW fun L=>(cb.kp (E.jv L) (by intro a;rcases a with a|a;(· omega);(· exact aO a)));have⟨R,T⟩:=jc E aj;clear k h j cb g1 g2 C sf aF I J u ai aa t2 u0 u1 E aj aO;gi_wp2_with fail;refine Pz R 6 [([0,1,2],3),([4],5)] [] ?_ (fun _=>trivial) ?_
    . exact jg
    refine OE [_,_,_] rfl rfl fun F n=>?_;(repeat (go_big_quiet_step (fail)));refine qn n fun U B=>?_;clear n F;gi_wp2_with fail;refine⟨trivial,?_⟩;refine(CallsIn.inRound _ (U5.2 (aR _ (jg)))).mono ?_;rintro g w4 ⟨rfl,aB⟩;have H:∀D:Nat->Prop,Kp D t w4:=fun D=>(((Kp.refl _ t).drew:Ext t _).trans aB).any;gi_wp2_with fail;refine kk R B (H _) ?_;clear B U;refine OE [_] rfl rfl fun F n=>?_;(repeat (go_big_quiet_step (fail)));refine qn n fun U B=>?_;clear n F;gi_wp2_with fail;refine⟨trivial,?_⟩;have K:Ext t w4:=H _;refine(CallsIn.inRound _ (U5.2 (Iu w4 bb (c+3) s b.2 (· <l.O) i.fields (O.1.ext K) (iY (D:=fun _=>False) O.2.1 K fun _ _ _ b=>b) (SliceOf.ext aY lq.stays K) (fun m hb=>Zm) (SK K.size) ?hl (fun g=>SK (T.o _ g))))).mono ?_
    case hl=>
     have h1:=aU.o;have z:=sH aW.ok (q.map Prod.snd);omega
    rintro g w5 ⟨rfl,v5,aA,aD,aK,af⟩;have ay:=Zy (Tt aA (Tt aD (Tt aK af)));have ag:=(H _).trans af;clear aA aD aK af aB H;gi_wp2_with fail;refine kk R B ag ?_;clear B U;refine OG ?_;gi_wp2_with fail;have aZ:cls p b.2=i:=by unfold cls;rw[aS.o];rfl
    refine⟨ag.weak ?_,v5,ay.1,?_,(O.2.2.mix ag ?_)⟩
    . intro e f a;rcases a with a|a
      . exact .inl a
      . exact .inr (T _ a)
    . rw[U0,TH,Vm,Fq,aZ,tK];exact ay.2.1
    . intro e f a;rcases a with a|a
      . exact a
      . have:=T.o _ a;omega
   case hdone=>
    rintro ys d rfl ⟨s,k,h,j⟩ n;obtain⟨va,vc,rfl⟩:=jL h;have k0:=k.c 0 _ rfl;have HE:=Zy (Tt k (Tt h j));clear k h j aa;simp only[Exit.inBlock,Exit.then];gi_wp2;obtain⟨k,h,j⟩:=HE.o;refine⟨by simp,.inl ⟨_,_,rfl,run_takeDeferred n,?_⟩⟩;have ah:=Kp.putObj d (c.alloc (.cells #[.slice x xs.length y] 80)).heap.size (.deferred none);have ai:(c.alloc (.cells #[.slice x xs.length y] 80)).heap.size=c+1:=by simp
    refine⟨.slice va (kv p ((backTo xs xs.length).map Prod.snd) []).length vc,by simp[results,Tryz.f98,go_sem],⟨_,rfl,?_⟩,?_,?_⟩
    . have aN:(backTo xs xs.length).map Prod.snd=xs.reverse:=by rw[ql _ _ (Tz _),TV]
      rw[S.o,<-aN];have h1:=sH Q.ok ((backTo xs xs.length).map Prod.snd);have z:((backTo xs xs.length).map Prod.snd).length=xs.length:=by rw[aN,Vh]
      have h3:=ax.o;exact SliceOf.l5 (base:=c.heap.size+3) oW (iY h ah (fun az _ hg=>Zm)) rfl rfl (fun _ _=>rfl) (fun _ _=>rfl) (fun m a h'=>by show w.heap.size<=m;omega) Zm
    . exact(Q.kp j (fun e f g=>Zm)).kp ah (fun e f g=>Zm)
    . exact((aV.own j (fun e f=>Zm))).own ah (fun e f=>Zm)
   case hstop=>exact fun _ _ _ _ a=>a.elim
end Go.Proofs.YtenhnldnpdlniaaGreat
namespace Go.Proofs.YtenhnldnpdlniaaGreat
open Go Go.RowKit Tryz M
theorem CV{w:World}{l:iZ}{p:hZ}(i:ja w l p)(m:p8):Calls prog 101 #[some l.L,.agg #[m.of.keeper,m.of.name,m.at_]] w fun h C=>h=.returned (.bool (jM p m))/\ja C l p/\Kp (·=l.D) w C:=by
 have J:=i.Fj;have r:Ext w (w.alloc (.cells #[m.of.keeper,m.of.name,m.at_] 66)):=kx;have x:=(h9.new w 66 #[m.of.keeper,m.of.name,m.at_]);obtain⟨O,z,R,f⟩:=uD.ex (LC l p (w.alloc (.cells #[m.of.keeper,m.of.name,m.at_] 66))) _ (LC.refl (i.ext r));obtain⟨-,q0,q1,q2,-⟩:=h9.qW fun d=>(x.kp (f.jv d).kp Zm);have⟨q,N,a,E⟩:=kQ (i.ext r) i f r;have s:Zz (∀d,ja (z d) l p/\Kp (·=l.D) w (z d)):=Zy (fun d=>⟨(f.jv d).at_,E.any.trans (f.jv d).kp⟩);clear x J i r f;cases n:jD p m.of
 . have g:Zz (jM p m=false):=Zy (by unfold jM;rw[n];rfl);have c:=Zy n;clear n;go_enter func101,ntmps101;go_wp2;refine Fb a ?_ ?_;rotate_left;(repeat (go_big_quiet_step ((go_at_call 43;refine(mM (a.jv _).at_ m.of).mono ?_;rintro h e ⟨rfl,k,j⟩;rw[c.o];exact⟨rfl,a.o.o e ((a.jv _).step k j)⟩))));refine wpQuiet_nil ?_;(rintro _ ⟨o,rfl⟩);rotate_left
   . exact(LC.refl q).drew
   go_wp2;go_ret;exact⟨hQ g.symm,s o⟩
 . have c:=Zy n;clear n;by_cases H:m.at_ <0
   . have g:Zz (jM p m=false):=Zy (by unfold jM;rw[c.o,RN (p:=0<=m.at_) Zm];rfl);go_enter func101,ntmps101;go_wp2;have L:decide (0<=m.at_)=false:=RN Zm;refine Fb a ?_ ?_;rotate_left;(repeat (go_big_quiet_step ((go_at_call 43;refine(mM (a.jv _).at_ m.of).mono ?_;rintro h e ⟨rfl,k,j⟩;rw[c.o];exact⟨rfl,a.o.o e ((a.jv _).step k j)⟩))));refine wpQuiet_nil ?_;(rintro _ ⟨o,rfl⟩);rotate_left
     . exact(LC.refl q).drew
     go_wp2;go_ret;exact⟨hQ g.symm,s o⟩
   . obtain⟨b,u⟩:=M.kI (uJ c).2;obtain⟨P,B,A⟩:=vD l p q m.of.keeper m.of.name b u;obtain⟨F,G,v,y,rfl⟩:=B.form;have Q:∀t,(Instr.field 38 (.agg #[b.name,b.je,.slice F b.fields.length G,.slice v b.methods.length y]) 3).run prog t=.ok (.slice v b.methods.length y) t:=(fun t=>by kernel_rfl);have D:=Zy A;have I:0<=m.at_:=Zm
     have g:Zz (jM p m=decide (m.at_ <b.methods.length)):=Zy (by
      unfold jM;rw[c.o,SY (p:=0<=m.at_) Zm];have:cls p m.of=b:=by unfold cls;rw[u];rfl
      rw[this];rfl)
     clear u B A H;go_enter func101,ntmps101;go_wp2;have L:=SY I;refine Fb a ?_ ?_;rotate_left;(repeat (go_big_quiet_step (first|(go_at_call 43;refine(mM (a.jv _).at_ m.of).mono ?_;rintro h e ⟨rfl,k,j⟩;rw[c.o];exact⟨rfl,a.o.o e ((a.jv _).step k j)⟩)|(go_at_call 74;refine(D _ (a.jv _).kp).mono ?_;rintro h e ⟨rfl,K⟩;exact⟨rfl,a.o.o e ((a.jv _).ext K)⟩))));refine wpQuiet_nil ?_;(rintro _ ⟨o,rfl⟩);rotate_left
     . exact(LC.refl q).drew
     go_wp2;go_ret;exact⟨hQ g.symm,s o⟩
end Go.Proofs.YtenhnldnpdlniaaGreat
