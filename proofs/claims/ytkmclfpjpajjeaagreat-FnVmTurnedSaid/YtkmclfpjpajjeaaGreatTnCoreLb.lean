/- Walks. -/
import Derived.Test.YtkmclfpjpajjeaaGreatTnCoreLa
import Derived.Deep.Quiet
import Derived.Deep.RegionWith
import Derived.Deep.RegionHeld3
import Derived.StillTailTactics
set_option maxRecDepth 100000
set_option maxHeartbeats 4000000
set_option linter.unusedSimpArgs false
set_option linter.unusedVariables false
namespace Go.Proofs.YtkmclfpjpajjeaaGreat.M
structure ko where
 of:Ref
 at_:Int
 kind:Kind
def aaA:Kind:=⟨0,none_⟩
def vJ:ko:=⟨qg,0,aaA⟩
def dx(of:Ref):List Field→List ko→List ko
 |[],acc=>acc
 |f::r,acc=>dx of r (acc++[⟨of,acc.length,f.kind⟩])
def dB(p:ax):List Ref→List ko→List ko
 |[],acc=>acc
 |c::r,acc=>dB p r (dx c (cls p c).fields acc)
def layout(p:ax)(r:Ref):List ko:=if bu p r then dB p (chain p r).reverse []else []
def ig(p:ax)(of:Ref):List Ref→Nat→Nat
 |[],n=>n
 |c::r,n=>if c=of then n else ig p of r (n+(cls p c).fields.length)
def gT(p:ax)(of low:Ref):Nat:=ig p of (chain p low).reverse 0
def fieldName(p:ax)(r:Ref)(f:ko):ByteArray:=(((cls p f.of).fields[(f.at_ - gT p f.of r).toNat]?).map Field.name).getD none_
def kE(p:ax)(k:Int)(m:ByteArray)(r:Ref):List ko→ko×Int
 |[]=>(vJ,3)
 |f::l=>if fieldName p r f=m then(if agree p k f.of.keeper f.kind then(f,1)else(vJ,4))else kE p k m r l
def get(p:ax)(k:Int)(n m:ByteArray):ko×Int:=
 if(aS p k n m).2=1 then kE p k m (aS p k n m).1 (layout p (aS p k n m).1)else(vJ,(aS p k n m).2)
def Zd:Method:=⟨none_,[],aaA,0,0,[],[]⟩
def lD:kI:=⟨qg,0⟩
def method?(p:ax)(m:kI):Option Method:=if 0≤m.at_ then(cls p m.of).methods[m.at_.toNat]? else none
def method(p:ax)(m:kI):Method:=(method? p m).getD Zd
def call(p:ax)(k:Int)(n m:ByteArray):kI×Int:=
 if(aS p k n m).2=1 then
  (match pick p (aS p k n m).1 m with
  |none=>(lD,3)
  |some x=>if bX p k x.of.keeper (method p x)then(x,1)else(lD,4))
 else(lD,(aS p k n m).2)
def bP(p:ax)(m:kI):Bool:=bu p m.of&&decide (0≤m.at_)&&decide (m.at_ <(cls p m.of).methods.length)
structure iY where
 locals:List Tag
 stack:List Tag
def Cy:Tag:=⟨0,none_⟩
def iL:Tag:=⟨1,none_⟩
def AV:Tag:=⟨3,none_⟩
def eP(n:ByteArray):Tag:=⟨2,n⟩
def fJ(k:Kind):Tag:=if fe k then⟨k.kind,k.name⟩else Cy
def may(p:ax)(k:Int)(a b:Tag):Bool:=
 if b.kind=0∨a=b then true else if b.kind≠2 then false else if a.kind=3 then true else if a.kind≠2 then false
 else decide ((find p k a.name).2=1)&&decide ((find p k b.name).2=1)&&under p (find p k a.name).1 (find p k b.name).1
def nD(s:iY):Option (Tag×iY):=s.stack.getLast?.map fun t=>(t,⟨s.locals,s.stack.dropLast⟩)
def gK(p:ax)(k:Int)(t:Tag)(s:iY):Option iY:=(nD s).bind fun x=>if may p k x.1 t then some x.2 else none
def sZ(s:iY):Option iY:=(nD s).bind fun x=>if x.1.kind=2∨x.1.kind=3 then some x.2 else none
def iB(m:Method)(t:Tag)(s:iY):Option iY:=if m.stack≤s.stack.length then none else some ⟨s.locals,s.stack++[t]⟩
def fK(p:ax)(k:Int):List Tag→List Tag→Bool
 |a::r,b::l=>may p k a b&&fK p k r l
 |_,_=>true
def dS(p:ax)(k:Int)(s:iY)(f:SMap):Bool:=decide (f.stack.length=s.stack.length)&&fK p k s.locals f.locals&&fK p k s.stack f.stack
def yV(m:Method)(at_:Int):Option SMap:=m.maps.find? fun f=>f.at_=at_
def fZ(p:ax)(k:Int)(m:Method)(tgt:Int)(s:iY):Option iY:=
 (yV m tgt).bind fun f=>if dS p k s f then some s else none
def kC(p:ax)(k:Int)(m:Method)(goes:Bool)(at_:Int)(s:iY):Option iY:=
 match yV m at_ with
 |none=>if goes then some s else none
 |some f=>if goes&& !dS p k s f then none else some ⟨f.locals,f.stack⟩
def iQ(p:ax)(k:Int):List Kind→iY→Option iY
 |[],s=>some s
 |a::r,s=>(gK p k (fJ a) s).bind (iQ p k r)
def bJ(p:ax)(k:Int)(m:Method)(i:Ins)(s:iY):Option iY:=
 if i.op=1 then iB m iL s
 else if i.op=2 then(s.locals[i.a.toNat]?).bind fun t=>if t.kind=0 then none else iB m t s
 else if i.op=3 then(nD s).map fun x=>⟨x.2.locals.set i.a.toNat x.1,x.2.stack⟩
 else if i.op=4 then(gK p k iL s).bind fun s1=>(gK p k iL s1).bind (iB m iL)
 else if i.op=5 then iB m AV s
 else if i.op=6 then iB m (eP i.name) s
 else if i.op=7 then(if(get p k i.name i.member).2=1 then(gK p k (eP i.name) s).bind (iB m (fJ (get p k i.name i.member).1.kind))else none)
 else if i.op=8 then(if(get p k i.name i.member).2=1 then(gK p k (fJ (get p k i.name i.member).1.kind) s).bind (gK p k (eP i.name))else none)
 else if i.op=9 then(if(call p k i.name i.member).2=1 then
     (iQ p k (method p (call p k i.name i.member).1).args.reverse s).bind fun s1=>(gK p k (eP i.name) s1).bind (iB m (fJ (method p (call p k i.name i.member).1).ret))else none)
 else if i.op=10 then gK p k (fJ m.ret) s
 else if i.op=11 then(gK p k iL s).bind (fZ p k m i.a)
 else if i.op=12 then(sZ s).bind (fZ p k m i.a)
 else if i.op=13 then fZ p k m i.a s
 else if i.op=14 then gK p k iL s
 else(sZ s).bind (iB m (eP i.name))
def eZ(p:ax)(k:Int)(m:Method):List Ins→Nat→Bool→iY→List iY→Sum Int (List iY)
 |[],at_,goes,_,known=>if goes then .inl (at_+1)else .inr known
 | i :: r, at_, goes, s, known =>
  match kC p k m goes at_ s with
  |none=>.inl (at_+1)
  |some s1=>match bJ p k m i s1 with
   |none=>.inl (at_+1)
   |some s2=>eZ p k m r (at_+1) (decide (i.op≠10)&&decide (i.op≠13)) s2 (known++[s1])
def ry(x:kI)(m:Method):iY:=⟨(eP x.of.name::m.args.map fJ)++List.replicate (m.locals.toNat - (m.args.length+1)) Cy,[]⟩
def look(p:ax)(x:kI):List iY×Int:=
 match eZ p x.of.keeper (method p x) (method p x).code 0 true (ry x (method p x)) []with
 | .inl n=>([],n)
 | .inr l=>(l,0)
def right(p:ax)(x:kI):Bool:=decide ((look p x).2=0)
def eG(p:ax)(r:Ref):Bool:=bu p r&&(List.range (cls p r).methods.length).all fun i=>right p ⟨r,i⟩
structure Val where
 kind:Int
 n:Int
theorem Val.gJ{a b:Val}:a=b↔a.kind=b.kind∧a.n=b.n:=by
 cases a;cases b;simp
instance:DecidableEq Val:=fun _ _=>decidable_of_iff' _ Val.gJ
structure nP where
 of:Ref
 fields:List Val
structure Fr where
 of:kI
 pc:Int
 locals:List Val
 stack:List Val
structure St where
 status:Int
 frames:List Fr
 heap:List nP
 outs:List Int
 back:Val
def eU:Val:=⟨0,0⟩
def lY:Val:=⟨3,0⟩
def gF(n:Int):Val:=⟨1,n⟩
def D9:St:=⟨0,[],[],[],eU⟩
def iH(n:Int):Bool:=decide (-9999≤n)&&decide (n≤9999)
def bD(v:Val)(YW:Nat):Bool:=
 if v.kind=0∨v.kind=3 then decide (v.n=0)else if v.kind=1 then iH v.n else if v.kind=2 then decide (0≤v.n)&&decide (v.n<YW)else false
def jI(p:ax)(h:List nP):Bool:=
 decide (h.length≤12)&&h.all fun o=>bu p o.of&&decide (o.fields.length=(layout p o.of).length)&&o.fields.all (bD · h.length)
def oD(h:List nP)(n:Int):Ref:=((h[n.toNat]?).map nP.of).getD qg
def hasType(p:ax)(k:Int)(h:List nP)(v:Val)(t:Kind):Bool:=
 if t.kind=1 then decide (v.kind=1)else if v.kind=3 then true else if v.kind≠2 then false
 else decide ((find p k t.name).2=1)&&under p (oD h v.n) (find p k t.name).1
def dX(p:ax)(f:Fr)(YW:Nat):Bool:=
 bP p f.of&&decide (0≤f.pc)&&decide (f.pc<(method p f.of).code.length)&&decide ((f.locals.length:Int)=(method p f.of).locals)&&
 decide ((f.stack.length:Int)≤(method p f.of).stack)&&f.locals.all (bD · YW)&&f.stack.all (bD · YW)
def Cx(p:ax)(s:St):Bool:=
 decide (1≤s.status)&&decide (s.status≤10)&&decide (s.heap.length≤12)&&decide (s.outs.length≤40)&&decide (s.frames.length≤8)&&
 (decide (0<s.frames.length)==decide (s.status=1))&&s.outs.all iH&&s.frames.all (dX p · s.heap.length)&&jI p s.heap&&bD s.back s.heap.length
def Dl(s:St)(f:Fr→Fr):St:={s with frames:=s.frames.dropLast++(s.frames.getLast?.map f).toList}
def top(s:St):Fr:=s.frames.getLastD ⟨lD,0,[],[]⟩
def jump(p:ax)(tgt:Int)(s:St):Int×St:=
 if((method p (top s).of).code.length:Int)≤tgt then(10,s)else(1,Dl s fun f=>{f with pc:=tgt})
def next(p:ax)(s:St):Int×St:=jump p ((top s).pc+1) s
def push(p:ax)(v:Val)(s:St):Int×St:=
 if(method p (top s).of).stack≤(top s).stack.length then(10,s)else next p (Dl s fun f=>{f with stack:=f.stack++[v]})
def gG(c:Nat)(s:St):Option (List Val×St):=
 if(top s).stack.length<c then none
 else some ((top s).stack.drop ((top s).stack.length - c),Dl s fun f=>{f with stack:=f.stack.take (f.stack.length - c)})
def pop(s:St):Option (Val×St):=(gG 1 s).map fun x=>(x.1.headD eU,x.2)
def fT(p:ax)(n:ByteArray)(s:St):Ref×Bool:=
 ((find p (top s).of.of.keeper n).1,decide ((find p (top s).of.of.keeper n).2=1)&&bu p (find p (top s).of.of.keeper n).1)
def fresh(p:ax)(r:Ref):nP:=⟨r,(layout p r).map fun f=>if f.kind.kind=1 then gF 0 else lY⟩
def create(p:ax)(r:Ref)(s:St):Val×St:=(⟨2,s.heap.length⟩,{s with heap:=s.heap++[fresh p r]})
def object(p:ax)(v:Val)(t:Ref)(s:St):Int:=
 if v.kind=3 then 3 else if v.kind≠2 then 10 else if under p (oD s.heap v.n) t then 1 else 10
def fH(p:ax)(k:Int)(h:List nP):List Val→List Kind→Bool
 |v::r,t::l=>hasType p k h v t&&fH p k h r l
 |_,_=>true
def enter(p:ax)(lk:Bool)(x:kI)(vs:List Val)(s:St):Int×St:=
 if 8≤s.frames.length then(7,s)
 else if lk&& !right p x then(5,s)
 else if fH p x.of.keeper s.heap vs (⟨2,x.of.name⟩::(method p x).args)then
  (1,{s with frames:=s.frames++[⟨x,0,vs++List.replicate ((method p x).locals.toNat - vs.length) eU,[]⟩]})
 else(10,s)
def end_(c:Int)(s:St):St:=if c=1 then s else{s with status:=c,frames:=[]}
def jG(h:List nP)(n:Int):List Val:=((h[n.toNat]?).map nP.fields).getD []
def iO(h:List nP)(n a:Int)(v:Val):List nP:=h.modify n.toNat fun o=>{o with fields:=o.fields.set a.toNat v}
def aO (p : ax) (lk : Bool) (i : Ins) (s : St) : Int × St :=
 if i.op=1 then push p (gF i.a) s
 else if i.op=2 then(if(((top s).locals[i.a.toNat]?).getD eU).kind=0 then(10,s)else push p (((top s).locals[i.a.toNat]?).getD eU) s)
 else if i.op=3 then(match pop s with
  |none=>(10,s)
  |some (v,s1)=>next p (Dl s1 fun f=>{f with locals:=f.locals.set i.a.toNat v}))
 else if i.op=4 then(match gG 2 s with
  |some ([a,b],s1)=>if a.kind=1∧b.kind=1 then(if iH (a.n+b.n)then push p (gF (a.n+b.n)) s1 else(9,s1))else(10,s1)
  |_=>(10,s))
 else if i.op=5 then push p lY s
 else if i.op=6 then(if(fT p i.name s).2 then(if 12≤s.heap.length then(8,s)else push p (create p (fT p i.name s).1 s).1 (create p (fT p i.name s).1 s).2)else(4,s))
 else if i.op = 7 then (if (get p (top s).of.of.keeper i.name i.member).2 = 1 then
     (match pop s with
     |none=>(10,s)
     | some (v, s1) =>
      if object p v (get p (top s).of.of.keeper i.name i.member).1.of s1=1 then
       push p (((jG s1.heap v.n)[(get p (top s).of.of.keeper i.name i.member).1.at_.toNat]?).getD eU) s1
      else(object p v (get p (top s).of.of.keeper i.name i.member).1.of s1,s1))
  else(4,s))
 else if i.op = 8 then (if (get p (top s).of.of.keeper i.name i.member).2 = 1 then
     (match gG 2 s with
     | some ([o, v], s1) =>
      if hasType p (get p (top s).of.of.keeper i.name i.member).1.of.keeper s1.heap v (get p (top s).of.of.keeper i.name i.member).1.kind then
       (if object p o (get p (top s).of.of.keeper i.name i.member).1.of s1=1 then
        next p {s1 with heap:=iO s1.heap o.n (get p (top s).of.of.keeper i.name i.member).1.at_ v}
       else(object p o (get p (top s).of.of.keeper i.name i.member).1.of s1,s1))
      else(10,s1)
     |_=>(10,s))
  else(4,s))
 else if i.op = 9 then (if (call p (top s).of.of.keeper i.name i.member).2 = 1 then
     (match gG ((method p (call p (top s).of.of.keeper i.name i.member).1).args.length+1) s with
     | some (vs, s1) =>
      if object p (vs.headD eU) (call p (top s).of.of.keeper i.name i.member).1.of s1=1 then
       (match pick p (oD s1.heap (vs.headD eU).n) i.member with
       |some x=>enter p lk x vs s1
       |none=>(10,s1))
      else(object p (vs.headD eU) (call p (top s).of.of.keeper i.name i.member).1.of s1,s1)
     |none=>(10,s))
  else(4,s))
 else if i.op = 10 then (match pop s with
  |none=>(10,s)
  |some (v,s1)=>if hasType p (top s).of.of.keeper s1.heap v (method p (top s).of).ret then
      (if s1.frames.length=1 then(2,{s1 with back:=v})else push p v {s1 with frames:=s1.frames.dropLast})
   else(10,s1))
 else if i.op=11 then(match pop s with
  |none=>(10,s)
  |some (v,s1)=>if v.kind=1 then(if v.n=0 then jump p i.a s1 else next p s1)else(10,s1))
 else if i.op=12 then(match pop s with
  |none=>(10,s)
  |some (v,s1)=>if v.kind=2∨v.kind=3 then(if v.kind=3 then jump p i.a s1 else next p s1)else(10,s1))
 else if i.op=13 then jump p i.a s
 else if i.op=14 then(match pop s with
  |none=>(10,s)
  |some (v,s1)=>if v.kind=1 then next p (if s1.outs.length<40 then{s1 with outs:=s1.outs++[v.n]}else s1)else(10,s1))
 else (match pop s with
  |none=>(10,s)
  |some (v,s1)=>if v.kind=2∨v.kind=3 then
      (if v.kind=3 then push p v s1
      else if(fT p i.name s1).2 then(if under p (oD s1.heap v.n) (fT p i.name s1).1 then push p v s1 else(6,s1))else(4,s1))
   else(10,s1))
def ahx:Ins:=⟨0,0,none_,none_⟩
def stepped(p:ax)(lk:Bool)(s:St):Int×St:=aO p lk (((method p (top s).of).code[(top s).pc.toNat]?).getD ahx) s
def step(p:ax)(lk:Bool)(s:St):St:=if s.status=1 then end_ (stepped p lk s).1 (stepped p lk s).2 else s
def steps(p:ax)(lk:Bool):Nat→St→St
 |0,s=>s
 |f+1,s=>if s.status=1 then steps p lk f (step p lk s)else s
def kg(m:Method)(args:List Int):Bool:=decide (m.args.length=args.length)&&m.args.all fun k=>decide (k.kind=1)
def ky:St:=⟨4,[],[],[],eU⟩
def start (p : ax) (lk : Bool) (k : Int) (n m : ByteArray) (args : List Int) : St :=
 if (find p k n).2 = 1 ∧ bu p (find p k n).1 = true then
  (if(call p k n m).2=1∧kg (method p (call p k n m).1) args=true then
   end_ (enter p lk (call p k n m).1 (⟨2,0⟩::args.map gF) ⟨1,[],[fresh p (find p k n).1],[],eU⟩).1
    (enter p lk (call p k n m).1 (⟨2,0⟩::args.map gF) ⟨1,[],[fresh p (find p k n).1],[],eU⟩).2
  else ky)
 else ky
def jC(p:ax)(lk:Bool)(k:Int)(n m:ByteArray)(args:List Int):St:=
 if dF p&&has p k&&aT n&&aT m&&args.all iH then start p lk k n m args else D9
def oQ(p:ax)(lk:Bool)(s:St)(fuel:Int):St:=
 if decide (fuel≤400)&&dF p&&Cx p s then steps p lk fuel.toNat s else D9
def classes(p:ax):List Ref:=
 (List.range p.length).flatMap fun k=>(((p[k]?).map fun q=>q.owns.map fun c=>(⟨k,c.name⟩:Ref)).getD []).filter fun r=>decide (0<(chain p r).length)
def iI(p:ax):Bool:=dF p&&(classes p).all (eG p)
end Go.Proofs.YtkmclfpjpajjeaaGreat.M
namespace Go.Proofs.YtkmclfpjpajjeaaGreat
open Go Go.RowKit
def bV(v:M.Val):List Value:=[.int .i64 v.kind,.int .i64 v.n]
def kr:iJ M.Val:=fun _ _ x cs=>cs=bV x
theorem kr.stays:bQ kr:=fun _ _ _ _ _ _ _ _ h=>h
def iD(t:M.Tag):List Value:=[.int .i64 t.kind,.string t.name]
def sU(n:Int):List Value:=[.int .i64 n]
theorem sJ:Elem 136 139 2:=iP (z:=.agg #[.int .i64 0,.string ⟨#[]⟩]) (bytes:=24) Tryz.underlying136 Wr rfl Wk Wk
theorem flat_get{α:Type}{enc:α→List Value}{k:Nat}(Hu:∀x,(enc x).length=k):∀(l:List α) (j:Nat) (u:Value),(l.flatMap enc)[j]?=some u→∃i r x,l[i]?=some x∧(enc x)[r]?=some u∧j=i*k+r:=by
 intro l;induction l with
 |nil=>intro j u h;simp at h
 |cons x t ih=>
  intro j u h;rw[List.flatMap_cons]at h;rcases Nat.lt_or_ge j (enc x).length with hj|hj
  · rw[List.getElem?_append_left hj]at h;exact⟨0,j,x,rfl,h,by omega⟩
  · rw[List.getElem?_append_right hj]at h;obtain⟨i,r,y,h1,h2,h3⟩:=ih _ _ h;refine⟨i+1,r,y,by simpa using h1,h2,?_⟩;rw[Hu]at h3 hj;rw[Nat.succ_mul];omega
theorem jl{α:Type}{enc:α→List Value}{k:Nat}(Hu:∀x,(enc x).length=k)(l:List α):(l.flatMap enc).length=l.length*k:=by
 induction l with
 |nil=>simp
 |cons x t ih=>rw[List.flatMap_cons,List.length_append,ih,Hu,List.length_cons,Nat.succ_mul];omega
theorem kR{α:Type}{enc:α→List Value}(h1:∀x,∀u∈enc x,u.oneCell'=true)(l:List α):∀u∈l.flatMap enc,u.oneCell'=true:=by
 intro u hu;obtain⟨x,_,hx⟩:=List.mem_flatMap.1 hu;exact h1 x u hx
theorem SliceOf.flat{α:Type}{k:Nat}{R:iJ α}{enc:α→List Value}(hR:∀w I x cs,R w I x cs→cs=enc x)(Hu:∀x,(enc x).length=k){w:World}{I:Nat→Prop}{ad:Addr}{n cap:Nat}{xs:List α}
    (h:SliceOf k R w I (.slice (some ad) n cap) xs):∀j u,(xs.flatMap enc)[j]?=some u→w.cell? (ad.add j)=some u:=by
 intro j u hu;obtain⟨i,r,x,h1,h2,rfl⟩:=flat_get Hu xs j u hu;obtain⟨b,off,cs,e,_,hr,hl,hc⟩:=h.get h1;cases e;have e2:=hR _ _ _ _ hr;subst e2;have:=hc r u h2;unfold Addr.add;split
 · rename_i h0;have e1:i*k=0:=by omega
   have e3:r=0:=by omega
   rw[e1,e3]at this;exact this
 · simpa [Nat.add_assoc]using this
theorem uN(x:M.Val):∀u∈bV x,u.oneCell'=true:=by simp[bV,Value.oneCell']
theorem uM(x:M.Tag):∀u∈iD x,u.oneCell'=true:=by simp[iD,Value.oneCell']
theorem Ev(x:Int):∀u∈sU x,u.oneCell'=true:=by simp[sU,Value.oneCell']
structure Flat(w:World)(k:Nat)(v:Value)(n:Nat)(xs:List Value):Prop where
 len:xs.length=n*k
 ex:∃a c,v=.slice a n c∧(a=none→n=0)∧∀ad,a=some ad→∀j u,xs[j]?=some u→w.cell? (ad.add j)=some u
 one:∀u∈xs,u.oneCell'=true
theorem SliceOf.toFlat{α:Type}{k:Nat}{R:iJ α}{enc:α→List Value}(hR:∀w I x cs,R w I x cs→cs=enc x)(Hu:∀x,(enc x).length=k)(h1:∀x,∀u∈enc x,u.oneCell'=true){w:World}{I:Nat→Prop}{v:Value}{xs:List α}
    (h:SliceOf k R w I v xs):Flat w k v xs.length (xs.flatMap enc):=by
 obtain⟨a,c,rfl,_⟩:=h.form;refine⟨jl Hu xs,⟨a,c,rfl,?_,?_⟩,kR h1 xs⟩
 · rintro rfl;cases xs with
   |nil=>rfl
   |cons x r=>
    obtain⟨_,_,_,e,_⟩:=h.get (i:=0) (x:=x) rfl;cases e
 · rintro ad rfl;exact h.flat hR Hu
theorem oF{w:World}{base e k n:Nat}{v:Value}{xs:List Value}(h:w.ownsRow base e k v n xs)(h1:∀u∈xs,u.oneCell'=true):Flat w k v n xs:=by
 refine⟨h.1,?_,h1⟩;rcases h.2 with⟨rfl,rfl⟩|⟨g,c,cur,rfl,_⟩
 · exact⟨none,0,rfl,fun _=>rfl,fun _ e=>by cases e⟩
 · exact⟨_,c,rfl,(fun e=>by cases e),fun ad e=>by cases e;exact h.cells rfl⟩
theorem Gc{w:World}{base e k n c g:Nat}{xs:List Value}(h:w.ownsRow base e k (.slice (some ⟨g,0,none⟩) n c) n xs)(h1:∀u∈xs,u.oneCell'=true){i:Nat}(c':Nat):
    Flat w k (.slice (some ⟨g,i*k,none⟩) (n - i) c') (n - i) (xs.drop (i*k)):=by
 refine⟨by rw[List.length_drop,h.1,Nat.sub_mul],⟨_,c',rfl,(fun e=>by cases e),fun ad e j u hu=>?_⟩,fun u hu=>h1 u (List.mem_of_mem_drop hu)⟩;cases e;rw[List.getElem?_drop]at hu;have:=h.cells (g:=g) rfl _ _ hu;unfold Addr.add at this ⊢;split at this<;>split
 · rename_i h2 h3;rw[show i*k=0 by omega];exact this
 · omega
 · rename_i h2 h3;rw[h3]at this;simpa using this
 · simpa using this
theorem Ub{w:World}{ad:Addr}{v:Value}(h:w.cell? ad=some v):ad.block<w.heap.size:=by
 rcases Nat.lt_or_ge ad.block w.heap.size with h1|h1
 · exact h1
 · simp[World.cell?,Array.getElem?_eq_none h1]at h
theorem Flat.ext{w w':World}{k n:Nat}{v:Value}{xs:List Value}(h:Flat w k v n xs)(hE:Ext w w'):Flat w' k v n xs:=by
 obtain⟨h1,⟨a,c,e,h2,h3⟩,h4⟩:=h;exact⟨h1,⟨a,c,e,h2,fun ad ea j u hu=>(World.cell?_of_block (hE.block _ (Ub (h3 ad ea j u hu)) fun x=>x)).trans (h3 ad ea j u hu)⟩,h4⟩
theorem jb{t e k:Nat}(E:Elem t e k)(w:World){ops:Array Oper}{rest:List Oper}{o:Oper}{a:Act}{Q:Exit→Act→World→Prop}(IU:o.guard=none)(s x:Operand)
    (ho:o.op=.call {callee:=.builtin .append,args:=#[s,x],argTypes:=#[t,t]}) (base:Nat) (v:Value) (n:Nat) (xs:List Value) (hs:a.eval s=v) (dY:w.ownsRow base e k v n xs)
    (ad:Addr) (m c:Nat) (news:List Value) (hx:a.eval x=.slice (some ad) m c) (hf:Flat w k (.slice (some ad) m c) m news)
    (hn:n+m≤8589934592) (kF:base≤w.heap.size)
    (h:∀v' w',w'.ownsRow base e k v' (n+m) (xs++news)→Kp (fun b=>v.ownBlock=some b) w w'→wpList Tryz.prog ops Q rest (a.put o.dst v') w'):
    wpList Tryz.prog ops Q (o::rest) a w:=by
 obtain⟨i,z,bytes,ht,hi,hz,kv,Rj,Rt,hk,hb⟩:=E;obtain⟨f1,⟨a1,c1,e1,_,f2⟩,f3⟩:=hf;cases e1;refine wpList_append_own w IU s x t ho base e i z k bytes ht hi hz kv Rj Rt hk v n xs hs dY ad m c news hx f1 (f2 ad rfl) f3 (by unfold maxLen;omega) ?_ kF ?_
 · have:(n+m)*bytes≤8589934592*4096:=Nat.mul_le_mul hn hb;omega
 · intro v' w' h2 h3 _;exact h v' w' h2 ⟨h3.os,h3.tape,h3.output,h3.size,fun k hk hd=>h3.block k hk (fun e=>hd e.symm)⟩
theorem dh(W:World)(e k:Nat)(B:Nat)(hB:B≤W.heap.size)(g:Nat)(hg:W.heap.size=g):(W.alloc (.cells #[] e)).ownsRow B e k (.slice (some ⟨g,0,none⟩) 0 0) 0 []:=by
 subst hg;exact⟨by simp,.inr ⟨_,0,#[],rfl,hB,heap_alloc_new W _,Nat.le_refl _,by simp,by simp,by simp⟩⟩
theorem qo(w:World)(v:Value)(n:Nat)(xs:List Value)(h:Flat w 2 v n xs)(hn:n≤4294967296):
    Calls Tryz.prog 52 #[v] w fun e w'=>(∃v',e=.returned v'∧w'.ownsRow w.heap.size 38 2 v' n xs)∧Ext w w':=by
 obtain⟨a,c,rfl,h0,hc⟩:=h.ex;have en:=fun W=>Lib.run_eql_slice_nil (P:=Tryz.prog) W 109 38 a n c 0 0 Tryz.underlying109;have OT:=h.len;cases a with
 |none=>
  obtain rfl:=h0 rfl;have hx:xs=[]:=List.eq_nil_of_length_eq_zero (by simpa using OT);subst hx;clear h h0 hc OT;go_enter Tryz.func52,Tryz.ntmps52;go_wp2;go_ret;exact⟨⟨_,rfl,World.ownsRow_nil _ _ _ _⟩,Kp.rr⟩
 |some ad=>
  have HF:=Z3 (h.ext (Kp.rr.alloc (.cells #[] 38):Ext w _));have Qp:0+n≤8589934592:=by omega
  clear h h0 hc OT;go_enter Tryz.func52,Tryz.ntmps52;go_wp2_with (at_builtin;refine jb qG _ rfl _ _ rfl w.heap.size _ 0 [] rfl (dh w _ 2 _ (Nat.le_refl _) _ rfl) ad n c xs rfl HF.o Qp Wf ?_);intro v' w' dY hK;have⟨HO,HK⟩:=aJ dY hK;clear dY hK;go_wp2;go_ret;exact⟨⟨_,rfl,by simpa using HO.o⟩,(Kp.rr.alloc _:Ext w _).own HK.o (fun b hb=>by simp only[Value.ownBlock,Option.some.injEq]at hb;omega)⟩
theorem ql(w:World)(v:Value)(n:Nat)(xs:List Value)(h:Flat w 2 v n xs)(hn:n≤4294967296):
    Calls Tryz.prog 166 #[v] w fun e w'=>(∃v',e=.returned v'∧w'.ownsRow w.heap.size 139 2 v' n xs)∧Ext w w':=by
 obtain⟨a,c,rfl,h0,hc⟩:=h.ex;have en:=fun W=>Lib.run_eql_slice_nil (P:=Tryz.prog) W 136 139 a n c 0 0 Tryz.underlying136;have OT:=h.len;cases a with
 |none=>
  obtain rfl:=h0 rfl;have hx:xs=[]:=List.eq_nil_of_length_eq_zero (by simpa using OT);subst hx;clear h h0 hc OT;go_enter Tryz.func166,Tryz.ntmps166;go_wp2;go_ret;exact⟨⟨_,rfl,World.ownsRow_nil _ _ _ _⟩,Kp.rr⟩
 |some ad=>
  have HF:=Z3 (h.ext (Kp.rr.alloc (.cells #[] 139):Ext w _));have Qp:0+n≤8589934592:=by omega
  clear h h0 hc OT;go_enter Tryz.func166,Tryz.ntmps166;go_wp2_with (at_builtin;refine jb sJ _ rfl _ _ rfl w.heap.size _ 0 [] rfl (dh w _ 2 _ (Nat.le_refl _) _ rfl) ad n c xs rfl HF.o Qp Wf ?_);intro v' w' dY hK;have⟨HO,HK⟩:=aJ dY hK;clear dY hK;go_wp2;go_ret;exact⟨⟨_,rfl,by simpa using HO.o⟩,(Kp.rr.alloc _:Ext w _).own HK.o (fun b hb=>by simp only[Value.ownBlock,Option.some.injEq]at hb;omega)⟩
theorem xO(w:World)(v:Value)(n:Nat)(xs:List Value)(h:Flat w 1 v n xs)(hn:n≤4294967296):
    Calls Tryz.prog 51 #[v] w fun e w'=>(∃v',e=.returned v'∧w'.ownsRow w.heap.size 3 1 v' n xs)∧Ext w w':=by
 obtain⟨a,c,rfl,h0,hc⟩:=h.ex;have en:=fun W=>Lib.run_eql_slice_nil (P:=Tryz.prog) W 26 3 a n c 0 0 Tryz.underlying26;have OT:=h.len;cases a with
 |none=>
  obtain rfl:=h0 rfl;have hx:xs=[]:=List.eq_nil_of_length_eq_zero (by simpa using OT);subst hx;clear h h0 hc OT;go_enter Tryz.func51,Tryz.ntmps51;go_wp2;go_ret;exact⟨⟨_,rfl,World.ownsRow_nil _ _ _ _⟩,Kp.rr⟩
 |some ad=>
  have HF:=Z3 (h.ext (Kp.rr.alloc (.cells #[] 3):Ext w _));have Qp:0+n≤8589934592:=by omega
  clear h h0 hc OT;go_enter Tryz.func51,Tryz.ntmps51;go_wp2_with (at_builtin;refine jb Fb _ rfl _ _ rfl w.heap.size _ 0 [] rfl (dh w _ 1 _ (Nat.le_refl _) _ rfl) ad n c xs rfl HF.o Qp Wf ?_);intro v' w' dY hK;have⟨HO,HK⟩:=aJ dY hK;clear dY hK;go_wp2;go_ret;exact⟨⟨_,rfl,by simpa using HO.o⟩,(Kp.rr.alloc _:Ext w _).own HK.o (fun b hb=>by simp only[Value.ownBlock,Option.some.injEq]at hb;omega)⟩
def jB(s:ByteArray):List Value:=[.string s]
def dP:iJ ByteArray:=fun _ _ x cs=>cs=jB x
theorem dP.stays:bQ dP:=fun _ _ _ _ _ _ _ _ h=>h
theorem AZ(x:ByteArray):∀u∈jB x,u.oneCell'=true:=by simp[jB,Value.oneCell']
theorem Fe:Elem 81 9 1:=iP (z:=.string ⟨#[]⟩) (bytes:=16) Tryz.underlying81 Wr rfl Wk Wk
namespace M
theorem abg(a b:List UInt8):bs a++bs b=bs (a++b):=by
 apply ByteArray.ext;apply Array.toList_inj.1;simp[bs]
theorem abh(s:ByteArray)(k:Nat)(h:k<s.size):s.extract k (k+1)=bs [s[k]]:=by
 apply ByteArray.ext;apply Array.toList_inj.1;rw[Lib.extract_data];have hl:k<s.data.toList.length:=by simpa using h
 rw[List.drop_eq_getElem_cons hl];simp[bs];rfl
theorem PH{s:ByteArray}{k:Nat}(h:k<s.size):s.data.toList.drop k=s[k]::s.data.toList.drop (k+1):=by
 have hl:k<s.data.toList.length:=by simpa using h
 rw[List.drop_eq_getElem_cons hl];rfl
end M
theorem A8 (s : ByteArray) (w : World) (hs : s.size ≤ 4000000000) :
    Calls Tryz.prog 110 #[.string s] w fun e w'=>(∃v,e=.returned v∧SliceOf 1 dP w' (fun b=>w.heap.size≤b∧b<w'.heap.size) v (M.words s))∧Ext w w':=by
 have hO:(w.alloc (.cells #[] 9)).ownsRow w.heap.size 9 1 (.slice (some ⟨w.heap.size,0,none⟩) 0 0) 0 []:=dh w 9 1 w.heap.size (Nat.le_refl _) _ rfl;have HO:=Z3 hO;clear hO;go_enter Tryz.func110,Tryz.ntmps110;go_wp2_with fail;go_loopw [3,4,5] (fun o c i wr=>∃(k:Nat) (cur:List UInt8) (ps:List ByteArray),k≤s.size∧i=.int .i64 k∧c=.string (M.bs cur)∧cur.length≤k∧ps.length≤k∧Zs (ps.map (·.data.toList)++M.iq cur (s.data.toList.drop k)=M.iq [] s.data.toList)∧
     wr.ownsRow w.heap.size 9 1 o ps.length (ps.flatMap jB)∧Ext w wr) (fun _ _ i _=>s.size - (intOf i).toNat)
 case atStart=>exact⟨0,[],[],Nat.zero_le _,rfl,rfl,Nat.le_refl _,Nat.le_refl _,Z3 Wf,HO.o,Kp.rr.alloc _⟩
 case round =>
  obtain⟨k,cur,ps,hk,rfl,rfl,fU,En,HW,dY,hE⟩:=hrel;obtain⟨oa,oc,rfl⟩:=bO dY;have⟨HOW,HE⟩:=aJ dY hE;clear dY hE;have hcz:=Eh cur;by_cases bY:k<s.size
  · have pM:=Z3 (M.PH bY);by_cases hsp:((s[k]).toNat:Int)=32
    · go_wp2_with (refine az Fe rfl (.tmp 17) (.tmp 19) rfl w.heap.size (.slice oa ps.length oc) ps.length (ps.flatMap jB) rfl (aA (D:=fun _=>False) HOW.o (Kp.rr.alloc _) fun _ _ _ x=>x) wr.heap.size 1 (jB (M.bs cur)) rfl rfl (ae.fB _ _ rfl) (AZ _) Wg (by have:=HE.o.size;simp;omega) ?_;rintro g9 c9 w9 pO fM wW);have nk:Ext w w9:=Kp.own (HE.o.alloc _) fM (fun b hb=>(lq HOW.o hb).1);go_round
      case rel=>
       refine⟨k+1,[],ps++[M.bs cur],by omega,by go_num,rfl,by simp,by simp;omega,Z3 ?_,by simpa using pO,nk⟩;have h1:s[k]=32:=by
        apply UInt8.toNat_inj.1;simp;omega
       have h2:=HW.o;rw[pM.o,M.iq,if_pos h1]at h2;rw[←h2];simp[M.bs]
      case measure=>simp[intOf];omega
    · have hx:=M.abh s k bY;have Db:=Eh [s[k]];simp only[List.length_singleton]at Db;go_wp2_with fail;go_round
      case rel=>
       refine⟨k+1,cur++[s[k]],ps,by omega,by go_num,by rw[M.abg],by simp;omega,by omega,Z3 ?_,HOW.o,HE.o⟩;have h1:s[k]≠32:=fun e=>hsp (by rw[e];rfl);have h2:=HW.o;rw[pM.o,M.iq,if_neg h1]at h2;exact h2
      case measure=>simp[intOf];omega
  · go_wp2_with (refine az Fe rfl (.tmp 28) (.tmp 30) rfl w.heap.size (.slice oa ps.length oc) ps.length (ps.flatMap jB) rfl (aA (D:=fun _=>False) HOW.o (Kp.rr.alloc _) fun _ _ _ x=>x) wr.heap.size 1 (jB (M.bs cur)) rfl rfl (ae.fB _ _ rfl) (AZ _) Wg (by have:=HE.o.size;simp;omega) ?_;rintro g9 c9 w9 pO fM wW);have nk:Ext w w9:=Kp.own (HE.o.alloc _) fM (fun b hb=>(lq HOW.o hb).1);go_ret;refine⟨⟨_,rfl,?_⟩,nk⟩;have qy:k=s.size:=by omega
    have h2:=HW.o;rw[qy,List.drop_of_length_le Wf,M.iq]at h2;have hw:M.words s=ps++[M.bs cur]:=by
     unfold M.words;rw[←h2,List.map_append,List.map_map];congr 1;exact List.map_id _
    rw[hw];have h3:=SliceOf.gH (R:=dP) (I:=fun b=>w.heap.size≤b∧b<w9.heap.size) jB (l:=ps++[M.bs cur]) pO Wf Wf (fun _ _=>rfl) (fun _ _=>rfl) (fun b h1 h2=>⟨h1,h2⟩) X2;simpa using h3
theorem ET:Ea 102 2:=⟨_,Tryz.underlying102,by kernel_rfl⟩
theorem ic:Ea 130 4:=⟨_,Tryz.underlying130,by kernel_rfl⟩
def ac7(m:Nat)(e:Ending):Prop:=∃k s b,e=.returned (.tuple #[.agg #[.int .i64 k,.string s],.bool b])∧s.size≤m
theorem xE(s:ByteArray)(w:World):Calls Tryz.prog 169 #[.string s] w fun e w'=>ac7 s.size e∧Ext w w':=by
 cases h1:(s.toList==[35])
 · cases h2:M.aT s
   · have HN:=fun W=>Z3 (di s W);simp only[h2]at HN;go_enter Tryz.func169,Tryz.ntmps169;go_wp2_with fail;refine(HN _).o.mono ?_;rintro e w1 ⟨rfl,rfl⟩;go_wp2_with fail;refine bodyPost_ret (au ET rfl _ _ w.heap.size rfl [.int .i64 0,.string ⟨#[]⟩] (ae.fB _ _ rfl) rfl) rfl ?_;exact⟨⟨_,_,_,rfl,Nat.zero_le _⟩,kx⟩
   · have HN:=fun W=>Z3 (di s W);simp only[h2]at HN;go_enter Tryz.func169,Tryz.ntmps169;go_wp2_with fail;refine(HN _).o.mono ?_;rintro e w1 ⟨rfl,rfl⟩;go_wp2_with fail;refine bodyPost_ret (au ET rfl _ _ w.heap.size rfl [.int .i64 2,.string s] (ae.fB _ _ rfl) rfl) rfl ?_;exact⟨⟨_,_,_,rfl,Nat.le_refl _⟩,kx⟩
 · go_enter Tryz.func169,Tryz.ntmps169;go_wp2_with fail;refine bodyPost_ret (au ET rfl _ _ w.heap.size rfl [.int .i64 1,.string ⟨#[]⟩] (ae.fB _ _ rfl) rfl) rfl ?_;exact⟨⟨_,_,_,rfl,Nat.zero_le _⟩,kx⟩
def abb(op:Int)(e:Ending):Prop:=∃b,e=.returned (.bool b)∧(b=true→1≤op∧op≤15)
theorem Sj(op a:Int)(n m:ByteArray)(w:World):Calls Tryz.prog 115 #[.agg #[.int .i64 op,.int .i64 a,.string n,.string m]] w fun e w'=>abb op e∧Ext w w':=by
 by_cases h:1≤op∧op≤15
 · go_enter Tryz.func115,Tryz.ntmps115;go_wp2_with (first
    |(go_at_call 75;refine(di _ _).mono ?_;rintro e w' ⟨rfl,rfl⟩)
    |(go_at_call 29;refine(lT _ _ _ _).mono ?_;rintro e w' ⟨rfl,rfl⟩))
   all_goals
    go_ret;exact⟨⟨_,rfl,fun _=>h⟩,kx⟩
 · have hk:∀k:Int,1≤k→k≤15→(op==k)=false:=fun k h1 h2=>beq_eq_false_iff_ne.2 Wg;have k1:=hk 1 Wg Wg;have k2:=hk 2 Wg Wg;have k3:=hk 3 Wg Wg;have k4:=hk 4 Wg Wg;have k5:=hk 5 Wg Wg;have k6:=hk 6 Wg Wg;have k7:=hk 7 Wg Wg;have k8:=hk 8 Wg Wg;have k9:=hk 9 Wg Wg;have k10:=hk 10 Wg Wg;have k11:=hk 11 Wg Wg;have k12:=hk 12 Wg Wg;have k13:=hk 13 Wg Wg;have k14:=hk 14 Wg Wg;have k15:=hk 15 Wg Wg;clear hk;go_enter Tryz.func115,Tryz.ntmps115;go_wp2_with fail
   all_goals
    go_ret;exact⟨⟨_,rfl,fun e=>by simp at e⟩,kx⟩
theorem Dt(op:Nat)(h:op≤15)(w:World):Calls Tryz.prog 116 #[.int .i64 op] w fun e w'=>PW 4 e∧Ext w w':=by
 go_enter Tryz.func116,Tryz.ntmps116;have hb:ay (w.alloc (.cells #[.string ⟨#[]⟩,.string ⟨#[110,117,109]⟩,.string ⟨#[116,97,107,101]⟩,.string ⟨#[112,117,116]⟩,.string ⟨#[97,100,100]⟩,.string ⟨#[110,117,108,108]⟩,.string ⟨#[110,101,119]⟩,.string ⟨#[103,101,116]⟩,.string ⟨#[115,101,116]⟩,.string ⟨#[99,97,108,108]⟩,.string ⟨#[114,101,116]⟩,.string ⟨#[122,101,114,111]⟩,.string ⟨#[110,105,108]⟩,.string ⟨#[103,111]⟩,.string ⟨#[111,117,116]⟩,.string ⟨#[99,97,115,116]⟩] 9)) w.heap.size 9 _:=ay.new w 9 _;obtain⟨x,hx,hz⟩:∃x:ByteArray,(w.alloc (.cells #[.string ⟨#[]⟩,.string ⟨#[110,117,109]⟩,.string ⟨#[116,97,107,101]⟩,.string ⟨#[112,117,116]⟩,.string ⟨#[97,100,100]⟩,.string ⟨#[110,117,108,108]⟩,.string ⟨#[110,101,119]⟩,.string ⟨#[103,101,116]⟩,.string ⟨#[115,101,116]⟩,.string ⟨#[99,97,108,108]⟩,.string ⟨#[114,101,116]⟩,.string ⟨#[122,101,114,111]⟩,.string ⟨#[110,105,108]⟩,.string ⟨#[103,111]⟩,.string ⟨#[111,117,116]⟩,.string ⟨#[99,97,115,116]⟩] 9)).cell? ⟨w.heap.size,op,none⟩=some (.string x)∧x.size≤4:=by
  have hc:=hb.cell op;have:op=0∨op=1∨op=2∨op=3∨op=4∨op=5∨op=6∨op=7∨op=8∨op=9∨op=10∨op=11∨op=12∨op=13∨op=14∨op=15:=by omega
  rcases this with rfl|rfl|rfl|rfl|rfl|rfl|rfl|rfl|rfl|rfl|rfl|rfl|rfl|rfl|rfl|rfl<;>exact⟨_,hc,by decide⟩
 have hxz:=aF hx;clear hb;go_wp2_with fail;go_ret;exact⟨⟨_,rfl,hz⟩,kx⟩
theorem mO(op a:Int)(n m:ByteArray)(w:World)(ha: -100000≤a∧a≤100000)(hn:n.size≤1000)(hm:m.size≤1000):
    Calls Tryz.prog 80 #[.agg #[.int .i64 op,.int .i64 a,.string n,.string m]] w fun e w'=>PW 20000 e∧Ext w w':=by
 obtain⟨UY,LP⟩:=ha;have hN:∀W,Calls Tryz.prog 117 #[.int .i64 a] W fun e W'=>PW 11200 e∧Ext W W':=fun W=>(Pw a W Wg Wg).mono (by
  rintro e w' ⟨⟨t,rfl, -,ht⟩,hE⟩;exact⟨⟨_,rfl,by omega⟩,hE⟩)
 have HN:=Z3 hN;clear hN;go_enter Tryz.func80,Tryz.ntmps80;go_wp2_with fail;refine(Sj op a n m _).mono ?_;rintro e w1 ⟨⟨b,rfl,fF⟩,bH⟩;have eQ:=Z3 bH;clear bH;cases b
 · go_wp2_with fail;go_ret;exact⟨⟨_,rfl,Nat.zero_le _⟩,ZS⟩
 · have vZ:=(ay.new w 130 #[.int .i64 op,.int .i64 a,.string n,.string m]).ext eQ.o;obtain⟨h1,h2⟩:=fF rfl;obtain⟨k,rfl⟩:∃k:Nat,op=k:=⟨op.toNat,by omega⟩;have hk:k=1∨k=2∨k=3∨k=4∨k=5∨k=6∨k=7∨k=8∨k=9∨k=10∨k=11∨k=12∨k=13∨k=14∨k=15:=by omega
   have c0:=vZ.c 0 (.int .i64 k) rfl;have tL:=Z3 vZ;clear vZ;go_wp2_with fail;refine(Dt k Wg _).mono ?_;rintro e w2 ⟨⟨t,rfl,ht⟩,bZ⟩;have gL:=Z3 (eQ.o.trans bZ);have hz:(ByteArray.mk #[32]).size=1:=rfl;have nM:=tL.o.ext bZ;clear bZ eQ c0 fF h1 h2;obtain⟨-,c0,c1,c2,c3, -⟩:=nM.ca;clear nM tL;rcases hk with rfl|rfl|rfl|rfl|rfl|rfl|rfl|rfl|rfl|rfl|rfl|rfl|rfl|rfl|rfl
   all_goals
    go_wp2_with (go_at_call 117;refine(HN.o _).mono ?_;rintro e w3 ⟨⟨x,rfl,hx⟩,dK⟩);go_ret;refine⟨⟨_,rfl,by first|omega|(simp only[ByteArray.size_append,hz];omega)⟩,?_⟩;have:=gL.o;exact ZS
structure iN(C:World→Prop)(T:Type)(f:T→World):Prop where
 aW:∀s,C (f s)
 o:∀W,C W→∃s,W=f s
theorem iN.ex(C:World→Prop)(w:World)(h:C w):∃(T:Type) (f:T→World),Nonempty T∧iN C T f:=⟨{W:World // C W},Subtype.val,⟨⟨w,h⟩⟩,fun s=>s.2,fun W h=>⟨⟨W,h⟩,rfl⟩⟩
theorem Sb{P:Program}{id:Nat}{Q:Exit→Act→World→Prop}{a:Act}{w:World}{l:List Oper}{T:Type}(f:T→World)(h0:∃s,w.drew=f s)(hm:P.follows .mixedOrders=true)(hB:Region.lexB .any l.toArray=true)
    (h:wpQuiet P l.toArray (fun w'=>∃s,w'=f s) (fun a'=>∀w',(∃s,w'=f s)→Q .normal a' w') l a):(Code.region id l.toArray true).wp P Q a w:=
 wp_region_quiet (C:=fun w'=>∃s,w'=f s) hm hB h0 (by simpa using h)
theorem qn{P:Program}{ops:Array Oper}{C:World→Prop}{K A:Act→Prop}{a:Act}(hK:∀a',A a'→K a')(h:A a):wpQuiet P ops C K [] a:=wpQuiet_nil (hK _ h)
theorem Gj{P:Program}{ops:Array Oper}{C:World→Prop}{K A B:Act→Prop}{a:Act}(hK:∀a',A a'→B a'→K a')(h:A a)(h2:B a):wpQuiet P ops C K [] a:=wpQuiet_nil (hK _ h h2)
theorem kk{C:World→Prop}{T:Type}{f:T→World}{K2 R:Act→World→Prop}{a:Act}{w:World}(H:Zs (iN C T f))(ag:∀a'' w',(∃s,w'=f s)→R a'' w'→K2 a'' w')(h:C w)(h2:R a w):K2 a w:=ag _ _ (H.o.o _ h) h2
theorem Hb{P:Program}{id:Nat}{Q:Exit→Act→World→Prop}{a:Act}{w:World}{l:List Oper}{C:World→Prop}{T:Type}{f:T→World}(H:Zs (iN C T f))(h0:C w.drew)
    (h:wpQuiet P l.toArray (fun w'=>∃s,w'=f s) (fun a'=>∀w',(∃s,w'=f s)→Q .normal a' w') l a) (hm:P.follows .mixedOrders=true:=by kernel_rfl) (hB:Region.lexB .any l.toArray=true:=by kernel_rfl):(Code.region id l.toArray true).wp P Q a w:=
 Sb f (H.o.o _ h0) hm hB h
def Cq(o:Oper):Bool:=
 match o.op with
 | .move _| .assign _| .load _ _| .fieldAddr _ _ _| .indexAddr _ _ _| .binOp _ _ _ _ _| .unOp _ _ _| .field _ _ _| .build _ _| .extract _ _| .slice _ _ _ _ _| .nilCheck _| .index _ _ _| .pick _ _ _=>true
 | .call c=>(match c.callee with| .builtin .len=>true|_=>false)
 |_=>false
theorem MH{P:Program}{w w':World}{s:Sem Value}{f:FuncId}{args:Array Value}:Sem.run P (do pure (Next.value (←s)):Sem Next) w≠ .ok (.enter f args) w':=by
 simp only[Sem.run_bind];cases Sem.run P s w<;>simp[Result.andThen]
theorem nH{α:Type}{P:Program}{w w':World}{s:Sem α}{k:α→Sem Next}{f:FuncId}{args:Array Value}(h:∀x w1,Sem.run P (k x) w1≠ .ok (.enter f args) w'):Sem.run P (s>>= k) w≠ .ok (.enter f args) w':=by
 rw[Sem.run_bind];cases Sem.run P s w with
 |ok x w1=>exact h x w1
 |halt _ _=>simp[Result.andThen]
theorem Kj{P:Program}{o:Oper}(h:Cq o=true)(a:Act)(w w':World)(f:FuncId)(args:Array Value):(execOp a.eval o).run P w≠ .ok (.enter f args) w':=by
 unfold Cq at h;unfold execOp;split at h
 any_goals (rename_i he;simp only[he];first|exact MH|(simp;done))
 case h_12=>
  rename_i he;simp only[he];split
  any_goals (first|(simp;done)|(simp[runtimePanic];done))
  split
  any_goals (first|(simp;done)|(simp[runtimePanic];done))
  refine nH fun _ _=>nH fun _ _=>?_;split
  · refine nH fun _ _=>?_;simp
  · simp
 case h_14=>
  rename_i he;simp only[he];refine nH fun _ _=>?_;simp
 case h_15=>
  rename_i c he;simp only[he];split at h
  · rename_i hc;simp only[resolve,hc,Sem.run_bind,Sem.run_pure,Result.andThen_ok,invoke,builtin];cases Sem.run P (Builtin.len_ c.argTypes o.type (Array.map a.eval c.args)) w<;>simp[Result.andThen]
  · cases h
 case h_16=>cases h
section
variable {P:Program} {ops:Array Oper} {md:Region.Mode} {Q:Exit→Act→World→Prop} {C:World→Prop} {n:Nat}
def ib(P:Program)(ops:Array Oper)(C:World→Prop)(o:Oper)(v:Value)(a:Act):Prop:=
 (Region.wanted o (yielded ops a.tmps)=true∧∀w,C w→(execOp a.eval o).run P w=.ok (.value v) w∨((execOp a.eval o).run P w=.ok .skip w∧v=undef))∨
 (Region.wanted o (yielded ops a.tmps)=false∧v=undef)
theorem tK{o:Oper}{a:Act}{K:Act→Prop}(hp:Cq o=true)(h:if Region.wanted o (yielded ops a.tmps)then o.quiet P a C K else K (a.put o.dst undef)):∃v,ib P ops C o v a∧K (a.put o.dst v):=by
 cases hw:Region.wanted o (yielded ops a.tmps)
 · rw[hw]at h;exact⟨undef,.inr ⟨hw,rfl⟩,by simpa using h⟩
 · rw[hw]at h;obtain⟨v,h1,h2⟩:o.quiet P a C K:=by simpa using h
   refine⟨v,.inl ⟨hw,fun w hw'=>?_⟩,h2⟩;have h3:=h1 w hw';unfold Oper.quietAt at h3;generalize hr:(execOp a.eval o).run P w=r at h3;unfold Oper.quietUpon at h3;split at h3
   · obtain⟨rfl,rfl⟩:=h3;exact .inl rfl
   · obtain⟨rfl,rfl⟩:=h3;exact .inr ⟨rfl,rfl⟩
   · exact absurd hr (Kj hp a _ _ _ _)
   · exact h3.elim
theorem ib.wpOp{i:Nat}{o:Oper}{v:Value}{a:Act}(hi:ops[i]?=some o)(hy:ib P ops C o v a){K:Act→World→Prop}{w:World}(hC:C w)(h:K (a.put o.dst v) w):wpOp P ops Q i K a w:=by
 unfold Go.wpOp;simp only[hi];rcases hy with⟨hw,hv⟩|⟨hw,rfl⟩
 · simp only[hw,if_true];rcases hv w hC with e|⟨e,rfl⟩
   · simp only[Oper.wp,e,Oper.upon];exact .inl h
   · simp only[Oper.wp,e,Oper.upon];exact .inl h
 · simp only[hw,Bool.false_eq_true,if_false];exact h
theorem ib.of_same{o:Oper}{v:Value}{a a':Act}(hy:ib P ops C o v a)(he:execOp a'.eval o=execOp a.eval o)
    (hw:Region.wanted o (yielded ops a'.tmps)=Region.wanted o (yielded ops a.tmps)):ib P ops C o v a':=by
 unfold ib at*;rw[he,hw];exact hy
theorem SF{j:Nat}{oi oj:Oper}{v:Value}(hj:ops[j]?=some oj)(hap:oi.apart ops oj=true)
    (hsi:∀cs b,oi.op≠ .select cs b) (hsj:∀cs b,oj.op≠ .select cs b)
    (hQ:∀c a w,Q (.panic c) (a.put oi.dst v) w→Q (.panic c) a w) {K:Act→World→Prop} {a:Act} {w:World}
    (hy:ib P ops C oi v a) (h:wpOp P ops Q j K (a.put oi.dst v) w):
    wpOp P ops Q j (fun a' w'=>ib P ops C oi v a'∧K (a'.put oi.dst v) w') a w:=by
 obtain⟨h1,h2,h3⟩:=Oper.apart_spec hap;have keep:∀(a:Act),ib P ops C oi v a→∀u,ib P ops C oi v (a.put oj.dst u):=fun a hy u=>
  hy.of_same (execOp_put oi hsi a oj.dst u h3) (wanted_put oi a oj.dst u h3)
 have keepD:∀d,ib P ops C oi v {a with defers:=d::a.defers}:=fun d=>hy.of_same rfl rfl;unfold wpOp at*;simp only[hj]at*;rw[wanted_put oj a oi.dst v h1]at h;split
 · rename_i hw;simp only[hw,if_true]at h;rcases h with h|⟨Z4,ael⟩
   case inr=>exact .inr ⟨by unfold Oper.asks at*;rw[execOp_put oj hsj a oi.dst v h1]at Z4;exact Z4,ael⟩
   refine .inl ?_;unfold Oper.wp at*;rw[execOp_put oj hsj a oi.dst v h1]at h;generalize (execOp a.eval oj).run P w=r at*;cases r with
   | ok n w' =>
    cases n<;>simp only[Oper.upon]at h ⊢
    case value u=>exact⟨keep a hy u,by rw[←Act.put_comm a v u h2];exact h⟩
    case skip=>exact⟨keep a hy _,by rw[←Act.put_comm a v undef h2];exact h⟩
    case defer d=>
     refine⟨keep _ (keepD d) _,?_⟩;rw[←Act.put_comm _ v undef h2,←Act.put_defers];exact h
    case enter f args=>
     refine Calls.mono h fun e w'' he=>?_;cases e with
     |returned u=>exact⟨keep a hy u,by rw[←Act.put_comm a v u h2];exact he⟩
     |panicked c=>exact hQ _ _ _ he
     |outgrown=>exact he
    case row row args=>exact Rows.mono h fun u w'' he=>⟨keep a hy u,by rw[←Act.put_comm a v u h2];exact he⟩
   |halt x w'=>
    cases x<;>simp only[Oper.upon]at h ⊢
    case panic u=>exact hQ _ _ _ h
 · rename_i hw;simp only[hw]at h;exact⟨keep a hy _,by rw[←Act.put_comm a v undef h2];exact h⟩
def rV(P:Program)(md:Region.Mode)(ops:Array Oper)(n:Nat)(C:World→Prop)(Q:Exit→Act→World→Prop):Nat→Array Bool→Act→World→Prop
 |0,listed,a,w=>Region.ready md ops listed=[]∧Q .normal a w
 |fuel+1,listed,a,w=>
  (Region.ready md ops listed=[]→Q .normal a w)∧
  ∀i∈Region.ready md ops listed,wpOp P ops Q i (fun a' w'=>(i<n→C w')∧rV P md ops n C Q fuel (listed.setIfInBounds i true) a' w') a w
theorem zO:∀(fuel:Nat) (listed:Array Bool) (a:Act) (w:World),rV P md ops n C Q fuel listed a w→wpAny P md ops Q fuel listed a w
 |0,_,_,_,h=>h
 |fuel+1,_,_,_,h=>⟨h.1,fun i hi=>wpOp_mono (fun a' w' h'=>zO fuel _ a' w' h'.2) (h.2 i hi)⟩
theorem KF {i : Nat} {oi : Oper} {v : Value} (hi : ops[i]? = some oi) (Vl : ∀ (j : Nat) (o : Oper) cs b, ops[j]? = some o → o.op ≠ .select cs b)
    (hQ:∀c a w,Q (.panic c) (a.put oi.dst v) w→Q (.panic c) a w) (Vn:∀j,n≤j→Region.waitsFor md ops j i=true∨ops[j]?=none):
    ∀(fuel:Nat) (listed:Array Bool) (a:Act) (w:World),
     (∀j oj,ops[j]?=some oj→j≠i→listed.getD j true=false→(∀e∈oj.after,Region.binds md e=true→e.on≠i)→oi.apart ops oj=true)→
     i∈Region.ready md ops listed→ib P ops C oi v a→C w→i<n→
     rV P md ops n C Q fuel (listed.setIfInBounds i true) (a.put oi.dst v) w→rV P md ops n C Q (fuel+1) listed a w:=by
 intro fuel;induction fuel with
 |zero=>
  intro listed a w _ hr hy hC DU H;refine⟨fun h=>(by rw[h]at hr;cases hr),fun j hj=>?_⟩;by_cases FB:j=i
  · subst FB;exact hy.wpOp hi hC ⟨fun _=>hC,H⟩
  · have:=ready_mono hj FB;rw[H.1]at this;cases this
 | succ fuel ih =>
  intro listed a w LV hr hy hC DU H;refine⟨fun h=>(by rw[h]at hr;cases hr),fun j hj=>?_⟩;by_cases FB:j=i
  · subst FB;exact hy.wpOp hi hC ⟨fun _=>hC,H⟩
  · have h1:=H.2 j (ready_mono hj FB);obtain⟨U5,oj,Tk,nW⟩:=mem_ready.1 hj;have Ve:∀e∈oj.after,Region.binds md e=true→e.on≠i:=fun e he hb heq=>by
     have h1:=nW e he hb;have h0:=(mem_ready.1 hr).1;rw[heq]at h1;rcases Nat.lt_or_ge i listed.size with h'|h'
     · simp[h']at h0 h1;rw[h0]at h1;cases h1
     · simp[Array.getElem?_eq_none h']at h1
    have hjn:j<n:=by
     rcases Nat.lt_or_ge j n with h|h
     · exact h
     · rcases Vn j h with hw|hw
       · obtain⟨oj',Vf,e,he,hb,heq⟩:=Region.waitsFor_spec hw;rw[Tk]at Vf;cases Vf;exact absurd heq (Ve e he hb)
       · rw[Tk]at hw;cases hw
    have h2:=SF Tk (LV j oj Tk FB U5 Ve) (fun cs b=>Vl i oi cs b hi) (fun cs b=>Vl j oj cs b Tk) hQ hy h1;have OD:∀k ok,ops[k]?=some ok→k≠i→(listed.setIfInBounds j true).getD k true=false→
        (∀e∈ok.after,Region.binds md e=true→e.on≠i)→oi.apart ops ok=true:=fun k ok hk hki G8 tO=>by
     refine LV k ok hk hki ?_ tO;by_cases Yv:j=k
     · subst Yv;exact U5
     · rw[getD_set_ne true Yv]at G8;exact G8
    refine wpOp_mono (fun a' w' h3=>⟨fun _=>h3.2.1 hjn,ih (listed.setIfInBounds j true) a' w' OD (ready_mono hr (Ne.symm FB)) h3.1 (h3.2.1 hjn) DU ?_⟩) h2;rw[Array.setIfInBounds_comm _ _ FB];exact h3.2.2
def Tt(md:Region.Mode)(ops:Array Oper)(n:Nat):List Nat→Array Bool→Option (Array Bool)
 |[],listed=>some listed
 |i::q,listed=>
  if decide (i<n)&&(Region.ready md ops listed).contains i&&Region.free md ops listed i&&((ops[i]?).map Cq).getD false then Tt md ops n q (listed.setIfInBounds i true)else none
def ME(md:Region.Mode)(ops:Array Oper)(n:Nat):List (List Nat×Nat)→List Nat→Array Bool→Bool
 |[],q,listed=>match Tt md ops n q listed with
  |some L=>Region.seqB md ops (ops.size - n) n L
  |none=>false
 |(q,i)::r,q',listed=>match Tt md ops n q listed with
  |some L=>decide (Region.ready md ops L=[i])&&decide (i<n)&&ME md ops n r q' (L.setIfInBounds i true)
  |none=>false
def costs:List (List Nat×Nat)→List Nat→Nat
 |[],q=>q.length
 |(q,_)::r,q'=>q.length+1+costs r q'
def A9(md:Region.Mode)(ops:Array Oper)(n:Nat):Bool:=(List.range ops.size).all fun j=>decide (j<n)|| (List.range n).all fun i=>Region.waitsFor md ops j i
def Fp(ops:Array Oper)(n:Nat)(lS:List (List Nat×Nat))(q:List Nat):Bool:=
 Region.noSelect ops&&A9 .any ops n&&decide (costs lS q=n)&&decide (n≤ops.size)&&ME .any ops n lS q (Array.replicate ops.size false)
def oU(P:Program)(l:List Oper)(C:World→Prop)(Q:Exit→Act→World→Prop)(fin:Act→World→Prop):List (List Nat×Nat)→List Nat→Act→World→Prop
 |[],q,a,w=>wpQuiet P l.toArray C (fun a'=>fin a' w) (q.filterMap (l[·]?)) a
 |(q,i)::r,q',a,w=>wpQuiet P l.toArray C (fun a'=>wpList P l.toArray (Exit.then (fun a'' w'=>C w'∧oU P l C Q fin r q' a'' w') Q) (l[i]?).toList a' w) (q.filterMap (l[·]?)) a
theorem Je(h:A9 md ops n=true){i:Nat}(hi:i<n)(j:Nat)(hj:n≤j):Region.waitsFor md ops j i=true∨ops[j]?=none:=by
 rcases Nat.lt_or_ge j ops.size with bY|hge
 · unfold A9 at h;have h1:=List.all_eq_true.1 h j (List.mem_range.2 bY);simp only[Bool.or_eq_true,decide_eq_true_eq,List.all_eq_true]at h1;rcases h1 with h1|h1
   · omega
   · exact .inl (h1 i (List.mem_range.2 hi))
 · exact .inr (Array.getElem?_eq_none hge)
theorem mM{l:List Oper}(hs:Region.noSelect l.toArray=true)(ht:A9 md l.toArray n=true)(hQ:∀c a d v w,Q (.panic c) (a.put d v) w→Q (.panic c) a w){K:Act→Prop}{w:World}(hC:C w)(fuel:Nat)(L:Array Bool)
    (hK:∀a',K a'→rV P md l.toArray n C Q fuel L a' w):∀(q:List Nat) (listed:Array Bool) (a:Act),Tt md l.toArray n q listed=some L→
    wpQuiet P l.toArray C K (q.filterMap (l[·]?)) a→rV P md l.toArray n C Q (fuel+q.length) listed a w
 |[],listed,a,ho,h=>by
  simp only[Tt,Option.some.injEq]at ho;subst ho;exact hK a h
 | i :: q, listed, a, ho, h => by
  unfold Tt at ho;split at ho
  · rename_i hb;simp only[Bool.and_eq_true,decide_eq_true_eq]at hb;obtain⟨⟨⟨h1,h2⟩,h3⟩,h4⟩:=hb;cases Hz:l[i]? with
    |none=>simp[Hz]at h4
    |some o=>
     have FD:l.toArray[i]?=some o:=by simpa using Hz
     have hp:Cq o=true:=by simpa [Hz]using h4
     rw[List.filterMap_cons,Hz]at h;simp only[wpQuiet]at h;obtain⟨v,hy,hk⟩:=tK hp h;have:=mM hs ht hQ hC fuel L hK q _ _ ho hk;exact KF FD (Region.noSelect_spec hs) (fun c a w=>hQ c a _ _ w) (Je ht h1) _ _ _ _ (Region.free_spec FD h3) (by simpa using h2) hy hC h1 this
  · cases ho
theorem zL{l:List Oper}:∀(t:List Oper) (k:Nat) (listed:Array Bool) (a:Act) (w:World),n≤k→(∀j,t[j]?=l[k+j]?)→
    Region.seqB md l.toArray t.length k listed=true→wpList P l.toArray Q t a w→rV P md l.toArray n C Q t.length listed a w
 |[],_,_,_,_,_,_,hB,h=>⟨by simpa [Region.seqB]using hB,h⟩
 |o::t,k,listed,a,w,hk,hl,hB,h=>by
  have h0:l.toArray[k]?=some o:=by simpa using(hl 0).symm
  simp only[List.length_cons,Region.seqB,Bool.and_eq_true,decide_eq_true_eq]at hB;refine⟨fun h1=>(by rw[hB.1]at h1;cases h1),fun i hi=>?_⟩;rw[hB.1]at hi;have hik:i=k:=by simpa using hi
  subst hik;have hw:wpOp P l.toArray Q i (wpList P l.toArray Q t) a w:=by unfold wpOp;simp only[h0];exact h
  exact wpOp_mono (fun a' w' h'=>⟨fun bY=>absurd bY (Nat.not_lt.2 hk),zL t (i+1) _ a' w' Wg (fun j=>by have:=hl (j+1);simpa [Nat.add_assoc,Nat.add_comm 1 j]using this) hB.2 h'⟩) hw
theorem QG{o:Oper}{a:Act}{w:World}{next K:Act→World→Prop}(h:o.wp P a w next (Exit.then K Q)):o.wp P a w next Q:=by
 unfold Oper.wp at*;generalize (execOp a.eval o).run P w=r at*;cases r with
 | ok n w' =>
  cases n<;>simp only[Oper.upon]at h ⊢
  case value u=>exact h
  case skip=>exact h
  case defer d=>exact h
  case enter f args=>
   refine Calls.mono h fun e w'' he=>?_;cases e with
   |returned u=>exact he
   |panicked c=>exact he
   |outgrown=>exact he
  case row row args=>exact h
 |halt x w'=>
  cases x<;>simp only[Oper.upon]at h ⊢
  case panic u=>exact h
theorem I8{l:List Oper}(hs:Region.noSelect l.toArray=true)(ht:A9 md l.toArray n=true)(hQ:∀c a d v w,Q (.panic c) (a.put d v) w→Q (.panic c) a w)(hn:n≤l.length):∀(lS:List (List Nat×Nat)) (q':List Nat) (listed:Array Bool) (a:Act) (w:World),C w→
    ME md l.toArray n lS q' listed=true→oU P l C Q (fun a' w'=>wpList P l.toArray Q (l.drop n) a' w') lS q' a w→rV P md l.toArray n C Q ((l.length - n)+costs lS q') listed a w
 |[],q',listed,a,w,hC,hB,h=>by
  unfold ME at hB;split at hB
  · rename_i L hL;refine mM hs ht hQ hC _ L (fun a' hk=>?_) q' listed a hL h;have:=zL (md:=md) (C:=C) (l:=l) (l.drop n) n L a' w (Nat.le_refl _) (fun j=>by simp[List.getElem?_drop]) (by simpa using hB) hk;simpa using this
  · cases hB
 | (q, i) :: r, q', listed, a, w, hC, hB, h => by
  unfold ME at hB;split at hB
  · rename_i L hL;simp only[Bool.and_eq_true,decide_eq_true_eq]at hB;obtain⟨⟨hr,DU⟩,hB⟩:=hB;have e:l.length - n+costs ((q,i)::r) q'=((l.length - n+costs r q')+1)+q.length:=by simp[costs];omega
    rw[e];refine mM hs ht hQ hC _ L (fun a' hk=>?_) q listed a hL h;refine⟨fun h1=>(by rw[hr]at h1;cases h1),fun j hj=>?_⟩;rw[hr]at hj;have FB:j=i:=by simpa using hj
    subst FB;cases Hz:l[j]? with
    |none=>
     exfalso;have:j∈Region.ready md l.toArray L:=by rw[hr];simp
     obtain⟨_,o,ho,_⟩:=mem_ready.1 this;simp[Hz]at ho
    | some o =>
     rw[Hz]at hk;simp only[Option.toList,wpList]at hk;unfold wpOp;have FD:l.toArray[j]?=some o:=by simpa using Hz
     simp only[FD];have step:∀a'' w',C w'∧oU P l C Q (fun a' w'=>wpList P l.toArray Q (l.drop n) a' w') r q' a'' w'→(j<n→C w')∧rV P md l.toArray n C Q (l.length - n+costs r q') (L.setIfInBounds j true) a'' w':=
      fun a'' w' h3=>⟨fun _=>h3.1,I8 hs ht hQ hn r q' _ a'' w' h3.1 hB h3.2⟩
     split
     · rename_i hw;rw[if_pos hw]at hk;rcases hk with hk|hk
       · left;exact Oper.wp_mono (fun a'' w' h'=>step a'' w' h') (QG hk)
       · right;exact hk
     · rename_i hw;rw[if_neg hw]at hk;exact step _ _ hk
  · cases hB
end
theorem SE{P:Program}{l:List Oper}{C:World→Prop}{Q:Exit→Act→World→Prop}{fin:Act→World→Prop}{q:List Nat}{a:Act}{w:World}{qs:List Oper}(he:q.filterMap (l[·]?)=qs)
    (h:∀K:Act→Prop,(∀a',fin a' w→K a')→wpQuiet P l.toArray C K qs a):oU P l C Q fin [] q a w:=by
 subst he;exact h _ fun _ h=>h
theorem PL{P:Program}{l:List Oper}{C:World→Prop}{Q:Exit→Act→World→Prop}{fin:Act→World→Prop}{q:List Nat}{i:Nat}{r:List (List Nat×Nat)}{q':List Nat}{a:Act}{w:World}{qs os:List Oper}(he:q.filterMap (l[·]?)=qs)(ho:(l[i]?).toList=os)
    (h:∀K:Act→Prop,(∀a',(∀K2:Act→World→Prop,(∀a'' w',C w'→oU P l C Q fin r q' a'' w'→K2 a'' w')→wpList P l.toArray (Exit.then K2 Q) os a' w)→K a')→wpQuiet P l.toArray C K qs a):oU P l C Q fin ((q,i)::r) q' a w:=by
 subst he ho;refine h _ fun a' h2=>?_;exact h2 _ fun _ _ h3 h4=>⟨h3,h4⟩
theorem uR{P:Program}{id:Nat}{Q:Exit→Act→World→Prop}{a:Act}{w:World}{l:List Oper}{T:Type}(f:T→World)(n:Nat)(lS:List (List Nat×Nat))(q:List Nat)(h0:∃s,w.drew=f s)(hm:P.follows .mixedOrders=true)(hB:Fp l.toArray n lS q=true)
    (hQ:∀c a d v w,Q (.panic c) (a.put d v) w→Q (.panic c) a w)
    (h:oU P l (fun w'=>∃s,w'=f s) Q (fun a' w'=>wpList P l.toArray Q (l.drop n) a' w') lS q a w.drew):(Code.region id l.toArray true).wp P Q a w:=by
 unfold Fp at hB;simp only[Bool.and_eq_true,decide_eq_true_eq]at hB;obtain⟨⟨⟨⟨h1,h2⟩,h3⟩,h4⟩,h5⟩:=hB;refine wp_region_any hm (zO (C:=fun w'=>∃s,w'=f s) (n:=n) _ _ _ _ ?_);have:=I8 (C:=fun w'=>∃s,w'=f s) (md:=.any) h1 h2 hQ (by simpa using h4) lS q _ a w.drew h0 h5 h;have e:l.length - n+costs lS q=l.toArray.size:=by
  have:n≤l.length:=by simpa using h4
  simp;omega
 rw[e]at this;exact this
section
variable {P:Program} {l:List Oper} {C:World→Prop} {Q:Exit→Act→World→Prop} {fin:Act→World→Prop} {q:List Nat} {i j:Nat} {q':List Nat} {r:List (List Nat×Nat)} {a:Act} {w:World} {o o2:Oper}
theorem rQ(qs:List Oper)(he:q.filterMap (l[·]?)=qs)(ho:(l[i]?).toList=[o])(h:∀K:Act→Prop,(∀a',(∀K2:Act→World→Prop,(∀a'' w',C w'→oU P l C Q fin r q' a'' w'→K2 a'' w')→wpList P l.toArray (Exit.then K2 Q) [o] a' w)→K a')→wpQuiet P l.toArray C K qs a):oU P l C Q fin ((q,i)::r) q' a w:=PL he ho h
theorem gZ(ho:(l[i]?).toList=[o])(h:∀K2:Act→World→Prop,(∀a'' w',C w'→oU P l C Q fin r q' a'' w'→K2 a'' w')→wpList P l.toArray (Exit.then K2 Q) [o] a w):oU P l C Q fin (([],i)::r) q' a w:=rQ [] rfl ho fun _ hK=>qn hK h
theorem vI(qs:List Oper)(he:q.filterMap (l[·]?)=qs)(h:∀K:Act→Prop,(∀a',fin a' w→K a')→wpQuiet P l.toArray C K qs a):oU P l C Q fin [] q a w:=SE he h
theorem dW(h:fin a w):oU P l C Q fin [] [] a w:=vI [] rfl fun _ hK=>qn hK h
theorem I9{d:List Oper}{Q':Exit→Act→World→Prop}(qs:List Oper)(he:q.filterMap (l[·]?)=qs)(hd:d=[])(h:∀K:Act→Prop,(∀a',Q' .normal a' w→K a')→wpQuiet P l.toArray C K qs a):oU P l C Q (fun a' w'=>wpList P l.toArray Q' d a' w') [] q a w:=by
 subst hd;exact vI qs he h
theorem Kc{d:List Oper}{Q':Exit→Act→World→Prop}(hd:d=[])(h:Q' .normal a w):oU P l C Q (fun a' w'=>wpList P l.toArray Q' d a' w') [] [] a w:=I9 [] rfl hd fun _ hK=>qn hK h
end
theorem eO{P:Program}{id:Nat}{Q:Exit→Act→World→Prop}{a:Act}{w:World}{l:List Oper}{C:World→Prop}{T:Type}{f:T→World}(H:Zs (iN C T f))(n:Nat)(lS:List (List Nat×Nat))(q:List Nat)(h0:C w.drew)
    (h:oU P l (fun w'=>∃s,w'=f s) Q (fun a' w'=>wpList P l.toArray Q (l.drop n) a' w') lS q a w.drew) (hm:P.follows .mixedOrders=true:=by kernel_rfl) (hB:Fp l.toArray n lS q=true:=by kernel_rfl)
    (hQ:∀c a d v w,Q (.panic c) (a.put d v) w→Q (.panic c) a w:=by exact fun _ _ d _ _ h=>by cases d<;>exact h):(Code.region id l.toArray true).wp P Q a w:=uR f n lS q (H.o.o _ h0) hm hB hQ h
theorem iX{P G:Prop}(hX:G)(h:Zs G→P:=by(intro HX;(first|refine rQ [_] rfl rfl fun K hK=>?_|refine rQ [_,_] rfl rfl fun K hK=>?_|refine rQ [_,_,_] rfl rfl fun K hK=>?_|refine rQ [_,_,_,_] rfl rfl fun K hK=>?_|refine rQ [_,_,_,_,_] rfl rfl fun K hK=>?_|refine rQ [_,_,_,_,_,_] rfl rfl fun K hK=>?_|refine rQ [_,_,_,_,_,_,_] rfl rfl fun K hK=>?_|refine rQ [_,_,_,_,_,_,_,_] rfl rfl fun K hK=>?_|refine rQ [_,_,_,_,_,_,_,_,_] rfl rfl fun K hK=>?_|refine rQ [_,_,_,_,_,_,_,_,_,_] rfl rfl fun K hK=>?_|refine rQ [_,_,_,_,_,_,_,_,_,_,_] rfl rfl fun K hK=>?_|refine rQ [_,_,_,_,_,_,_,_,_,_,_,_] rfl rfl fun K hK=>?_|refine rQ [_,_,_,_,_,_,_,_,_,_,_,_,_] rfl rfl fun K hK=>?_|refine rQ [_,_,_,_,_,_,_,_,_,_,_,_,_,_] rfl rfl fun K hK=>?_|refine rQ [_,_,_,_,_,_,_,_,_,_,_,_,_,_,_] rfl rfl fun K hK=>?_|refine rQ [_,_,_,_,_,_,_,_,_,_,_,_,_,_,_,_] rfl rfl fun K hK=>?_|refine rQ [_,_,_,_,_,_,_,_,_,_,_,_,_,_,_,_,_] rfl rfl fun K hK=>?_|refine rQ [_,_,_,_,_,_,_,_,_,_,_,_,_,_,_,_,_,_] rfl rfl fun K hK=>?_|refine rQ [_,_,_,_,_,_,_,_,_,_,_,_,_,_,_,_,_,_,_] rfl rfl fun K hK=>?_|refine rQ [_,_,_,_,_,_,_,_,_,_,_,_,_,_,_,_,_,_,_,_] rfl rfl fun K hK=>?_);(repeat (go_big_quiet_step (fail)));exact qn hK HX.o)):P:=h (Z3 hX)
theorem qa{P G:Prop}(hX:G)(h:Zs G→P:=by(intro HX;(first|refine I9 [_] rfl rfl fun K hK=>?_|refine I9 [_,_] rfl rfl fun K hK=>?_|refine I9 [_,_,_] rfl rfl fun K hK=>?_|refine I9 [_,_,_,_] rfl rfl fun K hK=>?_|refine I9 [_,_,_,_,_] rfl rfl fun K hK=>?_);(repeat (go_big_quiet_step (fail)));exact qn hK HX.o)):P:=h (Z3 hX)
end Go.Proofs.YtkmclfpjpajjeaaGreat
namespace Go.Proofs.YtkmclfpjpajjeaaGreat
open Go Go.RowKit
namespace M
theorem Ut:∀(l cur:List UInt8),∀x∈iq cur l,x.length≤cur.length+l.length
 |[],cur,x,h=>by simp[iq]at h;subst h;simp
 |c::r,cur,x,h=>by
  rw[iq]at h;split at h
  · rcases List.mem_cons.1 h with rfl|h
    · omega
    · have:=Ut r [] x h;simp at this ⊢;omega
  · have:=Ut r _ x h;simp at this ⊢;omega
theorem Nc{s x:ByteArray}(h:x∈words s):x.size≤s.size:=by
 unfold words at h;obtain⟨l,hl,rfl⟩:=List.mem_map.1 h;have:=Ut s.data.toList [] l hl;have e:(bs l).size=l.length:=by simp[bs,ByteArray.size]
 have e2:s.data.toList.length=s.size:=by simp
 simp at this;omega
theorem GJ(s:ByteArray):∃x r,words s=x::r:=by
 cases h:words s with
 |nil=>exact absurd (by simpa [words]using h) (PG s.data.toList [])
 |cons x r=>exact⟨x,r,rfl⟩
end M
theorem dP.at_{w:World}{I:Nat→Prop}{a:Option Addr}{n c:Nat}{xs:List ByteArray}{i:Nat}{x:ByteArray}(h:SliceOf 1 dP w I (.slice a n c) xs)(hx:xs[i]?=some x):
    ∃b off,a=some ⟨b,off,none⟩∧w.cell? ⟨b,off+i,none⟩=some (.string x):=by
 obtain⟨b,off,cs,e, -,rfl, -,h0⟩:=h.get hx;exact⟨b,off,e,by simpa using h0.one⟩
theorem Kp.iW{D:Nat→Prop}{w:World}{b:Nat}(hD:D b)(v0 v1 v2 v3:Value):Kp D w ((((w.setCell ⟨b,0,none⟩ v0).setCell ⟨b,1,none⟩ v1).setCell ⟨b,2,none⟩ v2).setCell ⟨b,3,none⟩ v3):=
 (((((Kp.refl D w).setCell (p:=⟨b,0,none⟩) (fun _=>hD) v0).setCell (p:=⟨b,1,none⟩) (fun _=>hD) v1).setCell (p:=⟨b,2,none⟩) (fun _=>hD) v2).setCell (p:=⟨b,3,none⟩) (fun _=>hD) v3)
theorem ay.iW{w:World}{b:Nat}{t:TypeId}{u0 u1 u2 u3:Value}(h:ay w b t #[u0,u1,u2,u3])(v0 v1 v2 v3:Value):ay ((((w.setCell ⟨b,0,none⟩ v0).setCell ⟨b,1,none⟩ v1).setCell ⟨b,2,none⟩ v2).setCell ⟨b,3,none⟩ v3) b t #[v0,v1,v2,v3]:=by
 have h0:ay (w.setCell ⟨b,0,none⟩ v0) b t #[v0,u1,u2,u3]:=h.bE 0 v0;have h1:ay ((w.setCell ⟨b,0,none⟩ v0).setCell ⟨b,1,none⟩ v1) b t #[v0,v1,u2,u3]:=h0.bE 1 v1;have h2:ay (((w.setCell ⟨b,0,none⟩ v0).setCell ⟨b,1,none⟩ v1).setCell ⟨b,2,none⟩ v2) b t #[v0,v1,v2,u3]:=h1.bE 2 v2;exact h2.bE 3 v3
def TT(m:Nat)(e:Ending):Prop:=∃op a n k b,e=.returned (.tuple #[.agg #[.int .i64 op,.int .i64 a,.string n,.string k],.bool b])∧n.size≤m∧k.size≤m
theorem MV (s : ByteArray) (w : World) (hs : s.size ≤ 4000000000) : Calls Tryz.prog 139 #[.string s] w fun e w' => TT s.size e ∧ Ext w w' := by
 obtain⟨w0,bI,aU,hb⟩:=nu w #[.int .i64 0,.int .i64 0,.string ⟨#[]⟩,.string ⟨#[]⟩] 130;have⟨bM,HB,dO⟩:=bg aU hb bI;clear aU hb bI;go_enter Tryz.func139,Tryz.ntmps139;go_wp2_with fail;rw[←dO.o];refine(A8 s w0 hs).mono ?_;rintro e w1 ⟨⟨v,rfl,hS⟩,bH⟩;obtain⟨a,cap,rfl,dm, -⟩:=hS.form;obtain⟨x0,r,hws⟩:=M.GJ s;have Lc:Zs (∀x∈M.words s,x.size≤s.size):=Z3 (fun x hx=>M.Nc hx);rw[hws]at hS dm Lc ⊢;obtain⟨b,off,rfl,g0⟩:=dP.at_ (i:=0) hS rfl;rw[Nat.add_zero]at g0;obtain⟨n,hn⟩:∃n,(x0::r).length=n:=⟨_,rfl⟩;have mR:1≤n:=by rw[←hn];simp
 have HN:=Z3 hn;rw[hn]at dm hS ⊢;have⟨HS,tL,eQ⟩:=bg hS (HB.o.ext bH) (bM.o.trans bH);clear bH hS hn;go_wp2_with fail;go_loopw [5] (fun i wr=>∃k:Nat,1≤k∧k≤16∧i=.int .i64 k∧Ext w1 wr) (fun i _=>16 - (intOf i).toNat)
 case atStart=>exact⟨1,Nat.le_refl _,by omega,rfl,Kp.rr⟩
 case round =>
  obtain⟨k,k1,k16,rfl,hE⟩:=hrel;have gw:=hE.aD g0;have gz:=aF gw;have HE:=Z3 hE;clear hE;by_cases hk:k≤15
  · have qy : (k : Int) ≤ 15 := by omega
    obtain⟨T,f,dA,HT⟩:=iN.ex (fun W'=>Ext wr W') wr Kp.rr;have r0:=fun z=>(HT.aW z).aD gw;have aj:=Z3 HT;clear HT;go_wp2_with fail;(refine eO aj 6 [([0,2,3,4],1)] [5] ?_ ?_)
    · exact Kp.rr.drew
    refine iX ?_;intro K2 ag;go_wp2_with fail;refine(Dt k Wg _).mono ?_;rintro e w2 ⟨⟨t,rfl,ht⟩,bZ⟩;have gL:Zs (Ext wr w2):=Z3 (((Kp.refl _ wr).drew).trans bZ);clear bZ;cases hq:(t.toList==x0.toList)
    · go_wp2_with fail;(refine kk aj ag gL.o ?_);clear ag K2;refine qa ?_;go_wp2_with fail;go_round
      case rel=>exact⟨k+1,by omega,by omega,by go_num,HE.o.trans gL.o⟩
      case measure=>simp[intOf];omega
    · go_wp2_with fail;(refine kk aj ag gL.o ?_);clear ag K2;refine qa ?_;obtain⟨w3,jD⟩:∃w3,w3=w2.alloc (.cells #[.int .i64 k,.int .i64 0,.string ⟨#[]⟩,.string ⟨#[]⟩] 130):=⟨_,rfl⟩;have dK:Ext w2 w3:=by rw[jD];exact kx
      have Yg:Ext w1 w3:=(HE.o.trans gL.o).trans dK;have zY:Zs (ay w3 w2.heap.size 130 #[.int .i64 k,.int .i64 0,.string ⟨#[]⟩,.string ⟨#[]⟩]):=Z3 (by rw[jD];exact ay.new _ _ _);have⟨gN,jc,NV,mV⟩:=gD (tL.o.ext Yg) (eQ.o.trans Yg) (HS.o.ext dP.stays Yg) jD;have oV:w.heap.size≠w2.heap.size:=by have:=tL.o.lt;have:=(HE.o.trans gL.o).size;omega
      have hbn:b≠w2.heap.size:=by have:=gL.o.size;omega
      have HLT:Zs (w.heap.size<w2.heap.size):=Z3 (by have:=tL.o.lt;have:=(HE.o.trans gL.o).size;omega);clear dK Yg jD g0 gw gz HE gL tL eQ HS aj r0 hq ht;have QR:=Lc.o;rcases r with _|⟨x1,r⟩
      · have hn:n=1:=HN.o.symm;subst hn;clear QR;rw[mV.o]at gN zY jc;obtain⟨-,z0,z1,z2,z3, -⟩:=gN.o.ca;obtain⟨f0,f1,f2,f3, -⟩:=gN.o.fz;obtain⟨-,c0,c1,c2,c3, -⟩:=zY.o.ca;obtain⟨g0,g1,g2,g3, -⟩:=zY.o.fz;have zz:=gN.o.lt;have cz:=zY.o.lt;by_cases h30:(30:Int)<s.size
        · go_wp2_with fail;refine bodyPost_ret (au ic rfl _ _ w.heap.size rfl [.int .i64 0,.int .i64 0,.string ⟨#[]⟩,.string ⟨#[]⟩] (ae.gM (ay.iW gN.o _ _ _ _)) rfl) rfl ?_;exact⟨⟨_,_,_,_,_,rfl,Nat.zero_le _,Nat.zero_le _⟩,jc.o.own (Kp.iW (D:=(·=w.heap.size)) rfl _ _ _ _) (fun _ e=>by omega)⟩
        · have h31:s.size≤30:=by omega
          go_wp2_with fail;refine(mO k 0 ⟨#[]⟩ ⟨#[]⟩ _ Wg (Nat.zero_le _) (Nat.zero_le _)).mono ?_;rintro e w6 ⟨⟨y,rfl, -⟩,dC⟩;have⟨dL,zg,kH⟩:=bg (gN.o.ext dC) (zY.o.ext dC) (jc.o.trans dC);clear z0 z1 z2 z3 f0 f1 f2 f3 c0 c1 c2 c3 g0 g1 g2 g3 zz cz dC;obtain⟨-,z0,z1,z2,z3, -⟩:=dL.o.ca;obtain⟨f0,f1,f2,f3, -⟩:=dL.o.fz;obtain⟨-,c0,c1,c2,c3, -⟩:=zg.o.ca;have zz:=dL.o.lt;have cz:=zg.o.lt;cases pY:(y.toList==s.toList)
          · go_wp2_with fail;refine bodyPost_ret (au ic rfl _ _ w.heap.size rfl [.int .i64 0,.int .i64 0,.string ⟨#[]⟩,.string ⟨#[]⟩] (ae.gM (ay.iW dL.o _ _ _ _)) rfl) rfl ?_;exact⟨⟨_,_,_,_,_,rfl,Nat.zero_le _,Nat.zero_le _⟩,kH.o.own (Kp.iW (D:=(·=w.heap.size)) rfl _ _ _ _) (fun _ e=>by omega)⟩
          · go_wp2_with fail;refine bodyPost_ret (au ic rfl _ _ w.heap.size rfl [.int .i64 k,.int .i64 0,.string ⟨#[]⟩,.string ⟨#[]⟩] (ae.gM (ay.iW dL.o _ _ _ _)) rfl) rfl ?_;exact⟨⟨_,_,_,_,_,rfl,Nat.zero_le _,Nat.zero_le _⟩,kH.o.own (Kp.iW (D:=(·=w.heap.size)) rfl _ _ _ _) (fun _ e=>by omega)⟩
      · rcases r with _|⟨x2,r⟩
        · obtain⟨_,_,e1,g1⟩:=dP.at_ (i:=1) NV.o rfl;cases e1;have Er:x1.size≤s.size:=QR x1 Wf;have hn:n=2:=HN.o.symm;subst hn;have gz:=aF g1;clear QR NV;rw[mV.o]at gN zY jc g1 gz;go_wp2_with fail;refine(mP x1 _ Wg).mono ?_;rintro e w4 ⟨⟨m,ok,rfl, -,hm1,Rm⟩,dI⟩;have⟨kP,zZ,iG⟩:=bg (gN.o.ext dI) (zY.o.ext dI) (jc.o.trans dI);have h1:=dI.aD g1;have hz:=aF h1;clear dI g1 gz;have OI:b≠w2.heap.size:=hbn;have v0:=zZ.o.frozen 0;have v1:=zZ.o.frozen 1;have v2:=zZ.o.frozen 2;have v3:=zZ.o.frozen 3;have vz:=zZ.o.lt;obtain⟨pz,q0,q1,q2,q3, -⟩:=kP.o.ca;obtain⟨p0,p1,p2,p3, -⟩:=kP.o.fz;obtain⟨-,l0,l1,l2,l3, -⟩:=zZ.o.ca;cases ok
          · have CZ:Kp (·=w2.heap.size) w4 (w4.setCell ⟨w2.heap.size,2,none⟩ (.string x1)):=(Kp.refl (·=w2.heap.size) w4).setCell (p:=⟨w2.heap.size,2,none⟩) (fun _=>rfl) _;have rX:Zs (ay (w4.setCell ⟨w2.heap.size,2,none⟩ (.string x1)) w2.heap.size 130 #[.int .i64 k,.int .i64 0,.string x1,.string ⟨#[]⟩]):=Z3 (zZ.o.bE 2 _);have⟨lC,gy⟩:=aJ (kP.o.kp CZ oV) (iG.o.own CZ (fun _ e=>by have:=HLT.o;omega));clear CZ;obtain⟨-,z0,z1,z2,z3, -⟩:=lC.o.ca;obtain⟨f0,f1,f2,f3, -⟩:=lC.o.fz;obtain⟨-,c0,c1,c2,c3, -⟩:=rX.o.ca;obtain⟨g0,g1,g2,g3, -⟩:=rX.o.fz;have zz:=lC.o.lt;have cz:=rX.o.lt;by_cases h30:(30:Int)<s.size
            · go_wp2_with fail;refine bodyPost_ret (au ic rfl _ _ w.heap.size rfl [.int .i64 0,.int .i64 0,.string ⟨#[]⟩,.string ⟨#[]⟩] (ae.gM (ay.iW lC.o _ _ _ _)) rfl) rfl ?_;exact⟨⟨_,_,_,_,_,rfl,Nat.zero_le _,Nat.zero_le _⟩,gy.o.own (Kp.iW (D:=(·=w.heap.size)) rfl _ _ _ _) (fun _ e=>by omega)⟩
            · have h31:s.size≤30:=by omega
              go_wp2_with fail;refine(mO k 0 x1 ⟨#[]⟩ _ Wg Wg (Nat.zero_le _)).mono ?_;rintro e w6 ⟨⟨y,rfl, -⟩,dC⟩;have⟨dL,zg,kH⟩:=bg (lC.o.ext dC) (rX.o.ext dC) (gy.o.trans dC);clear z0 z1 z2 z3 f0 f1 f2 f3 c0 c1 c2 c3 g0 g1 g2 g3 zz cz dC;obtain⟨-,z0,z1,z2,z3, -⟩:=dL.o.ca;obtain⟨f0,f1,f2,f3, -⟩:=dL.o.fz;obtain⟨-,c0,c1,c2,c3, -⟩:=zg.o.ca;have zz:=dL.o.lt;have cz:=zg.o.lt;cases pY:(y.toList==s.toList)
              · go_wp2_with fail;refine bodyPost_ret (au ic rfl _ _ w.heap.size rfl [.int .i64 0,.int .i64 0,.string ⟨#[]⟩,.string ⟨#[]⟩] (ae.gM (ay.iW dL.o _ _ _ _)) rfl) rfl ?_;exact⟨⟨_,_,_,_,_,rfl,Nat.zero_le _,Nat.zero_le _⟩,kH.o.own (Kp.iW (D:=(·=w.heap.size)) rfl _ _ _ _) (fun _ e=>by omega)⟩
              · go_wp2_with fail;refine bodyPost_ret (au ic rfl _ _ w.heap.size rfl [.int .i64 k,.int .i64 0,.string x1,.string ⟨#[]⟩] (ae.gM (ay.iW dL.o _ _ _ _)) rfl) rfl ?_;exact⟨⟨_,_,_,_,_,rfl,Er,Nat.zero_le _⟩,kH.o.own (Kp.iW (D:=(·=w.heap.size)) rfl _ _ _ _) (fun _ e=>by omega)⟩
          · have CZ:Kp (·=w2.heap.size) w4 (w4.setCell ⟨w2.heap.size,1,none⟩ (.int .i64 m)):=(Kp.refl (·=w2.heap.size) w4).setCell (p:=⟨w2.heap.size,1,none⟩) (fun _=>rfl) _;have rX:Zs (ay (w4.setCell ⟨w2.heap.size,1,none⟩ (.int .i64 m)) w2.heap.size 130 #[.int .i64 k,.int .i64 m,.string ⟨#[]⟩,.string ⟨#[]⟩]):=Z3 (zZ.o.bE 1 _);have⟨lC,gy⟩:=aJ (kP.o.kp CZ oV) (iG.o.own CZ (fun _ e=>by have:=HLT.o;omega));clear CZ;obtain⟨-,z0,z1,z2,z3, -⟩:=lC.o.ca;obtain⟨f0,f1,f2,f3, -⟩:=lC.o.fz;obtain⟨-,c0,c1,c2,c3, -⟩:=rX.o.ca;obtain⟨g0,g1,g2,g3, -⟩:=rX.o.fz;have zz:=lC.o.lt;have cz:=rX.o.lt;by_cases h30:(30:Int)<s.size
            · go_wp2_with fail;refine bodyPost_ret (au ic rfl _ _ w.heap.size rfl [.int .i64 0,.int .i64 0,.string ⟨#[]⟩,.string ⟨#[]⟩] (ae.gM (ay.iW lC.o _ _ _ _)) rfl) rfl ?_;exact⟨⟨_,_,_,_,_,rfl,Nat.zero_le _,Nat.zero_le _⟩,gy.o.own (Kp.iW (D:=(·=w.heap.size)) rfl _ _ _ _) (fun _ e=>by omega)⟩
            · have h31:s.size≤30:=by omega
              go_wp2_with fail;refine(mO k m ⟨#[]⟩ ⟨#[]⟩ _ Wg (Nat.zero_le _) (Nat.zero_le _)).mono ?_;rintro e w6 ⟨⟨y,rfl, -⟩,dC⟩;have⟨dL,zg,kH⟩:=bg (lC.o.ext dC) (rX.o.ext dC) (gy.o.trans dC);clear z0 z1 z2 z3 f0 f1 f2 f3 c0 c1 c2 c3 g0 g1 g2 g3 zz cz dC;obtain⟨-,z0,z1,z2,z3, -⟩:=dL.o.ca;obtain⟨f0,f1,f2,f3, -⟩:=dL.o.fz;obtain⟨-,c0,c1,c2,c3, -⟩:=zg.o.ca;have zz:=dL.o.lt;have cz:=zg.o.lt;cases pY:(y.toList==s.toList)
              · go_wp2_with fail;refine bodyPost_ret (au ic rfl _ _ w.heap.size rfl [.int .i64 0,.int .i64 0,.string ⟨#[]⟩,.string ⟨#[]⟩] (ae.gM (ay.iW dL.o _ _ _ _)) rfl) rfl ?_;exact⟨⟨_,_,_,_,_,rfl,Nat.zero_le _,Nat.zero_le _⟩,kH.o.own (Kp.iW (D:=(·=w.heap.size)) rfl _ _ _ _) (fun _ e=>by omega)⟩
              · go_wp2_with fail;refine bodyPost_ret (au ic rfl _ _ w.heap.size rfl [.int .i64 k,.int .i64 m,.string ⟨#[]⟩,.string ⟨#[]⟩] (ae.gM (ay.iW dL.o _ _ _ _)) rfl) rfl ?_;exact⟨⟨_,_,_,_,_,rfl,Nat.zero_le _,Nat.zero_le _⟩,kH.o.own (Kp.iW (D:=(·=w.heap.size)) rfl _ _ _ _) (fun _ e=>by omega)⟩
        · obtain⟨_,_,e1,g1⟩:=dP.at_ (i:=1) NV.o rfl;cases e1;have Er:x1.size≤s.size:=QR x1 Wf;obtain⟨_,_,e1,g2⟩:=dP.at_ (i:=2) NV.o rfl;cases e1;have Me:x2.size≤s.size:=QR x2 Wf;have yD:3≤n:=by have:=HN.o;simp at this;omega
          have hnA:(1:Int)<n:=by omega
          have hnB:(2:Int)<n:=by omega
          have gz:=aF g1;clear QR NV;rw[mV.o]at gN zY jc g1 gz g2;go_wp2_with fail;refine(mP x1 _ Wg).mono ?_;rintro e w4 ⟨⟨m,ok,rfl, -,hm1,Rm⟩,dI⟩;have⟨kP,zZ,iG⟩:=bg (gN.o.ext dI) (zY.o.ext dI) (jc.o.trans dI);have h1:=dI.aD g1;have hz:=aF h1;have h2:=dI.aD g2;clear dI g1 gz g2;have OI:b≠w2.heap.size:=hbn;have v0:=zZ.o.frozen 0;have v1:=zZ.o.frozen 1;have v2:=zZ.o.frozen 2;have v3:=zZ.o.frozen 3;have vz:=zZ.o.lt;obtain⟨pz,q0,q1,q2,q3, -⟩:=kP.o.ca;obtain⟨p0,p1,p2,p3, -⟩:=kP.o.fz;obtain⟨-,l0,l1,l2,l3, -⟩:=zZ.o.ca;cases ok
          · have CZ:Kp (·=w2.heap.size) w4 (w4.setCell ⟨w2.heap.size,2,none⟩ (.string x1)):=(Kp.refl (·=w2.heap.size) w4).setCell (p:=⟨w2.heap.size,2,none⟩) (fun _=>rfl) _;have rX:Zs (ay (w4.setCell ⟨w2.heap.size,2,none⟩ (.string x1)) w2.heap.size 130 #[.int .i64 k,.int .i64 0,.string x1,.string ⟨#[]⟩]):=Z3 (zZ.o.bE 2 _);have⟨lC,gy⟩:=aJ (kP.o.kp CZ oV) (iG.o.own CZ (fun _ e=>by have:=HLT.o;omega));have h3:=CZ.jg h2 OI;have y3:=rX.o.c 3 (.string ⟨#[]⟩) rfl;have x3:=rX.o.frozen 3;have uC:Kp (·=w2.heap.size) (w4.setCell ⟨w2.heap.size,2,none⟩ (.string x1)) ((w4.setCell ⟨w2.heap.size,2,none⟩ (.string x1)).setCell ⟨w2.heap.size,3,none⟩ (.string x2)):=(Kp.refl (·=w2.heap.size) (w4.setCell ⟨w2.heap.size,2,none⟩ (.string x1))).setCell (p:=⟨w2.heap.size,3,none⟩) (fun _=>rfl) _;have wD:Zs (ay ((w4.setCell ⟨w2.heap.size,2,none⟩ (.string x1)).setCell ⟨w2.heap.size,3,none⟩ (.string x2)) w2.heap.size 130 #[.int .i64 k,.int .i64 0,.string x1,.string x2]):=Z3 (rX.o.bE 3 _);have⟨zW,DD⟩:=aJ (lC.o.kp uC oV) (gy.o.own uC (fun _ e=>by have:=HLT.o;omega));clear uC;clear CZ;obtain⟨-,z0,z1,z2,z3, -⟩:=zW.o.ca;obtain⟨f0,f1,f2,f3, -⟩:=zW.o.fz;obtain⟨-,c0,c1,c2,c3, -⟩:=wD.o.ca;obtain⟨g0,g1,g2,g3, -⟩:=wD.o.fz;have zz:=zW.o.lt;have cz:=wD.o.lt;by_cases h30:(30:Int)<s.size
            · go_wp2_with fail;refine bodyPost_ret (au ic rfl _ _ w.heap.size rfl [.int .i64 0,.int .i64 0,.string ⟨#[]⟩,.string ⟨#[]⟩] (ae.gM (ay.iW zW.o _ _ _ _)) rfl) rfl ?_;exact⟨⟨_,_,_,_,_,rfl,Nat.zero_le _,Nat.zero_le _⟩,DD.o.own (Kp.iW (D:=(·=w.heap.size)) rfl _ _ _ _) (fun _ e=>by omega)⟩
            · have h31:s.size≤30:=by omega
              go_wp2_with fail;refine(mO k 0 x1 x2 _ Wg Wg Wg).mono ?_;rintro e w6 ⟨⟨y,rfl, -⟩,dC⟩;have⟨dL,zg,kH⟩:=bg (zW.o.ext dC) (wD.o.ext dC) (DD.o.trans dC);clear z0 z1 z2 z3 f0 f1 f2 f3 c0 c1 c2 c3 g0 g1 g2 g3 zz cz dC;obtain⟨-,z0,z1,z2,z3, -⟩:=dL.o.ca;obtain⟨f0,f1,f2,f3, -⟩:=dL.o.fz;obtain⟨-,c0,c1,c2,c3, -⟩:=zg.o.ca;have zz:=dL.o.lt;have cz:=zg.o.lt;cases pY:(y.toList==s.toList)
              · go_wp2_with fail;refine bodyPost_ret (au ic rfl _ _ w.heap.size rfl [.int .i64 0,.int .i64 0,.string ⟨#[]⟩,.string ⟨#[]⟩] (ae.gM (ay.iW dL.o _ _ _ _)) rfl) rfl ?_;exact⟨⟨_,_,_,_,_,rfl,Nat.zero_le _,Nat.zero_le _⟩,kH.o.own (Kp.iW (D:=(·=w.heap.size)) rfl _ _ _ _) (fun _ e=>by omega)⟩
              · go_wp2_with fail;refine bodyPost_ret (au ic rfl _ _ w.heap.size rfl [.int .i64 k,.int .i64 0,.string x1,.string x2] (ae.gM (ay.iW dL.o _ _ _ _)) rfl) rfl ?_;exact⟨⟨_,_,_,_,_,rfl,Er,Me⟩,kH.o.own (Kp.iW (D:=(·=w.heap.size)) rfl _ _ _ _) (fun _ e=>by omega)⟩
          · have CZ:Kp (·=w2.heap.size) w4 (w4.setCell ⟨w2.heap.size,1,none⟩ (.int .i64 m)):=(Kp.refl (·=w2.heap.size) w4).setCell (p:=⟨w2.heap.size,1,none⟩) (fun _=>rfl) _;have rX:Zs (ay (w4.setCell ⟨w2.heap.size,1,none⟩ (.int .i64 m)) w2.heap.size 130 #[.int .i64 k,.int .i64 m,.string ⟨#[]⟩,.string ⟨#[]⟩]):=Z3 (zZ.o.bE 1 _);have⟨lC,gy⟩:=aJ (kP.o.kp CZ oV) (iG.o.own CZ (fun _ e=>by have:=HLT.o;omega));have h3:=CZ.jg h2 OI;have y3:=rX.o.c 3 (.string ⟨#[]⟩) rfl;have x3:=rX.o.frozen 3;have uC:Kp (·=w2.heap.size) (w4.setCell ⟨w2.heap.size,1,none⟩ (.int .i64 m)) ((w4.setCell ⟨w2.heap.size,1,none⟩ (.int .i64 m)).setCell ⟨w2.heap.size,3,none⟩ (.string x2)):=(Kp.refl (·=w2.heap.size) (w4.setCell ⟨w2.heap.size,1,none⟩ (.int .i64 m))).setCell (p:=⟨w2.heap.size,3,none⟩) (fun _=>rfl) _;have wD:Zs (ay ((w4.setCell ⟨w2.heap.size,1,none⟩ (.int .i64 m)).setCell ⟨w2.heap.size,3,none⟩ (.string x2)) w2.heap.size 130 #[.int .i64 k,.int .i64 m,.string ⟨#[]⟩,.string x2]):=Z3 (rX.o.bE 3 _);have⟨zW,DD⟩:=aJ (lC.o.kp uC oV) (gy.o.own uC (fun _ e=>by have:=HLT.o;omega));clear uC;clear CZ;obtain⟨-,z0,z1,z2,z3, -⟩:=zW.o.ca;obtain⟨f0,f1,f2,f3, -⟩:=zW.o.fz;obtain⟨-,c0,c1,c2,c3, -⟩:=wD.o.ca;obtain⟨g0,g1,g2,g3, -⟩:=wD.o.fz;have zz:=zW.o.lt;have cz:=wD.o.lt;by_cases h30:(30:Int)<s.size
            · go_wp2_with fail;refine bodyPost_ret (au ic rfl _ _ w.heap.size rfl [.int .i64 0,.int .i64 0,.string ⟨#[]⟩,.string ⟨#[]⟩] (ae.gM (ay.iW zW.o _ _ _ _)) rfl) rfl ?_;exact⟨⟨_,_,_,_,_,rfl,Nat.zero_le _,Nat.zero_le _⟩,DD.o.own (Kp.iW (D:=(·=w.heap.size)) rfl _ _ _ _) (fun _ e=>by omega)⟩
            · have h31:s.size≤30:=by omega
              go_wp2_with fail;refine(mO k m ⟨#[]⟩ x2 _ Wg (Nat.zero_le _) Wg).mono ?_;rintro e w6 ⟨⟨y,rfl, -⟩,dC⟩;have⟨dL,zg,kH⟩:=bg (zW.o.ext dC) (wD.o.ext dC) (DD.o.trans dC);clear z0 z1 z2 z3 f0 f1 f2 f3 c0 c1 c2 c3 g0 g1 g2 g3 zz cz dC;obtain⟨-,z0,z1,z2,z3, -⟩:=dL.o.ca;obtain⟨f0,f1,f2,f3, -⟩:=dL.o.fz;obtain⟨-,c0,c1,c2,c3, -⟩:=zg.o.ca;have zz:=dL.o.lt;have cz:=zg.o.lt;cases pY:(y.toList==s.toList)
              · go_wp2_with fail;refine bodyPost_ret (au ic rfl _ _ w.heap.size rfl [.int .i64 0,.int .i64 0,.string ⟨#[]⟩,.string ⟨#[]⟩] (ae.gM (ay.iW dL.o _ _ _ _)) rfl) rfl ?_;exact⟨⟨_,_,_,_,_,rfl,Nat.zero_le _,Nat.zero_le _⟩,kH.o.own (Kp.iW (D:=(·=w.heap.size)) rfl _ _ _ _) (fun _ e=>by omega)⟩
              · go_wp2_with fail;refine bodyPost_ret (au ic rfl _ _ w.heap.size rfl [.int .i64 k,.int .i64 m,.string ⟨#[]⟩,.string x2] (ae.gM (ay.iW dL.o _ _ _ _)) rfl) rfl ?_;exact⟨⟨_,_,_,_,_,rfl,Nat.zero_le _,Me⟩,kH.o.own (Kp.iW (D:=(·=w.heap.size)) rfl _ _ _ _) (fun _ e=>by omega)⟩
  · have qy:¬(k:Int)≤15:=by omega
    have hB:=tL.o.ext HE.o;obtain⟨-,z0,z1,z2,z3, -⟩:=hB.ca;obtain⟨f0,f1,f2,f3, -⟩:=hB.fz;have⟨mQ,gL⟩:=aJ hB (eQ.o.trans HE.o);have zz:=hB.lt;clear hB;go_wp2_with fail;refine bodyPost_ret (au ic rfl _ _ w.heap.size rfl [.int .i64 0,.int .i64 0,.string ⟨#[]⟩,.string ⟨#[]⟩] (ae.gM (ay.iW mQ.o _ _ _ _)) rfl) rfl ?_;exact⟨⟨_,_,_,_,_,rfl,Nat.zero_le _,Nat.zero_le _⟩,gL.o.own (Kp.iW (D:=(·=w.heap.size)) rfl _ _ _ _) (fun _ e=>by omega)⟩
end Go.Proofs.YtkmclfpjpajjeaaGreat
