/- Walks. -/
import Derived.Test.YtcepdbbapgfcdaaGreatVmCorea
import Derived.Deep.Quiet
import Derived.Deep.RegionWith
import Derived.Deep.RegionHeld3
import Derived.StillTailTactics
set_option maxRecDepth 100000
set_option maxHeartbeats 4000000
set_option linter.unusedSimpArgs false
set_option linter.unusedVariables false
namespace Go.Proofs.YtcepdbbapgfcdaaGreat.M
structure l8 where
 of:Ref
 at_:Int
 kind:Kind
def YL:Kind:=⟨0,none_⟩
def ve:l8:=⟨pO,0,YL⟩
def dO(of:Ref):List Field→List l8→List l8
 |[],acc=>acc
 |f::r,acc=>dO of r (acc++[⟨of,acc.length,f.kind⟩])
def eF(p:au):List Ref→List l8→List l8
 |[],acc=>acc
 |c::r,acc=>eF p r (dO c (cls p c).fields acc)
def layout(p:au)(r:Ref):List l8:=if cZ p r then eF p (chain p r).reverse []else []
def jJ(p:au)(of:Ref):List Ref→Nat→Nat
 |[],n=>n
 |c::r,n=>if c=of then n else jJ p of r (n+(cls p c).fields.length)
def jk(p:au)(of low:Ref):Nat:=jJ p of (chain p low).reverse 0
def fieldName(p:au)(r:Ref)(f:l8):ByteArray:=(((cls p f.of).fields[(f.at_ - jk p f.of r).toNat]?).map Field.name).getD none_
def qV(p:au)(k:Int)(m:ByteArray)(r:Ref):List l8→l8×Int
 |[]=>(ve,3)
 |f::l=>if fieldName p r f=m then(if agree p k f.of.keeper f.kind then(f,1)else(ve,4))else qV p k m r l
def get(p:au)(k:Int)(n m:ByteArray):l8×Int:=
 if(bN p k n m).2=1 then qV p k m (bN p k n m).1 (layout p (bN p k n m).1)else(ve,(bN p k n m).2)
def Xv:Method:=⟨none_,[],YL,0,0,[],[]⟩
def kL:kT:=⟨pO,0⟩
def method?(p:au)(m:kT):Option Method:=if 0≤m.at_ then(cls p m.of).methods[m.at_.toNat]? else none
def method(p:au)(m:kT):Method:=(method? p m).getD Xv
def call(p:au)(k:Int)(n m:ByteArray):kT×Int:=
 if(bN p k n m).2=1 then
  (match pick p (bN p k n m).1 m with
  |none=>(kL,3)
  |some x=>if eD p k x.of.keeper (method p x)then(x,1)else(kL,4))
 else(kL,(bN p k n m).2)
def cK(p:au)(m:kT):Bool:=cZ p m.of&&decide (0≤m.at_)&&decide (m.at_ <(cls p m.of).methods.length)
structure jv where
 locals:List Tag
 stack:List Tag
def Gb:Tag:=⟨0,none_⟩
def iP:Tag:=⟨1,none_⟩
def JG:Tag:=⟨3,none_⟩
def eX(n:ByteArray):Tag:=⟨2,n⟩
def fU(k:Kind):Tag:=if jq k then⟨k.kind,k.name⟩else Gb
def may(p:au)(k:Int)(a b:Tag):Bool:=
 if b.kind=0∨a=b then true else if b.kind≠2 then false else if a.kind=3 then true else if a.kind≠2 then false
 else decide ((find p k a.name).2=1)&&decide ((find p k b.name).2=1)&&under p (find p k a.name).1 (find p k b.name).1
def rG(s:jv):Option (Tag×jv):=s.stack.getLast?.map fun t=>(t,⟨s.locals,s.stack.dropLast⟩)
def jF(p:au)(k:Int)(t:Tag)(s:jv):Option jv:=(rG s).bind fun x=>if may p k x.1 t then some x.2 else none
def wJ(s:jv):Option jv:=(rG s).bind fun x=>if x.1.kind=2∨x.1.kind=3 then some x.2 else none
def iY(m:Method)(t:Tag)(s:jv):Option jv:=if m.stack≤s.stack.length then none else some ⟨s.locals,s.stack++[t]⟩
def jl(p:au)(k:Int):List Tag→List Tag→Bool
 |a::r,b::l=>may p k a b&&jl p k r l
 |_,_=>true
def gL(p:au)(k:Int)(s:jv)(f:SMap):Bool:=decide (f.stack.length=s.stack.length)&&jl p k s.locals f.locals&&jl p k s.stack f.stack
def CK(m:Method)(at_:Int):Option SMap:=m.maps.find? fun f=>f.at_=at_
def iN(p:au)(k:Int)(m:Method)(tgt:Int)(s:jv):Option jv:=
 (CK m tgt).bind fun f=>if gL p k s f then some s else none
def nL(p:au)(k:Int)(m:Method)(goes:Bool)(at_:Int)(s:jv):Option jv:=
 match CK m at_ with
 |none=>if goes then some s else none
 |some f=>if goes&& !gL p k s f then none else some ⟨f.locals,f.stack⟩
def jL(p:au)(k:Int):List Kind→jv→Option jv
 |[],s=>some s
 |a::r,s=>(jF p k (fU a) s).bind (jL p k r)
def bM(p:au)(k:Int)(m:Method)(i:Ins)(s:jv):Option jv:=
 if i.op=1 then iY m iP s
 else if i.op=2 then(s.locals[i.a.toNat]?).bind fun t=>if t.kind=0 then none else iY m t s
 else if i.op=3 then(rG s).map fun x=>⟨x.2.locals.set i.a.toNat x.1,x.2.stack⟩
 else if i.op=4 then(jF p k iP s).bind fun s1=>(jF p k iP s1).bind (iY m iP)
 else if i.op=5 then iY m JG s
 else if i.op=6 then iY m (eX i.name) s
 else if i.op=7 then(if(get p k i.name i.member).2=1 then(jF p k (eX i.name) s).bind (iY m (fU (get p k i.name i.member).1.kind))else none)
 else if i.op=8 then(if(get p k i.name i.member).2=1 then(jF p k (fU (get p k i.name i.member).1.kind) s).bind (jF p k (eX i.name))else none)
 else if i.op=9 then(if(call p k i.name i.member).2=1 then
     (jL p k (method p (call p k i.name i.member).1).args.reverse s).bind fun s1=>(jF p k (eX i.name) s1).bind (iY m (fU (method p (call p k i.name i.member).1).ret))else none)
 else if i.op=10 then jF p k (fU m.ret) s
 else if i.op=11 then(jF p k iP s).bind (iN p k m i.a)
 else if i.op=12 then(wJ s).bind (iN p k m i.a)
 else if i.op=13 then iN p k m i.a s
 else if i.op=14 then jF p k iP s
 else(wJ s).bind (iY m (eX i.name))
def iM(p:au)(k:Int)(m:Method):List Ins→Nat→Bool→jv→List jv→Sum Int (List jv)
 |[],at_,goes,_,known=>if goes then .inl (at_+1)else .inr known
 | i :: r, at_, goes, s, known =>
  match nL p k m goes at_ s with
  |none=>.inl (at_+1)
  |some s1=>match bM p k m i s1 with
   |none=>.inl (at_+1)
   |some s2=>iM p k m r (at_+1) (decide (i.op≠10)&&decide (i.op≠13)) s2 (known++[s1])
def DK(x:kT)(m:Method):jv:=⟨(eX x.of.name::m.args.map fU)++List.replicate (m.locals.toNat - (m.args.length+1)) Gb,[]⟩
def look(p:au)(x:kT):List jv×Int:=
 match iM p x.of.keeper (method p x) (method p x).code 0 true (DK x (method p x)) []with
 | .inl n=>([],n)
 | .inr l=>(l,0)
def right(p:au)(x:kT):Bool:=decide ((look p x).2=0)
structure Val where
 kind:Int
 n:Int
theorem Val.jd{a b:Val}:a=b↔a.kind=b.kind∧a.n=b.n:=by
 cases a;cases b;simp
instance:DecidableEq Val:=fun _ _=>decidable_of_iff' _ Val.jd
structure iC where
 of:Ref
 fields:List Val
structure Fr where
 of:kT
 pc:Int
 locals:List Val
 stack:List Val
structure St where
 status:Int
 frames:List Fr
 heap:List iC
 outs:List Int
 back:Val
def ek:Val:=⟨0,0⟩
def lv:Val:=⟨3,0⟩
def gJ(n:Int):Val:=⟨1,n⟩
def Gw:St:=⟨0,[],[],[],ek⟩
def fT(n:Int):Bool:=decide (-9999≤n)&&decide (n≤9999)
def bE(v:Val)(Xg:Nat):Bool:=
 if v.kind=0∨v.kind=3 then decide (v.n=0)else if v.kind=1 then fT v.n else if v.kind=2 then decide (0≤v.n)&&decide (v.n<Xg)else false
def ib(p:au)(h:List iC):Bool:=
 decide (h.length≤12)&&h.all fun o=>cZ p o.of&&decide (o.fields.length=(layout p o.of).length)&&o.fields.all (bE · h.length)
def rM(h:List iC)(n:Int):Ref:=((h[n.toNat]?).map iC.of).getD pO
def hasType(p:au)(k:Int)(h:List iC)(v:Val)(t:Kind):Bool:=
 if t.kind=1 then decide (v.kind=1)else if v.kind=3 then true else if v.kind≠2 then false
 else decide ((find p k t.name).2=1)&&under p (rM h v.n) (find p k t.name).1
def dL(p:au)(f:Fr)(Xg:Nat):Bool:=
 cK p f.of&&decide (0≤f.pc)&&decide (f.pc<(method p f.of).code.length)&&decide ((f.locals.length:Int)=(method p f.of).locals)&&
 decide ((f.stack.length:Int)≤(method p f.of).stack)&&f.locals.all (bE · Xg)&&f.stack.all (bE · Xg)
def FZ(p:au)(s:St):Bool:=
 decide (1≤s.status)&&decide (s.status≤10)&&decide (s.heap.length≤12)&&decide (s.outs.length≤40)&&decide (s.frames.length≤8)&&
 (decide (0<s.frames.length)==decide (s.status=1))&&s.outs.all fT&&s.frames.all (dL p · s.heap.length)&&ib p s.heap&&bE s.back s.heap.length
def yB(s:St)(f:Fr→Fr):St:={s with frames:=s.frames.dropLast++(s.frames.getLast?.map f).toList}
def top(s:St):Fr:=s.frames.getLastD ⟨kL,0,[],[]⟩
def jump(p:au)(tgt:Int)(s:St):Int×St:=
 if((method p (top s).of).code.length:Int)≤tgt then(10,s)else(1,yB s fun f=>{f with pc:=tgt})
def next(p:au)(s:St):Int×St:=jump p ((top s).pc+1) s
def push(p:au)(v:Val)(s:St):Int×St:=
 if(method p (top s).of).stack≤(top s).stack.length then(10,s)else next p (yB s fun f=>{f with stack:=f.stack++[v]})
def dE(c:Nat)(s:St):Option (List Val×St):=
 if(top s).stack.length<c then none
 else some ((top s).stack.drop ((top s).stack.length - c),yB s fun f=>{f with stack:=f.stack.take (f.stack.length - c)})
def pop(s:St):Option (Val×St):=(dE 1 s).map fun x=>(x.1.headD ek,x.2)
def jA(p:au)(n:ByteArray)(s:St):Ref×Bool:=
 ((find p (top s).of.of.keeper n).1,decide ((find p (top s).of.of.keeper n).2=1)&&cZ p (find p (top s).of.of.keeper n).1)
def fresh(p:au)(r:Ref):iC:=⟨r,(layout p r).map fun f=>if f.kind.kind=1 then gJ 0 else lv⟩
def create(p:au)(r:Ref)(s:St):Val×St:=(⟨2,s.heap.length⟩,{s with heap:=s.heap++[fresh p r]})
def object(p:au)(v:Val)(t:Ref)(s:St):Int:=
 if v.kind=3 then 3 else if v.kind≠2 then 10 else if under p (rM s.heap v.n) t then 1 else 10
def jU(p:au)(k:Int)(h:List iC):List Val→List Kind→Bool
 |v::r,t::l=>hasType p k h v t&&jU p k h r l
 |_,_=>true
def enter(p:au)(lk:Bool)(x:kT)(vs:List Val)(s:St):Int×St:=
 if 8≤s.frames.length then(7,s)
 else if lk&& !right p x then(5,s)
 else if jU p x.of.keeper s.heap vs (⟨2,x.of.name⟩::(method p x).args)then
  (1,{s with frames:=s.frames++[⟨x,0,vs++List.replicate ((method p x).locals.toNat - vs.length) ek,[]⟩]})
 else(10,s)
def end_(c:Int)(s:St):St:=if c=1 then s else{s with status:=c,frames:=[]}
def kU(h:List iC)(n:Int):List Val:=((h[n.toNat]?).map iC.fields).getD []
def dF(h:List iC)(n a:Int)(v:Val):List iC:=h.modify n.toNat fun o=>{o with fields:=o.fields.set a.toNat v}
def aM (p : au) (lk : Bool) (i : Ins) (s : St) : Int × St :=
 if i.op=1 then push p (gJ i.a) s
 else if i.op=2 then(if(((top s).locals[i.a.toNat]?).getD ek).kind=0 then(10,s)else push p (((top s).locals[i.a.toNat]?).getD ek) s)
 else if i.op=3 then(match pop s with
  |none=>(10,s)
  |some (v,s1)=>next p (yB s1 fun f=>{f with locals:=f.locals.set i.a.toNat v}))
 else if i.op=4 then(match dE 2 s with
  |some ([a,b],s1)=>if a.kind=1∧b.kind=1 then(if fT (a.n+b.n)then push p (gJ (a.n+b.n)) s1 else(9,s1))else(10,s1)
  |_=>(10,s))
 else if i.op=5 then push p lv s
 else if i.op=6 then(if(jA p i.name s).2 then(if 12≤s.heap.length then(8,s)else push p (create p (jA p i.name s).1 s).1 (create p (jA p i.name s).1 s).2)else(4,s))
 else if i.op = 7 then (if (get p (top s).of.of.keeper i.name i.member).2 = 1 then
     (match pop s with
     |none=>(10,s)
     | some (v, s1) =>
      if object p v (get p (top s).of.of.keeper i.name i.member).1.of s1=1 then
       push p (((kU s1.heap v.n)[(get p (top s).of.of.keeper i.name i.member).1.at_.toNat]?).getD ek) s1
      else(object p v (get p (top s).of.of.keeper i.name i.member).1.of s1,s1))
  else(4,s))
 else if i.op = 8 then (if (get p (top s).of.of.keeper i.name i.member).2 = 1 then
     (match dE 2 s with
     | some ([o, v], s1) =>
      if hasType p (get p (top s).of.of.keeper i.name i.member).1.of.keeper s1.heap v (get p (top s).of.of.keeper i.name i.member).1.kind then
       (if object p o (get p (top s).of.of.keeper i.name i.member).1.of s1=1 then
        next p {s1 with heap:=dF s1.heap o.n (get p (top s).of.of.keeper i.name i.member).1.at_ v}
       else(object p o (get p (top s).of.of.keeper i.name i.member).1.of s1,s1))
      else(10,s1)
     |_=>(10,s))
  else(4,s))
 else if i.op = 9 then (if (call p (top s).of.of.keeper i.name i.member).2 = 1 then
     (match dE ((method p (call p (top s).of.of.keeper i.name i.member).1).args.length+1) s with
     | some (vs, s1) =>
      if object p (vs.headD ek) (call p (top s).of.of.keeper i.name i.member).1.of s1=1 then
       (match pick p (rM s1.heap (vs.headD ek).n) i.member with
       |some x=>enter p lk x vs s1
       |none=>(10,s1))
      else(object p (vs.headD ek) (call p (top s).of.of.keeper i.name i.member).1.of s1,s1)
     |none=>(10,s))
  else(4,s))
 else if i.op = 10 then (match pop s with
  |none=>(10,s)
  |some (v,s1)=>if hasType p (top s).of.of.keeper s1.heap v (method p (top s).of).ret then
      (if s1.frames.length=1 then(2,{s1 with back:=v})else push p v {s1 with frames:=s1.frames.dropLast})
   else(10,s1))
 else if i.op=11 then(match pop s with
  |none=>(10,s)
  |some (v,s1)=>if v.kind=1 then(if v.n=0 then jump p i.a s1 else next p s1)else(10,s1))
 else if i.op=12 then(match pop s with
  |none=>(10,s)
  |some (v,s1)=>if v.kind=2∨v.kind=3 then(if v.kind=3 then jump p i.a s1 else next p s1)else(10,s1))
 else if i.op=13 then jump p i.a s
 else if i.op=14 then(match pop s with
  |none=>(10,s)
  |some (v,s1)=>if v.kind=1 then next p (if s1.outs.length<40 then{s1 with outs:=s1.outs++[v.n]}else s1)else(10,s1))
 else (match pop s with
  |none=>(10,s)
  |some (v,s1)=>if v.kind=2∨v.kind=3 then
      (if v.kind=3 then push p v s1
      else if(jA p i.name s1).2 then(if under p (rM s1.heap v.n) (jA p i.name s1).1 then push p v s1 else(6,s1))else(4,s1))
   else(10,s1))
def ae8:Ins:=⟨0,0,none_,none_⟩
def stepped(p:au)(lk:Bool)(s:St):Int×St:=aM p lk (((method p (top s).of).code[(top s).pc.toNat]?).getD ae8) s
def step(p:au)(lk:Bool)(s:St):St:=if s.status=1 then end_ (stepped p lk s).1 (stepped p lk s).2 else s
def steps(p:au)(lk:Bool):Nat→St→St
 |0,s=>s
 |f+1,s=>if s.status=1 then steps p lk f (step p lk s)else s
def iK(m:Method)(args:List Int):Bool:=decide (m.args.length=args.length)&&m.args.all fun k=>decide (k.kind=1)
def dD:St:=⟨4,[],[],[],ek⟩
def start (p : au) (lk : Bool) (k : Int) (n m : ByteArray) (args : List Int) : St :=
 if (find p k n).2 = 1 ∧ cZ p (find p k n).1 = true then
  (if(call p k n m).2=1∧iK (method p (call p k n m).1) args=true then
   end_ (enter p lk (call p k n m).1 (⟨2,0⟩::args.map gJ) ⟨1,[],[fresh p (find p k n).1],[],ek⟩).1
    (enter p lk (call p k n m).1 (⟨2,0⟩::args.map gJ) ⟨1,[],[fresh p (find p k n).1],[],ek⟩).2
  else dD)
 else dD
def fG(p:au)(lk:Bool)(k:Int)(n m:ByteArray)(args:List Int):St:=
 if bU p&&has p k&&aY n&&aY m&&args.all fT then start p lk k n m args else Gw
def eQ(p:au)(lk:Bool)(s:St)(fuel:Int):St:=
 if decide (fuel≤400)&&bU p&&FZ p s then steps p lk fuel.toNat s else Gw
end Go.Proofs.YtcepdbbapgfcdaaGreat.M
namespace Go.Proofs.YtcepdbbapgfcdaaGreat
open Go Go.RowKit
def bW(v:M.Val):List Value:=[.int .i64 v.kind,.int .i64 v.n]
def jy:fP M.Val:=fun _ _ x cs=>cs=bW x
theorem jy.stays:bQ jy:=fun _ _ _ _ _ _ _ _ h=>h
def ik(t:M.Tag):List Value:=[.int .i64 t.kind,.string t.name]
def sJ(n:Int):List Value:=[.int .i64 n]
theorem r9:Elem 225 66 2:=iF (z:=.agg #[.int .i64 0,.string ⟨#[]⟩]) (bytes:=24) Tryz.underlying225 (by kernel_rfl) rfl (by decide) (by decide)
theorem flat_get{α:Type}{enc:α→List Value}{k:Nat}(GR:∀x,(enc x).length=k):∀(l:List α) (j:Nat) (u:Value),(l.flatMap enc)[j]?=some u→∃i r x,l[i]?=some x∧(enc x)[r]?=some u∧j=i*k+r:=by
 intro l;induction l with
 |nil=>intro j u h;simp at h
 |cons x t ih=>
  intro j u h;rw[List.flatMap_cons]at h;rcases Nat.lt_or_ge j (enc x).length with hj|hj
  · rw[List.getElem?_append_left hj]at h;exact⟨0,j,x,rfl,h,by omega⟩
  · rw[List.getElem?_append_right hj]at h;obtain⟨i,r,y,h1,h2,h3⟩:=ih _ _ h;refine⟨i+1,r,y,by simpa using h1,h2,?_⟩;rw[GR]at h3 hj;rw[Nat.succ_mul];omega
theorem je{α:Type}{enc:α→List Value}{k:Nat}(GR:∀x,(enc x).length=k)(l:List α):(l.flatMap enc).length=l.length*k:=by
 induction l with
 |nil=>simp
 |cons x t ih=>rw[List.flatMap_cons,List.length_append,ih,GR,List.length_cons,Nat.succ_mul];omega
theorem kD{α:Type}{enc:α→List Value}(h1:∀x,∀u∈enc x,u.oneCell'=true)(l:List α):∀u∈l.flatMap enc,u.oneCell'=true:=by
 intro u hu;obtain⟨x,_,hx⟩:=List.mem_flatMap.1 hu;exact h1 x u hx
theorem SliceOf.flat{α:Type}{k:Nat}{R:fP α}{enc:α→List Value}(hR:∀w I x cs,R w I x cs→cs=enc x)(GR:∀x,(enc x).length=k){w:World}{I:Nat→Prop}{ad:Addr}{n cap:Nat}{xs:List α}
    (h:SliceOf k R w I (.slice (some ad) n cap) xs):∀j u,(xs.flatMap enc)[j]?=some u→w.cell? (ad.add j)=some u:=by
 intro j u hu;obtain⟨i,r,x,h1,h2,rfl⟩:=flat_get GR xs j u hu;obtain⟨b,off,cs,e,_,hr,hl,hc⟩:=h.get h1;cases e;have e2:=hR _ _ _ _ hr;subst e2;have:=hc r u h2;unfold Addr.add;split
 · rename_i h0;have e1:i*k=0:=by omega
   have e3:r=0:=by omega
   rw[e1,e3]at this;exact this
 · simpa [Nat.add_assoc]using this
theorem uy(x:M.Val):∀u∈bW x,u.oneCell'=true:=by simp[bW,Value.oneCell']
theorem DN(x:Int):∀u∈sJ x,u.oneCell'=true:=by simp[sJ,Value.oneCell']
structure Flat(w:World)(k:Nat)(v:Value)(n:Nat)(xs:List Value):Prop where
 len:xs.length=n*k
 ex:∃a c,v=.slice a n c∧(a=none→n=0)∧∀ad,a=some ad→∀j u,xs[j]?=some u→w.cell? (ad.add j)=some u
 one:∀u∈xs,u.oneCell'=true
theorem SliceOf.toFlat{α:Type}{k:Nat}{R:fP α}{enc:α→List Value}(hR:∀w I x cs,R w I x cs→cs=enc x)(GR:∀x,(enc x).length=k)(h1:∀x,∀u∈enc x,u.oneCell'=true){w:World}{I:Nat→Prop}{v:Value}{xs:List α}
    (h:SliceOf k R w I v xs):Flat w k v xs.length (xs.flatMap enc):=by
 obtain⟨a,c,rfl,_⟩:=h.form;refine⟨je GR xs,⟨a,c,rfl,?_,?_⟩,kD h1 xs⟩
 · rintro rfl;cases xs with
   |nil=>rfl
   |cons x r=>
    obtain⟨_,_,_,e,_⟩:=h.get (i:=0) (x:=x) rfl;cases e
 · rintro ad rfl;exact h.flat hR GR
theorem nQ{w:World}{base e k n:Nat}{v:Value}{xs:List Value}(h:w.ownsRow base e k v n xs)(h1:∀u∈xs,u.oneCell'=true):Flat w k v n xs:=by
 refine⟨h.1,?_,h1⟩;rcases h.2 with⟨rfl,rfl⟩|⟨g,c,cur,rfl,_⟩
 · exact⟨none,0,rfl,fun _=>rfl,fun _ e=>by cases e⟩
 · exact⟨_,c,rfl,(fun e=>by cases e),fun ad e=>by cases e;exact h.cells rfl⟩
theorem FC{w:World}{base e k n c g:Nat}{xs:List Value}(h:w.ownsRow base e k (.slice (some ⟨g,0,none⟩) n c) n xs)(h1:∀u∈xs,u.oneCell'=true){i:Nat}(c':Nat):
    Flat w k (.slice (some ⟨g,i*k,none⟩) (n - i) c') (n - i) (xs.drop (i*k)):=by
 refine⟨by rw[List.length_drop,h.1,Nat.sub_mul],⟨_,c',rfl,(fun e=>by cases e),fun ad e j u hu=>?_⟩,fun u hu=>h1 u (List.mem_of_mem_drop hu)⟩;cases e;rw[List.getElem?_drop]at hu;have:=h.cells (g:=g) rfl _ _ hu;unfold Addr.add at this ⊢;split at this<;>split
 · rename_i h2 h3;rw[show i*k=0 by omega];exact this
 · omega
 · rename_i h2 h3;rw[h3]at this;simpa using this
 · simpa using this
theorem Sm{w:World}{ad:Addr}{v:Value}(h:w.cell? ad=some v):ad.block<w.heap.size:=by
 rcases Nat.lt_or_ge ad.block w.heap.size with h1|h1
 · exact h1
 · simp[World.cell?,Array.getElem?_eq_none h1]at h
theorem Flat.ext{w w':World}{k n:Nat}{v:Value}{xs:List Value}(h:Flat w k v n xs)(hE:Ext w w'):Flat w' k v n xs:=by
 obtain⟨h1,⟨a,c,e,h2,h3⟩,h4⟩:=h;exact⟨h1,⟨a,c,e,h2,fun ad ea j u hu=>(World.cell?_of_block (hE.block _ (Sm (h3 ad ea j u hu)) fun x=>x)).trans (h3 ad ea j u hu)⟩,h4⟩
theorem iQ{t e k:Nat}(E:Elem t e k)(w:World){ops:Array Oper}{rest:List Oper}{o:Oper}{a:Act}{Q:Exit→Act→World→Prop}(H8:o.guard=none)(s x:Operand)
    (ho:o.op=.call {callee:=.builtin .append,args:=#[s,x],argTypes:=#[t,t]}) (base:Nat) (v:Value) (n:Nat) (xs:List Value) (hs:a.eval s=v) (dX:w.ownsRow base e k v n xs)
    (ad:Addr) (m c:Nat) (news:List Value) (hx:a.eval x=.slice (some ad) m c) (hf:Flat w k (.slice (some ad) m c) m news)
    (hn:n+m≤8589934592) (ko:base≤w.heap.size)
    (h:∀v' w',w'.ownsRow base e k v' (n+m) (xs++news)→Kp (fun b=>v.ownBlock=some b) w w'→wpList Tryz.prog ops Q rest (a.put o.dst v') w'):
    wpList Tryz.prog ops Q (o::rest) a w:=by
 obtain⟨i,z,bytes,ht,hi,hz,j6,PT,Qb,hk,hb⟩:=E;obtain⟨f1,⟨a1,c1,e1,_,f2⟩,f3⟩:=hf;cases e1;refine wpList_append_own w H8 s x t ho base e i z k bytes ht hi hz j6 PT Qb hk v n xs hs dX ad m c news hx f1 (f2 ad rfl) f3 (by unfold maxLen;omega) ?_ ko ?_
 · have:(n+m)*bytes≤8589934592*4096:=Nat.mul_le_mul hn hb;omega
 · intro v' w' h2 h3 _;exact h v' w' h2 ⟨h3.os,h3.tape,h3.output,h3.size,fun k hk hd=>h3.block k hk (fun e=>hd e.symm)⟩
theorem dx(W:World)(e k:Nat)(B:Nat)(hB:B≤W.heap.size)(g:Nat)(hg:W.heap.size=g):(W.alloc (.cells #[] e)).ownsRow B e k (.slice (some ⟨g,0,none⟩) 0 0) 0 []:=by
 subst hg;exact⟨by simp,.inr ⟨_,0,#[],rfl,hB,heap_alloc_new W _,Nat.le_refl _,by simp,by simp,by simp⟩⟩
theorem pU(w:World)(v:Value)(n:Nat)(xs:List Value)(h:Flat w 2 v n xs)(hn:n≤4294967296):
    Calls Tryz.prog 56 #[v] w fun e w'=>(∃v',e=.returned v'∧w'.ownsRow w.heap.size 32 2 v' n xs)∧Ext w w':=by
 obtain⟨a,c,rfl,h0,hc⟩:=h.ex;have en:=fun W=>Lib.run_eql_slice_nil (P:=Tryz.prog) W 43 32 a n c 0 0 Tryz.underlying43;have NA:=h.len;cases a with
 |none=>
  obtain rfl:=h0 rfl;have hx:xs=[]:=List.eq_nil_of_length_eq_zero (by simpa using NA);subst hx;clear h h0 hc NA;go_enter Tryz.func56,Tryz.ntmps56;go_wp2;go_ret;exact⟨⟨_,rfl,World.ownsRow_nil _ _ _ _⟩,Kp.refl _ _⟩
 |some ad=>
  have HF:=Ys (h.ext ((Kp.refl _ _).alloc (.cells #[] 32):Ext w _));have OW:0+n≤8589934592:=by omega
  clear h h0 hc NA;go_enter Tryz.func56,Tryz.ntmps56;go_wp2_with (at_builtin;refine iQ qh _ rfl _ _ rfl w.heap.size _ 0 [] rfl (dx w _ 2 _ (Nat.le_refl _) _ rfl) ad n c xs rfl HF.o OW (by simp) ?_);intro v' w' dX hK;have HO:=Ys dX;have HK:=Ys hK;clear dX hK;go_wp2;go_ret;exact⟨⟨_,rfl,by simpa using HO.o⟩,((Kp.refl _ _).alloc _:Ext w _).own HK.o (fun b hb=>by simp only[Value.ownBlock,Option.some.injEq]at hb;omega)⟩
theorem xw(w:World)(v:Value)(n:Nat)(xs:List Value)(h:Flat w 1 v n xs)(hn:n≤4294967296):
    Calls Tryz.prog 55 #[v] w fun e w'=>(∃v',e=.returned v'∧w'.ownsRow w.heap.size 3 1 v' n xs)∧Ext w w':=by
 obtain⟨a,c,rfl,h0,hc⟩:=h.ex;have en:=fun W=>Lib.run_eql_slice_nil (P:=Tryz.prog) W 26 3 a n c 0 0 Tryz.underlying26;have NA:=h.len;cases a with
 |none=>
  obtain rfl:=h0 rfl;have hx:xs=[]:=List.eq_nil_of_length_eq_zero (by simpa using NA);subst hx;clear h h0 hc NA;go_enter Tryz.func55,Tryz.ntmps55;go_wp2;go_ret;exact⟨⟨_,rfl,World.ownsRow_nil _ _ _ _⟩,Kp.refl _ _⟩
 |some ad=>
  have HF:=Ys (h.ext ((Kp.refl _ _).alloc (.cells #[] 3):Ext w _));have OW:0+n≤8589934592:=by omega
  clear h h0 hc NA;go_enter Tryz.func55,Tryz.ntmps55;go_wp2_with (at_builtin;refine iQ Et _ rfl _ _ rfl w.heap.size _ 0 [] rfl (dx w _ 1 _ (Nat.le_refl _) _ rfl) ad n c xs rfl HF.o OW (by simp) ?_);intro v' w' dX hK;have HO:=Ys dX;have HK:=Ys hK;clear dX hK;go_wp2;go_ret;exact⟨⟨_,rfl,by simpa using HO.o⟩,((Kp.refl _ _).alloc _:Ext w _).own HK.o (fun b hb=>by simp only[Value.ownBlock,Option.some.injEq]at hb;omega)⟩
end Go.Proofs.YtcepdbbapgfcdaaGreat
namespace Go.Proofs.YtcepdbbapgfcdaaGreat
open Go Go.RowKit
def jr(s:ByteArray):List Value:=[.string s]
def dR:fP ByteArray:=fun _ _ x cs=>cs=jr x
theorem dR.stays:bQ dR:=fun _ _ _ _ _ _ _ _ h=>h
theorem Au(x:ByteArray):∀u∈jr x,u.oneCell'=true:=by simp[jr,Value.oneCell']
theorem Eu:Elem 97 9 1:=iF (z:=.string ⟨#[]⟩) (bytes:=16) Tryz.underlying97 (by kernel_rfl) rfl (by decide) (by decide)
namespace M
theorem ZM(a b:List UInt8):bs a++bs b=bs (a++b):=by
 apply ByteArray.ext;apply Array.toList_inj.1;simp[bs]
theorem ZN(s:ByteArray)(k:Nat)(h:k<s.size):s.extract k (k+1)=bs [s[k]]:=by
 apply ByteArray.ext;apply Array.toList_inj.1;rw[Lib.extract_data];have hl:k<s.data.toList.length:=by simpa using h
 rw[List.drop_eq_getElem_cons hl];simp[bs];rfl
theorem Oc{s:ByteArray}{k:Nat}(h:k<s.size):s.data.toList.drop k=s[k]::s.data.toList.drop (k+1):=by
 have hl:k<s.data.toList.length:=by simpa using h
 rw[List.drop_eq_getElem_cons hl];rfl
end M
theorem Ay (s : ByteArray) (w : World) (hs : s.size ≤ 4000000000) :
    Calls Tryz.prog 108 #[.string s] w fun e w'=>(∃v,e=.returned v∧SliceOf 1 dR w' (fun b=>w.heap.size≤b∧b<w'.heap.size) v (M.words s))∧Ext w w':=by
 have hO:(w.alloc (.cells #[] 9)).ownsRow w.heap.size 9 1 (.slice (some ⟨w.heap.size,0,none⟩) 0 0) 0 []:=dx w 9 1 w.heap.size (Nat.le_refl _) _ rfl;have HO:=Ys hO;clear hO;go_enter Tryz.func108,Tryz.ntmps108;go_wp2_with fail;go_loopw [3,4,5] (fun o c i wr=>∃(k:Nat) (cur:List UInt8) (ps:List ByteArray),k≤s.size∧i=.int .i64 k∧c=.string (M.bs cur)∧cur.length≤k∧ps.length≤k∧Zs (ps.map (·.data.toList)++M.gW cur (s.data.toList.drop k)=M.gW [] s.data.toList)∧
     wr.ownsRow w.heap.size 9 1 o ps.length (ps.flatMap jr)∧Ext w wr) (fun _ _ i _=>s.size - (intOf i).toNat)
 case atStart=>exact⟨0,[],[],Nat.zero_le _,rfl,rfl,Nat.le_refl _,Nat.le_refl _,Ys (by simp),HO.o,(Kp.refl _ _).alloc _⟩
 case round =>
  obtain⟨k,cur,ps,hk,rfl,rfl,fV,WK,HW,dX,hE⟩:=hrel;obtain⟨oa,oc,rfl⟩:=bV dX;have HOW:=Ys dX;have HE:=Ys hE;clear dX hE;have hcz:=DC cur;by_cases bZ:k<s.size
  · have qM:=Ys (M.Oc bZ);by_cases hsp:((s[k]).toNat:Int)=32
    · go_wp2_with (refine aB Eu rfl (.tmp 17) (.tmp 19) rfl w.heap.size (.slice oa ps.length oc) ps.length (ps.flatMap jr) rfl (aD (D:=fun _=>False) HOW.o ((Kp.refl _ _).alloc _) fun _ _ _ x=>x) wr.heap.size 1 (jr (M.bs cur)) rfl rfl (ae.fB _ _ rfl) (Au _) (by omega) (by have:=HE.o.size;simp;omega) ?_;rintro g9 c9 w9 qW fE wE);have oZ:Ext w w9:=Kp.own (HE.o.alloc _) fE (fun b hb=>(kJ HOW.o hb).1);go_round
      case rel=>
       refine⟨k+1,[],ps++[M.bs cur],by omega,by go_num,rfl,by simp,by simp;omega,Ys ?_,by simpa using qW,oZ⟩;have h1:s[k]=32:=by
        apply UInt8.toNat_inj.1;simp;omega
       have h2:=HW.o;rw[qM.o,M.gW,if_pos h1]at h2;rw[←h2];simp[M.bs]
      case measure=>simp[intOf];omega
    · have hx:=M.ZN s k bZ;have Gt:=DC [s[k]];simp only[List.length_singleton]at Gt;go_wp2_with fail;go_round
      case rel=>
       refine⟨k+1,cur++[s[k]],ps,by omega,by go_num,by rw[M.ZM],by simp;omega,by omega,Ys ?_,HOW.o,HE.o⟩;have h1:s[k]≠32:=fun e=>hsp (by rw[e];rfl);have h2:=HW.o;rw[qM.o,M.gW,if_neg h1]at h2;exact h2
      case measure=>simp[intOf];omega
  · go_wp2_with (refine aB Eu rfl (.tmp 28) (.tmp 30) rfl w.heap.size (.slice oa ps.length oc) ps.length (ps.flatMap jr) rfl (aD (D:=fun _=>False) HOW.o ((Kp.refl _ _).alloc _) fun _ _ _ x=>x) wr.heap.size 1 (jr (M.bs cur)) rfl rfl (ae.fB _ _ rfl) (Au _) (by omega) (by have:=HE.o.size;simp;omega) ?_;rintro g9 c9 w9 qW fE wE);have oZ:Ext w w9:=Kp.own (HE.o.alloc _) fE (fun b hb=>(kJ HOW.o hb).1);go_ret;refine⟨⟨_,rfl,?_⟩,oZ⟩;have qJ:k=s.size:=by omega
    have h2:=HW.o;rw[qJ,List.drop_of_length_le (by simp),M.gW]at h2;have hw:M.words s=ps++[M.bs cur]:=by
     unfold M.words;rw[←h2,List.map_append,List.map_map];congr 1;exact List.map_id _
    rw[hw];have h3:=SliceOf.iy (R:=dR) (I:=fun b=>w.heap.size≤b∧b<w9.heap.size) jr (l:=ps++[M.bs cur]) qW (by simp) (by simp) (fun _ _=>rfl) (fun _ _=>rfl) (fun b h1 h2=>⟨h1,h2⟩) (by simp;omega);simpa using h3
end Go.Proofs.YtcepdbbapgfcdaaGreat
namespace Go.Proofs.YtcepdbbapgfcdaaGreat
open Go Go.RowKit
theorem BQ(k:Int)(s:ByteArray)(w:World):Calls Tryz.prog 150 #[.agg #[.int .i64 k,.string s]] w fun e w'=>BX e∧Ext w w':=by
 go_enter Tryz.func150,Tryz.ntmps150;go_wp2_with (go_at_call 129;refine(eT _ _).mono ?_;rintro e w' ⟨rfl,rfl⟩)
 all_goals
  go_ret;exact⟨⟨_,rfl⟩,kx⟩
theorem Ej:CX 50 2:=⟨_,Tryz.underlying50,by kernel_rfl⟩
theorem gT:CX 47 4:=⟨_,Tryz.underlying47,by kernel_rfl⟩
def abp(m:Nat)(e:Ending):Prop:=∃k s b,e=.returned (.tuple #[.agg #[.int .i64 k,.string s],.bool b])∧s.size≤m
theorem wY(s:ByteArray)(w:World):Calls Tryz.prog 148 #[.string s] w fun e w'=>abp s.size e∧Ext w w':=by
 cases h1:(s.toList==[35])
 · cases h2:M.aY s
   · have HN:=fun W=>Ys (eT s W);simp only[h2]at HN;go_enter Tryz.func148,Tryz.ntmps148;go_wp2_with fail;refine(HN _).o.mono ?_;rintro e w1 ⟨rfl,rfl⟩;go_wp2_with fail;refine bodyPost_ret (ai Ej rfl _ _ w.heap.size rfl [.int .i64 0,.string ⟨#[]⟩] (ae.fB _ _ rfl) rfl) rfl ?_;exact⟨⟨_,_,_,rfl,Nat.zero_le _⟩,kx⟩
   · have HN:=fun W=>Ys (eT s W);simp only[h2]at HN;go_enter Tryz.func148,Tryz.ntmps148;go_wp2_with fail;refine(HN _).o.mono ?_;rintro e w1 ⟨rfl,rfl⟩;go_wp2_with fail;refine bodyPost_ret (ai Ej rfl _ _ w.heap.size rfl [.int .i64 2,.string s] (ae.fB _ _ rfl) rfl) rfl ?_;exact⟨⟨_,_,_,rfl,Nat.le_refl _⟩,kx⟩
 · go_enter Tryz.func148,Tryz.ntmps148;go_wp2_with fail;refine bodyPost_ret (ai Ej rfl _ _ w.heap.size rfl [.int .i64 1,.string ⟨#[]⟩] (ae.fB _ _ rfl) rfl) rfl ?_;exact⟨⟨_,_,_,rfl,Nat.zero_le _⟩,kx⟩
def Zz(op:Int)(e:Ending):Prop:=∃b,e=.returned (.bool b)∧(b=true→1≤op∧op≤15)
theorem Io(op a:Int)(n m:ByteArray)(w:World):Calls Tryz.prog 115 #[.agg #[.int .i64 op,.int .i64 a,.string n,.string m]] w fun e w'=>Zz op e∧Ext w w':=by
 by_cases h:1≤op∧op≤15
 · go_enter Tryz.func115,Tryz.ntmps115;go_wp2_with (first
    |(go_at_call 129;refine(eT _ _).mono ?_;rintro e w' ⟨rfl,rfl⟩)
    |(go_at_call 113;refine(ny _ _ _ _).mono ?_;rintro e w' ⟨rfl,rfl⟩))
   all_goals
    go_ret;exact⟨⟨_,rfl,fun _=>h⟩,kx⟩
 · have hk:∀k:Int,1≤k→k≤15→(op==k)=false:=fun k h1 h2=>beq_eq_false_iff_ne.2 (by omega);have k1:=hk 1 (by omega) (by omega);have k2:=hk 2 (by omega) (by omega);have k3:=hk 3 (by omega) (by omega);have k4:=hk 4 (by omega) (by omega);have k5:=hk 5 (by omega) (by omega);have k6:=hk 6 (by omega) (by omega);have k7:=hk 7 (by omega) (by omega);have k8:=hk 8 (by omega) (by omega);have k9:=hk 9 (by omega) (by omega);have k10:=hk 10 (by omega) (by omega);have k11:=hk 11 (by omega) (by omega);have k12:=hk 12 (by omega) (by omega);have k13:=hk 13 (by omega) (by omega);have k14:=hk 14 (by omega) (by omega);have k15:=hk 15 (by omega) (by omega);clear hk;go_enter Tryz.func115,Tryz.ntmps115;go_wp2_with fail
   all_goals
    go_ret;exact⟨⟨_,rfl,fun e=>by simp at e⟩,kx⟩
theorem CV(op:Nat)(h:op≤15)(w:World):Calls Tryz.prog 116 #[.int .i64 op] w fun e w'=>Oy 4 e∧Ext w w':=by
 go_enter Tryz.func116,Tryz.ntmps116;have hb:aC (w.alloc (.cells #[.string ⟨#[]⟩,.string ⟨#[110,117,109]⟩,.string ⟨#[116,97,107,101]⟩,.string ⟨#[112,117,116]⟩,.string ⟨#[97,100,100]⟩,.string ⟨#[110,117,108,108]⟩,.string ⟨#[110,101,119]⟩,.string ⟨#[103,101,116]⟩,.string ⟨#[115,101,116]⟩,.string ⟨#[99,97,108,108]⟩,.string ⟨#[114,101,116]⟩,.string ⟨#[122,101,114,111]⟩,.string ⟨#[110,105,108]⟩,.string ⟨#[103,111]⟩,.string ⟨#[111,117,116]⟩,.string ⟨#[99,97,115,116]⟩] 9)) w.heap.size 9 _:=aC.new w 9 _;obtain⟨x,hx,hz⟩:∃x:ByteArray,(w.alloc (.cells #[.string ⟨#[]⟩,.string ⟨#[110,117,109]⟩,.string ⟨#[116,97,107,101]⟩,.string ⟨#[112,117,116]⟩,.string ⟨#[97,100,100]⟩,.string ⟨#[110,117,108,108]⟩,.string ⟨#[110,101,119]⟩,.string ⟨#[103,101,116]⟩,.string ⟨#[115,101,116]⟩,.string ⟨#[99,97,108,108]⟩,.string ⟨#[114,101,116]⟩,.string ⟨#[122,101,114,111]⟩,.string ⟨#[110,105,108]⟩,.string ⟨#[103,111]⟩,.string ⟨#[111,117,116]⟩,.string ⟨#[99,97,115,116]⟩] 9)).cell? ⟨w.heap.size,op,none⟩=some (.string x)∧x.size≤4:=by
  have hc:=hb.cell op;have:op=0∨op=1∨op=2∨op=3∨op=4∨op=5∨op=6∨op=7∨op=8∨op=9∨op=10∨op=11∨op=12∨op=13∨op=14∨op=15:=by omega
  rcases this with rfl|rfl|rfl|rfl|rfl|rfl|rfl|rfl|rfl|rfl|rfl|rfl|rfl|rfl|rfl|rfl<;>exact⟨_,hc,by decide⟩
 have hxz:=aG hx;clear hb;go_wp2_with fail;go_ret;exact⟨⟨_,rfl,hz⟩,kx⟩
theorem l6(op a:Int)(n m:ByteArray)(w:World)(ha: -100000≤a∧a≤100000)(hn:n.size≤1000)(hm:m.size≤1000):
    Calls Tryz.prog 81 #[.agg #[.int .i64 op,.int .i64 a,.string n,.string m]] w fun e w'=>Oy 20000 e∧Ext w w':=by
 obtain⟨ha1,PR⟩:=ha;have hN:∀W,Calls Tryz.prog 117 #[.int .i64 a] W fun e W'=>Oy 11200 e∧Ext W W':=fun W=>(NZ a W (by omega) (by omega)).mono (by
  rintro e w' ⟨⟨t,rfl, -,ht⟩,hE⟩;exact⟨⟨_,rfl,by omega⟩,hE⟩)
 have HN:=Ys hN;clear hN;go_enter Tryz.func81,Tryz.ntmps81;go_wp2_with fail;refine(Io op a n m _).mono ?_;rintro e w1 ⟨⟨b,rfl,fC⟩,bA⟩;have fe:=Ys bA;clear bA;cases b
 · go_wp2_with fail;go_ret;exact⟨⟨_,rfl,Nat.zero_le _⟩,(by repeat (first|assumption|exact Kp.refl _ _|apply Kp.alloc|apply Kp.drew|apply Kp.drewN|refine Kp.trans ?_ (by assumption)))⟩
 · have uN:=(aC.new w 47 #[.int .i64 op,.int .i64 a,.string n,.string m]).ext fe.o;obtain⟨h1,h2⟩:=fC rfl;obtain⟨k,rfl⟩:∃k:Nat,op=k:=⟨op.toNat,by omega⟩;have hk:k=1∨k=2∨k=3∨k=4∨k=5∨k=6∨k=7∨k=8∨k=9∨k=10∨k=11∨k=12∨k=13∨k=14∨k=15:=by omega
   have c0:=uN.c 0 (.int .i64 k) rfl;have vJ:=Ys uN;clear uN;go_wp2_with fail;refine(CV k (by omega) _).mono ?_;rintro e w2 ⟨⟨t,rfl,ht⟩,bP⟩;have fD:=Ys (fe.o.trans bP);have hz:(ByteArray.mk #[32]).size=1:=rfl;have iU:=vJ.o.ext bP;clear bP fe c0 fC h1 h2;have c0:=iU.c 0 (.int .i64 k) rfl;have c1:=iU.c 1 (.int .i64 a) rfl;have c2:=iU.c 2 (.string n) rfl;have c3:=iU.c 3 (.string m) rfl;clear iU vJ;rcases hk with rfl|rfl|rfl|rfl|rfl|rfl|rfl|rfl|rfl|rfl|rfl|rfl|rfl|rfl|rfl
   all_goals
    go_wp2_with (go_at_call 117;refine(HN.o _).mono ?_;rintro e w3 ⟨⟨x,rfl,hx⟩,dm⟩);go_ret;refine⟨⟨_,rfl,by first|omega|(simp only[ByteArray.size_append,hz];omega)⟩,?_⟩;have:=fD.o;exact(by repeat (first|assumption|exact Kp.refl _ _|apply Kp.alloc|apply Kp.drew|apply Kp.drewN|refine Kp.trans ?_ (by assumption)))
structure iq(C:World→Prop)(T:Type)(f:T→World):Prop where
 aJ:∀s,C (f s)
 o:∀W,C W→∃s,W=f s
theorem iq.ex(C:World→Prop)(w:World)(h:C w):∃(T:Type) (f:T→World),Nonempty T∧iq C T f:=⟨{W:World // C W},Subtype.val,⟨⟨w,h⟩⟩,fun s=>s.2,fun W h=>⟨⟨W,h⟩,rfl⟩⟩
theorem QH{P:Program}{id:Nat}{Q:Exit→Act→World→Prop}{a:Act}{w:World}{l:List Oper}{T:Type}(f:T→World)(h0:∃s,w.drew=f s)(hm:P.follows .mixedOrders=true)(hB:Region.lexB .any l.toArray=true)
    (h:wpQuiet P l.toArray (fun w'=>∃s,w'=f s) (fun a'=>∀w',(∃s,w'=f s)→Q .normal a' w') l a):(Code.region id l.toArray true).wp P Q a w:=
 wp_region_quiet (C:=fun w'=>∃s,w'=f s) hm hB h0 (by simpa using h)
theorem qn{P:Program}{ops:Array Oper}{C:World→Prop}{K A:Act→Prop}{a:Act}(hK:∀a',A a'→K a')(h:A a):wpQuiet P ops C K [] a:=wpQuiet_nil (hK _ h)
theorem Gu{P:Program}{ops:Array Oper}{C:World→Prop}{K A B:Act→Prop}{a:Act}(hK:∀a',A a'→B a'→K a')(h:A a)(h2:B a):wpQuiet P ops C K [] a:=wpQuiet_nil (hK _ h h2)
theorem kk{C:World→Prop}{T:Type}{f:T→World}{K2 R:Act→World→Prop}{a:Act}{w:World}(H:Zs (iq C T f))(af:∀a'' w',(∃s,w'=f s)→R a'' w'→K2 a'' w')(h:C w)(h2:R a w):K2 a w:=af _ _ (H.o.o _ h) h2
theorem Gv{P:Program}{id:Nat}{Q:Exit→Act→World→Prop}{a:Act}{w:World}{l:List Oper}{C:World→Prop}{T:Type}{f:T→World}(H:Zs (iq C T f))(h0:C w.drew)
    (h:wpQuiet P l.toArray (fun w'=>∃s,w'=f s) (fun a'=>∀w',(∃s,w'=f s)→Q .normal a' w') l a) (hm:P.follows .mixedOrders=true:=by kernel_rfl) (hB:Region.lexB .any l.toArray=true:=by kernel_rfl):(Code.region id l.toArray true).wp P Q a w:=
 QH f (H.o.o _ h0) hm hB h
end Go.Proofs.YtcepdbbapgfcdaaGreat
namespace Go.Proofs.YtcepdbbapgfcdaaGreat
open Go Go.RowKit
def BN(o:Oper):Bool:=
 match o.op with
 | .move _| .assign _| .load _ _| .fieldAddr _ _ _| .indexAddr _ _ _| .binOp _ _ _ _ _| .unOp _ _ _| .field _ _ _| .build _ _| .extract _ _| .slice _ _ _ _ _| .nilCheck _| .index _ _ _| .pick _ _ _=>true
 | .call c=>(match c.callee with| .builtin .len=>true|_=>false)
 |_=>false
theorem Lv{P:Program}{w w':World}{s:Sem Value}{f:FuncId}{args:Array Value}:Sem.run P (do pure (Next.value (←s)):Sem Next) w≠ .ok (.enter f args) w':=by
 simp only[Sem.run_bind];cases Sem.run P s w<;>simp[Result.andThen]
theorem mM{α:Type}{P:Program}{w w':World}{s:Sem α}{k:α→Sem Next}{f:FuncId}{args:Array Value}(h:∀x w1,Sem.run P (k x) w1≠ .ok (.enter f args) w'):Sem.run P (s>>= k) w≠ .ok (.enter f args) w':=by
 rw[Sem.run_bind];cases Sem.run P s w with
 |ok x w1=>exact h x w1
 |halt _ _=>simp[Result.andThen]
theorem JI{P:Program}{o:Oper}(h:BN o=true)(a:Act)(w w':World)(f:FuncId)(args:Array Value):(execOp a.eval o).run P w≠ .ok (.enter f args) w':=by
 unfold BN at h;unfold execOp;split at h
 any_goals (rename_i he;simp only[he];first|exact Lv|(simp;done))
 case h_12=>
  rename_i he;simp only[he];split
  any_goals (first|(simp;done)|(simp[runtimePanic];done))
  split
  any_goals (first|(simp;done)|(simp[runtimePanic];done))
  refine mM fun _ _=>mM fun _ _=>?_;split
  · refine mM fun _ _=>?_;simp
  · simp
 case h_14=>
  rename_i he;simp only[he];refine mM fun _ _=>?_;simp
 case h_15=>
  rename_i c he;simp only[he];split at h
  · rename_i hc;simp only[resolve,hc,Sem.run_bind,Sem.run_pure,Result.andThen_ok,invoke,builtin];cases Sem.run P (Builtin.len_ c.argTypes o.type (Array.map a.eval c.args)) w<;>simp[Result.andThen]
  · cases h
 case h_16=>cases h
section
variable {P:Program} {ops:Array Oper} {md:Region.Mode} {Q:Exit→Act→World→Prop} {C:World→Prop} {n:Nat}
def gQ(P:Program)(ops:Array Oper)(C:World→Prop)(o:Oper)(v:Value)(a:Act):Prop:=
 (Region.wanted o (yielded ops a.tmps)=true∧∀w,C w→(execOp a.eval o).run P w=.ok (.value v) w∨((execOp a.eval o).run P w=.ok .skip w∧v=undef))∨
 (Region.wanted o (yielded ops a.tmps)=false∧v=undef)
theorem sU{o:Oper}{a:Act}{K:Act→Prop}(hp:BN o=true)(h:if Region.wanted o (yielded ops a.tmps)then o.quiet P a C K else K (a.put o.dst undef)):∃v,gQ P ops C o v a∧K (a.put o.dst v):=by
 cases hw:Region.wanted o (yielded ops a.tmps)
 · rw[hw]at h;exact⟨undef,.inr ⟨hw,rfl⟩,by simpa using h⟩
 · rw[hw]at h;obtain⟨v,h1,h2⟩:o.quiet P a C K:=by simpa using h
   refine⟨v,.inl ⟨hw,fun w hw'=>?_⟩,h2⟩;have h3:=h1 w hw';unfold Oper.quietAt at h3;generalize hr:(execOp a.eval o).run P w=r at h3;unfold Oper.quietUpon at h3;split at h3
   · obtain⟨rfl,rfl⟩:=h3;exact .inl rfl
   · obtain⟨rfl,rfl⟩:=h3;exact .inr ⟨rfl,rfl⟩
   · exact absurd hr (JI hp a _ _ _ _)
   · exact h3.elim
theorem gQ.wpOp{i:Nat}{o:Oper}{v:Value}{a:Act}(hi:ops[i]?=some o)(hy:gQ P ops C o v a){K:Act→World→Prop}{w:World}(hC:C w)(h:K (a.put o.dst v) w):wpOp P ops Q i K a w:=by
 unfold Go.wpOp;simp only[hi];rcases hy with⟨hw,hv⟩|⟨hw,rfl⟩
 · simp only[hw,if_true];rcases hv w hC with e|⟨e,rfl⟩
   · simp only[Oper.wp,e,Oper.upon];exact .inl h
   · simp only[Oper.wp,e,Oper.upon];exact .inl h
 · simp only[hw,Bool.false_eq_true,if_false];exact h
theorem gQ.of_same{o:Oper}{v:Value}{a a':Act}(hy:gQ P ops C o v a)(he:execOp a'.eval o=execOp a.eval o)
    (hw:Region.wanted o (yielded ops a'.tmps)=Region.wanted o (yielded ops a.tmps)):gQ P ops C o v a':=by
 unfold gQ at*;rw[he,hw];exact hy
theorem QY{j:Nat}{oi oj:Oper}{v:Value}(hj:ops[j]?=some oj)(hap:oi.apart ops oj=true)
    (hsi:∀cs b,oi.op≠ .select cs b) (hsj:∀cs b,oj.op≠ .select cs b)
    (hQ:∀c a w,Q (.panic c) (a.put oi.dst v) w→Q (.panic c) a w) {K:Act→World→Prop} {a:Act} {w:World}
    (hy:gQ P ops C oi v a) (h:wpOp P ops Q j K (a.put oi.dst v) w):
    wpOp P ops Q j (fun a' w'=>gQ P ops C oi v a'∧K (a'.put oi.dst v) w') a w:=by
 obtain⟨h1,h2,h3⟩:=Oper.apart_spec hap;have keep:∀(a:Act),gQ P ops C oi v a→∀u,gQ P ops C oi v (a.put oj.dst u):=fun a hy u=>
  hy.of_same (execOp_put oi hsi a oj.dst u h3) (wanted_put oi a oj.dst u h3)
 have keepD:∀d,gQ P ops C oi v {a with defers:=d::a.defers}:=fun d=>hy.of_same rfl rfl;unfold wpOp at*;simp only[hj]at*;rw[wanted_put oj a oi.dst v h1]at h;split
 · rename_i hw;simp only[hw,if_true]at h;rcases h with h|⟨Yc,acm⟩
   case inr=>exact .inr ⟨by unfold Oper.asks at*;rw[execOp_put oj hsj a oi.dst v h1]at Yc;exact Yc,acm⟩
   refine .inl ?_;unfold Oper.wp at*;rw[execOp_put oj hsj a oi.dst v h1]at h;generalize (execOp a.eval oj).run P w=r at*;cases r with
   | ok n w' =>
    cases n<;>simp only[Oper.upon]at h ⊢
    case value u=>exact⟨keep a hy u,by rw[←Act.put_comm a v u h2];exact h⟩
    case skip=>exact⟨keep a hy _,by rw[←Act.put_comm a v undef h2];exact h⟩
    case defer d=>
     refine⟨keep _ (keepD d) _,?_⟩;rw[←Act.put_comm _ v undef h2,←Act.put_defers];exact h
    case enter f args=>
     refine Calls.mono h fun e w'' he=>?_;cases e with
     |returned u=>exact⟨keep a hy u,by rw[←Act.put_comm a v u h2];exact he⟩
     |panicked c=>exact hQ _ _ _ he
     |outgrown=>exact he
    case row row args=>exact Rows.mono h fun u w'' he=>⟨keep a hy u,by rw[←Act.put_comm a v u h2];exact he⟩
   |halt x w'=>
    cases x<;>simp only[Oper.upon]at h ⊢
    case panic u=>exact hQ _ _ _ h
 · rename_i hw;simp only[hw]at h;exact⟨keep a hy _,by rw[←Act.put_comm a v undef h2];exact h⟩
def rO(P:Program)(md:Region.Mode)(ops:Array Oper)(n:Nat)(C:World→Prop)(Q:Exit→Act→World→Prop):Nat→Array Bool→Act→World→Prop
 |0,listed,a,w=>Region.ready md ops listed=[]∧Q .normal a w
 |fuel+1,listed,a,w=>
  (Region.ready md ops listed=[]→Q .normal a w)∧
  ∀i∈Region.ready md ops listed,wpOp P ops Q i (fun a' w'=>(i<n→C w')∧rO P md ops n C Q fuel (listed.setIfInBounds i true) a' w') a w
theorem zh:∀(fuel:Nat) (listed:Array Bool) (a:Act) (w:World),rO P md ops n C Q fuel listed a w→wpAny P md ops Q fuel listed a w
 |0,_,_,_,h=>h
 |fuel+1,_,_,_,h=>⟨h.1,fun i hi=>wpOp_mono (fun a' w' h'=>zh fuel _ a' w' h'.2) (h.2 i hi)⟩
theorem JX {i : Nat} {oi : Oper} {v : Value} (hi : ops[i]? = some oi) (TI : ∀ (j : Nat) (o : Oper) cs b, ops[j]? = some o → o.op ≠ .select cs b)
    (hQ:∀c a w,Q (.panic c) (a.put oi.dst v) w→Q (.panic c) a w) (TK:∀j,n≤j→Region.waitsFor md ops j i=true∨ops[j]?=none):
    ∀(fuel:Nat) (listed:Array Bool) (a:Act) (w:World),
     (∀j oj,ops[j]?=some oj→j≠i→listed.getD j true=false→(∀e∈oj.after,Region.binds md e=true→e.on≠i)→oi.apart ops oj=true)→
     i∈Region.ready md ops listed→gQ P ops C oi v a→C w→i<n→
     rO P md ops n C Q fuel (listed.setIfInBounds i true) (a.put oi.dst v) w→rO P md ops n C Q (fuel+1) listed a w:=by
 intro fuel;induction fuel with
 |zero=>
  intro listed a w _ hr hy hC Nl H;refine⟨fun h=>(by rw[h]at hr;cases hr),fun j hj=>?_⟩;by_cases EK:j=i
  · subst EK;exact hy.wpOp hi hC ⟨fun _=>hC,H⟩
  · have:=ready_mono hj EK;rw[H.1]at this;cases this
 | succ fuel ih =>
  intro listed a w KU hr hy hC Nl H;refine⟨fun h=>(by rw[h]at hr;cases hr),fun j hj=>?_⟩;by_cases EK:j=i
  · subst EK;exact hy.wpOp hi hC ⟨fun _=>hC,H⟩
  · have h1:=H.2 j (ready_mono hj EK);obtain⟨Tp,oj,Rs,sj⟩:=mem_ready.1 hj;have Ty:∀e∈oj.after,Region.binds md e=true→e.on≠i:=fun e he hb heq=>by
     have h1:=sj e he hb;have h0:=(mem_ready.1 hr).1;rw[heq]at h1;rcases Nat.lt_or_ge i listed.size with h'|h'
     · simp[h']at h0 h1;rw[h0]at h1;cases h1
     · simp[Array.getElem?_eq_none h']at h1
    have hjn:j<n:=by
     rcases Nat.lt_or_ge j n with h|h
     · exact h
     · rcases TK j h with hw|hw
       · obtain⟨oj',Tz,e,he,hb,heq⟩:=Region.waitsFor_spec hw;rw[Rs]at Tz;cases Tz;exact absurd heq (Ty e he hb)
       · rw[Rs]at hw;cases hw
    have h2:=QY Rs (KU j oj Rs EK Tp Ty) (fun cs b=>TI i oi cs b hi) (fun cs b=>TI j oj cs b Rs) hQ hy h1;have Nk:∀k ok,ops[k]?=some ok→k≠i→(listed.setIfInBounds j true).getD k true=false→
        (∀e∈ok.after,Region.binds md e=true→e.on≠i)→oi.apart ops ok=true:=fun k ok hk hki Gs sZ=>by
     refine KU k ok hk hki ?_ sZ;by_cases Wv:j=k
     · subst Wv;exact Tp
     · rw[getD_set_ne true Wv]at Gs;exact Gs
    refine wpOp_mono (fun a' w' h3=>⟨fun _=>h3.2.1 hjn,ih (listed.setIfInBounds j true) a' w' Nk (ready_mono hr (Ne.symm EK)) h3.1 (h3.2.1 hjn) Nl ?_⟩) h2;rw[Array.setIfInBounds_comm _ _ EK];exact h3.2.2
def Rv(md:Region.Mode)(ops:Array Oper)(n:Nat):List Nat→Array Bool→Option (Array Bool)
 |[],listed=>some listed
 |i::q,listed=>
  if decide (i<n)&&(Region.ready md ops listed).contains i&&Region.free md ops listed i&&((ops[i]?).map BN).getD false then Rv md ops n q (listed.setIfInBounds i true)else none
def Lr(md:Region.Mode)(ops:Array Oper)(n:Nat):List (List Nat×Nat)→List Nat→Array Bool→Bool
 |[],q,listed=>match Rv md ops n q listed with
  |some L=>Region.seqB md ops (ops.size - n) n L
  |none=>false
 |(q,i)::r,q',listed=>match Rv md ops n q listed with
  |some L=>decide (Region.ready md ops L=[i])&&decide (i<n)&&Lr md ops n r q' (L.setIfInBounds i true)
  |none=>false
def costs:List (List Nat×Nat)→List Nat→Nat
 |[],q=>q.length
 |(q,_)::r,q'=>q.length+1+costs r q'
def Az(md:Region.Mode)(ops:Array Oper)(n:Nat):Bool:=(List.range ops.size).all fun j=>decide (j<n)|| (List.range n).all fun i=>Region.waitsFor md ops j i
def EA(ops:Array Oper)(n:Nat)(kY:List (List Nat×Nat))(q:List Nat):Bool:=
 Region.noSelect ops&&Az .any ops n&&decide (costs kY q=n)&&decide (n≤ops.size)&&Lr .any ops n kY q (Array.replicate ops.size false)
def oI(P:Program)(l:List Oper)(C:World→Prop)(Q:Exit→Act→World→Prop)(fin:Act→World→Prop):List (List Nat×Nat)→List Nat→Act→World→Prop
 |[],q,a,w=>wpQuiet P l.toArray C (fun a'=>fin a' w) (q.filterMap (l[·]?)) a
 |(q,i)::r,q',a,w=>wpQuiet P l.toArray C (fun a'=>wpList P l.toArray (Exit.then (fun a'' w'=>C w'∧oI P l C Q fin r q' a'' w') Q) (l[i]?).toList a' w) (q.filterMap (l[·]?)) a
theorem Ir(h:Az md ops n=true){i:Nat}(hi:i<n)(j:Nat)(hj:n≤j):Region.waitsFor md ops j i=true∨ops[j]?=none:=by
 rcases Nat.lt_or_ge j ops.size with bZ|hge
 · unfold Az at h;have h1:=List.all_eq_true.1 h j (List.mem_range.2 bZ);simp only[Bool.or_eq_true,decide_eq_true_eq,List.all_eq_true]at h1;rcases h1 with h1|h1
   · omega
   · exact .inl (h1 i (List.mem_range.2 hi))
 · exact .inr (Array.getElem?_eq_none hge)
theorem lZ{l:List Oper}(hs:Region.noSelect l.toArray=true)(ht:Az md l.toArray n=true)(hQ:∀c a d v w,Q (.panic c) (a.put d v) w→Q (.panic c) a w){K:Act→Prop}{w:World}(hC:C w)(fuel:Nat)(L:Array Bool)
    (hK:∀a',K a'→rO P md l.toArray n C Q fuel L a' w):∀(q:List Nat) (listed:Array Bool) (a:Act),Rv md l.toArray n q listed=some L→
    wpQuiet P l.toArray C K (q.filterMap (l[·]?)) a→rO P md l.toArray n C Q (fuel+q.length) listed a w
 |[],listed,a,ho,h=>by
  simp only[Rv,Option.some.injEq]at ho;subst ho;exact hK a h
 | i :: q, listed, a, ho, h => by
  unfold Rv at ho;split at ho
  · rename_i hb;simp only[Bool.and_eq_true,decide_eq_true_eq]at hb;obtain⟨⟨⟨h1,h2⟩,h3⟩,h4⟩:=hb;cases GY:l[i]? with
    |none=>simp[GY]at h4
    |some o=>
     have EN:l.toArray[i]?=some o:=by simpa using GY
     have hp:BN o=true:=by simpa [GY]using h4
     rw[List.filterMap_cons,GY]at h;simp only[wpQuiet]at h;obtain⟨v,hy,hk⟩:=sU hp h;have:=lZ hs ht hQ hC fuel L hK q _ _ ho hk;exact JX EN (Region.noSelect_spec hs) (fun c a w=>hQ c a _ _ w) (Ir ht h1) _ _ _ _ (Region.free_spec EN h3) (by simpa using h2) hy hC h1 this
  · cases ho
theorem y9{l:List Oper}:∀(t:List Oper) (k:Nat) (listed:Array Bool) (a:Act) (w:World),n≤k→(∀j,t[j]?=l[k+j]?)→
    Region.seqB md l.toArray t.length k listed=true→wpList P l.toArray Q t a w→rO P md l.toArray n C Q t.length listed a w
 |[],_,_,_,_,_,_,hB,h=>⟨by simpa [Region.seqB]using hB,h⟩
 |o::t,k,listed,a,w,hk,hl,hB,h=>by
  have h0:l.toArray[k]?=some o:=by simpa using(hl 0).symm
  simp only[List.length_cons,Region.seqB,Bool.and_eq_true,decide_eq_true_eq]at hB;refine⟨fun h1=>(by rw[hB.1]at h1;cases h1),fun i hi=>?_⟩;rw[hB.1]at hi;have hik:i=k:=by simpa using hi
  subst hik;have hw:wpOp P l.toArray Q i (wpList P l.toArray Q t) a w:=by unfold wpOp;simp only[h0];exact h
  exact wpOp_mono (fun a' w' h'=>⟨fun bZ=>absurd bZ (Nat.not_lt.2 hk),y9 t (i+1) _ a' w' (by omega) (fun j=>by have:=hl (j+1);simpa [Nat.add_assoc,Nat.add_comm 1 j]using this) hB.2 h'⟩) hw
theorem Pg{o:Oper}{a:Act}{w:World}{next K:Act→World→Prop}(h:o.wp P a w next (Exit.then K Q)):o.wp P a w next Q:=by
 unfold Oper.wp at*;generalize (execOp a.eval o).run P w=r at*;cases r with
 | ok n w' =>
  cases n<;>simp only[Oper.upon]at h ⊢
  case value u=>exact h
  case skip=>exact h
  case defer d=>exact h
  case enter f args=>
   refine Calls.mono h fun e w'' he=>?_;cases e with
   |returned u=>exact he
   |panicked c=>exact he
   |outgrown=>exact he
  case row row args=>exact h
 |halt x w'=>
  cases x<;>simp only[Oper.upon]at h ⊢
  case panic u=>exact h
theorem Ik{l:List Oper}(hs:Region.noSelect l.toArray=true)(ht:Az md l.toArray n=true)(hQ:∀c a d v w,Q (.panic c) (a.put d v) w→Q (.panic c) a w)(hn:n≤l.length):∀(kY:List (List Nat×Nat)) (q':List Nat) (listed:Array Bool) (a:Act) (w:World),C w→
    Lr md l.toArray n kY q' listed=true→oI P l C Q (fun a' w'=>wpList P l.toArray Q (l.drop n) a' w') kY q' a w→rO P md l.toArray n C Q ((l.length - n)+costs kY q') listed a w
 |[],q',listed,a,w,hC,hB,h=>by
  unfold Lr at hB;split at hB
  · rename_i L hL;refine lZ hs ht hQ hC _ L (fun a' hk=>?_) q' listed a hL h;have:=y9 (md:=md) (C:=C) (l:=l) (l.drop n) n L a' w (Nat.le_refl _) (fun j=>by simp[List.getElem?_drop]) (by simpa using hB) hk;simpa using this
  · cases hB
 | (q, i) :: r, q', listed, a, w, hC, hB, h => by
  unfold Lr at hB;split at hB
  · rename_i L hL;simp only[Bool.and_eq_true,decide_eq_true_eq]at hB;obtain⟨⟨hr,Nl⟩,hB⟩:=hB;have e:l.length - n+costs ((q,i)::r) q'=((l.length - n+costs r q')+1)+q.length:=by simp[costs];omega
    rw[e];refine lZ hs ht hQ hC _ L (fun a' hk=>?_) q listed a hL h;refine⟨fun h1=>(by rw[hr]at h1;cases h1),fun j hj=>?_⟩;rw[hr]at hj;have EK:j=i:=by simpa using hj
    subst EK;cases GY:l[j]? with
    |none=>
     exfalso;have:j∈Region.ready md l.toArray L:=by rw[hr];simp
     obtain⟨_,o,ho,_⟩:=mem_ready.1 this;simp[GY]at ho
    | some o =>
     rw[GY]at hk;simp only[Option.toList,wpList]at hk;unfold wpOp;have EN:l.toArray[j]?=some o:=by simpa using GY
     simp only[EN];have step:∀a'' w',C w'∧oI P l C Q (fun a' w'=>wpList P l.toArray Q (l.drop n) a' w') r q' a'' w'→(j<n→C w')∧rO P md l.toArray n C Q (l.length - n+costs r q') (L.setIfInBounds j true) a'' w':=
      fun a'' w' h3=>⟨fun _=>h3.1,Ik hs ht hQ hn r q' _ a'' w' h3.1 hB h3.2⟩
     split
     · rename_i hw;rw[if_pos hw]at hk;rcases hk with hk|hk
       · left;exact Oper.wp_mono (fun a'' w' h'=>step a'' w' h') (Pg hk)
       · right;exact hk
     · rename_i hw;rw[if_neg hw]at hk;exact step _ _ hk
  · cases hB
end
theorem QX{P:Program}{l:List Oper}{C:World→Prop}{Q:Exit→Act→World→Prop}{fin:Act→World→Prop}{q:List Nat}{a:Act}{w:World}{qs:List Oper}(he:q.filterMap (l[·]?)=qs)
    (h:∀K:Act→Prop,(∀a',fin a' w→K a')→wpQuiet P l.toArray C K qs a):oI P l C Q fin [] q a w:=by
 subst he;exact h _ fun _ h=>h
theorem Og{P:Program}{l:List Oper}{C:World→Prop}{Q:Exit→Act→World→Prop}{fin:Act→World→Prop}{q:List Nat}{i:Nat}{r:List (List Nat×Nat)}{q':List Nat}{a:Act}{w:World}{qs os:List Oper}(he:q.filterMap (l[·]?)=qs)(ho:(l[i]?).toList=os)
    (h:∀K:Act→Prop,(∀a',(∀K2:Act→World→Prop,(∀a'' w',C w'→oI P l C Q fin r q' a'' w'→K2 a'' w')→wpList P l.toArray (Exit.then K2 Q) os a' w)→K a')→wpQuiet P l.toArray C K qs a):oI P l C Q fin ((q,i)::r) q' a w:=by
 subst he ho;refine h _ fun a' h2=>?_;exact h2 _ fun _ _ h3 h4=>⟨h3,h4⟩
theorem uB{P:Program}{id:Nat}{Q:Exit→Act→World→Prop}{a:Act}{w:World}{l:List Oper}{T:Type}(f:T→World)(n:Nat)(kY:List (List Nat×Nat))(q:List Nat)(h0:∃s,w.drew=f s)(hm:P.follows .mixedOrders=true)(hB:EA l.toArray n kY q=true)
    (hQ:∀c a d v w,Q (.panic c) (a.put d v) w→Q (.panic c) a w)
    (h:oI P l (fun w'=>∃s,w'=f s) Q (fun a' w'=>wpList P l.toArray Q (l.drop n) a' w') kY q a w.drew):(Code.region id l.toArray true).wp P Q a w:=by
 unfold EA at hB;simp only[Bool.and_eq_true,decide_eq_true_eq]at hB;obtain⟨⟨⟨⟨h1,h2⟩,h3⟩,h4⟩,h5⟩:=hB;refine wp_region_any hm (zh (C:=fun w'=>∃s,w'=f s) (n:=n) _ _ _ _ ?_);have:=Ik (C:=fun w'=>∃s,w'=f s) (md:=.any) h1 h2 hQ (by simpa using h4) kY q _ a w.drew h0 h5 h;have e:l.length - n+costs kY q=l.toArray.size:=by
  have:n≤l.length:=by simpa using h4
  simp;omega
 rw[e]at this;exact this
section
variable {P:Program} {l:List Oper} {C:World→Prop} {Q:Exit→Act→World→Prop} {fin:Act→World→Prop} {q:List Nat} {i j:Nat} {q':List Nat} {r:List (List Nat×Nat)} {a:Act} {w:World} {o o2:Oper}
theorem di(qs:List Oper)(he:q.filterMap (l[·]?)=qs)(ho:(l[i]?).toList=[o])(h:∀K:Act→Prop,(∀a',(∀K2:Act→World→Prop,(∀a'' w',C w'→oI P l C Q fin r q' a'' w'→K2 a'' w')→wpList P l.toArray (Exit.then K2 Q) [o] a' w)→K a')→wpQuiet P l.toArray C K qs a):oI P l C Q fin ((q,i)::r) q' a w:=Og he ho h
theorem ic(ho:(l[i]?).toList=[o])(h:∀K2:Act→World→Prop,(∀a'' w',C w'→oI P l C Q fin r q' a'' w'→K2 a'' w')→wpList P l.toArray (Exit.then K2 Q) [o] a w):oI P l C Q fin (([],i)::r) q' a w:=di [] rfl ho fun _ hK=>qn hK h
theorem uY(qs:List Oper)(he:q.filterMap (l[·]?)=qs)(h:∀K:Act→Prop,(∀a',fin a' w→K a')→wpQuiet P l.toArray C K qs a):oI P l C Q fin [] q a w:=QX he h
theorem dW(h:fin a w):oI P l C Q fin [] [] a w:=uY [] rfl fun _ hK=>qn hK h
theorem dI{d:List Oper}{Q':Exit→Act→World→Prop}(qs:List Oper)(he:q.filterMap (l[·]?)=qs)(hd:d=[])(h:∀K:Act→Prop,(∀a',Q' .normal a' w→K a')→wpQuiet P l.toArray C K qs a):oI P l C Q (fun a' w'=>wpList P l.toArray Q' d a' w') [] q a w:=by
 subst hd;exact uY qs he h
theorem JD{d:List Oper}{Q':Exit→Act→World→Prop}(hd:d=[])(h:Q' .normal a w):oI P l C Q (fun a' w'=>wpList P l.toArray Q' d a' w') [] [] a w:=dI [] rfl hd fun _ hK=>qn hK h
end
theorem dZ{P:Program}{id:Nat}{Q:Exit→Act→World→Prop}{a:Act}{w:World}{l:List Oper}{C:World→Prop}{T:Type}{f:T→World}(H:Zs (iq C T f))(n:Nat)(kY:List (List Nat×Nat))(q:List Nat)(h0:C w.drew)
    (h:oI P l (fun w'=>∃s,w'=f s) Q (fun a' w'=>wpList P l.toArray Q (l.drop n) a' w') kY q a w.drew) (hm:P.follows .mixedOrders=true:=by kernel_rfl) (hB:EA l.toArray n kY q=true:=by kernel_rfl)
    (hQ:∀c a d v w,Q (.panic c) (a.put d v) w→Q (.panic c) a w:=by exact fun _ _ d _ _ h=>by cases d<;>exact h):(Code.region id l.toArray true).wp P Q a w:=uB f n kY q (H.o.o _ h0) hm hB hQ h
end Go.Proofs.YtcepdbbapgfcdaaGreat
