/- The plain functions of layers 4 (layouts, links), 5 (looking at methods) and 6 (runs).; Walks: slices are cloned.; Walks: a stack's popAll, pop.; Walks: method.; A region that draws its order, whose operations only read and whose callees leave the worlds of a cl; A region that draws its order, in which some operations write: those that only read are taken as soo -/
import Derived.Test.YtjdfceejkneofaaGreatJae
import Derived.Test.YtjdfceejkneofaaGreatJaa
import Derived.Deep.Quiet
set_option maxRecDepth 100000
set_option maxHeartbeats 4000000
set_option linter.unusedSimpArgs false
set_option linter.unusedVariables false
namespace Go.Proofs.YtjdfceejkneofaaGreat.M
structure FRef where
 of : Ref
 at_ : Int
 kind : Kind
def zkind : Kind := ⟨0, none_⟩
def zfref : FRef := ⟨zref, 0, zkind⟩
def addFields (of : Ref) : List Field → List FRef → List FRef
 | [], acc => acc
 | f :: r, acc => addFields of r (acc ++ [⟨of, acc.length, f.kind⟩])
def layoutGo (p : Plan) : List Ref → List FRef → List FRef
 | [], acc => acc
 | c :: r, acc => layoutGo p r (addFields c (cls p c).fields acc)
def layout (p : Plan) (r : Ref) : List FRef := if canLay p r then layoutGo p (chain p r).reverse [] else []
def firstGo (p : Plan) (of : Ref) : List Ref → Nat → Nat
 | [], n => n
 | c :: r, n => if c = of then n else firstGo p of r (n + (cls p c).fields.length)
def firstField (p : Plan) (of low : Ref) : Nat := firstGo p of (chain p low).reverse 0
def fieldName (p : Plan) (r : Ref) (f : FRef) : ByteArray := (((cls p f.of).fields[(f.at_ - firstField p f.of r).toNat]?).map Field.name).getD none_
def getIn (p : Plan) (k : Int) (m : ByteArray) (r : Ref) : List FRef → FRef × Int
 | [] => (zfref, 3)
 | f :: l => if fieldName p r f = m then (if agree p k f.of.keeper f.kind then (f, 1) else (zfref, 4)) else getIn p k m r l
def get (p : Plan) (k : Int) (n m : ByteArray) : FRef × Int :=
 if (linkClass p k n m).2 = 1 then getIn p k m (linkClass p k n m).1 (layout p (linkClass p k n m).1) else (zfref, (linkClass p k n m).2)
def zmethod : Method := ⟨none_, [], zkind, 0, 0, [], []⟩
def zmref : MRef := ⟨zref, 0⟩
def method? (p : Plan) (m : MRef) : Option Method := if 0 ≤ m.at_ then (cls p m.of).methods[m.at_.toNat]? else none
def method (p : Plan) (m : MRef) : Method := (method? p m).getD zmethod
def call (p : Plan) (k : Int) (n m : ByteArray) : MRef × Int :=
 if (linkClass p k n m).2 = 1 then
  (match pick p (linkClass p k n m).1 m with
  | none => (zmref, 3)
  | some x => if agreeMethod p k x.of.keeper (method p x) then (x, 1) else (zmref, 4))
 else (zmref, (linkClass p k n m).2)
def hasMethod (p : Plan) (m : MRef) : Bool := canLay p m.of && decide (0 ≤ m.at_) && decide (m.at_ < (cls p m.of).methods.length)
structure Frm where
 locals : List Tag
 stack : List Tag
def ztag : Tag := ⟨0, none_⟩
def numTag : Tag := ⟨1, none_⟩
def nullTag : Tag := ⟨3, none_⟩
def clsTag (n : ByteArray) : Tag := ⟨2, n⟩
def tagOf (k : Kind) : Tag := if kndOk k then ⟨k.kind, k.name⟩ else ztag
def may (p : Plan) (k : Int) (a b : Tag) : Bool :=
 if b.kind = 0 ∨ a = b then true else if b.kind ≠ 2 then false else if a.kind = 3 then true else if a.kind ≠ 2 then false
 else decide ((find p k a.name).2 = 1) && decide ((find p k b.name).2 = 1) && under p (find p k a.name).1 (find p k b.name).1
def lkTake (s : Frm) : Option (Tag × Frm) := s.stack.getLast?.map fun t => (t, ⟨s.locals, s.stack.dropLast⟩)
def lkAs (p : Plan) (k : Int) (t : Tag) (s : Frm) : Option Frm := (lkTake s).bind fun x => if may p k x.1 t then some x.2 else none
def lkObj (s : Frm) : Option Frm := (lkTake s).bind fun x => if x.1.kind = 2 ∨ x.1.kind = 3 then some x.2 else none
def lkPut (m : Method) (t : Tag) (s : Frm) : Option Frm := if m.stack ≤ s.stack.length then none else some ⟨s.locals, s.stack ++ [t]⟩
def mayAll (p : Plan) (k : Int) : List Tag → List Tag → Bool
 | a :: r, b :: l => may p k a b && mayAll p k r l
 | _, _ => true
def suffices_ (p : Plan) (k : Int) (s : Frm) (f : SMap) : Bool := decide (f.stack.length = s.stack.length) && mayAll p k s.locals f.locals && mayAll p k s.stack f.stack
def mapAt (m : Method) (at_ : Int) : Option SMap := m.maps.find? fun f => f.at_ = at_
def lkBranch (p : Plan) (k : Int) (m : Method) (tgt : Int) (s : Frm) : Option Frm :=
 (mapAt m tgt).bind fun f => if suffices_ p k s f then some s else none
def lkMeet (p : Plan) (k : Int) (m : Method) (goes : Bool) (at_ : Int) (s : Frm) : Option Frm :=
 match mapAt m at_ with
 | none => if goes then some s else none
 | some f => if goes && !suffices_ p k s f then none else some ⟨f.locals, f.stack⟩
def lkAsAll (p : Plan) (k : Int) : List Kind → Frm → Option Frm
 | [], s => some s
 | a :: r, s => (lkAs p k (tagOf a) s).bind (lkAsAll p k r)
def lkIns (p : Plan) (k : Int) (m : Method) (i : Ins) (s : Frm) : Option Frm :=
 if i.op = 1 then lkPut m numTag s
 else if i.op = 2 then (s.locals[i.a.toNat]?).bind fun t => if t.kind = 0 then none else lkPut m t s
 else if i.op = 3 then (lkTake s).map fun x => ⟨x.2.locals.set i.a.toNat x.1, x.2.stack⟩
 else if i.op = 4 then (lkAs p k numTag s).bind fun s1 => (lkAs p k numTag s1).bind (lkPut m numTag)
 else if i.op = 5 then lkPut m nullTag s
 else if i.op = 6 then lkPut m (clsTag i.name) s
 else if i.op = 7 then (if (get p k i.name i.member).2 = 1 then (lkAs p k (clsTag i.name) s).bind (lkPut m (tagOf (get p k i.name i.member).1.kind)) else none)
 else if i.op = 8 then (if (get p k i.name i.member).2 = 1 then (lkAs p k (tagOf (get p k i.name i.member).1.kind) s).bind (lkAs p k (clsTag i.name)) else none)
 else if i.op = 9 then (if (call p k i.name i.member).2 = 1 then
     (lkAsAll p k (method p (call p k i.name i.member).1).args.reverse s).bind fun s1 => (lkAs p k (clsTag i.name) s1).bind (lkPut m (tagOf (method p (call p k i.name i.member).1).ret)) else none)
 else if i.op = 10 then lkAs p k (tagOf m.ret) s
 else if i.op = 11 then (lkAs p k numTag s).bind (lkBranch p k m i.a)
 else if i.op = 12 then (lkObj s).bind (lkBranch p k m i.a)
 else if i.op = 13 then lkBranch p k m i.a s
 else if i.op = 14 then lkAs p k numTag s
 else (lkObj s).bind (lkPut m (clsTag i.name))
def framesGo (p : Plan) (k : Int) (m : Method) : List Ins → Nat → Bool → Frm → List Frm → Sum Int (List Frm)
 | [], at_, goes, _, known => if goes then .inl (at_ + 1) else .inr known
 | i :: r, at_, goes, s, known =>
  match lkMeet p k m goes at_ s with
  | none => .inl (at_ + 1)
  | some s1 => match lkIns p k m i s1 with
   | none => .inl (at_ + 1)
   | some s2 => framesGo p k m r (at_ + 1) (decide (i.op ≠ 10) && decide (i.op ≠ 13)) s2 (known ++ [s1])
def lkStart (x : MRef) (m : Method) : Frm := ⟨(clsTag x.of.name :: m.args.map tagOf) ++ List.replicate (m.locals.toNat - (m.args.length + 1)) ztag, []⟩
def look (p : Plan) (x : MRef) : List Frm × Int :=
 match framesGo p x.of.keeper (method p x) (method p x).code 0 true (lkStart x (method p x)) [] with
 | .inl n => ([], n)
 | .inr l => (l, 0)
def right (p : Plan) (x : MRef) : Bool := decide ((look p x).2 = 0)
def lookClass (p : Plan) (r : Ref) : Bool := canLay p r && (List.range (cls p r).methods.length).all fun i => right p ⟨r, i⟩
structure Val where
 kind : Int
 n : Int
theorem Val.ext_iff' {a b : Val} : a = b ↔ a.kind = b.kind ∧ a.n = b.n := by
 cases a; cases b; simp
instance : DecidableEq Val := fun _ _ => decidable_of_iff' _ Val.ext_iff'
structure VObj where
 of : Ref
 fields : List Val
structure Fr where
 of : MRef
 pc : Int
 locals : List Val
 stack : List Val
structure St where
 status : Int
 frames : List Fr
 heap : List VObj
 outs : List Int
 back : Val
def zval : Val := ⟨0, 0⟩
def nullVal : Val := ⟨3, 0⟩
def numVal (n : Int) : Val := ⟨1, n⟩
def zst : St := ⟨0, [], [], [], zval⟩
def numOk (n : Int) : Bool := decide (-9999 ≤ n) && decide (n ≤ 9999)
def valOk (v : Val) (objs : Nat) : Bool :=
 if v.kind = 0 ∨ v.kind = 3 then decide (v.n = 0) else if v.kind = 1 then numOk v.n else if v.kind = 2 then decide (0 ≤ v.n) && decide (v.n < objs) else false
def heapOk (p : Plan) (h : List VObj) : Bool :=
 decide (h.length ≤ 12) && h.all fun o => canLay p o.of && decide (o.fields.length = (layout p o.of).length) && o.fields.all (valOk · h.length)
def ofAt (h : List VObj) (n : Int) : Ref := ((h[n.toNat]?).map VObj.of).getD zref
def hasType (p : Plan) (k : Int) (h : List VObj) (v : Val) (t : Kind) : Bool :=
 if t.kind = 1 then decide (v.kind = 1) else if v.kind = 3 then true else if v.kind ≠ 2 then false
 else decide ((find p k t.name).2 = 1) && under p (ofAt h v.n) (find p k t.name).1
def fits (p : Plan) (k : Int) (h : List VObj) (v : Val) (t : Tag) : Bool :=
 if t.kind = 0 then true else if t.kind = 3 then decide (v.kind = 3) else hasType p k h v ⟨t.kind, t.name⟩
def frameOk (p : Plan) (f : Fr) (objs : Nat) : Bool :=
 hasMethod p f.of && decide (0 ≤ f.pc) && decide (f.pc < (method p f.of).code.length) && decide ((f.locals.length : Int) = (method p f.of).locals) &&
 decide ((f.stack.length : Int) ≤ (method p f.of).stack) && f.locals.all (valOk · objs) && f.stack.all (valOk · objs)
def vmOk (p : Plan) (s : St) : Bool :=
 decide (1 ≤ s.status) && decide (s.status ≤ 10) && decide (s.heap.length ≤ 12) && decide (s.outs.length ≤ 40) && decide (s.frames.length ≤ 8) &&
 (decide (0 < s.frames.length) == decide (s.status = 1)) && s.outs.all numOk && s.frames.all (frameOk p · s.heap.length) && heapOk p s.heap && valOk s.back s.heap.length
def onTop (s : St) (f : Fr → Fr) : St := { s with frames := s.frames.dropLast ++ (s.frames.getLast?.map f).toList }
def top (s : St) : Fr := s.frames.getLastD ⟨zmref, 0, [], []⟩
def jump (p : Plan) (tgt : Int) (s : St) : Int × St :=
 if ((method p (top s).of).code.length : Int) ≤ tgt then (10, s) else (1, onTop s fun f => { f with pc := tgt })
def next (p : Plan) (s : St) : Int × St := jump p ((top s).pc + 1) s
def push (p : Plan) (v : Val) (s : St) : Int × St :=
 if (method p (top s).of).stack ≤ (top s).stack.length then (10, s) else next p (onTop s fun f => { f with stack := f.stack ++ [v] })
def popAll (c : Nat) (s : St) : Option (List Val × St) :=
 if (top s).stack.length < c then none
 else some ((top s).stack.drop ((top s).stack.length - c), onTop s fun f => { f with stack := f.stack.take (f.stack.length - c) })
def pop (s : St) : Option (Val × St) := (popAll 1 s).map fun x => (x.1.headD zval, x.2)
def class_ (p : Plan) (n : ByteArray) (s : St) : Ref × Bool :=
 ((find p (top s).of.of.keeper n).1, decide ((find p (top s).of.of.keeper n).2 = 1) && canLay p (find p (top s).of.of.keeper n).1)
def fresh (p : Plan) (r : Ref) : VObj := ⟨r, (layout p r).map fun f => if f.kind.kind = 1 then numVal 0 else nullVal⟩
def create (p : Plan) (r : Ref) (s : St) : Val × St := (⟨2, s.heap.length⟩, { s with heap := s.heap ++ [fresh p r] })
def object (p : Plan) (v : Val) (t : Ref) (s : St) : Int :=
 if v.kind = 3 then 3 else if v.kind ≠ 2 then 10 else if under p (ofAt s.heap v.n) t then 1 else 10
def hasTypes (p : Plan) (k : Int) (h : List VObj) : List Val → List Kind → Bool
 | v :: r, t :: l => hasType p k h v t && hasTypes p k h r l
 | _, _ => true
def enter (p : Plan) (lk : Bool) (x : MRef) (vs : List Val) (s : St) : Int × St :=
 if 8 ≤ s.frames.length then (7, s)
 else if lk && !right p x then (5, s)
 else if hasTypes p x.of.keeper s.heap vs (⟨2, x.of.name⟩ :: (method p x).args) then
  (1, { s with frames := s.frames ++ [⟨x, 0, vs ++ List.replicate ((method p x).locals.toNat - vs.length) zval, []⟩] })
 else (10, s)
def end_ (c : Int) (s : St) : St := if c = 1 then s else { s with status := c, frames := [] }
def fieldsAt (h : List VObj) (n : Int) : List Val := ((h[n.toNat]?).map VObj.fields).getD []
def setField (h : List VObj) (n a : Int) (v : Val) : List VObj := h.modify n.toNat fun o => { o with fields := o.fields.set a.toNat v }
def doIns (p : Plan) (lk : Bool) (i : Ins) (s : St) : Int × St :=
 if i.op = 1 then push p (numVal i.a) s
 else if i.op = 2 then (if (((top s).locals[i.a.toNat]?).getD zval).kind = 0 then (10, s) else push p (((top s).locals[i.a.toNat]?).getD zval) s)
 else if i.op = 3 then (match pop s with
  | none => (10, s)
  | some (v, s1) => next p (onTop s1 fun f => { f with locals := f.locals.set i.a.toNat v }))
 else if i.op = 4 then (match popAll 2 s with
  | some ([a, b], s1) => if a.kind = 1 ∧ b.kind = 1 then (if numOk (a.n + b.n) then push p (numVal (a.n + b.n)) s1 else (9, s1)) else (10, s1)
  | _ => (10, s))
 else if i.op = 5 then push p nullVal s
 else if i.op = 6 then (if (class_ p i.name s).2 then (if 12 ≤ s.heap.length then (8, s) else push p (create p (class_ p i.name s).1 s).1 (create p (class_ p i.name s).1 s).2) else (4, s))
 else if i.op = 7 then (if (get p (top s).of.of.keeper i.name i.member).2 = 1 then
     (match pop s with
     | none => (10, s)
     | some (v, s1) =>
      if object p v (get p (top s).of.of.keeper i.name i.member).1.of s1 = 1 then
       push p (((fieldsAt s1.heap v.n)[(get p (top s).of.of.keeper i.name i.member).1.at_.toNat]?).getD zval) s1
      else (object p v (get p (top s).of.of.keeper i.name i.member).1.of s1, s1))
  else (4, s))
 else if i.op = 8 then (if (get p (top s).of.of.keeper i.name i.member).2 = 1 then
     (match popAll 2 s with
     | some ([o, v], s1) =>
      if hasType p (get p (top s).of.of.keeper i.name i.member).1.of.keeper s1.heap v (get p (top s).of.of.keeper i.name i.member).1.kind then
       (if object p o (get p (top s).of.of.keeper i.name i.member).1.of s1 = 1 then
        next p { s1 with heap := setField s1.heap o.n (get p (top s).of.of.keeper i.name i.member).1.at_ v }
       else (object p o (get p (top s).of.of.keeper i.name i.member).1.of s1, s1))
      else (10, s1)
     | _ => (10, s))
  else (4, s))
 else if i.op = 9 then (if (call p (top s).of.of.keeper i.name i.member).2 = 1 then
     (match popAll ((method p (call p (top s).of.of.keeper i.name i.member).1).args.length + 1) s with
     | some (vs, s1) =>
      if object p (vs.headD zval) (call p (top s).of.of.keeper i.name i.member).1.of s1 = 1 then
       (match pick p (ofAt s1.heap (vs.headD zval).n) i.member with
       | some x => enter p lk x vs s1
       | none => (10, s1))
      else (object p (vs.headD zval) (call p (top s).of.of.keeper i.name i.member).1.of s1, s1)
     | none => (10, s))
  else (4, s))
 else if i.op = 10 then (match pop s with
  | none => (10, s)
  | some (v, s1) => if hasType p (top s).of.of.keeper s1.heap v (method p (top s).of).ret then
      (if s1.frames.length = 1 then (2, { s1 with back := v }) else push p v { s1 with frames := s1.frames.dropLast })
   else (10, s1))
 else if i.op = 11 then (match pop s with
  | none => (10, s)
  | some (v, s1) => if v.kind = 1 then (if v.n = 0 then jump p i.a s1 else next p s1) else (10, s1))
 else if i.op = 12 then (match pop s with
  | none => (10, s)
  | some (v, s1) => if v.kind = 2 ∨ v.kind = 3 then (if v.kind = 3 then jump p i.a s1 else next p s1) else (10, s1))
 else if i.op = 13 then jump p i.a s
 else if i.op = 14 then (match pop s with
  | none => (10, s)
  | some (v, s1) => if v.kind = 1 then next p (if s1.outs.length < 40 then { s1 with outs := s1.outs ++ [v.n] } else s1) else (10, s1))
 else (match pop s with
  | none => (10, s)
  | some (v, s1) => if v.kind = 2 ∨ v.kind = 3 then
      (if v.kind = 3 then push p v s1
      else if (class_ p i.name s1).2 then (if under p (ofAt s1.heap v.n) (class_ p i.name s1).1 then push p v s1 else (6, s1)) else (4, s1))
   else (10, s1))
def zins : Ins := ⟨0, 0, none_, none_⟩
def stepped (p : Plan) (lk : Bool) (s : St) : Int × St := doIns p lk (((method p (top s).of).code[(top s).pc.toNat]?).getD zins) s
def step (p : Plan) (lk : Bool) (s : St) : St := if s.status = 1 then end_ (stepped p lk s).1 (stepped p lk s).2 else s
def steps (p : Plan) (lk : Bool) : Nat → St → St
 | 0, s => s
 | f + 1, s => if s.status = 1 then steps p lk f (step p lk s) else s
def startable (m : Method) (args : List Int) : Bool := decide (m.args.length = args.length) && m.args.all fun k => decide (k.kind = 1)
def linkSt : St := ⟨4, [], [], [], zval⟩
def start (p : Plan) (lk : Bool) (k : Int) (n m : ByteArray) (args : List Int) : St :=
 if (find p k n).2 = 1 ∧ canLay p (find p k n).1 = true then
  (if (call p k n m).2 = 1 ∧ startable (method p (call p k n m).1) args = true then
   end_ (enter p lk (call p k n m).1 (⟨2, 0⟩ :: args.map numVal) ⟨1, [], [fresh p (find p k n).1], [], zval⟩).1
    (enter p lk (call p k n m).1 (⟨2, 0⟩ :: args.map numVal) ⟨1, [], [fresh p (find p k n).1], [], zval⟩).2
  else linkSt)
 else linkSt
def vmNew (p : Plan) (lk : Bool) (k : Int) (n m : ByteArray) (args : List Int) : St :=
 if lodOk p && has p k && namOk n && namOk m && args.all numOk then start p lk k n m args else zst
def vmRun (p : Plan) (lk : Bool) (s : St) (fuel : Int) : St :=
 if decide (fuel ≤ 400) && lodOk p && vmOk p s then steps p lk fuel.toNat s else zst
def classes (p : Plan) : List Ref :=
 (List.range p.length).flatMap fun k => (((p[k]?).map fun q => q.owns.map fun c => (⟨k, c.name⟩ : Ref)).getD []).filter fun r => decide (0 < (chain p r).length)
def planRight (p : Plan) : Bool := lodOk p && (classes p).all (lookClass p)
end Go.Proofs.YtjdfceejkneofaaGreat.M
namespace Go.Proofs.YtjdfceejkneofaaGreat
open Go Go.RowKit
open Go.Lib (hid)
def valCs (v : M.Val) : List Value := [.int .i64 v.kind, .int .i64 v.n]
def ValL : Lies M.Val := fun _ _ x cs => cs = valCs x
theorem ValL.stays : Stays ValL := fun _ _ _ _ _ _ _ _ h => h
def tagCs (t : M.Tag) : List Value := [.int .i64 t.kind, .string t.name]
def intCs (n : Int) : List Value := [.int .i64 n]
theorem elem_tag : Elem 26 25 2 := elem_of (z := .agg #[.int .i64 0, .string ⟨#[]⟩]) (bytes := 24) Tryz.underlying26 (by kernel_rfl) rfl (by decide) (by decide)
theorem flat_get {α : Type} {enc : α → List Value} {k : Nat} (hek : ∀ x, (enc x).length = k) : ∀ (l : List α) (j : Nat) (u : Value), (l.flatMap enc)[j]? = some u → ∃ i r x, l[i]? = some x ∧ (enc x)[r]? = some u ∧ j = i * k + r := by
 intro l
 induction l with
 | nil => intro j u h; simp at h
 | cons x t ih =>
  intro j u h
  rw [List.flatMap_cons] at h
  rcases Nat.lt_or_ge j (enc x).length with hj | hj
  · rw [List.getElem?_append_left hj] at h
    exact ⟨0, j, x, rfl, h, by omega⟩
  · rw [List.getElem?_append_right hj] at h
    obtain ⟨i, r, y, h1, h2, h3⟩ := ih _ _ h
    refine ⟨i + 1, r, y, by simpa using h1, h2, ?_⟩
    rw [hek] at h3 hj
    rw [Nat.succ_mul]; omega
theorem flat_len {α : Type} {enc : α → List Value} {k : Nat} (hek : ∀ x, (enc x).length = k) (l : List α) : (l.flatMap enc).length = l.length * k := by
 induction l with
 | nil => simp
 | cons x t ih => rw [List.flatMap_cons, List.length_append, ih, hek, List.length_cons, Nat.succ_mul]; omega
theorem flat_one {α : Type} {enc : α → List Value} (h1 : ∀ x, ∀ u ∈ enc x, u.oneCell' = true) (l : List α) : ∀ u ∈ l.flatMap enc, u.oneCell' = true := by
 intro u hu
 obtain ⟨x, _, hx⟩ := List.mem_flatMap.1 hu
 exact h1 x u hx
theorem SliceOf.flat {α : Type} {k : Nat} {R : Lies α} {enc : α → List Value} (hR : ∀ w I x cs, R w I x cs → cs = enc x) (hek : ∀ x, (enc x).length = k) {w : World} {I : Nat → Prop} {ad : Addr} {n cap : Nat} {xs : List α}
    (h : SliceOf k R w I (.slice (some ad) n cap) xs) : ∀ j u, (xs.flatMap enc)[j]? = some u → w.cell? (ad.add j) = some u := by
 intro j u hu
 obtain ⟨i, r, x, h1, h2, rfl⟩ := flat_get hek xs j u hu
 obtain ⟨b, off, cs, e, _, hr, hl, hc⟩ := h.get h1
 cases e
 have e2 := hR _ _ _ _ hr
 subst e2
 have := hc r u h2
 unfold Addr.add
 split
 · rename_i h0
   have e1 : i * k = 0 := by omega
   have e3 : r = 0 := by omega
   rw [e1, e3] at this
   exact this
 · simpa [Nat.add_assoc] using this
theorem one_val (x : M.Val) : ∀ u ∈ valCs x, u.oneCell' = true := by simp [valCs, Value.oneCell']
theorem one_tag (x : M.Tag) : ∀ u ∈ tagCs x, u.oneCell' = true := by simp [tagCs, Value.oneCell']
theorem one_int (x : Int) : ∀ u ∈ intCs x, u.oneCell' = true := by simp [intCs, Value.oneCell']
structure Flat (w : World) (k : Nat) (v : Value) (n : Nat) (xs : List Value) : Prop where
 len : xs.length = n * k
 ex : ∃ a c, v = .slice a n c ∧ (a = none → n = 0) ∧ ∀ ad, a = some ad → ∀ j u, xs[j]? = some u → w.cell? (ad.add j) = some u
 one : ∀ u ∈ xs, u.oneCell' = true
theorem SliceOf.toFlat {α : Type} {k : Nat} {R : Lies α} {enc : α → List Value} (hR : ∀ w I x cs, R w I x cs → cs = enc x) (hek : ∀ x, (enc x).length = k) (h1 : ∀ x, ∀ u ∈ enc x, u.oneCell' = true) {w : World} {I : Nat → Prop} {v : Value} {xs : List α}
    (h : SliceOf k R w I v xs) : Flat w k v xs.length (xs.flatMap enc) := by
 obtain ⟨a, c, rfl, _⟩ := h.form
 refine ⟨flat_len hek xs, ⟨a, c, rfl, ?_, ?_⟩, flat_one h1 xs⟩
 · rintro rfl
   cases xs with
   | nil => rfl
   | cons x r =>
    obtain ⟨_, _, _, e, _⟩ := h.get (i := 0) (x := x) rfl
    cases e
 · rintro ad rfl
   exact h.flat hR hek
theorem owns_flat {w : World} {base e k n : Nat} {v : Value} {xs : List Value} (h : w.ownsRow base e k v n xs) (h1 : ∀ u ∈ xs, u.oneCell' = true) : Flat w k v n xs := by
 refine ⟨h.1, ?_, h1⟩
 rcases h.2 with ⟨rfl, rfl⟩ | ⟨g, c, cur, rfl, _⟩
 · exact ⟨none, 0, rfl, fun _ => rfl, fun _ e => by cases e⟩
 · exact ⟨_, c, rfl, (fun e => by cases e), fun ad e => by cases e; exact h.cells rfl⟩
theorem owns_flat_drop {w : World} {base e k n c g : Nat} {xs : List Value} (h : w.ownsRow base e k (.slice (some ⟨g, 0, none⟩) n c) n xs) (h1 : ∀ u ∈ xs, u.oneCell' = true) {i : Nat} (c' : Nat) :
    Flat w k (.slice (some ⟨g, i * k, none⟩) (n - i) c') (n - i) (xs.drop (i * k)) := by
 refine ⟨by rw [List.length_drop, h.1, Nat.sub_mul], ⟨_, c', rfl, (fun e => by cases e), fun ad e j u hu => ?_⟩, fun u hu => h1 u (List.mem_of_mem_drop hu)⟩
 cases e
 rw [List.getElem?_drop] at hu
 have := h.cells (g := g) rfl _ _ hu
 unfold Addr.add at this ⊢
 split at this <;> split
 · rename_i h2 h3; rw [show i * k = 0 by omega]; exact this
 · omega
 · rename_i h2 h3; rw [h3] at this; simpa using this
 · simpa using this
theorem cell_lt' {w : World} {ad : Addr} {v : Value} (h : w.cell? ad = some v) : ad.block < w.heap.size := by
 rcases Nat.lt_or_ge ad.block w.heap.size with h1 | h1
 · exact h1
 · simp [World.cell?, Array.getElem?_eq_none h1] at h
theorem Flat.ext {w w' : World} {k n : Nat} {v : Value} {xs : List Value} (h : Flat w k v n xs) (hE : Ext w w') : Flat w' k v n xs := by
 obtain ⟨h1, ⟨a, c, e, h2, h3⟩, h4⟩ := h
 exact ⟨h1, ⟨a, c, e, h2, fun ad ea j u hu => (World.cell?_of_block (hE.block _ (cell_lt' (h3 ad ea j u hu)) fun x => x)).trans (h3 ad ea j u hu)⟩, h4⟩
theorem wpList_append_flat {t e k : Nat} (E : Elem t e k) (w : World) {ops : Array Oper} {rest : List Oper} {o : Oper} {a : Act} {Q : Exit → Act → World → Prop} (hgd : o.guard = none) (s x : Operand)
    (ho : o.op = .call { callee := .builtin .append, args := #[s, x], argTypes := #[t, t] }) (base : Nat) (v : Value) (n : Nat) (xs : List Value) (hs : a.eval s = v) (hown : w.ownsRow base e k v n xs)
    (ad : Addr) (m c : Nat) (news : List Value) (hx : a.eval x = .slice (some ad) m c) (hf : Flat w k (.slice (some ad) m c) m news)
    (hn : n + m ≤ 8589934592) (hbase : base ≤ w.heap.size)
    (h : ∀ v' w', w'.ownsRow base e k v' (n + m) (xs ++ news) → Kp (fun b => v.ownBlock = some b) w w' → wpList Tryz.prog ops Q rest (a.put o.dst v') w') :
    wpList Tryz.prog ops Q (o :: rest) a w := by
 obtain ⟨i, z, bytes, ht, hi, hz, hsz, hby, hzs, hk, hb⟩ := E
 obtain ⟨f1, ⟨a1, c1, e1, _, f2⟩, f3⟩ := hf
 cases e1
 refine wpList_append_own w hgd s x t ho base e i z k bytes ht hi hz hsz hby hzs hk v n xs hs hown ad m c news hx f1 (f2 ad rfl) f3 (by unfold maxLen; omega) ?_ hbase ?_
 · have : (n + m) * bytes ≤ 8589934592 * 4096 := Nat.mul_le_mul hn hb
   omega
 · intro v' w' h2 h3 _
   exact h v' w' h2 ⟨h3.os, h3.tape, h3.output, h3.size, fun k hk hd => h3.block k hk (fun e => hd e.symm)⟩
theorem owns_empty (W : World) (e k : Nat) (B : Nat) (hB : B ≤ W.heap.size) (g : Nat) (hg : W.heap.size = g) : (W.alloc (.cells #[] e)).ownsRow B e k (.slice (some ⟨g, 0, none⟩) 0 0) 0 [] := by
 subst hg
 exact ⟨by simp, .inr ⟨_, 0, #[], rfl, hB, heap_alloc_new W _, Nat.le_refl _, by simp, by simp, by simp⟩⟩
theorem clone_val (w : World) (v : Value) (n : Nat) (xs : List Value) (h : Flat w 2 v n xs) (hn : n ≤ 4294967296) :
    Calls Tryz.prog 49 #[v] w fun e w' => (∃ v', e = .returned v' ∧ w'.ownsRow w.heap.size 34 2 v' n xs) ∧ Ext w w' := by
 obtain ⟨a, c, rfl, h0, hc⟩ := h.ex
 have en := fun W => Lib.run_eql_slice_nil (P := Tryz.prog) W 103 34 a n c 0 0 Tryz.underlying103
 have hxl := h.len
 cases a with
 | none =>
  obtain rfl := h0 rfl
  have hx : xs = [] := List.eq_nil_of_length_eq_zero (by simpa using hxl)
  subst hx
  clear h h0 hc hxl
  go_enter Tryz.func49, Tryz.ntmps49
  go_wp2
  go_ret
  exact ⟨⟨_, rfl, World.ownsRow_nil _ _ _ _⟩, Kp.refl _ _⟩
 | some ad =>
  have HF := hid (h.ext ((Kp.refl _ _).alloc (.cells #[] 34) : Ext w _))
  have hnn : 0 + n ≤ 8589934592 := by omega
  clear h h0 hc hxl
  go_enter Tryz.func49, Tryz.ntmps49
  go_wp2_with (at_builtin; refine wpList_append_flat elem_val _ rfl _ _ rfl w.heap.size _ 0 [] rfl (owns_empty w _ 2 _ (Nat.le_refl _) _ rfl) ad n c xs rfl HF.out hnn (by simp) ?_)
  intro v' w' hown hK
  have HO := hid hown
  have HK := hid hK
  clear hown hK
  go_wp2
  go_ret
  exact ⟨⟨_, rfl, by simpa using HO.out⟩, ((Kp.refl _ _).alloc _ : Ext w _).own HK.out (fun b hb => by simp only [Value.ownBlock, Option.some.injEq] at hb; omega)⟩
theorem clone_tag (w : World) (v : Value) (n : Nat) (xs : List Value) (h : Flat w 2 v n xs) (hn : n ≤ 4294967296) :
    Calls Tryz.prog 131 #[v] w fun e w' => (∃ v', e = .returned v' ∧ w'.ownsRow w.heap.size 25 2 v' n xs) ∧ Ext w w' := by
 obtain ⟨a, c, rfl, h0, hc⟩ := h.ex
 have en := fun W => Lib.run_eql_slice_nil (P := Tryz.prog) W 26 25 a n c 0 0 Tryz.underlying26
 have hxl := h.len
 cases a with
 | none =>
  obtain rfl := h0 rfl
  have hx : xs = [] := List.eq_nil_of_length_eq_zero (by simpa using hxl)
  subst hx
  clear h h0 hc hxl
  go_enter Tryz.func131, Tryz.ntmps131
  go_wp2
  go_ret
  exact ⟨⟨_, rfl, World.ownsRow_nil _ _ _ _⟩, Kp.refl _ _⟩
 | some ad =>
  have HF := hid (h.ext ((Kp.refl _ _).alloc (.cells #[] 25) : Ext w _))
  have hnn : 0 + n ≤ 8589934592 := by omega
  clear h h0 hc hxl
  go_enter Tryz.func131, Tryz.ntmps131
  go_wp2_with (at_builtin; refine wpList_append_flat elem_tag _ rfl _ _ rfl w.heap.size _ 0 [] rfl (owns_empty w _ 2 _ (Nat.le_refl _) _ rfl) ad n c xs rfl HF.out hnn (by simp) ?_)
  intro v' w' hown hK
  have HO := hid hown
  have HK := hid hK
  clear hown hK
  go_wp2
  go_ret
  exact ⟨⟨_, rfl, by simpa using HO.out⟩, ((Kp.refl _ _).alloc _ : Ext w _).own HK.out (fun b hb => by simp only [Value.ownBlock, Option.some.injEq] at hb; omega)⟩
theorem clone_int (w : World) (v : Value) (n : Nat) (xs : List Value) (h : Flat w 1 v n xs) (hn : n ≤ 4294967296) :
    Calls Tryz.prog 47 #[v] w fun e w' => (∃ v', e = .returned v' ∧ w'.ownsRow w.heap.size 3 1 v' n xs) ∧ Ext w w' := by
 obtain ⟨a, c, rfl, h0, hc⟩ := h.ex
 have en := fun W => Lib.run_eql_slice_nil (P := Tryz.prog) W 32 3 a n c 0 0 Tryz.underlying32
 have hxl := h.len
 cases a with
 | none =>
  obtain rfl := h0 rfl
  have hx : xs = [] := List.eq_nil_of_length_eq_zero (by simpa using hxl)
  subst hx
  clear h h0 hc hxl
  go_enter Tryz.func47, Tryz.ntmps47
  go_wp2
  go_ret
  exact ⟨⟨_, rfl, World.ownsRow_nil _ _ _ _⟩, Kp.refl _ _⟩
 | some ad =>
  have HF := hid (h.ext ((Kp.refl _ _).alloc (.cells #[] 3) : Ext w _))
  have hnn : 0 + n ≤ 8589934592 := by omega
  clear h h0 hc hxl
  go_enter Tryz.func47, Tryz.ntmps47
  go_wp2_with (at_builtin; refine wpList_append_flat elem_int _ rfl _ _ rfl w.heap.size _ 0 [] rfl (owns_empty w _ 1 _ (Nat.le_refl _) _ rfl) ad n c xs rfl HF.out hnn (by simp) ?_)
  intro v' w' hown hK
  have HO := hid hown
  have HK := hid hK
  clear hown hK
  go_wp2
  go_ret
  exact ⟨⟨_, rfl, by simpa using HO.out⟩, ((Kp.refl _ _).alloc _ : Ext w _).own HK.out (fun b hb => by simp only [Value.ownBlock, Option.some.injEq] at hb; omega)⟩
theorem popAll_none (w : World) (k o : Nat) (T : TypeId) (cs : Array Value) (vs : Value) (n : Nat) (hB : Blk w k T cs) (h0 : cs[o]? = some vs) (hv : ∃ a c, vs = .slice a n c) (c : Nat) (hc : n < c) (hc2 : c ≤ 1000) :
    Calls Tryz.prog 84 #[.pointer (some ⟨k, o, none⟩), .int .i64 c] w fun e w' => e = .returned (.tuple #[.slice none 0 0, .bool false]) ∧ w = w' := by
 obtain ⟨a, cp, rfl⟩ := hv
 have c0 := hB.c o _ h0
 have hz := cell_lt c0
 have hcc : (n : Int) - c < 0 := by omega
 have hw : IntKind.i64.wrap ((n : Int) - c) = (n : Int) - c := IntWalk.i64_in _ (by omega)
 clear hB h0
 go_enter Tryz.func84, Tryz.ntmps84
 go_wp2
 go_ret2
 exact ⟨rfl, rfl⟩
theorem popAll_some (w : World) (k o B : Nat) (T : TypeId) (cs : Array Value) (vs : Value) (n : Nat) (xs : List M.Val) (hB : Blk w k T cs) (h0 : cs[o]? = some vs) (own : w.ownsRow B 34 2 vs n (xs.flatMap valCs)) (hl : xs.length = n)
    (c : Nat) (hc : c ≤ n) (hc0 : 0 < c) (hn : n ≤ 1000) (hne : vs.ownBlock ≠ some k) :
    Calls Tryz.prog 84 #[.pointer (some ⟨k, o, none⟩), .int .i64 c] w fun e w' =>
     ∃ v', e = .returned (.tuple #[v', .bool true]) ∧ w'.ownsRow w.heap.size 34 2 v' c ((xs.drop (n - c)).flatMap valCs) ∧
      (∃ a c', vs = .slice a n c' ∧ Blk w' k T (cs.setIfInBounds o (.slice a (n - c) c'))) ∧ Kp (· = k) w w' := by
 obtain ⟨g, cp, rfl, hg, hgl, hcp⟩ := owns_form own (by omega)
 obtain ⟨r, hr⟩ : ∃ r, n = r + c := ⟨n - c, by omega⟩
 have hrn : n - c = r := by omega
 have c0 := hB.c o _ h0
 have f0 := hB.frozen o
 have hz := cell_lt c0
 have hw : IntKind.i64.wrap ((n : Int) - c) = (r : Int) := by rw [IntWalk.i64_in _ (by omega)]; omega
 have hw2 : (n : Int) - c = (r : Int) := by omega
 have hr0 : (0 : Int) ≤ (r : Int) := by omega
 have hr1 : (r : Int) ≤ n := by omega
 have hr2 : (n : Int) ≤ cp := by omega
 have hr3 : ¬ cp = r := by omega
 have hf := owns_flat_drop own (flat_one one_val xs) (i := r) (cp - r)
 have hnr : n - r = c := by omega
 have HNR := hid hnr
 have hd : (xs.flatMap valCs).drop (r * 2) = (xs.drop r).flatMap valCs := by
  rw [← List.take_append_drop r xs, List.flatMap_append, List.drop_left' (by rw [flat_len (k := 2) (fun _ => rfl)]; simp; omega)]
  simp
 rw [hd] at hf
 have HF := hid hf
 have HRN := hid hrn
 have HB := hid hB
 have HO := hid own
 have HNE := hid hne
 clear hf hd hrn hB own hne h0 hr hnr
 go_enter Tryz.func84, Tryz.ntmps84
 go_wp2_with fail
 refine (clone_val _ _ _ _ HF.out (by omega)).mono ?_
 rintro e w1 ⟨⟨v', rfl, hown⟩, hE⟩
 obtain ⟨a', c', rfl⟩ := owns_val hown
 have HW := hid hown
 have hB1 := HB.out.ext hE
 have d0 := hE.cellE c0
 have e0 := hB1.frozen o
 have z1 := hB1.lt
 have HB1 := hid hB1
 have HE := hid hE
 clear hE hown hB1 c0 f0 hz
 go_wp2
 go_ret2
 refine ⟨_, rfl, ?_, ⟨_, _, rfl, by rw [HRN.out]; exact HB1.out.set_ _ _⟩, Kp.setCell (p := ⟨k, o, none⟩) (D := (· = k)) HE.out.any (fun _ => rfl) _⟩
 have h2 : w1.ownsRow w.heap.size 34 2 (.slice a' (n - r) c') c ((xs.drop (n - c)).flatMap valCs) := by
  have h2 := HW.out
  rw [HNR.out] at h2
  rw [HNR.out, HRN.out]
  exact h2
 refine owns_kp (D := (· = k)) h2 (Kp.setCell (p := ⟨k, o, none⟩) (D := (· = k)) (Kp.refl _ _) (fun _ => rfl) _) (fun q hq hb e => ?_)
 have e' : q = k := e
 subst e'
 have := HB.out.lt
 omega
theorem pop_none (w : World) (k o : Nat) (T : TypeId) (cs : Array Value) (vs : Value) (hB : Blk w k T cs) (h0 : cs[o]? = some vs) (hv : ∃ a c, vs = .slice a 0 c) :
    Calls Tryz.prog 82 #[.pointer (some ⟨k, o, none⟩)] w fun e w' => e = .returned (.tuple #[.agg #[.int .i64 0, .int .i64 0], .bool false]) ∧ Ext w w' := by
 have HB := hid hB
 have H0 := hid h0
 have HV := hid hv
 have hz := hB.lt
 clear hB h0 hv
 go_enter Tryz.func82, Tryz.ntmps82
 go_wp2_with fail
 refine (popAll_none _ _ _ _ _ _ 0 (HB.out.ext (KX.k (by repeat (first | assumption | constructor)))) H0.out HV.out 1 (by omega) (by omega)).mono ?_
 rintro e w1 ⟨rfl, rfl⟩
 go_wp2
 refine bodyPost_ret (v := .tuple #[.agg #[.int .i64 0, .int .i64 0], .bool false]) (by simp [results, Tryz.results82, go_sem]) rfl ?_
 exact ⟨rfl, (KX.k (by repeat (first | assumption | constructor)))⟩
theorem pop_some (w : World) (k o B : Nat) (T : TypeId) (cs : Array Value) (vs : Value) (n : Nat) (xs : List M.Val) (x : M.Val) (hB : Blk w k T cs) (h0 : cs[o]? = some vs) (own : w.ownsRow B 34 2 vs (n + 1) ((xs ++ [x]).flatMap valCs)) (hl : xs.length = n)
    (hn : n + 1 ≤ 1000) (hne : vs.ownBlock ≠ some k) :
    Calls Tryz.prog 82 #[.pointer (some ⟨k, o, none⟩)] w fun e w' =>
     e = .returned (.tuple #[.agg #[.int .i64 x.kind, .int .i64 x.n], .bool true]) ∧ (∃ a c', vs = .slice a (n + 1) c' ∧ Blk w' k T (cs.setIfInBounds o (.slice a n c'))) ∧ Kp (· = k) w w' := by
 have HB := hid hB
 have H0 := hid h0
 have HO := hid own
 have HNE := hid hne
 have hz := hB.lt
 have hd : (xs ++ [x]).drop (n + 1 - 1) = [x] := by rw [Nat.add_sub_cancel, ← hl, List.drop_left]
 have HD := hid hd
 have HL := hid hl
 have bz := Blk.new w 34 #[.int .i64 0, .int .i64 0]
 clear hB h0 own hne hd hl
 go_enter Tryz.func82, Tryz.ntmps82
 go_wp2_with fail
 refine (popAll_some _ k o B _ _ _ (n + 1) (xs ++ [x]) (HB.out.ext (KX.k (by repeat (first | assumption | constructor)))) H0.out (owns_kp (D := fun _ => False) HO.out (KX.k (by repeat (first | assumption | constructor))) fun _ _ _ x => x) (by have := HL.out; simp; omega) 1 (by omega) (by omega) hn HNE.out).mono ?_
 rintro e w1 ⟨v', rfl, hown, ⟨a, c', rfl, hB1⟩, hK⟩
 rw [HD.out] at hown
 obtain ⟨g, cp, rfl, hg, hgl, hcp⟩ := owns_form hown (by omega)
 have q0 := hown.cells (g := g) rfl 0 (.int .i64 x.kind) rfl
 have q1 := hown.cells (g := g) rfl 1 (.int .i64 x.n) rfl
 simp only [Addr.add_lit, Nat.zero_add] at q0 q1
 have bz1 := bz.kp hK (by omega)
 have y0 := bz1.c 0 _ rfl
 have y1 := bz1.c 1 _ rfl
 have u0 := bz1.frozen 0
 have u1 := bz1.frozen 1
 have HB1 := hid hB1
 have HK := hid hK
 have HZ : Hid (k < w.heap.size) := hid hz
 clear hown hB1 hK bz bz1 hz
 go_wp2
 have hset : ∀ D : Nat → Prop, D w.heap.size → Kp D w1 ((w1.setCell ⟨w.heap.size, 0, none⟩ (.int .i64 x.kind)).setCell ⟨w.heap.size, 1, none⟩ (.int .i64 x.n)) := fun D hD => ((Kp.refl D w1).setCell (p := ⟨w.heap.size, 0, none⟩) (fun _ => hD) _).setCell (p := ⟨w.heap.size, 1, none⟩) (fun _ => hD) _
 refine bodyPost_ret (v := .tuple #[.agg #[.int .i64 x.kind, .int .i64 x.n], .bool true]) (by simp [results, Tryz.results82, go_sem, y0, y1]) rfl ?_
 refine ⟨rfl, ⟨a, c', rfl, ?_⟩, ?_⟩
 · exact HB1.out.kp (hset (· = w.heap.size) rfl) (by have := HZ.out; omega)
 · exact ((((Kp.refl _ _).alloc _ : Ext w _).any).trans HK.out).own (hset (· = w.heap.size) rfl) (fun q hq => by omega)
theorem lodge_method (w : World) (l : Lodge) (p : M.Plan) (h : LodgeAt w l p) (k : Int) (n : ByteArray) (i : Nat) (c : M.Class) (m : M.Method) (hc : M.cls? p ⟨k, n⟩ = some c) (hm : c.methods[i]? = some m) :
    Calls Tryz.prog 48 #[.pointer (some ⟨l.L, 0, none⟩), .agg #[.int .i64 k, .string n, .int .i64 i]] w fun e w' =>
     (∃ cs, MethodL w' (· < l.O) m cs ∧ e = .returned (.agg cs.toArray)) ∧ Ext w w' := by
 have hil : i < c.methods.length := (List.getElem?_eq_some_iff.1 hm).1
 have H := hid h
 have H0 := hid h
 have HC := hid hc
 have HM := hid hm
 clear h hc hm
 have b3 := (Blk.new w 97 #[.int .i64 k, .string n, .int .i64 i])
 have q0 := b3.c 0 _ rfl
 have q1 := b3.c 1 _ rfl
 have q2 := b3.c 2 _ rfl
 clear b3
 go_enter Tryz.func48, Tryz.ntmps48
 go_upto_region 1 with (fail)
 first | (go_region_with (go_at_call 39; refine (lodge_class _ l p (H.out.ext (KX.k (by repeat (first | assumption | constructor)))) k n c HC.out).mono ?_; rintro e w1 ⟨⟨cs, hcl, rfl⟩, hB⟩; obtain ⟨y1, z1, y2, z2, rfl⟩ := hcl.form; obtain ⟨hb1, hf1⟩ := bcell hB; have hfl : ∀ W, (Instr.field 50 (.agg #[.string c.name, .string c.super, .slice y1 c.fields.length z1, .slice y2 c.methods.length z2]) 3).run Tryz.prog W = .ok (.slice y2 c.methods.length z2) W := (fun W => by kernel_rfl); obtain ⟨vf', vm', he', -, s2⟩ := Stays.ext ClassL.stays hB hcl; simp only [List.cons.injEq, and_true, true_and] at he'; obtain ⟨rfl, rfl⟩ := he'; obtain ⟨b', off', cs, rfl, hI', hml, -, hcc⟩ := s2.get HM.out; have HML := hid hml; obtain ⟨a1, c1, a2, c2, a3, c3, rfl⟩ := hml.form; obtain ⟨g0, g1, g2, g3, g4, g5, g6, g7⟩ := hcc.eight)) | fail
 all_goals
  have bz := ((Blk.new (w.alloc (.cells #[.int .i64 k, .string n, .int .i64 i] 97)) 60 #[.string ⟨#[]⟩, .slice none 0 0, .int .i64 0, .string ⟨#[]⟩, .int .i64 0, .int .i64 0, .slice none 0 0, .slice none 0 0]).ext ((Kp.refl _ _).drew)).ext hB
  simp only [World.size_alloc] at bz
  have B := (((((((bz.set_ 0 (.string m.name)).set_ 1 (.slice a1 m.args.length c1)).set_ 2 (.int .i64 m.ret.kind)).set_ 3 (.string m.ret.name)).set_ 4 (.int .i64 m.locals)).set_ 5 (.int .i64 m.stack)).set_ 6 (.slice a2 m.code.length c2)).set_ 7 (.slice a3 m.maps.length c3)
  have hsetK : ∀ (D : Nat → Prop), D (w.heap.size + 1) → Kp D w1 ((((((((w1.setCell ⟨w.heap.size + 1, 0, none⟩ (.string m.name)).setCell ⟨w.heap.size + 1, 1, none⟩ (.slice a1 m.args.length c1)).setCell ⟨w.heap.size + 1, 2, none⟩ (.int .i64 m.ret.kind)).setCell ⟨w.heap.size + 1, 3, none⟩ (.string m.ret.name)).setCell ⟨w.heap.size + 1, 4, none⟩ (.int .i64 m.locals)).setCell ⟨w.heap.size + 1, 5, none⟩ (.int .i64 m.stack)).setCell ⟨w.heap.size + 1, 6, none⟩ (.slice a2 m.code.length c2)).setCell ⟨w.heap.size + 1, 7, none⟩ (.slice a3 m.maps.length c3)) := fun D hD =>
   ((((((((Kp.refl D w1).setCell (p := ⟨w.heap.size + 1, 0, none⟩) (fun _ => hD) _).setCell (p := ⟨w.heap.size + 1, 1, none⟩) (fun _ => hD) _).setCell (p := ⟨w.heap.size + 1, 2, none⟩) (fun _ => hD) _).setCell (p := ⟨w.heap.size + 1, 3, none⟩) (fun _ => hD) _).setCell (p := ⟨w.heap.size + 1, 4, none⟩) (fun _ => hD) _).setCell (p := ⟨w.heap.size + 1, 5, none⟩) (fun _ => hD) _).setCell (p := ⟨w.heap.size + 1, 6, none⟩) (fun _ => hD) _).setCell (p := ⟨w.heap.size + 1, 7, none⟩) (fun _ => hD) _
  have hE1 : Ext w w1 := ((((Kp.refl _ w).alloc _).alloc _).drew).trans hB
  clear hb1 hf1 hfl g0 g1 g2 g3 g4 g5 g6 g7 q0 q1 q2 hcc bz hcl s2
  revert B hsetK
  generalize ((((((((w1.setCell ⟨w.heap.size + 1, 0, none⟩ (.string m.name)).setCell ⟨w.heap.size + 1, 1, none⟩ (.slice a1 m.args.length c1)).setCell ⟨w.heap.size + 1, 2, none⟩ (.int .i64 m.ret.kind)).setCell ⟨w.heap.size + 1, 3, none⟩ (.string m.ret.name)).setCell ⟨w.heap.size + 1, 4, none⟩ (.int .i64 m.locals)).setCell ⟨w.heap.size + 1, 5, none⟩ (.int .i64 m.stack)).setCell ⟨w.heap.size + 1, 6, none⟩ (.slice a2 m.code.length c2)).setCell ⟨w.heap.size + 1, 7, none⟩ (.slice a3 m.maps.length c3)) = W
  intro B hsetK
  have HB := hid (CellsAt.ofB B)
  have HSK := hid hsetK
  clear hsetK B
  have hOw : l.O < w.heap.size := by have := H0.out.ord; have := H0.out.lt; omega
  go_wp2_with fail
  refine bodyPost_ret (v := .agg #[.string m.name, .slice a1 m.args.length c1, .int .i64 m.ret.kind, .string m.ret.name, .int .i64 m.locals, .int .i64 m.stack, .slice a2 m.code.length c2, .slice a3 m.maps.length c3]) (results_agg agg_method rfl _ _ (w.heap.size + 1) rfl _ HB.out rfl) rfl ?_
  trace "x"
  exact ⟨⟨_, Stays.kp MethodL.stays (HSK.out (· = w.heap.size + 1) rfl) (fun b hb e => by omega) HML.out, rfl⟩, hE1.own (HSK.out (· = w.heap.size + 1) rfl) (fun j hj => by omega)⟩
structure Cls (C : World → Prop) (T : Type) (f : T → World) : Prop where
 inn : ∀ s, C (f s)
 out : ∀ W, C W → ∃ s, W = f s
theorem Cls.ex (C : World → Prop) (w : World) (h : C w) : ∃ (T : Type) (f : T → World), Nonempty T ∧ Cls C T f := ⟨{ W : World // C W }, Subtype.val, ⟨⟨w, h⟩⟩, fun s => s.2, fun W h => ⟨⟨W, h⟩, rfl⟩⟩
theorem region_in {P : Program} {id : Nat} {Q : Exit → Act → World → Prop} {a : Act} {w : World} {l : List Oper} {T : Type} (f : T → World) (h0 : ∃ s, w.drew = f s) (hm : P.follows .mixedOrders = true) (hB : Region.lexB .any l.toArray = true)
    (h : wpQuiet P l.toArray (fun w' => ∃ s, w' = f s) (fun a' => ∀ w', (∃ s, w' = f s) → Q .normal a' w') l a) : (Code.region id l.toArray true).wp P Q a w :=
 wp_region_quiet (C := fun w' => ∃ s, w' = f s) hm hB h0 (by simpa using h)
structure LC (l : Lodge) (p : M.Plan) (w W : World) : Prop where
 kp : Kp (· = l.D) w W
 at_ : LodgeAt W l p
theorem LC.refl {l : Lodge} {p : M.Plan} {w : World} (h : LodgeAt w l p) : LC l p w w := ⟨Kp.refl _ _, h⟩
theorem LC.ext {l : Lodge} {p : M.Plan} {w W W' : World} (h : LC l p w W) (hE : Ext W W') : LC l p w W' := ⟨h.kp.trans hE.any, h.at_.ext hE⟩
theorem LC.drew {l : Lodge} {p : M.Plan} {w W : World} (h : LC l p w W) : LC l p w W.drew := h.ext (Kp.refl _ _).drew
theorem LC.step {l : Lodge} {p : M.Plan} {w W W' : World} (h : LC l p w W) (h1 : LodgeAt W' l p) (h2 : Kp (· = l.D) W W') : LC l p w W' := ⟨h.kp.trans h2, h1⟩
theorem LC.trans {l : Lodge} {p : M.Plan} {w W W' : World} (h : LC l p w W) (h2 : LC l p W W') : LC l p w W' := h.step h2.at_ h2.kp
theorem LodgeAt.dlt {w : World} {l : Lodge} {p : M.Plan} (h : LodgeAt w l p) : l.D < w.heap.size := by have := h.lt; have := h.ord; omega
theorem class_fixed (w : World) (l : Lodge) (p : M.Plan) (h : LodgeAt w l p) (k : Int) (n : ByteArray) (c : M.Class) (hcls : M.cls? p ⟨k, n⟩ = some c) :
    ∃ cs, ClassL w (· < l.O) c cs ∧ ∀ W, Kp (· = l.D) w W →
    Calls Tryz.prog 39 #[.pointer (some ⟨l.L, 0, none⟩), .agg #[.int .i64 k, .string n]] W fun e w' => e = .returned (.agg cs.toArray) ∧ Ext W w' := by
 obtain ⟨q, i, hq, hi, hqi, hil⟩ := M.cls_ownAt hcls
 obtain ⟨hk0, hk1⟩ := M.cls_has hcls
 simp only at hk0 hk1
 obtain ⟨k, rfl⟩ := Int.eq_ofNat_of_zero_le hk0
 have hkp : p[k]? = some q := by
  unfold M.keeper? at hq
  rw [if_pos hk0] at hq
  exact hq
 obtain ⟨a, cap, hs, c0, c1, c2, c3⟩ := h.cells
 obtain ⟨mm, hm, hme⟩ := h.own
 obtain ⟨b, off, cs, rfl, hI, hkl, -, hc⟩ := hs.get hkp
 obtain ⟨vo, va, rfl, s1, s2⟩ := hkl
 obtain ⟨a1, cap1, rfl, hn1, hc1⟩ := s1.form
 obtain ⟨b1, off1, cs1, rfl, hI1, hcl, -, hcc⟩ := s1.get hqi
 obtain ⟨y1, z1, y2, z2, rfl⟩ := hcl.form
 obtain ⟨g0, g1⟩ := hc.two
 obtain ⟨e0, e1, e2, e3⟩ := hcc.four
 have hp3 : (p.length : Int) ≤ 3 := by have := (M.lodOk_len h.ok).2; omega
 have hO := h.ord
 have hlt := h.lt
 refine ⟨_, hcl, fun W hK => ?_⟩
 have l1 : ∀ W', Ext W W' → (Instr.lookup 90 (.map (some l.O)) (.agg #[.int .i64 (k : Int), .string n]) false).run Tryz.prog W' = .ok (.int .i64 i) W' := by
  intro W' hW
  rw [run_lookup ((hm.kp hK (by omega)).kp hW fun x => x), hme, hi]
  rfl
 have l2 := fun (X Y : Obj) => l1 _ ((((Kp.refl _ W).alloc X).alloc Y).drew)
 clear l1
 have d0 := hK.cellK (c0 _ (Kp.refl _ w)) (by omega)
 have d1 := hK.cellK (c1 _ (Kp.refl _ w)) (by omega)
 replace g0 := hK.cellK g0 (by omega)
 replace g1 := hK.cellK g1 (by omega)
 replace e0 := hK.cellK e0 (by omega)
 replace e1 := hK.cellK e1 (by omega)
 replace e2 := hK.cellK e2 (by omega)
 replace e3 := hK.cellK e3 (by omega)
 have hbw := cell_lt g0
 have hbw1 := cell_lt e0
 have hbl := cell_lt d0
 clear hm hme hcl hs s1 s2 hc hcc c0 c1 c2 c3 hkp hqi hq hi hcls h hlt hK
 have hk1' : k < p.length := by omega
 clear hk0 hk1
 go_enter Tryz.func39, Tryz.ntmps39
 go_wp2
 (refine region_tail 17 (by kernel_rfl) (by kernel_rfl) ?_); (simp only [List.take_succ_cons, List.take_zero, List.drop_succ_cons, List.drop_zero]); (repeat still_step); (refine wpStill_nil ?_)
 go_wp2
 refine bodyPost_ret (v := .agg #[.string c.name, .string c.super, .slice y1 c.fields.length z1, .slice y2 c.methods.length z2]) (by simp [results, Tryz.results39, go_sem]) rfl ?_
 exact ⟨rfl, (KX.k (by repeat (first | assumption | constructor)))⟩
end Go.Proofs.YtjdfceejkneofaaGreat
namespace Go.Proofs.YtjdfceejkneofaaGreat
open Go Go.RowKit
def pureOp (o : Oper) : Bool :=
 match o.op with
 | .move _ | .assign _ | .load _ _ | .fieldAddr _ _ _ | .indexAddr _ _ _ | .binOp _ _ _ _ _ | .unOp _ _ _ | .field _ _ _ | .build _ _ | .extract _ _ | .slice _ _ _ _ _ | .nilCheck _ | .index _ _ _ | .pick _ _ _ => true
 | .call c => (match c.callee with | .builtin .len => true | _ => false)
 | _ => false
theorem not_enter_v {P : Program} {w w' : World} {s : Sem Value} {f : FuncId} {args : Array Value} : Sem.run P (do pure (Next.value (← s)) : Sem Next) w ≠ .ok (.enter f args) w' := by
 simp only [Sem.run_bind]
 cases Sem.run P s w <;> simp [Result.andThen]
theorem not_enter_bind {α : Type} {P : Program} {w w' : World} {s : Sem α} {k : α → Sem Next} {f : FuncId} {args : Array Value} (h : ∀ x w1, Sem.run P (k x) w1 ≠ .ok (.enter f args) w') : Sem.run P (s >>= k) w ≠ .ok (.enter f args) w' := by
 rw [Sem.run_bind]
 cases Sem.run P s w with
 | ok x w1 => exact h x w1
 | halt _ _ => simp [Result.andThen]
theorem pure_noEnter {P : Program} {o : Oper} (h : pureOp o = true) (a : Act) (w w' : World) (f : FuncId) (args : Array Value) : (execOp a.eval o).run P w ≠ .ok (.enter f args) w' := by
 unfold pureOp at h
 unfold execOp
 split at h
 any_goals (rename_i he; simp only [he]; first | exact not_enter_v | (simp; done))
 case h_12 =>
  rename_i he
  simp only [he]
  split
  any_goals (first | (simp; done) | (simp [runtimePanic]; done))
  split
  any_goals (first | (simp; done) | (simp [runtimePanic]; done))
  refine not_enter_bind fun _ _ => not_enter_bind fun _ _ => ?_
  split
  · refine not_enter_bind fun _ _ => ?_
    simp
  · simp
 case h_14 =>
  rename_i he
  simp only [he]
  refine not_enter_bind fun _ _ => ?_
  simp
 case h_15 =>
  rename_i c he
  simp only [he]
  split at h
  · rename_i hc
    simp only [resolve, hc, Sem.run_bind, Sem.run_pure, Result.andThen_ok, invoke, builtin]
    cases Sem.run P (Builtin.len_ c.argTypes o.type (Array.map a.eval c.args)) w <;> simp [Result.andThen]
  · cases h
 case h_16 => cases h
section
variable {P : Program} {ops : Array Oper} {md : Region.Mode} {Q : Exit → Act → World → Prop} {C : World → Prop} {n : Nat}
def YieldsC (P : Program) (ops : Array Oper) (C : World → Prop) (o : Oper) (v : Value) (a : Act) : Prop :=
 (Region.wanted o (yielded ops a.tmps) = true ∧ ∀ w, C w → (execOp a.eval o).run P w = .ok (.value v) w ∨ ((execOp a.eval o).run P w = .ok .skip w ∧ v = undef)) ∨
 (Region.wanted o (yielded ops a.tmps) = false ∧ v = undef)
theorem yieldsC_of_quiet {o : Oper} {a : Act} {K : Act → Prop} (hp : pureOp o = true) (h : if Region.wanted o (yielded ops a.tmps) then o.quiet P a C K else K (a.put o.dst undef)) : ∃ v, YieldsC P ops C o v a ∧ K (a.put o.dst v) := by
 cases hw : Region.wanted o (yielded ops a.tmps)
 · rw [hw] at h
   exact ⟨undef, .inr ⟨hw, rfl⟩, by simpa using h⟩
 · rw [hw] at h
   obtain ⟨v, h1, h2⟩ : o.quiet P a C K := by simpa using h
   refine ⟨v, .inl ⟨hw, fun w hw' => ?_⟩, h2⟩
   have h3 := h1 w hw'
   unfold Oper.quietAt at h3
   generalize hr : (execOp a.eval o).run P w = r at h3
   unfold Oper.quietUpon at h3
   split at h3
   · obtain ⟨rfl, rfl⟩ := h3; exact .inl rfl
   · obtain ⟨rfl, rfl⟩ := h3; exact .inr ⟨rfl, rfl⟩
   · exact absurd hr (pure_noEnter hp a _ _ _ _)
   · exact h3.elim
theorem YieldsC.wpOp {i : Nat} {o : Oper} {v : Value} {a : Act} (hi : ops[i]? = some o) (hy : YieldsC P ops C o v a) {K : Act → World → Prop} {w : World} (hC : C w) (h : K (a.put o.dst v) w) : wpOp P ops Q i K a w := by
 unfold Go.wpOp
 simp only [hi]
 rcases hy with ⟨hw, hv⟩ | ⟨hw, rfl⟩
 · simp only [hw, if_true]
   rcases hv w hC with e | ⟨e, rfl⟩
   · simp only [Oper.wp, e, Oper.upon]; exact .inl h
   · simp only [Oper.wp, e, Oper.upon]; exact .inl h
 · simp only [hw, Bool.false_eq_true, if_false]; exact h
theorem YieldsC.of_same {o : Oper} {v : Value} {a a' : Act} (hy : YieldsC P ops C o v a) (he : execOp a'.eval o = execOp a.eval o)
    (hw : Region.wanted o (yielded ops a'.tmps) = Region.wanted o (yielded ops a.tmps)) : YieldsC P ops C o v a' := by
 unfold YieldsC at *
 rw [he, hw]
 exact hy
theorem wpOp_putC {j : Nat} {oi oj : Oper} {v : Value} (hj : ops[j]? = some oj) (hap : oi.apart ops oj = true)
    (hsi : ∀ cs b, oi.op ≠ .select cs b) (hsj : ∀ cs b, oj.op ≠ .select cs b)
    (hQ : ∀ c a w, Q (.panic c) (a.put oi.dst v) w → Q (.panic c) a w) {K : Act → World → Prop} {a : Act} {w : World}
    (hy : YieldsC P ops C oi v a) (h : wpOp P ops Q j K (a.put oi.dst v) w) :
    wpOp P ops Q j (fun a' w' => YieldsC P ops C oi v a' ∧ K (a'.put oi.dst v) w') a w := by
 obtain ⟨h1, h2, h3⟩ := Oper.apart_spec hap
 have keep : ∀ (a : Act), YieldsC P ops C oi v a → ∀ u, YieldsC P ops C oi v (a.put oj.dst u) := fun a hy u =>
  hy.of_same (execOp_put oi hsi a oj.dst u h3) (wanted_put oi a oj.dst u h3)
 have keepD : ∀ d, YieldsC P ops C oi v { a with defers := d :: a.defers } := fun d => hy.of_same rfl rfl
 unfold wpOp at *
 simp only [hj] at *
 rw [wanted_put oj a oi.dst v h1] at h
 split
 · rename_i hw
   simp only [hw, if_true] at h
   rcases h with h | ⟨hasks, hlets⟩
   case inr => exact .inr ⟨by unfold Oper.asks at *; rw [execOp_put oj hsj a oi.dst v h1] at hasks; exact hasks, hlets⟩
   refine .inl ?_
   unfold Oper.wp at *
   rw [execOp_put oj hsj a oi.dst v h1] at h
   generalize (execOp a.eval oj).run P w = r at *
   cases r with
   | ok n w' =>
    cases n <;> simp only [Oper.upon] at h ⊢
    case value u => exact ⟨keep a hy u, by rw [← Act.put_comm a v u h2]; exact h⟩
    case skip => exact ⟨keep a hy _, by rw [← Act.put_comm a v undef h2]; exact h⟩
    case defer d =>
     refine ⟨keep _ (keepD d) _, ?_⟩
     rw [← Act.put_comm _ v undef h2, ← Act.put_defers]
     exact h
    case enter f args =>
     refine Calls.mono h fun e w'' he => ?_
     cases e with
     | returned u => exact ⟨keep a hy u, by rw [← Act.put_comm a v u h2]; exact he⟩
     | panicked c => exact hQ _ _ _ he
     | outgrown => exact he
    case row row args => exact Rows.mono h fun u w'' he => ⟨keep a hy u, by rw [← Act.put_comm a v u h2]; exact he⟩
   | halt x w' =>
    cases x <;> simp only [Oper.upon] at h ⊢
    case panic u => exact hQ _ _ _ h
 · rename_i hw
   simp only [hw] at h
   exact ⟨keep a hy _, by rw [← Act.put_comm a v undef h2]; exact h⟩
def wpAnyC (P : Program) (md : Region.Mode) (ops : Array Oper) (n : Nat) (C : World → Prop) (Q : Exit → Act → World → Prop) : Nat → Array Bool → Act → World → Prop
 | 0, listed, a, w => Region.ready md ops listed = [] ∧ Q .normal a w
 | fuel + 1, listed, a, w =>
  (Region.ready md ops listed = [] → Q .normal a w) ∧
  ∀ i ∈ Region.ready md ops listed, wpOp P ops Q i (fun a' w' => (i < n → C w') ∧ wpAnyC P md ops n C Q fuel (listed.setIfInBounds i true) a' w') a w
theorem wpAny_of_C : ∀ (fuel : Nat) (listed : Array Bool) (a : Act) (w : World), wpAnyC P md ops n C Q fuel listed a w → wpAny P md ops Q fuel listed a w
 | 0, _, _, _, h => h
 | fuel + 1, _, _, _, h => ⟨h.1, fun i hi => wpOp_mono (fun a' w' h' => wpAny_of_C fuel _ a' w' h'.2) (h.2 i hi)⟩
theorem wpAnyC_first {i : Nat} {oi : Oper} {v : Value} (hi : ops[i]? = some oi) (hsel : ∀ (j : Nat) (o : Oper) cs b, ops[j]? = some o → o.op ≠ .select cs b)
    (hQ : ∀ c a w, Q (.panic c) (a.put oi.dst v) w → Q (.panic c) a w) (htail : ∀ j, n ≤ j → Region.waitsFor md ops j i = true ∨ ops[j]? = none) :
    ∀ (fuel : Nat) (listed : Array Bool) (a : Act) (w : World),
     (∀ j oj, ops[j]? = some oj → j ≠ i → listed.getD j true = false → (∀ e ∈ oj.after, Region.binds md e = true → e.on ≠ i) → oi.apart ops oj = true) →
     i ∈ Region.ready md ops listed → YieldsC P ops C oi v a → C w → i < n →
     wpAnyC P md ops n C Q fuel (listed.setIfInBounds i true) (a.put oi.dst v) w → wpAnyC P md ops n C Q (fuel + 1) listed a w := by
 intro fuel
 induction fuel with
 | zero =>
  intro listed a w _ hr hy hC hin H
  refine ⟨fun h => (by rw [h] at hr; cases hr), fun j hj => ?_⟩
  by_cases hji : j = i
  · subst hji; exact hy.wpOp hi hC ⟨fun _ => hC, H⟩
  · have := ready_mono hj hji
    rw [H.1] at this
    cases this
 | succ fuel ih =>
  intro listed a w hfree hr hy hC hin H
  refine ⟨fun h => (by rw [h] at hr; cases hr), fun j hj => ?_⟩
  by_cases hji : j = i
  · subst hji; exact hy.wpOp hi hC ⟨fun _ => hC, H⟩
  · have h1 := H.2 j (ready_mono hj hji)
    obtain ⟨hjun, oj, hoj, hall⟩ := mem_ready.1 hj
    have hnot : ∀ e ∈ oj.after, Region.binds md e = true → e.on ≠ i := fun e he hb heq => by
     have h1 := hall e he hb
     have h0 := (mem_ready.1 hr).1
     rw [heq] at h1
     rcases Nat.lt_or_ge i listed.size with h' | h'
     · simp [h'] at h0 h1; rw [h0] at h1; cases h1
     · simp [Array.getElem?_eq_none h'] at h1
    have hjn : j < n := by
     rcases Nat.lt_or_ge j n with h | h
     · exact h
     · rcases htail j h with hw | hw
       · obtain ⟨oj', hoj', e, he, hb, heq⟩ := Region.waitsFor_spec hw
         rw [hoj] at hoj'
         cases hoj'
         exact absurd heq (hnot e he hb)
       · rw [hoj] at hw; cases hw
    have h2 := wpOp_putC hoj (hfree j oj hoj hji hjun hnot) (fun cs b => hsel i oi cs b hi) (fun cs b => hsel j oj cs b hoj) hQ hy h1
    have hfree' : ∀ k ok, ops[k]? = some ok → k ≠ i → (listed.setIfInBounds j true).getD k true = false →
        (∀ e ∈ ok.after, Region.binds md e = true → e.on ≠ i) → oi.apart ops ok = true := fun k ok hk hki hun hno => by
     refine hfree k ok hk hki ?_ hno
     by_cases hjk : j = k
     · subst hjk; exact hjun
     · rw [getD_set_ne true hjk] at hun; exact hun
    refine wpOp_mono (fun a' w' h3 => ⟨fun _ => h3.2.1 hjn, ih (listed.setIfInBounds j true) a' w' hfree' (ready_mono hr (Ne.symm hji)) h3.1 (h3.2.1 hjn) hin ?_⟩) h2
    rw [Array.setIfInBounds_comm _ _ hji]
    exact h3.2.2
def okQ (md : Region.Mode) (ops : Array Oper) (n : Nat) : List Nat → Array Bool → Option (Array Bool)
 | [], listed => some listed
 | i :: q, listed =>
  if decide (i < n) && (Region.ready md ops listed).contains i && Region.free md ops listed i && ((ops[i]?).map pureOp).getD false then okQ md ops n q (listed.setIfInBounds i true) else none
def mixB (md : Region.Mode) (ops : Array Oper) (n : Nat) : List (List Nat × Nat) → List Nat → Array Bool → Bool
 | [], q, listed => match okQ md ops n q listed with
  | some L => Region.seqB md ops (ops.size - n) n L
  | none => false
 | (q, i) :: r, q', listed => match okQ md ops n q listed with
  | some L => decide (Region.ready md ops L = [i]) && decide (i < n) && mixB md ops n r q' (L.setIfInBounds i true)
  | none => false
def costs : List (List Nat × Nat) → List Nat → Nat
 | [], q => q.length
 | (q, _) :: r, q' => q.length + 1 + costs r q'
def tailB (md : Region.Mode) (ops : Array Oper) (n : Nat) : Bool := (List.range ops.size).all fun j => decide (j < n) || (List.range n).all fun i => Region.waitsFor md ops j i
def goodB (ops : Array Oper) (n : Nat) (segs : List (List Nat × Nat)) (q : List Nat) : Bool :=
 Region.noSelect ops && tailB .any ops n && decide (costs segs q = n) && decide (n ≤ ops.size) && mixB .any ops n segs q (Array.replicate ops.size false)
def wpMix (P : Program) (l : List Oper) (C : World → Prop) (Q : Exit → Act → World → Prop) (fin : Act → World → Prop) : List (List Nat × Nat) → List Nat → Act → World → Prop
 | [], q, a, w => wpQuiet P l.toArray C (fun a' => fin a' w) (q.filterMap (l[·]?)) a
 | (q, i) :: r, q', a, w => wpQuiet P l.toArray C (fun a' => wpList P l.toArray (Exit.then (fun a'' w' => C w' ∧ wpMix P l C Q fin r q' a'' w') Q) (l[i]?).toList a' w) (q.filterMap (l[·]?)) a
theorem tail_spec (h : tailB md ops n = true) {i : Nat} (hi : i < n) (j : Nat) (hj : n ≤ j) : Region.waitsFor md ops j i = true ∨ ops[j]? = none := by
 rcases Nat.lt_or_ge j ops.size with hlt | hge
 · unfold tailB at h
   have h1 := List.all_eq_true.1 h j (List.mem_range.2 hlt)
   simp only [Bool.or_eq_true, decide_eq_true_eq, List.all_eq_true] at h1
   rcases h1 with h1 | h1
   · omega
   · exact .inl (h1 i (List.mem_range.2 hi))
 · exact .inr (Array.getElem?_eq_none hge)
theorem quiet_sound {l : List Oper} (hs : Region.noSelect l.toArray = true) (ht : tailB md l.toArray n = true) (hQ : ∀ c a d v w, Q (.panic c) (a.put d v) w → Q (.panic c) a w) {K : Act → Prop} {w : World} (hC : C w) (fuel : Nat) (L : Array Bool)
    (hK : ∀ a', K a' → wpAnyC P md l.toArray n C Q fuel L a' w) : ∀ (q : List Nat) (listed : Array Bool) (a : Act), okQ md l.toArray n q listed = some L →
    wpQuiet P l.toArray C K (q.filterMap (l[·]?)) a → wpAnyC P md l.toArray n C Q (fuel + q.length) listed a w
 | [], listed, a, ho, h => by
  simp only [okQ, Option.some.injEq] at ho
  subst ho
  exact hK a h
 | i :: q, listed, a, ho, h => by
  unfold okQ at ho
  split at ho
  · rename_i hb
    simp only [Bool.and_eq_true, decide_eq_true_eq] at hb
    obtain ⟨⟨⟨h1, h2⟩, h3⟩, h4⟩ := hb
    cases hoi : l[i]? with
    | none => simp [hoi] at h4
    | some o =>
     have hoi' : l.toArray[i]? = some o := by simpa using hoi
     have hp : pureOp o = true := by simpa [hoi] using h4
     rw [List.filterMap_cons, hoi] at h
     simp only [wpQuiet] at h
     obtain ⟨v, hy, hk⟩ := yieldsC_of_quiet hp h
     have := quiet_sound hs ht hQ hC fuel L hK q _ _ ho hk
     exact wpAnyC_first hoi' (Region.noSelect_spec hs) (fun c a w => hQ c a _ _ w) (tail_spec ht h1) _ _ _ _ (Region.free_spec hoi' h3) (by simpa using h2) hy hC h1 this
  · cases ho
theorem seqC_sound {l : List Oper} : ∀ (t : List Oper) (k : Nat) (listed : Array Bool) (a : Act) (w : World), n ≤ k → (∀ j, t[j]? = l[k + j]?) →
    Region.seqB md l.toArray t.length k listed = true → wpList P l.toArray Q t a w → wpAnyC P md l.toArray n C Q t.length listed a w
 | [], _, _, _, _, _, _, hB, h => ⟨by simpa [Region.seqB] using hB, h⟩
 | o :: t, k, listed, a, w, hk, hl, hB, h => by
  have h0 : l.toArray[k]? = some o := by simpa using (hl 0).symm
  simp only [List.length_cons, Region.seqB, Bool.and_eq_true, decide_eq_true_eq] at hB
  refine ⟨fun h1 => (by rw [hB.1] at h1; cases h1), fun i hi => ?_⟩
  rw [hB.1] at hi
  have hik : i = k := by simpa using hi
  subst hik
  have hw : wpOp P l.toArray Q i (wpList P l.toArray Q t) a w := by unfold wpOp; simp only [h0]; exact h
  exact wpOp_mono (fun a' w' h' => ⟨fun hlt => absurd hlt (Nat.not_lt.2 hk), seqC_sound t (i + 1) _ a' w' (by omega) (fun j => by have := hl (j + 1); simpa [Nat.add_assoc, Nat.add_comm 1 j] using this) hB.2 h'⟩) hw
theorem wp_then {o : Oper} {a : Act} {w : World} {next K : Act → World → Prop} (h : o.wp P a w next (Exit.then K Q)) : o.wp P a w next Q := by
 unfold Oper.wp at *
 generalize (execOp a.eval o).run P w = r at *
 cases r with
 | ok n w' =>
  cases n <;> simp only [Oper.upon] at h ⊢
  case value u => exact h
  case skip => exact h
  case defer d => exact h
  case enter f args =>
   refine Calls.mono h fun e w'' he => ?_
   cases e with
   | returned u => exact he
   | panicked c => exact he
   | outgrown => exact he
  case row row args => exact h
 | halt x w' =>
  cases x <;> simp only [Oper.upon] at h ⊢
  case panic u => exact h
theorem mix_sound {l : List Oper} (hs : Region.noSelect l.toArray = true) (ht : tailB md l.toArray n = true) (hQ : ∀ c a d v w, Q (.panic c) (a.put d v) w → Q (.panic c) a w) (hn : n ≤ l.length) : ∀ (segs : List (List Nat × Nat)) (q' : List Nat) (listed : Array Bool) (a : Act) (w : World), C w →
    mixB md l.toArray n segs q' listed = true → wpMix P l C Q (fun a' w' => wpList P l.toArray Q (l.drop n) a' w') segs q' a w → wpAnyC P md l.toArray n C Q ((l.length - n) + costs segs q') listed a w
 | [], q', listed, a, w, hC, hB, h => by
  unfold mixB at hB
  split at hB
  · rename_i L hL
    refine quiet_sound hs ht hQ hC _ L (fun a' hk => ?_) q' listed a hL h
    have := seqC_sound (md := md) (C := C) (l := l) (l.drop n) n L a' w (Nat.le_refl _) (fun j => by simp [List.getElem?_drop]) (by simpa using hB) hk
    simpa using this
  · cases hB
 | (q, i) :: r, q', listed, a, w, hC, hB, h => by
  unfold mixB at hB
  split at hB
  · rename_i L hL
    simp only [Bool.and_eq_true, decide_eq_true_eq] at hB
    obtain ⟨⟨hr, hin⟩, hB⟩ := hB
    have e : l.length - n + costs ((q, i) :: r) q' = ((l.length - n + costs r q') + 1) + q.length := by simp [costs]; omega
    rw [e]
    refine quiet_sound hs ht hQ hC _ L (fun a' hk => ?_) q listed a hL h
    refine ⟨fun h1 => (by rw [hr] at h1; cases h1), fun j hj => ?_⟩
    rw [hr] at hj
    have hji : j = i := by simpa using hj
    subst hji
    cases hoi : l[j]? with
    | none =>
     exfalso
     have : j ∈ Region.ready md l.toArray L := by rw [hr]; simp
     obtain ⟨_, o, ho, _⟩ := mem_ready.1 this
     simp [hoi] at ho
    | some o =>
     rw [hoi] at hk
     simp only [Option.toList, wpList] at hk
     unfold wpOp
     have hoi' : l.toArray[j]? = some o := by simpa using hoi
     simp only [hoi']
     have step : ∀ a'' w', C w' ∧ wpMix P l C Q (fun a' w' => wpList P l.toArray Q (l.drop n) a' w') r q' a'' w' → (j < n → C w') ∧ wpAnyC P md l.toArray n C Q (l.length - n + costs r q') (L.setIfInBounds j true) a'' w' :=
      fun a'' w' h3 => ⟨fun _ => h3.1, mix_sound hs ht hQ hn r q' _ a'' w' h3.1 hB h3.2⟩
     split
     · rename_i hw
       rw [if_pos hw] at hk
       rcases hk with hk | hk
       · left
         exact Oper.wp_mono (fun a'' w' h' => step a'' w' h') (wp_then hk)
       · right; exact hk
     · rename_i hw
       rw [if_neg hw] at hk
       exact step _ _ hk
  · cases hB
end
theorem wpMix_nil {P : Program} {l : List Oper} {C : World → Prop} {Q : Exit → Act → World → Prop} {fin : Act → World → Prop} {q : List Nat} {a : Act} {w : World} {qs : List Oper} (he : q.filterMap (l[·]?) = qs)
    (h : ∀ K : Act → Prop, (∀ a', fin a' w → K a') → wpQuiet P l.toArray C K qs a) : wpMix P l C Q fin [] q a w := by
 subst he
 exact h _ fun _ h => h
theorem wpMix_cons {P : Program} {l : List Oper} {C : World → Prop} {Q : Exit → Act → World → Prop} {fin : Act → World → Prop} {q : List Nat} {i : Nat} {r : List (List Nat × Nat)} {q' : List Nat} {a : Act} {w : World} {qs os : List Oper} (he : q.filterMap (l[·]?) = qs) (ho : (l[i]?).toList = os)
    (h : ∀ K : Act → Prop, (∀ a', (∀ K2 : Act → World → Prop, (∀ a'' w', C w' → wpMix P l C Q fin r q' a'' w' → K2 a'' w') → wpList P l.toArray (Exit.then K2 Q) os a' w) → K a') → wpQuiet P l.toArray C K qs a) : wpMix P l C Q fin ((q, i) :: r) q' a w := by
 subst he ho
 refine h _ fun a' h2 => ?_
 exact h2 _ fun _ _ h3 h4 => ⟨h3, h4⟩
theorem region_mix {P : Program} {id : Nat} {Q : Exit → Act → World → Prop} {a : Act} {w : World} {l : List Oper} {T : Type} (f : T → World) (n : Nat) (segs : List (List Nat × Nat)) (q : List Nat) (h0 : ∃ s, w.drew = f s) (hm : P.follows .mixedOrders = true) (hB : goodB l.toArray n segs q = true)
    (hQ : ∀ c a d v w, Q (.panic c) (a.put d v) w → Q (.panic c) a w)
    (h : wpMix P l (fun w' => ∃ s, w' = f s) Q (fun a' w' => wpList P l.toArray Q (l.drop n) a' w') segs q a w.drew) : (Code.region id l.toArray true).wp P Q a w := by
 unfold goodB at hB
 simp only [Bool.and_eq_true, decide_eq_true_eq] at hB
 obtain ⟨⟨⟨⟨h1, h2⟩, h3⟩, h4⟩, h5⟩ := hB
 refine wp_region_any hm (wpAny_of_C (C := fun w' => ∃ s, w' = f s) (n := n) _ _ _ _ ?_)
 have := mix_sound (C := fun w' => ∃ s, w' = f s) (md := .any) h1 h2 hQ (by simpa using h4) segs q _ a w.drew h0 h5 h
 have e : l.length - n + costs segs q = l.toArray.size := by
  have : n ≤ l.length := by simpa using h4
  simp; omega
 rw [e] at this
 exact this
end Go.Proofs.YtjdfceejkneofaaGreat
