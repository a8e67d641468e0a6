/- The plain functions that the program's layers 1 to 4 compute: kinds, instructions, classes, keepers,; How the program's data lie in memory: slices of flat things, slices of slices; a map keyed by a clas; Structs in memory: read whole, written whole; a function's result that is one.; A map keyed by a class's reference: what it holds, how it is asked and written.; The lodge in memory.; Walks: names, kinds, tags.; Walks: instructions.; Walks: instructions, part 2. -/
import Derived.WalkKit
import Derived.Deep.Draws
import Derived.Test.YtjdfceejkneofaaGreatProg
import Derived.Laws.Rows
import Derived.ArgAppend
import Derived.Maps.Own
import Derived.WalkLawsBesides
import Derived.WalkSpells
import Derived.Lib.Hide
import Derived.Deep.QuietTactic
import Derived.BigQuiet
import Derived.Deep.RegionWith
import Derived.Deep.RegionHeld3
set_option maxRecDepth 100000
set_option maxHeartbeats 4000000
namespace Go.Proofs.YtjdfceejkneofaaGreat.M
structure Kind where
 kind : Int
 name : ByteArray
structure Tag where
 kind : Int
 name : ByteArray
structure Ins where
 op : Int
 a : Int
 name : ByteArray
 member : ByteArray
structure SMap where
 at_ : Int
 locals : List Tag
 stack : List Tag
structure Field where
 name : ByteArray
 kind : Kind
structure Method where
 name : ByteArray
 args : List Kind
 ret : Kind
 locals : Int
 stack : Int
 code : List Ins
 maps : List SMap
structure Class where
 name : ByteArray
 super : ByteArray
 fields : List Field
 methods : List Method
structure Ask where
 name : ByteArray
 keeper : Int
structure Keeper where
 owns : List Class
 asks : List Ask
abbrev Plan := List Keeper
structure Ref where
 keeper : Int
 name : ByteArray
theorem Ref.ext_iff' {a b : Ref} : a = b ↔ a.keeper = b.keeper ∧ a.name = b.name := by
 cases a; cases b; simp
theorem Kind.ext_iff' {a b : Kind} : a = b ↔ a.kind = b.kind ∧ a.name = b.name := by
 cases a; cases b; simp
theorem Tag.ext_iff' {a b : Tag} : a = b ↔ a.kind = b.kind ∧ a.name = b.name := by
 cases a; cases b; simp
theorem Ins.ext_iff' {a b : Ins} : a = b ↔ a.op = b.op ∧ a.a = b.a ∧ a.name = b.name ∧ a.member = b.member := by
 cases a; cases b; simp
instance : DecidableEq Ref := fun _ _ => decidable_of_iff' _ Ref.ext_iff'
instance : DecidableEq Kind := fun _ _ => decidable_of_iff' _ Kind.ext_iff'
instance : DecidableEq Tag := fun _ _ => decidable_of_iff' _ Tag.ext_iff'
instance : DecidableEq Ins := fun _ _ => decidable_of_iff' _ Ins.ext_iff'
theorem Field.ext_iff' {a b : Field} : a = b ↔ a.name = b.name ∧ a.kind = b.kind := by
 cases a; cases b; simp
instance : DecidableEq Field := fun _ _ => decidable_of_iff' _ Field.ext_iff'
def letter (c : UInt8) : Bool := decide (97 ≤ c.toNat) && decide (c.toNat ≤ 122)
def namOk (s : ByteArray) : Bool := decide (1 ≤ s.size) && decide (s.size ≤ 6) && s.data.toList.all letter
abbrev none_ : ByteArray := ⟨#[]⟩
def kndOk (k : Kind) : Bool := (k.kind == 1 && decide (k.name = none_)) || (k.kind == 2 && namOk k.name)
def tagOk (t : Tag) : Bool :=
 if t.kind = 0 ∨ t.kind = 1 ∨ t.kind = 3 then decide (t.name = none_) else if t.kind = 2 then namOk t.name else false
def numLeast (op : Int) : Int := if op = 1 then -9999 else 0
def numMost (op : Int) : Int := if op = 1 then 9999 else if op = 2 ∨ op = 3 then 5 else 15
def isNum (op : Int) : Bool := op == 1 || op == 2 || op == 3 || op == 11 || op == 12 || op == 13
def isCls (op : Int) : Bool := op == 6 || op == 15
def isMem (op : Int) : Bool := op == 7 || op == 8 || op == 9
def isPln (op : Int) : Bool := op == 4 || op == 5 || op == 10 || op == 14
def insOk (i : Ins) : Bool :=
 if isNum i.op then decide (i.name = none_) && decide (i.member = none_) && decide (numLeast i.op ≤ i.a) && decide (i.a ≤ numMost i.op)
 else if isCls i.op then decide (i.a = 0) && decide (i.member = none_) && namOk i.name
 else if isMem i.op then decide (i.a = 0) && namOk i.name && namOk i.member
 else if isPln i.op then decide (i.a = 0) && decide (i.name = none_) && decide (i.member = none_)
 else false
def tagsOk (l : List Tag) : Bool := l.all tagOk
def insIn (m : Method) (i : Ins) : Bool :=
 insOk i && (if i.op = 2 ∨ i.op = 3 then decide (i.a < m.locals) else if i.op = 11 ∨ i.op = 12 ∨ i.op = 13 then decide (i.a < m.code.length) else true)
def codeOk (m : Method) : Bool := decide (1 ≤ m.code.length) && decide (m.code.length ≤ 16) && m.code.all (insIn m)
def mapOk (m : Method) (f : SMap) : Bool :=
 decide (f.at_ < m.code.length) && decide ((f.locals.length : Int) = m.locals) && decide ((f.stack.length : Int) ≤ m.stack) && tagsOk f.locals && tagsOk f.stack
def mapsFrom (m : Method) : Int → List SMap → Bool
 | _, [] => true
 | last, f :: r => decide (last < f.at_) && mapOk m f && mapsFrom m f.at_ r
def mapsOk (m : Method) : Bool := decide (m.maps.length ≤ 5) && mapsFrom m 0 m.maps
def mthOk (m : Method) : Bool :=
 namOk m.name && decide (m.args.length ≤ 3) && kndOk m.ret && m.args.all kndOk &&
 decide ((m.args.length : Int) + 1 ≤ m.locals) && decide (m.locals ≤ 6) && decide (1 ≤ m.stack) && decide (m.stack ≤ 5) && codeOk m && mapsOk m
def freshAll {α : Type} (name : α → ByteArray) (ok : α → Bool) : List α → List ByteArray → Bool
 | [], _ => true
 | x :: r, seen => ok x && !(seen.any fun y => decide (y = name x)) && freshAll name ok r (seen ++ [name x])
def clsOk (c : Class) : Bool :=
 namOk c.name && (decide (c.super = none_) || namOk c.super) && decide (c.fields.length ≤ 3) && decide (c.methods.length ≤ 4) &&
 freshAll Field.name (fun f => namOk f.name && kndOk f.kind) c.fields [] && freshAll Method.name mthOk c.methods []
def has (p : Plan) (k : Int) : Bool := decide (0 ≤ k) && decide (k < p.length)
def keeperOk (p : Plan) (k : Keeper) : Bool :=
 decide (k.owns.length ≤ 5) && decide (k.asks.length ≤ 4) && freshAll Class.name clsOk k.owns [] && freshAll Ask.name (fun a => namOk a.name && has p a.keeper) k.asks []
def lodOk (p : Plan) : Bool := decide (1 ≤ p.length) && decide (p.length ≤ 3) && p.all (keeperOk p)
def keeper? (p : Plan) (k : Int) : Option Keeper := if 0 ≤ k then p[k.toNat]? else none
def ownAt (p : Plan) (r : Ref) : Option Nat := (keeper? p r.keeper).bind fun k => k.owns.findIdx? fun c => c.name = r.name
def cls? (p : Plan) (r : Ref) : Option Class := (keeper? p r.keeper).bind fun k => k.owns.find? fun c => c.name = r.name
def ask? (p : Plan) (k : Int) (n : ByteArray) : Option Int := (keeper? p k).bind fun q => (q.asks.find? fun a => a.name = n).map Ask.keeper
def owned (p : Plan) (r : Ref) : Bool := (cls? p r).isSome
def zref : Ref := ⟨0, none_⟩
def pathGo (p : Plan) (n : ByteArray) : Nat → List Int → Int → List Int × Int
 | 0, _, _ => ([], 3)
 | f + 1, asked, k => match ask? p k n with
  | none => if owned p ⟨k, n⟩ then (asked, 1) else ([], 2)
  | some next => if asked.contains next then ([], 3) else pathGo p n f (asked ++ [next]) next
def path (p : Plan) (k : Int) (n : ByteArray) : List Int × Int := if has p k then pathGo p n 4 [k] k else ([], 2)
def resolve (p : Plan) (k : Int) (n : ByteArray) : Ref × Int :=
 if (path p k n).2 = 1 then (⟨(path p k n).1.getLastD 0, n⟩, 1) else (zref, (path p k n).2)
def super (p : Plan) (r : Ref) : ByteArray := ((cls? p r).map Class.super).getD none_
def climbGo (p : Plan) : Nat → Ref → Option (List Ref)
 | 0, _ => none
 | f + 1, r =>
  if super p r = none_ then some [r]
  else if (resolve p r.keeper (super p r)).2 = 1 then (climbGo p f (resolve p r.keeper (super p r)).1).map (r :: ·) else none
def climb (p : Plan) (r : Ref) : Option (List Ref) := climbGo p 6 r
def find (p : Plan) (k : Int) (n : ByteArray) : Ref × Int :=
 if (resolve p k n).2 = 1 then (if (climb p (resolve p k n).1).isSome then ((resolve p k n).1, 1) else (zref, 4)) else (zref, (resolve p k n).2)
def loadable (p : Plan) (r : Ref) : Bool := decide ((find p r.keeper r.name).2 = 1) && decide ((find p r.keeper r.name).1 = r)
def chain (p : Plan) (r : Ref) : List Ref := if loadable p r then (climb p r).getD [] else []
def under (p : Plan) (low top : Ref) : Bool := (chain p low).contains top
def agree (p : Plan) (a b : Int) (k : Kind) : Bool :=
 k.kind == 1 || (if (find p a k.name).2 = 1 ∧ (find p b k.name).2 = 1 then decide ((find p a k.name).1 = (find p b k.name).1)
  else decide ((find p a k.name).2 ≠ 1) && decide ((find p b k.name).2 ≠ 1))
def agreeMethod (p : Plan) (a b : Int) (m : Method) : Bool := m.args.all (agree p a b) && agree p a b m.ret
def methodIx (c : Class) (n : ByteArray) : Option Nat := c.methods.findIdx? fun m => m.name = n
def fieldIx (c : Class) (n : ByteArray) : Option Nat := c.fields.findIdx? fun f => f.name = n
def zcls : Class := ⟨none_, none_, [], []⟩
def cls (p : Plan) (r : Ref) : Class := (cls? p r).getD zcls
def methodLaid (p : Plan) (low high : Ref) (m : Method) : Bool :=
 match (cls p high).methods.find? (fun n => n.name = m.name) with
 | none => true
 | some n => decide (m.ret = n.ret) && decide (m.args = n.args) && agreeMethod p low.keeper high.keeper m
def pairLaid (p : Plan) (low high : Ref) : Bool :=
 (cls p low).fields.all (fun f => (fieldIx (cls p high) f.name).isNone) && (cls p low).methods.all (methodLaid p low high)
def chainLaid (p : Plan) : List Ref → Bool
 | [] => true
 | low :: r => r.all (pairLaid p low) && chainLaid p r
def canLay (p : Plan) (r : Ref) : Bool := !(chain p r).isEmpty && chainLaid p (chain p r)
end Go.Proofs.YtjdfceejkneofaaGreat.M
namespace Go.Proofs.YtjdfceejkneofaaGreat
open Go Go.RowKit
theorem cell_lt {w : World} {b o : Nat} {v : Value} (h : w.cell? ⟨b, o, none⟩ = some v) : b < w.heap.size := by
 rcases Nat.lt_or_ge b w.heap.size with h1 | h1
 · exact h1
 · simp [World.cell?, Array.getElem?_eq_none h1] at h
structure Kp (D : Nat → Prop) (w w' : World) : Prop where
 os : w'.os = w.os
 tape : w'.tape = w.tape
 output : w'.output = w.output
 size : w.heap.size ≤ w'.heap.size
 block : ∀ k, k < w.heap.size → ¬ D k → w'.heap[k]? = w.heap[k]?
section
variable {D D' : Nat → Prop} {w w' a b c : World}
theorem Kp.of_below (h : Below w.heap.size w w') : Kp D w w' := ⟨h.os, h.tape, h.output, h.size, fun k hk _ => h.block k hk⟩
theorem Kp.refl (D : Nat → Prop) (w : World) : Kp D w w := ⟨rfl, rfl, rfl, Nat.le_refl _, fun _ _ _ => rfl⟩
theorem Kp.trans (h : Kp D a b) (k : Kp D b c) : Kp D a c :=
 ⟨k.os.trans h.os, k.tape.trans h.tape, k.output.trans h.output, Nat.le_trans h.size k.size,
  fun i hi hd => (k.block i (Nat.lt_of_lt_of_le hi h.size) hd).trans (h.block i hi hd)⟩
theorem Kp.weak (h : Kp D a b) (hD : ∀ k, k < a.heap.size → D k → D' k) : Kp D' a b :=
 ⟨h.os, h.tape, h.output, h.size, fun k hk hd => h.block k hk fun x => hd (hD k hk x)⟩
theorem Kp.below (h : Kp D a b) (n : Nat) (hn : n ≤ a.heap.size) (hD : ∀ k, k < n → ¬ D k) : Below n a b :=
 ⟨h.os, h.tape, h.output, h.size, fun k hk => h.block k (by omega) (hD k hk)⟩
theorem Kp.alloc (h : Kp D a b) (o : Obj) : Kp D a (b.alloc o) :=
 ⟨h.os, h.tape, h.output, by simp; exact Nat.le_succ_of_le h.size, fun k hk hd => (Below.heap_alloc b o k (Nat.lt_of_lt_of_le hk h.size)).trans (h.block k hk hd)⟩
theorem Kp.drew (h : Kp D a b) : Kp D a b.drew := ⟨h.os, h.tape, h.output, h.size, h.block⟩
theorem Kp.drewN (h : Kp D a b) (n : Nat) : Kp D a (b.drewN n) := ⟨h.os, h.tape, h.output, h.size, h.block⟩
theorem Kp.setCell (h : Kp D a b) {p : Addr} (hp : p.block < a.heap.size → D p.block) (v : Value) : Kp D a (b.setCell p v) :=
 ⟨h.os, h.tape, h.output, by simp [World.setCell]; exact h.size,
  fun k hk hd => (Below.heap_setCell b p v k (fun e => hd (by subst e; exact hp hk))).trans (h.block k hk hd)⟩
theorem Kp.cell (h : Kp D a b) {k o : Nat} (hk : k < a.heap.size) (hd : ¬ D k) : b.cell? ⟨k, o, none⟩ = a.cell? ⟨k, o, none⟩ :=
 World.cell?_of_block (h.block k hk hd)
theorem Kp.frozen (h : Kp D a b) {k o : Nat} (hk : k < a.heap.size) (hd : ¬ D k) : b.frozen? ⟨k, o, none⟩ = a.frozen? ⟨k, o, none⟩ :=
 World.frozen?_of_block (h.block k hk hd)
theorem below_drewN {B : Nat} {a w : World} (h : Below B a w) (n : Nat) : Below B a (w.drewN n) := ⟨h.os, h.tape, h.output, h.size, h.block⟩
abbrev Ext (w w' : World) : Prop := Kp (fun _ => False) w w'
theorem Kp.any (h : Ext a b) : Kp D a b := h.weak fun _ _ x => x.elim
theorem Ext.to_below {w w' : World} (h : Ext w w') : Below w.heap.size w w' := Kp.below h _ (Nat.le_refl _) fun _ _ x => x
theorem Kp.cellE (h : Ext a b) {k o : Nat} {v : Value} (hc : a.cell? ⟨k, o, none⟩ = some v) : b.cell? ⟨k, o, none⟩ = some v :=
 (h.cell (cell_lt hc) (fun x => x)).trans hc
theorem Kp.cellK (h : Kp D a b) {k o : Nat} {v : Value} (hc : a.cell? ⟨k, o, none⟩ = some v) (hd : ¬ D k) : b.cell? ⟨k, o, none⟩ = some v :=
 (h.cell (cell_lt hc) hd).trans hc
theorem Kp.cellA {o' : Obj} (h : Ext (a.alloc o') b) {k o : Nat} {v : Value} (hc : a.cell? ⟨k, o, none⟩ = some v) : b.cell? ⟨k, o, none⟩ = some v :=
 h.cellE (((Kp.refl _ _).alloc _ : Ext a _).cellE hc)
inductive KX (D : Nat → Prop) (w : World) : World → Prop
 | r : KX D w w
 | a {b : World} {o : Obj} : KX D w b → KX D w (b.alloc o)
 | d {b : World} : KX D w b → KX D w b.drew
 | n {b : World} {k : Nat} : KX D w b → KX D w (b.drewN k)
 | h {b : World} : Kp D w b → KX D w b
theorem KX.k {D : Nat → Prop} {w b : World} (h : KX D w b) : Kp D w b := by
 induction h with
 | r => exact Kp.refl _ _
 | a _ ih => exact ih.alloc _
 | d _ ih => exact ih.drew
 | n _ ih => exact ih.drewN _
 | h h => exact h
theorem bcell {W w1 : World} (hb : Ext W w1) :
    (∀ b o, b < W.heap.size → w1.cell? ⟨b, o, none⟩ = W.cell? ⟨b, o, none⟩) ∧ (∀ b o, b < W.heap.size → w1.frozen? ⟨b, o, none⟩ = W.frozen? ⟨b, o, none⟩) :=
 ⟨fun _ _ h => hb.cell h fun x => x, fun _ _ h => hb.frozen h fun x => x⟩
end
def Blk (w : World) (g : Nat) (t : TypeId) (cs : Array Value) : Prop := w.heap[g]? = some (.cells cs t (0, 0))
section
variable {w w' : World} {g : Nat} {t : TypeId} {cs : Array Value}
theorem Blk.lt (h : Blk w g t cs) : g < w.heap.size := by
 rcases Nat.lt_or_ge g w.heap.size with hlt | hge
 · exact hlt
 · unfold Blk at h; rw [Array.getElem?_eq_none hge] at h; cases h
theorem Blk.cell (h : Blk w g t cs) (i : Nat) : w.cell? ⟨g, i, none⟩ = cs[i]? := by
 unfold Blk at h; simp [World.cell?, h]
theorem Blk.c (h : Blk w g t cs) (i : Nat) (v : Value) (hv : cs[i]? = some v) : w.cell? ⟨g, i, none⟩ = some v := (h.cell i).trans hv
theorem Blk.frozen (h : Blk w g t cs) (i : Nat) : w.frozen? ⟨g, i, none⟩ = false := by
 unfold Blk at h
 simp [World.frozen?, h]
theorem Blk.keep (h : Blk w g t cs) (hk : w'.heap[g]? = w.heap[g]?) : Blk w' g t cs := hk.trans h
theorem Blk.ext (h : Blk w g t cs) (hb : Ext w w') : Blk w' g t cs := (hb.block g h.lt fun x => x).trans h
theorem Blk.kp {D : Nat → Prop} (h : Blk w g t cs) (hb : Kp D w w') (hg : ¬ D g) : Blk w' g t cs := (hb.block g h.lt hg).trans h
theorem Blk.new (w : World) (t : TypeId) (cs : Array Value) : Blk (w.alloc (.cells cs t)) w.heap.size t cs := by
 unfold Blk World.alloc; simp
theorem Blk.set_ (h : Blk w g t cs) (i : Nat) (u : Value) : Blk (w.setCell ⟨g, i, none⟩ u) g t (cs.setIfInBounds i u) := by
 unfold Blk at h ⊢
 simp [World.setCell, Array.getElem?_modify, h]
end
def CellsAt (w : World) (b o : Nat) (cs : List Value) : Prop := ∀ j v, cs[j]? = some v → w.cell? ⟨b, o + j, none⟩ = some v
abbrev Lies (α : Type) := World → (Nat → Prop) → α → List Value → Prop
def SliceOf {α : Type} (k : Nat) (R : Lies α) (w : World) (I : Nat → Prop) (v : Value) (xs : List α) : Prop :=
 ∃ a cap, v = .slice a xs.length cap ∧ xs.length ≤ cap ∧ xs.length ≤ 4294967296 ∧
  ∀ i x, xs[i]? = some x → ∃ b off cs, a = some ⟨b, off, none⟩ ∧ I b ∧ R w I x cs ∧ cs.length = k ∧ CellsAt w b (off + i * k) cs
theorem CellsAt.keep {w w' : World} {b o : Nat} {cs : List Value} (h : CellsAt w b o cs) (hs : ∀ o v, w.cell? ⟨b, o, none⟩ = some v → w'.cell? ⟨b, o, none⟩ = some v) : CellsAt w' b o cs :=
 fun j v hj => hs _ _ (h j v hj)
def Same (I : Nat → Prop) (w w' : World) : Prop := ∀ b o v, I b → w.cell? ⟨b, o, none⟩ = some v → w'.cell? ⟨b, o, none⟩ = some v
theorem Ext.same {I : Nat → Prop} {w w' : World} (h : Ext w w') : Same I w w' := fun _ _ _ _ hc => Kp.cellE h hc
theorem Kp.same {I D : Nat → Prop} {w w' : World} (h : Kp D w w') (hI : ∀ b, I b → ¬ D b) : Same I w w' := fun b _ _ hb hc => h.cellK hc (hI b hb)
def Stays {α : Type} (R : Lies α) : Prop := ∀ (w w' : World) (I J : Nat → Prop) (x : α) (cs : List Value), Same I w w' → (∀ b, I b → J b) → R w I x cs → R w' J x cs
theorem SliceOf.keep {α : Type} {k : Nat} {R : Lies α} (hR : Stays R) {w w' : World} {I J : Nat → Prop} {v : Value} {xs : List α} (h : SliceOf k R w I v xs)
    (hs : Same I w w') (hIJ : ∀ b, I b → J b) : SliceOf k R w' J v xs := by
 obtain ⟨a, cap, e, h1, h2, h3⟩ := h
 refine ⟨a, cap, e, h1, h2, fun i x hx => ?_⟩
 obtain ⟨b, off, cs', ea, hI, hr, hl, hc⟩ := h3 i x hx
 exact ⟨b, off, cs', ea, hIJ b hI, hR _ _ _ _ _ _ hs hIJ hr, hl, hc.keep fun o v => hs b o v hI⟩
theorem SliceOf.ext {α : Type} {k : Nat} {R : Lies α} {w w' : World} {I : Nat → Prop} {v : Value} {xs : List α} (h : SliceOf k R w I v xs) (hR : Stays R) (hE : Ext w w') : SliceOf k R w' I v xs :=
 h.keep hR (Ext.same hE) fun _ h => h
theorem SliceOf.get {α : Type} {k : Nat} {R : Lies α} {w : World} {I : Nat → Prop} {a : Option Addr} {n cap : Nat} {xs : List α} (h : SliceOf k R w I (.slice a n cap) xs) {i : Nat} {x : α} (hx : xs[i]? = some x) :
    ∃ b off cs, a = some ⟨b, off, none⟩ ∧ I b ∧ R w I x cs ∧ cs.length = k ∧ CellsAt w b (off + i * k) cs := by
 obtain ⟨a', cap', e, h1, h2, h3⟩ := h
 cases e
 exact h3 i x hx
theorem SliceOf.form {α : Type} {k : Nat} {R : Lies α} {w : World} {I : Nat → Prop} {v : Value} {xs : List α} (h : SliceOf k R w I v xs) :
    ∃ a cap, v = .slice a xs.length cap ∧ xs.length ≤ cap ∧ xs.length ≤ 4294967296 := by
 obtain ⟨a, cap, e, h1, h2, _⟩ := h
 exact ⟨a, cap, e, h1, h2⟩
theorem SliceOf.nil {α : Type} (k : Nat) (R : Lies α) (w : World) (I : Nat → Prop) : SliceOf k R w I (.slice none 0 0) ([] : List α) :=
 ⟨none, 0, rfl, Nat.le_refl _, by simp, fun i x hx => by simp at hx⟩
theorem SliceOf.take {α : Type} {k : Nat} {R : Lies α} {w : World} {I : Nat → Prop} {a : Option Addr} {n cap : Nat} {xs : List α} (h : SliceOf k R w I (.slice a n cap) xs) {i : Nat} (hi : i ≤ xs.length) :
    SliceOf k R w I (.slice a i cap) (xs.take i) := by
 obtain ⟨a', cap', e, h1, h2, h3⟩ := h
 cases e
 refine ⟨a, cap, by rw [List.length_take, Nat.min_eq_left hi], by rw [List.length_take]; omega, by rw [List.length_take]; omega, fun j x hx => ?_⟩
 rw [List.getElem?_take] at hx
 split at hx
 · exact h3 j x hx
 · cases hx
def KindL : Lies M.Kind := fun _ _ x cs => cs = [.int .i64 x.kind, .string x.name]
def TagL : Lies M.Tag := fun _ _ x cs => cs = [.int .i64 x.kind, .string x.name]
def InsL : Lies M.Ins := fun _ _ x cs => cs = [.int .i64 x.op, .int .i64 x.a, .string x.name, .string x.member]
def RefL : Lies M.Ref := fun _ _ x cs => cs = [.int .i64 x.keeper, .string x.name]
def AskL : Lies M.Ask := fun _ _ x cs => cs = [.string x.name, .int .i64 x.keeper]
def FieldL : Lies M.Field := fun _ _ x cs => cs = [.string x.name, .int .i64 x.kind.kind, .string x.kind.name]
def IntL : Lies Int := fun _ _ x cs => cs = [.int .i64 x]
def SMapL : Lies M.SMap := fun w I x cs => ∃ vl vs, cs = [.int .i64 x.at_, vl, vs] ∧ SliceOf 2 TagL w I vl x.locals ∧ SliceOf 2 TagL w I vs x.stack
def MethodL : Lies M.Method := fun w I x cs => ∃ va vc vm, cs = [.string x.name, va, .int .i64 x.ret.kind, .string x.ret.name, .int .i64 x.locals, .int .i64 x.stack, vc, vm] ∧
 SliceOf 2 KindL w I va x.args ∧ SliceOf 4 InsL w I vc x.code ∧ SliceOf 3 SMapL w I vm x.maps
def ClassL : Lies M.Class := fun w I x cs => ∃ vf vm, cs = [.string x.name, .string x.super, vf, vm] ∧ SliceOf 3 FieldL w I vf x.fields ∧ SliceOf 8 MethodL w I vm x.methods
def KeeperL : Lies M.Keeper := fun w I x cs => ∃ vo va, cs = [vo, va] ∧ SliceOf 4 ClassL w I vo x.owns ∧ SliceOf 2 AskL w I va x.asks
theorem MethodL.form {w : World} {I : Nat → Prop} {x : M.Method} {cs : List Value} (h : MethodL w I x cs) : ∃ a1 c1 a2 c2 a3 c3,
    cs = [.string x.name, .slice a1 x.args.length c1, .int .i64 x.ret.kind, .string x.ret.name, .int .i64 x.locals, .int .i64 x.stack, .slice a2 x.code.length c2, .slice a3 x.maps.length c3] := by
 obtain ⟨_, _, _, rfl, h1, h2, h3⟩ := h
 obtain ⟨a1, c1, rfl, _⟩ := h1.form
 obtain ⟨a2, c2, rfl, _⟩ := h2.form
 obtain ⟨a3, c3, rfl, _⟩ := h3.form
 exact ⟨a1, c1, a2, c2, a3, c3, rfl⟩
theorem ClassL.form {w : World} {I : Nat → Prop} {x : M.Class} {cs : List Value} (h : ClassL w I x cs) : ∃ a1 c1 a2 c2,
    cs = [.string x.name, .string x.super, .slice a1 x.fields.length c1, .slice a2 x.methods.length c2] := by
 obtain ⟨_, _, rfl, h1, h2⟩ := h
 obtain ⟨a1, c1, rfl, _⟩ := h1.form
 obtain ⟨a2, c2, rfl, _⟩ := h2.form
 exact ⟨a1, c1, a2, c2, rfl⟩
theorem KeeperL.form {w : World} {I : Nat → Prop} {x : M.Keeper} {cs : List Value} (h : KeeperL w I x cs) : ∃ a1 c1 a2 c2,
    cs = [.slice a1 x.owns.length c1, .slice a2 x.asks.length c2] := by
 obtain ⟨_, _, rfl, h1, h2⟩ := h
 obtain ⟨a1, c1, rfl, _⟩ := h1.form
 obtain ⟨a2, c2, rfl, _⟩ := h2.form
 exact ⟨a1, c1, a2, c2, rfl⟩
theorem SMapL.form {w : World} {I : Nat → Prop} {x : M.SMap} {cs : List Value} (h : SMapL w I x cs) : ∃ a1 c1 a2 c2,
    cs = [.int .i64 x.at_, .slice a1 x.locals.length c1, .slice a2 x.stack.length c2] := by
 obtain ⟨_, _, rfl, h1, h2⟩ := h
 obtain ⟨a1, c1, rfl, _⟩ := h1.form
 obtain ⟨a2, c2, rfl, _⟩ := h2.form
 exact ⟨a1, c1, a2, c2, rfl⟩
theorem KindL.stays : Stays KindL := fun _ _ _ _ _ _ _ _ h => h
theorem TagL.stays : Stays TagL := fun _ _ _ _ _ _ _ _ h => h
theorem InsL.stays : Stays InsL := fun _ _ _ _ _ _ _ _ h => h
theorem RefL.stays : Stays RefL := fun _ _ _ _ _ _ _ _ h => h
theorem AskL.stays : Stays AskL := fun _ _ _ _ _ _ _ _ h => h
theorem FieldL.stays : Stays FieldL := fun _ _ _ _ _ _ _ _ h => h
theorem IntL.stays : Stays IntL := fun _ _ _ _ _ _ _ _ h => h
theorem SMapL.stays : Stays SMapL := fun _ _ _ _ _ _ hs hI ⟨vl, vs, e, h1, h2⟩ => ⟨vl, vs, e, h1.keep TagL.stays hs hI, h2.keep TagL.stays hs hI⟩
theorem MethodL.stays : Stays MethodL := fun _ _ _ _ _ _ hs hI ⟨va, vc, vm, e, h1, h2, h3⟩ =>
 ⟨va, vc, vm, e, h1.keep KindL.stays hs hI, h2.keep InsL.stays hs hI, h3.keep SMapL.stays hs hI⟩
theorem ClassL.stays : Stays ClassL := fun _ _ _ _ _ _ hs hI ⟨vf, vm, e, h1, h2⟩ => ⟨vf, vm, e, h1.keep FieldL.stays hs hI, h2.keep MethodL.stays hs hI⟩
theorem KeeperL.stays : Stays KeeperL := fun _ _ _ _ _ _ hs hI ⟨vo, va, e, h1, h2⟩ => ⟨vo, va, e, h1.keep ClassL.stays hs hI, h2.keep AskL.stays hs hI⟩
theorem CellsAt.two {w : World} {b o : Nat} {x y : Value} (h : CellsAt w b o [x, y]) : w.cell? ⟨b, o, none⟩ = some x ∧ w.cell? ⟨b, o + 1, none⟩ = some y :=
 ⟨by simpa using h 0 x rfl, h 1 y rfl⟩
theorem CellsAt.one {w : World} {b o : Nat} {x : Value} (h : CellsAt w b o [x]) : w.cell? ⟨b, o, none⟩ = some x := by simpa using h 0 x rfl
theorem CellsAt.three {w : World} {b o : Nat} {x y z : Value} (h : CellsAt w b o [x, y, z]) :
    w.cell? ⟨b, o, none⟩ = some x ∧ w.cell? ⟨b, o + 1, none⟩ = some y ∧ w.cell? ⟨b, o + 2, none⟩ = some z :=
 ⟨by simpa using h 0 x rfl, h 1 y rfl, h 2 z rfl⟩
theorem CellsAt.four {w : World} {b o : Nat} {x y z u : Value} (h : CellsAt w b o [x, y, z, u]) :
    w.cell? ⟨b, o, none⟩ = some x ∧ w.cell? ⟨b, o + 1, none⟩ = some y ∧ w.cell? ⟨b, o + 2, none⟩ = some z ∧ w.cell? ⟨b, o + 3, none⟩ = some u :=
 ⟨by simpa using h 0 x rfl, h 1 y rfl, h 2 z rfl, h 3 u rfl⟩
theorem CellsAt.eight {w : World} {b o : Nat} {x0 x1 x2 x3 x4 x5 x6 x7 : Value} (h : CellsAt w b o [x0, x1, x2, x3, x4, x5, x6, x7]) :
    w.cell? ⟨b, o, none⟩ = some x0 ∧ w.cell? ⟨b, o + 1, none⟩ = some x1 ∧ w.cell? ⟨b, o + 2, none⟩ = some x2 ∧ w.cell? ⟨b, o + 3, none⟩ = some x3 ∧
    w.cell? ⟨b, o + 4, none⟩ = some x4 ∧ w.cell? ⟨b, o + 5, none⟩ = some x5 ∧ w.cell? ⟨b, o + 6, none⟩ = some x6 ∧ w.cell? ⟨b, o + 7, none⟩ = some x7 :=
 ⟨by simpa using h 0 x0 rfl, h 1 x1 rfl, h 2 x2 rfl, h 3 x3 rfl, h 4 x4 rfl, h 5 x5 rfl, h 6 x6 rfl, h 7 x7 rfl⟩
theorem CellsAt.ext {w w' : World} {b o : Nat} {cs : List Value} (h : CellsAt w b o cs) (hb : Ext w w') : CellsAt w' b o cs := fun j v hj => hb.cellE (h j v hj)
theorem CellsAt.kp {D : Nat → Prop} {w w' : World} {b o : Nat} {cs : List Value} (h : CellsAt w b o cs) (hk : Kp D w w') (hD : ¬ D b) : CellsAt w' b o cs := fun j v hj => hk.cellK (h j v hj) hD
end Go.Proofs.YtjdfceejkneofaaGreat
namespace Go.Proofs.YtjdfceejkneofaaGreat
open Go Go.RowKit
open Go.Lib (hid)
def Agg (t k : Nat) : Prop := ∃ fs, Tryz.prog.underlying t = some (.struct fs) ∧ (Tryz.prog.info? t).map (·.size) = some k
theorem Agg.is {t k : Nat} (h : Agg t k) (w : World) : (isAgg t).run Tryz.prog w = .ok true w ∧ (sizeOf t).run Tryz.prog w = .ok k w := by
 obtain ⟨fs, h1, h2⟩ := h
 cases hq : Tryz.prog.info? t with
 | none => rw [hq] at h2; cases h2
 | some i =>
  rw [hq] at h2
  have h2' : i.size = k := by simpa using h2
  subst h2'
  constructor
  · unfold isAgg
    rw [Sem.run_bind, run_underlying h1 w]
    simp
  · simp [sizeOf, typeInfo, hq]
theorem run_loadVar_agg {t k : Nat} (h : Agg t k) {w : World} {b o : Nat} {cs : List Value} (hc : CellsAt w b o cs) (hl : cs.length = k) : (loadVar t ⟨b, o, none⟩).run Tryz.prog w = .ok (.agg cs.toArray) w := by
 subst hl
 obtain ⟨h1, h2⟩ := h.is w
 have h3 := run_loadCells_list (P := Tryz.prog) w ⟨b, o, none⟩ cs (fun j v hv => by
  have := hc j v hv
  unfold Addr.add
  split
  · rename_i h0; subst h0; simpa using this
  · exact this)
 simp [loadVar, Sem.run_bind, h1, h2, h3]
theorem wp_load_agg {t k : Nat} (h : Agg t k) {o : Oper} {a : Act} {w : World} {K : Act → World → Prop} {Q : Exit → Act → World → Prop} (x : Operand) (ho : o.op = .load t x)
    (b off : Nat) (hx : a.eval x = .pointer (some ⟨b, off, none⟩)) (cs : List Value) (hc : CellsAt w b off cs) (hl : cs.length = k) (hK : K (a.put o.dst (.agg cs.toArray)) w) : o.wp Tryz.prog a w K Q := by
 unfold Oper.wp execOp
 simp only [ho, hx, Instr.loadAt, Instr.sureAddr, Sem.run_bind, Sem.run_pure, Result.andThen_ok, run_loadVar_agg h hc hl]
 exact hK
theorem wpList_load_agg {t k : Nat} (h : Agg t k) {ops : Array Oper} {rest : List Oper} {o : Oper} {a : Act} {w : World} {Q : Exit → Act → World → Prop} (hgd : o.guard = none) (x : Operand) (ho : o.op = .load t x)
    (b off : Nat) (hx : a.eval x = .pointer (some ⟨b, off, none⟩)) (cs : List Value) (hc : CellsAt w b off cs) (hl : cs.length = k) (hK : wpList Tryz.prog ops Q rest (a.put o.dst (.agg cs.toArray)) w) : wpList Tryz.prog ops Q (o :: rest) a w :=
 wpList_plain hgd fun _ hK' => wp_load_agg h x ho b off hx cs hc hl (hK' _ _ hK)
theorem results_agg {t k : Nat} (h : Agg t k) {fn : Func} {p : Tmp} (hf : fn.results = #[.cell p t]) (tmps : Array Value) (w : World) (b : Nat) (hp : tmps.getD p undef = .pointer (some ⟨b, 0, none⟩)) (cs : List Value) (hc : CellsAt w b 0 cs) (hl : cs.length = k) :
    (results fn tmps).run Tryz.prog w = .ok (.agg cs.toArray) w := by
 have hp' : tmps[p]?.getD undef = .pointer (some ⟨b, 0, none⟩) := by simpa using hp
 simp [results, hf, hp', asAddr, run_loadVar_agg h hc hl]
theorem results_agg2 {t k : Nat} (h : Agg t k) {fn : Func} {p q : Tmp} (hf : fn.results = #[.cell p t, .tmp q]) (tmps : Array Value) (w : World) (b : Nat) (hp : tmps.getD p undef = .pointer (some ⟨b, 0, none⟩)) (cs : List Value) (hc : CellsAt w b 0 cs) (hl : cs.length = k) :
    (results fn tmps).run Tryz.prog w = .ok (.tuple #[.agg cs.toArray, tmps.getD q undef]) w := by
 have hp' : tmps[p]?.getD undef = .pointer (some ⟨b, 0, none⟩) := by simpa using hp
 simp [results, hf, hp', asAddr, run_loadVar_agg h hc hl]
theorem agg_ref : Agg 76 2 := ⟨_, Tryz.underlying76, by kernel_rfl⟩
theorem agg_method : Agg 60 8 := ⟨_, Tryz.underlying60, by kernel_rfl⟩
theorem agg_mref : Agg 97 3 := ⟨_, Tryz.underlying97, by kernel_rfl⟩
theorem agg_fref : Agg 159 5 := ⟨_, Tryz.underlying159, by kernel_rfl⟩
theorem agg_call : Agg 117 15 := ⟨_, Tryz.underlying117, by kernel_rfl⟩
theorem agg_machine : Agg 86 8 := ⟨_, Tryz.underlying86, by kernel_rfl⟩
theorem agg_val : Agg 34 2 := ⟨_, Tryz.underlying34, by kernel_rfl⟩
theorem agg_obj : Agg 146 3 := ⟨_, Tryz.underlying146, by kernel_rfl⟩
theorem agg_state : Agg 36 6 := ⟨_, Tryz.underlying36, by kernel_rfl⟩
theorem agg_frame : Agg 105 6 := ⟨_, Tryz.underlying105, by kernel_rfl⟩
abbrev Key := Int × ByteArray
def encKey (r : Key) : Value := .agg #[.int .i64 r.1, .string r.2]
def encEntry (x : Key × Int) : Value × Value := (encKey x.1, .int .i64 x.2)
def MapIs (w : World) (b : Nat) (m : List (Key × Int)) : Prop :=
 ∃ es clock, w.heap[b]? = some (.map es clock) ∧ es.toList.map (fun e => (e.key, e.val)) = m.map encEntry
def look (m : List (Key × Int)) (k : Key) : Option Int := (m.find? fun x => decide (k = x.1)).map Prod.snd
theorem look_nil (k : Key) : look [] k = none := rfl
theorem look_snoc_same {m : List (Key × Int)} {k : Key} {v : Int} (h : look m k = none) : look (m ++ [(k, v)]) k = some v := by
 unfold look at *
 rw [List.find?_append]
 cases hf : m.find? fun x => decide (k = x.1)
 · simp
 · rw [hf] at h; simp at h
theorem look_snoc_other {m : List (Key × Int)} {k k' : Key} {v : Int} (h : k' ≠ k) : look (m ++ [(k, v)]) k' = look m k' := by
 unfold look
 rw [List.find?_append]
 cases hf : m.find? fun x => decide (k' = x.1)
 · simp [h]
 · rfl
theorem MapIs.lt {w : World} {b : Nat} {m : List (Key × Int)} (h : MapIs w b m) : b < w.heap.size := by
 obtain ⟨es, c, hb, _⟩ := h
 exact (Array.getElem?_eq_some_iff.1 hb).1
theorem MapIs.keep {w w' : World} {b : Nat} {m : List (Key × Int)} (h : MapIs w b m) (hk : w'.heap[b]? = w.heap[b]?) : MapIs w' b m := by
 obtain ⟨es, c, hb, e⟩ := h
 exact ⟨es, c, hk.trans hb, e⟩
theorem MapIs.kp {D : Nat → Prop} {w w' : World} {b : Nat} {m : List (Key × Int)} (h : MapIs w b m) (hk : Kp D w w') (hd : ¬ D b) : MapIs w' b m := h.keep (hk.block b h.lt hd)
theorem MapIs.new (w : World) : MapIs (w.alloc (.map #[] 0)) w.heap.size [] := ⟨#[], 0, heap_alloc_new w _, rfl⟩
theorem run_equal_key (a b : Key) (w : World) : (Op.equal 76 (encKey a) (encKey b)).run Tryz.prog w = .ok (decide (a = b)) w := by
 unfold Op.equal encKey
 show (Op.equalIn 10000 _ _ _).run _ w = _
 go_simp
 obtain ⟨a1, a2⟩ := a
 obtain ⟨b1, b2⟩ := b
 have e : (a2.toList = b2.toList) ↔ a2 = b2 := by
  rw [ByteArray.toList_eq, ByteArray.toList_eq]
  obtain ⟨⟨x⟩⟩ := a2
  obtain ⟨⟨y⟩⟩ := b2
  simp
 simp only [e, Prod.mk.injEq]
 by_cases h1 : a1 = b1 <;> by_cases h2 : a2 = b2 <;> simp [h1, h2]
theorem run_check_key (em : Bool) (k : Int) (s : ByteArray) (w : World) : (Instr.checkKey em 10000 76 (.agg #[.int .i64 k, .string s])).run Tryz.prog w = .ok () w := by
 cases em <;> kernel_rfl
theorem map_type : Tryz.prog.underlying 90 = some (.map 76 3) := Tryz.underlying90
theorem key_type : ∃ fs, Tryz.prog.underlying 76 = some (.struct fs) := ⟨_, Tryz.underlying76⟩
theorem run_find_asking (k : Key) (w : World) : ∀ (es : List MapEntry) (m : List (Key × Int)) (i : Nat), es.map (fun e => (e.key, e.val)) = m.map encEntry →
    (look m k = none ∧ (Instr.findAsking 76 (encKey k) es i).run Tryz.prog w = .ok none w) ∨
    ∃ v j, look m k = some v ∧ (Instr.findAsking 76 (encKey k) es i).run Tryz.prog w = .ok (some (j, .int .i64 v)) w := by
 intro es
 induction es with
 | nil =>
  intro m i h
  cases m with
  | nil => exact .inl ⟨rfl, rfl⟩
  | cons x r => simp at h
 | cons e es ih =>
  intro m i h
  cases m with
  | nil => simp at h
  | cons x r =>
   simp only [List.map_cons, List.cons.injEq] at h
   obtain ⟨h1, h2⟩ := h
   have hk : e.key = encKey x.1 := congrArg Prod.fst h1
   have hv : e.val = .int .i64 x.2 := congrArg Prod.snd h1
   unfold Instr.findAsking
   rw [hk]
   simp only [Sem.run_bind, run_equal_key, Result.andThen_ok]
   by_cases hkx : k = x.1
   · refine .inr ⟨x.2, i, by unfold look; rw [List.find?_cons_of_pos (by simp [hkx])]; rfl, ?_⟩
     simp [hkx, hv]
   · have hl : look (x :: r) k = look r k := by unfold look; rw [List.find?_cons_of_neg (by simp [hkx])]
     rw [hl, decide_eq_false hkx]
     simpa using ih r (i + 1) h2
theorem run_find_key (k : Key) (w : World) (es : List MapEntry) (m : List (Key × Int)) (h : es.map (fun e => (e.key, e.val)) = m.map encEntry) :
    (look m k = none ∧ (Instr.findKey 76 (encKey k) es).run Tryz.prog w = .ok none w) ∨
    ∃ v j, look m k = some v ∧ (Instr.findKey 76 (encKey k) es).run Tryz.prog w = .ok (some (j, .int .i64 v)) w := by
 obtain ⟨fs, hfs⟩ := key_type
 unfold Instr.findKey
 simp only [Sem.run_bind, run_underlying hfs, Result.andThen_ok]
 cases es with
 | nil =>
  cases m with
  | nil => exact .inl ⟨rfl, rfl⟩
  | cons x r => simp at h
 | cons e es =>
  have hn : Instr.findNow (.struct fs) (encKey k) (e :: es) 0 = none := by simp [Instr.findNow, Instr.sameNow]
  rw [hn]
  exact run_find_asking k w (e :: es) m 0 h
theorem run_lookup_ok {w : World} {b : Nat} {m : List (Key × Int)} (h : MapIs w b m) (k : Int) (s : ByteArray) :
    (Instr.lookup 90 (.map (some b)) (.agg #[.int .i64 k, .string s]) true).run Tryz.prog w = .ok (.tuple #[.int .i64 ((look m (k, s)).getD 0), .bool (look m (k, s)).isSome]) w := by
 obtain ⟨es, clock, hb, he⟩ := h
 unfold Instr.lookup
 simp only [Sem.run_bind, run_underlying map_type, Result.andThen_ok]
 rcases run_find_key (k, s) w es.toList m he with ⟨h1, h2⟩ | ⟨v, j, h1, h2⟩
 · simp only [encKey] at h2
   simp [getObj, Sem.run, hb, run_check_key, h2, h1, go_sem]
 · simp only [encKey] at h2
   simp [getObj, Sem.run, hb, run_check_key, h2, h1, go_sem]
theorem run_lookup {w : World} {b : Nat} {m : List (Key × Int)} (h : MapIs w b m) (k : Int) (s : ByteArray) :
    (Instr.lookup 90 (.map (some b)) (.agg #[.int .i64 k, .string s]) false).run Tryz.prog w = .ok (.int .i64 ((look m (k, s)).getD 0)) w := by
 obtain ⟨es, clock, hb, he⟩ := h
 unfold Instr.lookup
 simp only [Sem.run_bind, run_underlying map_type, Result.andThen_ok]
 rcases run_find_key (k, s) w es.toList m he with ⟨h1, h2⟩ | ⟨v, j, h1, h2⟩
 · simp only [encKey] at h2
   simp [getObj, Sem.run, hb, run_check_key, h2, h1, go_sem]
 · simp only [encKey] at h2
   simp [getObj, Sem.run, hb, run_check_key, h2, h1, go_sem]
theorem run_update {w : World} {b : Nat} {m : List (Key × Int)} (h : MapIs w b m) (k : Int) (s : ByteArray) (v : Int) (hn : look m (k, s) = none) :
    ∃ w', (Instr.mapUpdate 90 (.map (some b)) (.agg #[.int .i64 k, .string s]) (.int .i64 v)).run Tryz.prog w = .ok () w' ∧ MapIs w' b (m ++ [((k, s), v)]) ∧ Kp (· = b) w w' ∧ w'.heap.size = w.heap.size := by
 obtain ⟨es, clock, hb, he⟩ := h
 refine ⟨{ w with heap := w.heap.setIfInBounds b (.map (es.push { key := .agg #[.int .i64 k, .string s], val := .int .i64 v, born := clock }) (clock + 1)) }, ?_, ?_, ?_, by simp⟩
 · unfold Instr.mapUpdate
   simp only [Sem.run_bind, run_underlying map_type, Result.andThen_ok]
   rcases run_find_key (k, s) w es.toList m he with ⟨h1, h2⟩ | ⟨v, j, h1, h2⟩
   · simp only [encKey] at h2
     simp [getObj, setObj, Sem.run, hb, run_check_key, h2, go_sem]
   · rw [h1] at hn; cases hn
 · have hlt := (Array.getElem?_eq_some_iff.1 hb).1
   refine ⟨_, _, by simp [hlt]; exact ⟨rfl, rfl⟩, ?_⟩
   simp [he, encEntry, encKey]
 · refine ⟨rfl, rfl, rfl, by simp, fun i hi hne => ?_⟩
   simp only [Array.getElem?_setIfInBounds]
   rw [if_neg (fun e => hne e.symm)]
theorem wpList_mapUpdate_ref (w : World) {ops : Array Oper} {rest : List Oper} {o : Oper} {a : Act} {Q : Exit → Act → World → Prop}
    (hg : o.guard = none) (mo x y : Operand) (hop : o.op = Op.mapUpdate 90 mo x y) (b : Nat) (m : List (Key × Int)) (k : Int) (s : ByteArray) (v : Int)
    (hm : a.eval mo = .map (some b)) (hx : a.eval x = .agg #[.int .i64 k, .string s]) (hv : a.eval y = .int .i64 v) (h : MapIs w b m) (hn : look m (k, s) = none)
    (hK : ∀ w', MapIs w' b (m ++ [((k, s), v)]) → Kp (· = b) w w' → w'.heap.size = w.heap.size → wpList Tryz.prog ops Q rest (a.put o.dst undef) w') :
    wpList Tryz.prog ops Q (o :: rest) a w := by
 refine wpList_plain hg fun K' hK' => ?_
 obtain ⟨w', hrun, r1, r2, r3⟩ := run_update h k s v hn
 unfold Oper.wp
 simp [execOp, hop, hm, hx, hv, hrun, Result.andThen]
 exact hK' _ _ (hK w' r1 r2 r3)
structure Lodge where
 L : Nat
 O : Nat
 A : Nat
 D : Nat
def Lodge.ptr (l : Lodge) : Value := .pointer (some ⟨l.L, 0, none⟩)
structure LodgeAt (w : World) (l : Lodge) (p : M.Plan) : Prop where
 ok : M.lodOk p = true
 ord : l.O < l.A ∧ l.A < l.D ∧ l.D < l.L
 blk : ∃ a cap, Blk w l.L 92 #[.slice a p.length cap, .map (some l.O), .map (some l.A), .map (some l.D)] ∧ SliceOf 2 KeeperL w (· < l.O) (.slice a p.length cap) p
 own : ∃ m, MapIs w l.O m ∧ ∀ k s, look m (k, s) = (M.ownAt p ⟨k, s⟩).map Int.ofNat
 ask : ∃ m, MapIs w l.A m ∧ ∀ k s, look m (k, s) = M.ask? p k s
 laid : ∃ m, MapIs w l.D m ∧ ∀ k s v, look m (k, s) = some v → v = if M.canLay p ⟨k, s⟩ then 1 else 2
theorem LodgeAt.lt {w : World} {l : Lodge} {p : M.Plan} (h : LodgeAt w l p) : l.L < w.heap.size := by
 obtain ⟨a, cap, hb, _⟩ := h.blk
 exact hb.lt
theorem LodgeAt.keep {w w' : World} {l : Lodge} {p : M.Plan} (h : LodgeAt w l p) (hk : ∀ k, k ≤ l.L → w'.heap[k]? = w.heap[k]?) : LodgeAt w' l p := by
 obtain ⟨o1, o2, o3⟩ := h.ord
 refine ⟨h.ok, h.ord, ?_, ?_, ?_, ?_⟩
 · obtain ⟨a, cap, hb, hs⟩ := h.blk
   exact ⟨a, cap, hb.keep (hk _ (Nat.le_refl _)), hs.keep KeeperL.stays (fun b o v hI hc => (World.cell?_of_block (hk b (by omega))).trans hc) fun _ h => h⟩
 · obtain ⟨m, hm, e⟩ := h.own
   exact ⟨m, hm.keep (hk _ (by omega)), e⟩
 · obtain ⟨m, hm, e⟩ := h.ask
   exact ⟨m, hm.keep (hk _ (by omega)), e⟩
 · obtain ⟨m, hm, e⟩ := h.laid
   exact ⟨m, hm.keep (hk _ (by omega)), e⟩
theorem LodgeAt.kp {D : Nat → Prop} {w w' : World} {l : Lodge} {p : M.Plan} (h : LodgeAt w l p) (hk : Kp D w w') (hD : ∀ k, k ≤ l.L → ¬ D k) : LodgeAt w' l p :=
 h.keep fun k hkl => hk.block k (by have := h.lt; omega) (hD k hkl)
theorem LodgeAt.ext {w w' : World} {l : Lodge} {p : M.Plan} (h : LodgeAt w l p) (hk : Ext w w') : LodgeAt w' l p := h.kp hk fun _ _ x => x
theorem LodgeAt.lookOwn {w : World} {l : Lodge} {p : M.Plan} (h : LodgeAt w l p) : ∀ W, Ext w W → ∀ k s,
    (Instr.lookup 90 (.map (some l.O)) (.agg #[.int .i64 k, .string s]) true).run Tryz.prog W =
     .ok (.tuple #[.int .i64 (((M.ownAt p ⟨k, s⟩).map Int.ofNat).getD 0), .bool (M.ownAt p ⟨k, s⟩).isSome]) W := by
 intro W hW k s
 obtain ⟨m, hm, e⟩ := h.own
 rw [run_lookup_ok (hm.kp hW fun x => x), e]
 simp
theorem LodgeAt.lookOwn1 {w : World} {l : Lodge} {p : M.Plan} (h : LodgeAt w l p) : ∀ W, Ext w W → ∀ k s,
    (Instr.lookup 90 (.map (some l.O)) (.agg #[.int .i64 k, .string s]) false).run Tryz.prog W =
     .ok (.int .i64 (((M.ownAt p ⟨k, s⟩).map Int.ofNat).getD 0)) W := by
 intro W hW k s
 obtain ⟨m, hm, e⟩ := h.own
 rw [run_lookup (hm.kp hW fun x => x), e]
theorem LodgeAt.lookAsk {w : World} {l : Lodge} {p : M.Plan} (h : LodgeAt w l p) : ∀ W, Ext w W → ∀ k s,
    (Instr.lookup 90 (.map (some l.A)) (.agg #[.int .i64 k, .string s]) true).run Tryz.prog W =
     .ok (.tuple #[.int .i64 ((M.ask? p k s).getD 0), .bool (M.ask? p k s).isSome]) W := by
 intro W hW k s
 obtain ⟨m, hm, e⟩ := h.ask
 rw [run_lookup_ok (hm.kp hW fun x => x), e]
theorem LodgeAt.cells {w : World} {l : Lodge} {p : M.Plan} (h : LodgeAt w l p) : ∃ a cap, SliceOf 2 KeeperL w (· < l.O) (.slice a p.length cap) p ∧ (∀ W, Ext w W → W.cell? ⟨l.L, 0, none⟩ = some (.slice a p.length cap)) ∧
    (∀ W, Ext w W → W.cell? ⟨l.L, 1, none⟩ = some (.map (some l.O))) ∧ (∀ W, Ext w W → W.cell? ⟨l.L, 2, none⟩ = some (.map (some l.A))) ∧ (∀ W, Ext w W → W.cell? ⟨l.L, 3, none⟩ = some (.map (some l.D))) := by
 obtain ⟨a, cap, hb, hs⟩ := h.blk
 exact ⟨a, cap, hs, fun W hW => Kp.cellE hW (hb.c 0 _ rfl), fun W hW => Kp.cellE hW (hb.c 1 _ rfl), fun W hW => Kp.cellE hW (hb.c 2 _ rfl), fun W hW => Kp.cellE hW (hb.c 3 _ rfl)⟩
theorem ret_bool {a b : Bool} (h : a = b) : Ending.returned (.bool a) = .returned (.bool b) := by rw [h]
theorem toList_isEmpty (s : ByteArray) : s.toList.isEmpty = decide (s = M.none_) := by
 rw [ByteArray.toList_eq]
 obtain ⟨⟨l⟩⟩ := s
 cases l <;> simp [M.none_]
theorem nameOk_take (s : ByteArray) (k : Nat) (h : k < s.size) : s.data.toList.take (k + 1) = s.data.toList.take k ++ [s[k]] := by
 rw [List.take_succ_eq_append_getElem (by simpa using h)]; rfl
theorem namOk_no (s : ByteArray) (k : Nat) (h : k < s.size) (hc : M.letter s[k] = false) : M.namOk s = false := by
 have hm : s[k] ∈ s.data.toList := by simp [ByteArray.getElem_eq_getElem_data]
 unfold M.namOk
 rw [List.all_eq_false.2 ⟨_, hm, by simp [hc]⟩]
 simp
theorem letter_no1 {c : UInt8} (h : (c.toNat : Int) < 97) : M.letter c = false := by
 unfold M.letter; rw [decide_eq_false (by omega)]; rfl
theorem letter_no2 {c : UInt8} (h : (c.toNat : Int) < 97 ∨ 122 < (c.toNat : Int)) : M.letter c = false := by
 unfold M.letter
 rcases h with h | h
 · rw [decide_eq_false (by omega)]; rfl
 · rw [decide_eq_false (p := c.toNat ≤ 122) (by omega)]; simp
theorem letter_yes {c : UInt8} (h : 97 ≤ (c.toNat : Int) ∧ (c.toNat : Int) ≤ 122) : M.letter c = true := by
 unfold M.letter
 rw [decide_eq_true (by omega), decide_eq_true (by omega)]; rfl
theorem word_ok (s : ByteArray) (w : World) :
    Calls Tryz.prog 67 #[.string s] w fun e w' => e = .returned (.bool (M.namOk s)) ∧ w = w' := by
 by_cases h1 : s.size < 1
 · go_enter Tryz.func67, Tryz.ntmps67
   go_wp2
   go_ret
   exact ⟨ret_bool (by unfold M.namOk; rw [decide_eq_false (by omega)]; rfl), rfl⟩
 by_cases h2 : 6 < s.size
 · go_enter Tryz.func67, Tryz.ntmps67
   go_wp2
   go_ret
   exact ⟨ret_bool (by unfold M.namOk; rw [decide_eq_false (p := s.size ≤ 6) (by omega)]; simp), rfl⟩
 go_enter Tryz.func67, Tryz.ntmps67
 go_wp2
 go_loop [3] (fun i => ∃ k : Nat, k ≤ s.size ∧ i = .int .i64 k ∧ (s.data.toList.take k).all M.letter = true) (fun i => s.size - (intOf i).toNat)
 case atStart => exact ⟨0, Nat.zero_le _, rfl, by simp⟩
 case round =>
  obtain ⟨k, hk, rfl, hall⟩ := hrel
  have HA := hid hall; clear hall
  by_cases hlt : k < s.size
  · go_wp2
    · go_ret
      exact ⟨ret_bool (namOk_no s k hlt (letter_no2 (by assumption))).symm, rfl⟩
    · go_round
      case rel =>
       refine ⟨k + 1, by omega, by go_num, ?_⟩
       rw [nameOk_take s k hlt, List.all_append, HA.out]
       simp [letter_yes (c := s[k]) (by assumption)]
      case measure => simp [intOf]; omega
    · go_ret
      exact ⟨ret_bool (namOk_no s k hlt (letter_no1 (by assumption))).symm, rfl⟩
  · go_wp2
    go_ret
    refine ⟨ret_bool ?_, rfl⟩
    have h := HA.out
    rw [List.take_of_length_le (by simp; omega)] at h
    unfold M.namOk
    rw [h, decide_eq_true (by omega), decide_eq_true (by omega)]
    rfl
theorem nam_ok (s : ByteArray) (w : World) :
    Calls Tryz.prog 33 #[.string s] w fun e w' => e = .returned (.bool (M.namOk s)) ∧ w = w' := by
 go_enter Tryz.func33, Tryz.ntmps33
 go_wp2_with (go_at_call 67; refine (word_ok _ _).mono ?_; rintro e w' ⟨rfl, rfl⟩)
 go_ret
 exact ⟨rfl, rfl⟩
theorem num_ok (n : Int) (w : World) :
    Calls Tryz.prog 34 #[.int .i64 n] w fun e w' => e = .returned (.bool (decide (-9999 ≤ n) && decide (n ≤ 9999))) ∧ w = w' := by
 go_enter Tryz.func34, Tryz.ntmps34
 go_wp2
 · go_ret
   exact ⟨ret_bool (by rw [decide_eq_true (p := -9999 ≤ n) (by omega)]; rfl), rfl⟩
 · go_ret
   exact ⟨ret_bool (by rw [decide_eq_false (p := -9999 ≤ n) (by omega)]; rfl), rfl⟩
theorem num_val (n : Int) (w : World) :
    Calls Tryz.prog 71 #[.int .i64 n] w fun e w' => e = .returned (.agg #[.int .i64 1, .int .i64 n]) ∧ Ext w w' := by
 go_enter Tryz.func71, Tryz.ntmps71
 go_wp2
 refine bodyPost_ret (v := .agg #[.int .i64 1, .int .i64 n]) (by simp [results, Tryz.results71, go_sem]) rfl ?_
 exact ⟨rfl, ((Kp.refl _ _).alloc _)⟩
theorem null_val (w : World) :
    Calls Tryz.prog 85 #[] w fun e w' => e = .returned (.agg #[.int .i64 3, .int .i64 0]) ∧ Ext w w' := by
 go_enter Tryz.func85, Tryz.ntmps85
 go_wp2
 refine bodyPost_ret (v := .agg #[.int .i64 3, .int .i64 0]) (by simp [results, Tryz.results85, go_sem]) rfl ?_
 exact ⟨rfl, ((Kp.refl _ _).alloc _)⟩
def ShapeIs (k : M.Kind) (e : Ending) : Prop := (M.kndOk k = true ∧ ∃ t x, e = .returned (.iface t x)) ∨ (M.kndOk k = false ∧ e = .returned .nilIface)
theorem kndOk_1 {n : ByteArray} (h : n.toList.isEmpty = true) : M.kndOk ⟨1, n⟩ = true := by
 rw [toList_isEmpty] at h; simp [M.kndOk, h]
theorem kndOk_1n {n : ByteArray} (h : n.toList.isEmpty = false) : M.kndOk ⟨1, n⟩ = false := by
 rw [toList_isEmpty] at h; simp [M.kndOk, h]
theorem kndOk_2 {k : Int} {n : ByteArray} (h1 : k = 2) : M.kndOk ⟨k, n⟩ = M.namOk n := by
 subst h1; simp [M.kndOk]
theorem kndOk_0 {k : Int} {n : ByteArray} (h1 : ¬ k = 1) (h2 : ¬ k = 2) : M.kndOk ⟨k, n⟩ = false := by
 simp [M.kndOk, h1, h2]
theorem shape_of (k : M.Kind) (w : World) :
    Calls Tryz.prog 41 #[.agg #[.int .i64 k.kind, .string k.name]] w fun e w' => ShapeIs k e ∧ Ext w w' := by
 obtain ⟨kk, kn⟩ := k
 by_cases h1 : kk = 1
 · subst h1
   cases hn : kn.toList.isEmpty
   · go_enter Tryz.func41, Tryz.ntmps41
     go_wp2
     go_ret
     exact ⟨.inr ⟨kndOk_1n hn, rfl⟩, ((Kp.refl _ _).alloc _)⟩
   · go_enter Tryz.func41, Tryz.ntmps41
     go_wp2
     go_ret
     exact ⟨.inl ⟨kndOk_1 hn, _, _, rfl⟩, ((Kp.refl _ _).alloc _)⟩
 · by_cases h2 : kk = 2
   · have HN := hid (kndOk_2 (n := kn) h2)
     cases hb : M.namOk kn
     all_goals
      have HB := hid hb; clear hb
      go_enter Tryz.func41, Tryz.ntmps41
      go_wp2_with (go_at_call 67; refine (word_ok _ _).mono ?_; rintro e w' ⟨rfl, rfl⟩; rw [HB.out])
      go_ret
     · exact ⟨.inr ⟨by rw [HN.out, HB.out], rfl⟩, ((Kp.refl _ _).alloc _)⟩
     · exact ⟨.inl ⟨by rw [HN.out, HB.out], _, _, rfl⟩, ((Kp.refl _ _).alloc _)⟩
   · go_enter Tryz.func41, Tryz.ntmps41
     go_wp2
     go_ret
     exact ⟨.inr ⟨kndOk_0 h1 h2, rfl⟩, ((Kp.refl _ _).alloc _)⟩
theorem knd_ok (k : M.Kind) (w : World) :
    Calls Tryz.prog 27 #[.agg #[.int .i64 k.kind, .string k.name]] w fun e w' => e = .returned (.bool (M.kndOk k)) ∧ Ext w w' := by
 go_enter Tryz.func27, Tryz.ntmps27
 go_wp2_with fail
 refine (shape_of k _).mono ?_
 rintro e w1 ⟨⟨hk, t, x, rfl⟩ | ⟨hk, rfl⟩, hB⟩
 · go_wp2
   go_ret
   exact ⟨ret_bool hk.symm, (by repeat (first | assumption | exact Kp.refl _ _ | apply Kp.alloc | apply Kp.drew | apply Kp.drewN | refine Kp.trans ?_ (by assumption)))⟩
 · go_wp2
   go_ret
   exact ⟨ret_bool hk.symm, (by repeat (first | assumption | exact Kp.refl _ _ | apply Kp.alloc | apply Kp.drew | apply Kp.drewN | refine Kp.trans ?_ (by assumption)))⟩
theorem tagOk_a {k : Int} {n : ByteArray} (h : k = 0 ∨ k = 1 ∨ k = 3) : M.tagOk ⟨k, n⟩ = n.toList.isEmpty := by
 unfold M.tagOk; rw [if_pos h, toList_isEmpty]
theorem tagOk_b {k : Int} {n : ByteArray} (h : k = 2) : M.tagOk ⟨k, n⟩ = M.namOk n := by
 subst h; rfl
theorem tagOk_c {k : Int} {n : ByteArray} (h0 : ¬ k = 0) (h1 : ¬ k = 1) (h2 : ¬ k = 2) (h3 : ¬ k = 3) : M.tagOk ⟨k, n⟩ = false := by
 simp [M.tagOk, h0, h1, h2, h3]
theorem tag_ok (k : M.Tag) (w : World) :
    Calls Tryz.prog 153 #[.agg #[.int .i64 k.kind, .string k.name]] w fun e w' => e = .returned (.bool (M.tagOk k)) ∧ Ext w w' := by
 obtain ⟨kk, kn⟩ := k
 by_cases h0 : kk = 0
 · have HT := hid (tagOk_a (n := kn) (.inl h0))
   go_enter Tryz.func153, Tryz.ntmps153
   go_wp2
   go_ret
   exact ⟨ret_bool HT.out.symm, ((Kp.refl _ _).alloc _)⟩
 by_cases h1 : kk = 1
 · have HT := hid (tagOk_a (n := kn) (.inr (.inl h1)))
   go_enter Tryz.func153, Tryz.ntmps153
   go_wp2
   go_ret
   exact ⟨ret_bool HT.out.symm, ((Kp.refl _ _).alloc _)⟩
 by_cases h3 : kk = 3
 · have HT := hid (tagOk_a (n := kn) (.inr (.inr h3)))
   go_enter Tryz.func153, Tryz.ntmps153
   go_wp2
   go_ret
   exact ⟨ret_bool HT.out.symm, ((Kp.refl _ _).alloc _)⟩
 by_cases h2 : kk = 2
 · have HT := hid (tagOk_b (n := kn) h2)
   go_enter Tryz.func153, Tryz.ntmps153
   go_wp2_with (go_at_call 33; refine (nam_ok _ _).mono ?_; rintro e w' ⟨rfl, rfl⟩)
   go_ret
   exact ⟨ret_bool HT.out.symm, ((Kp.refl _ _).alloc _)⟩
 · go_enter Tryz.func153, Tryz.ntmps153
   go_wp2
   go_ret
   exact ⟨ret_bool (tagOk_c h0 h1 h2 h3).symm, ((Kp.refl _ _).alloc _)⟩
theorem num_cases {op : Int} (h : M.isNum op = true) : op = 1 ∨ op = 2 ∨ op = 3 ∨ op = 11 ∨ op = 12 ∨ op = 13 := by
 simpa [M.isNum, or_assoc] using h
theorem cls_cases {op : Int} (h : M.isCls op = true) : op = 6 ∨ op = 15 := by
 simpa [M.isCls, or_assoc] using h
theorem mem_cases {op : Int} (h : M.isMem op = true) : op = 7 ∨ op = 8 ∨ op = 9 := by
 simpa [M.isMem, or_assoc] using h
theorem pln_cases {op : Int} (h : M.isPln op = true) : op = 4 ∨ op = 5 ∨ op = 10 ∨ op = 14 := by
 simpa [M.isPln, or_assoc] using h
theorem no_cases {op : Int} (h1 : M.isNum op = false) (h2 : M.isCls op = false) (h3 : M.isMem op = false) (h4 : M.isPln op = false) :
    (¬ op = 1 ∧ ¬ op = 2 ∧ ¬ op = 3 ∧ ¬ op = 4 ∧ ¬ op = 5 ∧ ¬ op = 6 ∧ ¬ op = 7 ∧ ¬ op = 8) ∧ ¬ op = 9 ∧ ¬ op = 10 ∧ ¬ op = 11 ∧ ¬ op = 12 ∧ ¬ op = 13 ∧ ¬ op = 14 ∧ ¬ op = 15 := by
 simp [M.isNum, M.isCls, M.isMem, M.isPln] at h1 h2 h3 h4
 omega
theorem form_num (op a : Int) (s m : ByteArray) (w : World) (h : M.isNum op = true) :
    Calls Tryz.prog 150 #[.agg #[.int .i64 op, .int .i64 a, .string s, .string m]] w fun e w' => e = .returned (.iface 231 (.agg #[.int .i64 op, .int .i64 a])) ∧ Ext w w' := by
 rcases num_cases h with rfl | rfl | rfl | rfl | rfl | rfl
 all_goals
  clear h
  go_enter Tryz.func150, Tryz.ntmps150
  go_wp2
  go_ret
  exact ⟨rfl, ((Kp.refl _ _).alloc _)⟩
theorem form_cls (op a : Int) (s m : ByteArray) (w : World) (h : M.isCls op = true) :
    Calls Tryz.prog 150 #[.agg #[.int .i64 op, .int .i64 a, .string s, .string m]] w fun e w' => e = .returned (.iface 233 (.agg #[.int .i64 op, .string s])) ∧ Ext w w' := by
 rcases cls_cases h with rfl | rfl
 all_goals
  clear h
  go_enter Tryz.func150, Tryz.ntmps150
  go_wp2
  go_ret
  exact ⟨rfl, ((Kp.refl _ _).alloc _)⟩
theorem form_mem (op a : Int) (s m : ByteArray) (w : World) (h : M.isMem op = true) :
    Calls Tryz.prog 150 #[.agg #[.int .i64 op, .int .i64 a, .string s, .string m]] w fun e w' => e = .returned (.iface 235 (.agg #[.int .i64 op, .string s, .string m])) ∧ Ext w w' := by
 rcases mem_cases h with rfl | rfl | rfl
 all_goals
  clear h
  go_enter Tryz.func150, Tryz.ntmps150
  go_wp2
  go_ret
  exact ⟨rfl, ((Kp.refl _ _).alloc _)⟩
theorem form_pln (op a : Int) (s m : ByteArray) (w : World) (h : M.isPln op = true) :
    Calls Tryz.prog 150 #[.agg #[.int .i64 op, .int .i64 a, .string s, .string m]] w fun e w' => e = .returned (.iface 237 (.agg #[.int .i64 op])) ∧ Ext w w' := by
 rcases pln_cases h with rfl | rfl | rfl | rfl
 all_goals
  clear h
  go_enter Tryz.func150, Tryz.ntmps150
  go_wp2
  go_ret
  exact ⟨rfl, ((Kp.refl _ _).alloc _)⟩
theorem form_no (op a : Int) (s m : ByteArray) (w : World) (h1 : M.isNum op = false) (h2 : M.isCls op = false) (h3 : M.isMem op = false) (h4 : M.isPln op = false) :
    Calls Tryz.prog 150 #[.agg #[.int .i64 op, .int .i64 a, .string s, .string m]] w fun e w' => e = .returned .nilIface ∧ Ext w w' := by
 obtain ⟨⟨a1, a2, a3, a4, a5, a6, a7, a8⟩, b1, b2, b3, b4, b5, b6, b7⟩ := no_cases h1 h2 h3 h4
 clear h1 h2 h3 h4
 go_enter Tryz.func150, Tryz.ntmps150
 go_wp2
 go_ret
 exact ⟨rfl, ((Kp.refl _ _).alloc _)⟩
theorem ta_num_pln (x : Value) (w : World) : (Instr.typeAssert (.iface 231 x) 20 237 true).run Tryz.prog w = .ok (.tuple #[.agg #[.int .i64 0], .bool false]) w := by kernel_rfl
theorem ta_cls_pln (x : Value) (w : World) : (Instr.typeAssert (.iface 233 x) 20 237 true).run Tryz.prog w = .ok (.tuple #[.agg #[.int .i64 0], .bool false]) w := by kernel_rfl
theorem ta_mem_pln (x : Value) (w : World) : (Instr.typeAssert (.iface 235 x) 20 237 true).run Tryz.prog w = .ok (.tuple #[.agg #[.int .i64 0], .bool false]) w := by kernel_rfl
theorem ta_pln_pln (x : Value) (w : World) : (Instr.typeAssert (.iface 237 x) 20 237 true).run Tryz.prog w = .ok (.tuple #[x, .bool true]) w := by kernel_rfl
theorem ta_num_num (x : Value) (w : World) : (Instr.typeAssert (.iface 231 x) 20 231 true).run Tryz.prog w = .ok (.tuple #[x, .bool true]) w := by kernel_rfl
theorem ta_cls_num (x : Value) (w : World) : (Instr.typeAssert (.iface 233 x) 20 231 true).run Tryz.prog w = .ok (.tuple #[.agg #[.int .i64 0, .int .i64 0], .bool false]) w := by kernel_rfl
theorem ta_mem_num (x : Value) (w : World) : (Instr.typeAssert (.iface 235 x) 20 231 true).run Tryz.prog w = .ok (.tuple #[.agg #[.int .i64 0, .int .i64 0], .bool false]) w := by kernel_rfl
theorem ta_cls_cls (x : Value) (w : World) : (Instr.typeAssert (.iface 233 x) 20 233 true).run Tryz.prog w = .ok (.tuple #[x, .bool true]) w := by kernel_rfl
theorem ta_mem_cls (x : Value) (w : World) : (Instr.typeAssert (.iface 235 x) 20 233 true).run Tryz.prog w = .ok (.tuple #[.agg #[.int .i64 0, .string M.none_], .bool false]) w := by kernel_rfl
theorem ta_mem_mem (x : Value) (w : World) : (Instr.typeAssert (.iface 235 x) 20 235 true).run Tryz.prog w = .ok (.tuple #[x, .bool true]) w := by kernel_rfl
theorem ins_num (op a : Int) (w : World) :
    Calls Tryz.prog 151 #[.iface 231 (.agg #[.int .i64 op, .int .i64 a])] w fun e w' => e = .returned (.agg #[.int .i64 op, .int .i64 a, .string M.none_, .string M.none_]) ∧ Ext w w' := by
 have t1 := ta_num_pln (.agg #[.int .i64 op, .int .i64 a])
 have t2 := ta_num_num (.agg #[.int .i64 op, .int .i64 a])
 go_enter Tryz.func151, Tryz.ntmps151
 go_wp2
 refine bodyPost_ret (v := .agg #[.int .i64 op, .int .i64 a, .string M.none_, .string M.none_]) (by simp [results, Tryz.results151, go_sem]) rfl ?_
 exact ⟨rfl, (KX.k (by repeat (first | assumption | constructor)))⟩
theorem ins_cls (op : Int) (s : ByteArray) (w : World) :
    Calls Tryz.prog 151 #[.iface 233 (.agg #[.int .i64 op, .string s])] w fun e w' => e = .returned (.agg #[.int .i64 op, .int .i64 0, .string s, .string M.none_]) ∧ Ext w w' := by
 have t1 := ta_cls_pln (.agg #[.int .i64 op, .string s])
 have t2 := ta_cls_num (.agg #[.int .i64 op, .string s])
 have t3 := ta_cls_cls (.agg #[.int .i64 op, .string s])
 go_enter Tryz.func151, Tryz.ntmps151
 go_wp2
 refine bodyPost_ret (v := .agg #[.int .i64 op, .int .i64 0, .string s, .string M.none_]) (by simp [results, Tryz.results151, go_sem]) rfl ?_
 exact ⟨rfl, (KX.k (by repeat (first | assumption | constructor)))⟩
theorem ins_mem (op : Int) (s m : ByteArray) (w : World) :
    Calls Tryz.prog 151 #[.iface 235 (.agg #[.int .i64 op, .string s, .string m])] w fun e w' => e = .returned (.agg #[.int .i64 op, .int .i64 0, .string s, .string m]) ∧ Ext w w' := by
 have t1 := ta_mem_pln (.agg #[.int .i64 op, .string s, .string m])
 have t2 := ta_mem_num (.agg #[.int .i64 op, .string s, .string m])
 have t3 := ta_mem_cls (.agg #[.int .i64 op, .string s, .string m])
 have t4 := ta_mem_mem (.agg #[.int .i64 op, .string s, .string m])
 go_enter Tryz.func151, Tryz.ntmps151
 go_wp2
 refine bodyPost_ret (v := .agg #[.int .i64 op, .int .i64 0, .string s, .string m]) (by simp [results, Tryz.results151, go_sem]) rfl ?_
 exact ⟨rfl, (KX.k (by repeat (first | assumption | constructor)))⟩
theorem ins_pln (op : Int) (w : World) :
    Calls Tryz.prog 151 #[.iface 237 (.agg #[.int .i64 op])] w fun e w' => e = .returned (.agg #[.int .i64 op, .int .i64 0, .string M.none_, .string M.none_]) ∧ Ext w w' := by
 have t1 := ta_pln_pln (.agg #[.int .i64 op])
 go_enter Tryz.func151, Tryz.ntmps151
 go_wp2
 refine bodyPost_ret (v := .agg #[.int .i64 op, .int .i64 0, .string M.none_, .string M.none_]) (by simp [results, Tryz.results151, go_sem]) rfl ?_
 exact ⟨rfl, (KX.k (by repeat (first | assumption | constructor)))⟩
theorem num_range (op : Int) (w : World) :
    Calls Tryz.prog 156 #[.int .i64 op] w fun e w' => e = .returned (.tuple #[.int .i64 (M.numLeast op), .int .i64 (M.numMost op)]) ∧ w = w' := by
 by_cases h1 : op = 1
 · subst h1
   go_enter Tryz.func156, Tryz.ntmps156
   go_wp2
   go_ret2
   exact ⟨rfl, rfl⟩
 by_cases h2 : op = 2
 · subst h2
   go_enter Tryz.func156, Tryz.ntmps156
   go_wp2
   go_ret2
   exact ⟨rfl, rfl⟩
 by_cases h3 : op = 3
 · subst h3
   go_enter Tryz.func156, Tryz.ntmps156
   go_wp2
   go_ret2
   exact ⟨rfl, rfl⟩
 · have e1 : M.numLeast op = 0 := if_neg h1
   have e2 : M.numMost op = 15 := by unfold M.numMost; rw [if_neg h1, if_neg (by omega)]
   rw [e1, e2]
   clear e1 e2
   go_enter Tryz.func156, Tryz.ntmps156
   go_wp2
   go_ret2
   exact ⟨rfl, rfl⟩
theorem ret_and {a b : Bool} (h : a = true) : Ending.returned (.bool b) = .returned (.bool (a && b)) := by rw [h]; rfl
theorem formok_num (op a : Int) (w : World) :
    Calls Tryz.prog 152 #[.iface 231 (.agg #[.int .i64 op, .int .i64 a])] w fun e w' => e = .returned (.bool (decide (M.numLeast op ≤ a) && decide (a ≤ M.numMost op))) ∧ Ext w w' := by
 have t1 := ta_num_pln (.agg #[.int .i64 op, .int .i64 a])
 have t2 := ta_num_num (.agg #[.int .i64 op, .int .i64 a])
 generalize hl : M.numLeast op = l
 generalize hm : M.numMost op = m
 have hr := num_range op
 rw [hl, hm] at hr
 have HR := hid hr
 clear hr hl hm
 by_cases h1 : l ≤ a
 · go_enter Tryz.func152, Tryz.ntmps152
   go_wp2_with (go_at_call 156; refine (HR.out _).mono ?_; rintro e w' ⟨rfl, rfl⟩)
   go_ret
   exact ⟨ret_bool (by rw [decide_eq_true h1]; simp), (KX.k (by repeat (first | assumption | constructor)))⟩
 · go_enter Tryz.func152, Tryz.ntmps152
   go_wp2_with (go_at_call 156; refine (HR.out _).mono ?_; rintro e w' ⟨rfl, rfl⟩)
   go_ret
   exact ⟨ret_bool (by rw [decide_eq_false (p := l ≤ a) (by omega)]; simp), (KX.k (by repeat (first | assumption | constructor)))⟩
theorem formok_cls (op : Int) (s : ByteArray) (w : World) :
    Calls Tryz.prog 152 #[.iface 233 (.agg #[.int .i64 op, .string s])] w fun e w' => e = .returned (.bool (M.namOk s)) ∧ Ext w w' := by
 have t1 := ta_cls_pln (.agg #[.int .i64 op, .string s])
 have t2 := ta_cls_num (.agg #[.int .i64 op, .string s])
 have t3 := ta_cls_cls (.agg #[.int .i64 op, .string s])
 go_enter Tryz.func152, Tryz.ntmps152
 go_wp2_with (go_at_call 67; refine (word_ok _ _).mono ?_; rintro e w' ⟨rfl, rfl⟩)
 go_ret
 exact ⟨rfl, (KX.k (by repeat (first | assumption | constructor)))⟩
theorem formok_mem (op : Int) (s m : ByteArray) (w : World) :
    Calls Tryz.prog 152 #[.iface 235 (.agg #[.int .i64 op, .string s, .string m])] w fun e w' => e = .returned (.bool (M.namOk s && M.namOk m)) ∧ Ext w w' := by
 have t1 := ta_mem_pln (.agg #[.int .i64 op, .string s, .string m])
 have t2 := ta_mem_num (.agg #[.int .i64 op, .string s, .string m])
 have t3 := ta_mem_cls (.agg #[.int .i64 op, .string s, .string m])
 have t4 := ta_mem_mem (.agg #[.int .i64 op, .string s, .string m])
 cases hs : M.namOk s
 all_goals
  have HS := hid hs; clear hs
  go_enter Tryz.func152, Tryz.ntmps152
  go_wp2_with fail
  refine (word_ok _ _).mono ?_
  rintro e w' ⟨rfl, rfl⟩
  rw [HS.out]
 · go_wp2
   go_ret
   exact ⟨rfl, (KX.k (by repeat (first | assumption | constructor)))⟩
 · go_wp2_with (go_at_call 67; refine (word_ok _ _).mono ?_; rintro e w' ⟨rfl, rfl⟩)
   go_ret
   exact ⟨rfl, (KX.k (by repeat (first | assumption | constructor)))⟩
theorem formok_pln (op : Int) (w : World) :
    Calls Tryz.prog 152 #[.iface 237 (.agg #[.int .i64 op])] w fun e w' => e = .returned (.bool true) ∧ Ext w w' := by
 have t1 := ta_pln_pln (.agg #[.int .i64 op])
 go_enter Tryz.func152, Tryz.ntmps152
 go_wp2
 go_ret
 exact ⟨rfl, (KX.k (by repeat (first | assumption | constructor)))⟩
end Go.Proofs.YtjdfceejkneofaaGreat
