/- The plain functions that the program's layers 1 to 4 compute: kinds, instruction; How the program's data lie in memory: slices of flat things, slices of slices; a; Walks: names, kinds, tags.; The plain words of what is turned: words, its text, and that the text tells it.; Walks: the reference's names and bounds.; Structs in memory: read whole, written whole; a function's result that is one.; Walks: the reference's numbers, written.; Walks: the reference's numbers, read.; Slices of the call's own that are appended to.; Walks: a stack's push.; The plain functions of layer 4's second half: layouts, links.; The plain functions of layers 4 (layouts, links), 5 (looking at methods) and 6 ( -/
import Derived.WalkKit
import Derived.Deep.Draws
import Derived.Test.YtkndccgackohnaaGreatDoorProg
import Derived.WalkLawsBesides
import Derived.WalkSpells
import Derived.Lib.Hide
import Derived.Deep.QuietTactic
import Derived.BigQuiet
import Derived.Lib.SplitLaws
import Derived.Laws.Rows
import Derived.ArgAppend
import Derived.Lib.SlBytesRow
import Derived.OwnWalk
import Derived.OwnWalkIn
import Derived.WalkSmall
import Derived.Deep.RegionLaw
import Derived.Deep.AppendLies
set_option maxRecDepth 100000
set_option maxHeartbeats 4000000
set_option linter.unusedSimpArgs false
set_option linter.unusedVariables false
namespace Go.Proofs.YtkndccgackohnaaGreatDoor.M
structure Kind where
 kind : Int
 name : ByteArray
structure Tag where
 kind : Int
 name : ByteArray
structure Ins where
 op : Int
 a : Int
 name : ByteArray
 member : ByteArray
structure SMap where
 at_ : Int
 locals : List Tag
 stack : List Tag
structure Field where
 name : ByteArray
 kind : Kind
structure Method where
 name : ByteArray
 args : List Kind
 ret : Kind
 locals : Int
 stack : Int
 code : List Ins
 maps : List SMap
structure Class where
 name : ByteArray
 super : ByteArray
 fields : List Field
 methods : List Method
structure Ask where
 name : ByteArray
 keeper : Int
structure Keeper where
 owns : List Class
 asks : List Ask
abbrev Plan := List Keeper
structure Ref where
 keeper : Int
 name : ByteArray
theorem Ref.ext_iff' {a b : Ref} : a = b ↔ a.keeper = b.keeper ∧ a.name = b.name := by
 cases a; cases b; simp
theorem Kind.ext_iff' {a b : Kind} : a = b ↔ a.kind = b.kind ∧ a.name = b.name := by
 cases a; cases b; simp
theorem Tag.ext_iff' {a b : Tag} : a = b ↔ a.kind = b.kind ∧ a.name = b.name := by
 cases a; cases b; simp
theorem Ins.ext_iff' {a b : Ins} : a = b ↔ a.op = b.op ∧ a.a = b.a ∧ a.name = b.name ∧ a.member = b.member := by
 cases a; cases b; simp
instance : DecidableEq Ref := fun _ _ => decidable_of_iff' _ Ref.ext_iff'
instance : DecidableEq Kind := fun _ _ => decidable_of_iff' _ Kind.ext_iff'
instance : DecidableEq Tag := fun _ _ => decidable_of_iff' _ Tag.ext_iff'
instance : DecidableEq Ins := fun _ _ => decidable_of_iff' _ Ins.ext_iff'
theorem Field.ext_iff' {a b : Field} : a = b ↔ a.name = b.name ∧ a.kind = b.kind := by
 cases a; cases b; simp
instance : DecidableEq Field := fun _ _ => decidable_of_iff' _ Field.ext_iff'
def letter (c : UInt8) : Bool := decide (97 ≤ c.toNat) && decide (c.toNat ≤ 122)
def namOk (s : ByteArray) : Bool := decide (1 ≤ s.size) && decide (s.size ≤ 6) && s.data.toList.all letter
abbrev none_ : ByteArray := ⟨#[]⟩
def kndOk (k : Kind) : Bool := (k.kind == 1 && decide (k.name = none_)) || (k.kind == 2 && namOk k.name)
def tagOk (t : Tag) : Bool :=
 if t.kind = 0 ∨ t.kind = 1 ∨ t.kind = 3 then decide (t.name = none_) else if t.kind = 2 then namOk t.name else false
def numLeast (op : Int) : Int := if op = 1 then -9999 else 0
def numMost (op : Int) : Int := if op = 1 then 9999 else if op = 2 ∨ op = 3 then 5 else 15
def isNum (op : Int) : Bool := op == 1 || op == 2 || op == 3 || op == 11 || op == 12 || op == 13
def isCls (op : Int) : Bool := op == 6 || op == 15
def isMem (op : Int) : Bool := op == 7 || op == 8 || op == 9
def isPln (op : Int) : Bool := op == 4 || op == 5 || op == 10 || op == 14
def insOk (i : Ins) : Bool :=
 if isNum i.op then decide (i.name = none_) && decide (i.member = none_) && decide (numLeast i.op ≤ i.a) && decide (i.a ≤ numMost i.op)
 else if isCls i.op then decide (i.a = 0) && decide (i.member = none_) && namOk i.name
 else if isMem i.op then decide (i.a = 0) && namOk i.name && namOk i.member
 else if isPln i.op then decide (i.a = 0) && decide (i.name = none_) && decide (i.member = none_)
 else false
def tagsOk (l : List Tag) : Bool := l.all tagOk
def insIn (m : Method) (i : Ins) : Bool :=
 insOk i && (if i.op = 2 ∨ i.op = 3 then decide (i.a < m.locals) else if i.op = 11 ∨ i.op = 12 ∨ i.op = 13 then decide (i.a < m.code.length) else true)
def codeOk (m : Method) : Bool := decide (1 ≤ m.code.length) && decide (m.code.length ≤ 16) && m.code.all (insIn m)
def mapOk (m : Method) (f : SMap) : Bool :=
 decide (f.at_ < m.code.length) && decide ((f.locals.length : Int) = m.locals) && decide ((f.stack.length : Int) ≤ m.stack) && tagsOk f.locals && tagsOk f.stack
def mapsFrom (m : Method) : Int → List SMap → Bool
 | _, [] => true
 | last, f :: r => decide (last < f.at_) && mapOk m f && mapsFrom m f.at_ r
def mapsOk (m : Method) : Bool := decide (m.maps.length ≤ 5) && mapsFrom m 0 m.maps
def mthOk (m : Method) : Bool :=
 namOk m.name && decide (m.args.length ≤ 3) && kndOk m.ret && m.args.all kndOk &&
 decide ((m.args.length : Int) + 1 ≤ m.locals) && decide (m.locals ≤ 6) && decide (1 ≤ m.stack) && decide (m.stack ≤ 5) && codeOk m && mapsOk m
def freshAll {α : Type} (name : α → ByteArray) (ok : α → Bool) : List α → List ByteArray → Bool
 | [], _ => true
 | x :: r, seen => ok x && !(seen.any fun y => decide (y = name x)) && freshAll name ok r (seen ++ [name x])
def clsOk (c : Class) : Bool :=
 namOk c.name && (decide (c.super = none_) || namOk c.super) && decide (c.fields.length ≤ 3) && decide (c.methods.length ≤ 4) &&
 freshAll Field.name (fun f => namOk f.name && kndOk f.kind) c.fields [] && freshAll Method.name mthOk c.methods []
def has (p : Plan) (k : Int) : Bool := decide (0 ≤ k) && decide (k < p.length)
def keeperOk (p : Plan) (k : Keeper) : Bool :=
 decide (k.owns.length ≤ 5) && decide (k.asks.length ≤ 4) && freshAll Class.name clsOk k.owns [] && freshAll Ask.name (fun a => namOk a.name && has p a.keeper) k.asks []
def lodOk (p : Plan) : Bool := decide (1 ≤ p.length) && decide (p.length ≤ 3) && p.all (keeperOk p)
def keeper? (p : Plan) (k : Int) : Option Keeper := if 0 ≤ k then p[k.toNat]? else none
def ownAt (p : Plan) (r : Ref) : Option Nat := (keeper? p r.keeper).bind fun k => k.owns.findIdx? fun c => c.name = r.name
def cls? (p : Plan) (r : Ref) : Option Class := (keeper? p r.keeper).bind fun k => k.owns.find? fun c => c.name = r.name
def ask? (p : Plan) (k : Int) (n : ByteArray) : Option Int := (keeper? p k).bind fun q => (q.asks.find? fun a => a.name = n).map Ask.keeper
def owned (p : Plan) (r : Ref) : Bool := (cls? p r).isSome
def zref : Ref := ⟨0, none_⟩
def pathGo (p : Plan) (n : ByteArray) : Nat → List Int → Int → List Int × Int
 | 0, _, _ => ([], 3)
 | f + 1, asked, k => match ask? p k n with
  | none => if owned p ⟨k, n⟩ then (asked, 1) else ([], 2)
  | some next => if asked.contains next then ([], 3) else pathGo p n f (asked ++ [next]) next
def path (p : Plan) (k : Int) (n : ByteArray) : List Int × Int := if has p k then pathGo p n 4 [k] k else ([], 2)
def resolve (p : Plan) (k : Int) (n : ByteArray) : Ref × Int :=
 if (path p k n).2 = 1 then (⟨(path p k n).1.getLastD 0, n⟩, 1) else (zref, (path p k n).2)
def super (p : Plan) (r : Ref) : ByteArray := ((cls? p r).map Class.super).getD none_
def climbGo (p : Plan) : Nat → Ref → Option (List Ref)
 | 0, _ => none
 | f + 1, r =>
  if super p r = none_ then some [r]
  else if (resolve p r.keeper (super p r)).2 = 1 then (climbGo p f (resolve p r.keeper (super p r)).1).map (r :: ·) else none
def climb (p : Plan) (r : Ref) : Option (List Ref) := climbGo p 6 r
def find (p : Plan) (k : Int) (n : ByteArray) : Ref × Int :=
 if (resolve p k n).2 = 1 then (if (climb p (resolve p k n).1).isSome then ((resolve p k n).1, 1) else (zref, 4)) else (zref, (resolve p k n).2)
def loadable (p : Plan) (r : Ref) : Bool := decide ((find p r.keeper r.name).2 = 1) && decide ((find p r.keeper r.name).1 = r)
def chain (p : Plan) (r : Ref) : List Ref := if loadable p r then (climb p r).getD [] else []
def under (p : Plan) (low top : Ref) : Bool := (chain p low).contains top
def agree (p : Plan) (a b : Int) (k : Kind) : Bool :=
 k.kind == 1 || (if (find p a k.name).2 = 1 ∧ (find p b k.name).2 = 1 then decide ((find p a k.name).1 = (find p b k.name).1)
  else decide ((find p a k.name).2 ≠ 1) && decide ((find p b k.name).2 ≠ 1))
def agreeMethod (p : Plan) (a b : Int) (m : Method) : Bool := m.args.all (agree p a b) && agree p a b m.ret
def methodIx (c : Class) (n : ByteArray) : Option Nat := c.methods.findIdx? fun m => m.name = n
def fieldIx (c : Class) (n : ByteArray) : Option Nat := c.fields.findIdx? fun f => f.name = n
def zcls : Class := ⟨none_, none_, [], []⟩
def cls (p : Plan) (r : Ref) : Class := (cls? p r).getD zcls
def methodLaid (p : Plan) (low high : Ref) (m : Method) : Bool :=
 match (cls p high).methods.find? (fun n => n.name = m.name) with
 | none => true
 | some n => decide (m.ret = n.ret) && decide (m.args = n.args) && agreeMethod p low.keeper high.keeper m
def pairLaid (p : Plan) (low high : Ref) : Bool :=
 (cls p low).fields.all (fun f => (fieldIx (cls p high) f.name).isNone) && (cls p low).methods.all (methodLaid p low high)
def chainLaid (p : Plan) : List Ref → Bool
 | [] => true
 | low :: r => r.all (pairLaid p low) && chainLaid p r
def canLay (p : Plan) (r : Ref) : Bool := !(chain p r).isEmpty && chainLaid p (chain p r)
end Go.Proofs.YtkndccgackohnaaGreatDoor.M
namespace Go.Proofs.YtkndccgackohnaaGreatDoor
open Go Go.RowKit
theorem cell_lt {w : World} {b o : Nat} {v : Value} (h : w.cell? ⟨b, o, none⟩ = some v) : b < w.heap.size := by
 rcases Nat.lt_or_ge b w.heap.size with h1 | h1
 · exact h1
 · simp [World.cell?, Array.getElem?_eq_none h1] at h
structure Kp (D : Nat → Prop) (w w' : World) : Prop where
 os : w'.os = w.os
 tape : w'.tape = w.tape
 output : w'.output = w.output
 size : w.heap.size ≤ w'.heap.size
 block : ∀ k, k < w.heap.size → ¬ D k → w'.heap[k]? = w.heap[k]?
section
variable {D D' : Nat → Prop} {w w' a b c : World}
theorem Kp.of_below (h : Below w.heap.size w w') : Kp D w w' := ⟨h.os, h.tape, h.output, h.size, fun k hk _ => h.block k hk⟩
theorem Kp.refl (D : Nat → Prop) (w : World) : Kp D w w := ⟨rfl, rfl, rfl, Nat.le_refl _, fun _ _ _ => rfl⟩
theorem Kp.trans (h : Kp D a b) (k : Kp D b c) : Kp D a c :=
 ⟨k.os.trans h.os, k.tape.trans h.tape, k.output.trans h.output, Nat.le_trans h.size k.size,
  fun i hi hd => (k.block i (Nat.lt_of_lt_of_le hi h.size) hd).trans (h.block i hi hd)⟩
theorem Kp.weak (h : Kp D a b) (hD : ∀ k, k < a.heap.size → D k → D' k) : Kp D' a b :=
 ⟨h.os, h.tape, h.output, h.size, fun k hk hd => h.block k hk fun x => hd (hD k hk x)⟩
theorem Kp.below (h : Kp D a b) (n : Nat) (hn : n ≤ a.heap.size) (hD : ∀ k, k < n → ¬ D k) : Below n a b :=
 ⟨h.os, h.tape, h.output, h.size, fun k hk => h.block k (by omega) (hD k hk)⟩
theorem Kp.alloc (h : Kp D a b) (o : Obj) : Kp D a (b.alloc o) :=
 ⟨h.os, h.tape, h.output, by simp; exact Nat.le_succ_of_le h.size, fun k hk hd => (Below.heap_alloc b o k (Nat.lt_of_lt_of_le hk h.size)).trans (h.block k hk hd)⟩
theorem Kp.drew (h : Kp D a b) : Kp D a b.drew := ⟨h.os, h.tape, h.output, h.size, h.block⟩
theorem Kp.drewN (h : Kp D a b) (n : Nat) : Kp D a (b.drewN n) := ⟨h.os, h.tape, h.output, h.size, h.block⟩
theorem Kp.setCell (h : Kp D a b) {p : Addr} (hp : p.block < a.heap.size → D p.block) (v : Value) : Kp D a (b.setCell p v) :=
 ⟨h.os, h.tape, h.output, by simp [World.setCell]; exact h.size,
  fun k hk hd => (Below.heap_setCell b p v k (fun e => hd (by subst e; exact hp hk))).trans (h.block k hk hd)⟩
theorem Kp.cell (h : Kp D a b) {k o : Nat} (hk : k < a.heap.size) (hd : ¬ D k) : b.cell? ⟨k, o, none⟩ = a.cell? ⟨k, o, none⟩ :=
 World.cell?_of_block (h.block k hk hd)
theorem Kp.frozen (h : Kp D a b) {k o : Nat} (hk : k < a.heap.size) (hd : ¬ D k) : b.frozen? ⟨k, o, none⟩ = a.frozen? ⟨k, o, none⟩ :=
 World.frozen?_of_block (h.block k hk hd)
theorem below_drewN {B : Nat} {a w : World} (h : Below B a w) (n : Nat) : Below B a (w.drewN n) := ⟨h.os, h.tape, h.output, h.size, h.block⟩
abbrev Ext (w w' : World) : Prop := Kp (fun _ => False) w w'
theorem Kp.any (h : Ext a b) : Kp D a b := h.weak fun _ _ x => x.elim
theorem Ext.to_below {w w' : World} (h : Ext w w') : Below w.heap.size w w' := Kp.below h _ (Nat.le_refl _) fun _ _ x => x
theorem Kp.cellE (h : Ext a b) {k o : Nat} {v : Value} (hc : a.cell? ⟨k, o, none⟩ = some v) : b.cell? ⟨k, o, none⟩ = some v :=
 (h.cell (cell_lt hc) (fun x => x)).trans hc
theorem Kp.cellK (h : Kp D a b) {k o : Nat} {v : Value} (hc : a.cell? ⟨k, o, none⟩ = some v) (hd : ¬ D k) : b.cell? ⟨k, o, none⟩ = some v :=
 (h.cell (cell_lt hc) hd).trans hc
theorem Kp.cellA {o' : Obj} (h : Ext (a.alloc o') b) {k o : Nat} {v : Value} (hc : a.cell? ⟨k, o, none⟩ = some v) : b.cell? ⟨k, o, none⟩ = some v :=
 h.cellE (((Kp.refl _ _).alloc _ : Ext a _).cellE hc)
inductive KX (D : Nat → Prop) (w : World) : World → Prop
 | r : KX D w w
 | a {b : World} {o : Obj} : KX D w b → KX D w (b.alloc o)
 | d {b : World} : KX D w b → KX D w b.drew
 | n {b : World} {k : Nat} : KX D w b → KX D w (b.drewN k)
 | h {b : World} : Kp D w b → KX D w b
theorem KX.k {D : Nat → Prop} {w b : World} (h : KX D w b) : Kp D w b := by
 induction h with
 | r => exact Kp.refl _ _
 | a _ ih => exact ih.alloc _
 | d _ ih => exact ih.drew
 | n _ ih => exact ih.drewN _
 | h h => exact h
theorem bcell {W w1 : World} (hb : Ext W w1) :
    (∀ b o, b < W.heap.size → w1.cell? ⟨b, o, none⟩ = W.cell? ⟨b, o, none⟩) ∧ (∀ b o, b < W.heap.size → w1.frozen? ⟨b, o, none⟩ = W.frozen? ⟨b, o, none⟩) :=
 ⟨fun _ _ h => hb.cell h fun x => x, fun _ _ h => hb.frozen h fun x => x⟩
end
def Blk (w : World) (g : Nat) (t : TypeId) (cs : Array Value) : Prop := w.heap[g]? = some (.cells cs t (0, 0))
section
variable {w w' : World} {g : Nat} {t : TypeId} {cs : Array Value}
theorem Blk.lt (h : Blk w g t cs) : g < w.heap.size := by
 rcases Nat.lt_or_ge g w.heap.size with hlt | hge
 · exact hlt
 · unfold Blk at h; rw [Array.getElem?_eq_none hge] at h; cases h
theorem Blk.cell (h : Blk w g t cs) (i : Nat) : w.cell? ⟨g, i, none⟩ = cs[i]? := by
 unfold Blk at h; simp [World.cell?, h]
theorem Blk.c (h : Blk w g t cs) (i : Nat) (v : Value) (hv : cs[i]? = some v) : w.cell? ⟨g, i, none⟩ = some v := (h.cell i).trans hv
theorem Blk.frozen (h : Blk w g t cs) (i : Nat) : w.frozen? ⟨g, i, none⟩ = false := by
 unfold Blk at h
 simp [World.frozen?, h]
theorem Blk.keep (h : Blk w g t cs) (hk : w'.heap[g]? = w.heap[g]?) : Blk w' g t cs := hk.trans h
theorem Blk.ext (h : Blk w g t cs) (hb : Ext w w') : Blk w' g t cs := (hb.block g h.lt fun x => x).trans h
theorem Blk.kp {D : Nat → Prop} (h : Blk w g t cs) (hb : Kp D w w') (hg : ¬ D g) : Blk w' g t cs := (hb.block g h.lt hg).trans h
theorem Blk.new (w : World) (t : TypeId) (cs : Array Value) : Blk (w.alloc (.cells cs t)) w.heap.size t cs := by
 unfold Blk World.alloc; simp
theorem Blk.set_ (h : Blk w g t cs) (i : Nat) (u : Value) : Blk (w.setCell ⟨g, i, none⟩ u) g t (cs.setIfInBounds i u) := by
 unfold Blk at h ⊢
 simp [World.setCell, Array.getElem?_modify, h]
end
def CellsAt (w : World) (b o : Nat) (cs : List Value) : Prop := ∀ j v, cs[j]? = some v → w.cell? ⟨b, o + j, none⟩ = some v
abbrev Lies (α : Type) := World → (Nat → Prop) → α → List Value → Prop
def SliceOf {α : Type} (k : Nat) (R : Lies α) (w : World) (I : Nat → Prop) (v : Value) (xs : List α) : Prop :=
 ∃ a cap, v = .slice a xs.length cap ∧ xs.length ≤ cap ∧ xs.length ≤ 4294967296 ∧
  ∀ i x, xs[i]? = some x → ∃ b off cs, a = some ⟨b, off, none⟩ ∧ I b ∧ R w I x cs ∧ cs.length = k ∧ CellsAt w b (off + i * k) cs
theorem CellsAt.keep {w w' : World} {b o : Nat} {cs : List Value} (h : CellsAt w b o cs) (hs : ∀ o v, w.cell? ⟨b, o, none⟩ = some v → w'.cell? ⟨b, o, none⟩ = some v) : CellsAt w' b o cs :=
 fun j v hj => hs _ _ (h j v hj)
def Same (I : Nat → Prop) (w w' : World) : Prop := ∀ b o v, I b → w.cell? ⟨b, o, none⟩ = some v → w'.cell? ⟨b, o, none⟩ = some v
theorem Ext.same {I : Nat → Prop} {w w' : World} (h : Ext w w') : Same I w w' := fun _ _ _ _ hc => Kp.cellE h hc
theorem Kp.same {I D : Nat → Prop} {w w' : World} (h : Kp D w w') (hI : ∀ b, I b → ¬ D b) : Same I w w' := fun b _ _ hb hc => h.cellK hc (hI b hb)
def Stays {α : Type} (R : Lies α) : Prop := ∀ (w w' : World) (I J : Nat → Prop) (x : α) (cs : List Value), Same I w w' → (∀ b, I b → J b) → R w I x cs → R w' J x cs
theorem SliceOf.keep {α : Type} {k : Nat} {R : Lies α} (hR : Stays R) {w w' : World} {I J : Nat → Prop} {v : Value} {xs : List α} (h : SliceOf k R w I v xs)
    (hs : Same I w w') (hIJ : ∀ b, I b → J b) : SliceOf k R w' J v xs := by
 obtain ⟨a, cap, e, h1, h2, h3⟩ := h
 refine ⟨a, cap, e, h1, h2, fun i x hx => ?_⟩
 obtain ⟨b, off, cs', ea, hI, hr, hl, hc⟩ := h3 i x hx
 exact ⟨b, off, cs', ea, hIJ b hI, hR _ _ _ _ _ _ hs hIJ hr, hl, hc.keep fun o v => hs b o v hI⟩
theorem SliceOf.ext {α : Type} {k : Nat} {R : Lies α} {w w' : World} {I : Nat → Prop} {v : Value} {xs : List α} (h : SliceOf k R w I v xs) (hR : Stays R) (hE : Ext w w') : SliceOf k R w' I v xs :=
 h.keep hR (Ext.same hE) fun _ h => h
theorem SliceOf.get {α : Type} {k : Nat} {R : Lies α} {w : World} {I : Nat → Prop} {a : Option Addr} {n cap : Nat} {xs : List α} (h : SliceOf k R w I (.slice a n cap) xs) {i : Nat} {x : α} (hx : xs[i]? = some x) :
    ∃ b off cs, a = some ⟨b, off, none⟩ ∧ I b ∧ R w I x cs ∧ cs.length = k ∧ CellsAt w b (off + i * k) cs := by
 obtain ⟨a', cap', e, h1, h2, h3⟩ := h
 cases e
 exact h3 i x hx
theorem SliceOf.form {α : Type} {k : Nat} {R : Lies α} {w : World} {I : Nat → Prop} {v : Value} {xs : List α} (h : SliceOf k R w I v xs) :
    ∃ a cap, v = .slice a xs.length cap ∧ xs.length ≤ cap ∧ xs.length ≤ 4294967296 := by
 obtain ⟨a, cap, e, h1, h2, _⟩ := h
 exact ⟨a, cap, e, h1, h2⟩
theorem SliceOf.nil {α : Type} (k : Nat) (R : Lies α) (w : World) (I : Nat → Prop) : SliceOf k R w I (.slice none 0 0) ([] : List α) :=
 ⟨none, 0, rfl, Nat.le_refl _, by simp, fun i x hx => by simp at hx⟩
theorem SliceOf.take {α : Type} {k : Nat} {R : Lies α} {w : World} {I : Nat → Prop} {a : Option Addr} {n cap : Nat} {xs : List α} (h : SliceOf k R w I (.slice a n cap) xs) {i : Nat} (hi : i ≤ xs.length) :
    SliceOf k R w I (.slice a i cap) (xs.take i) := by
 obtain ⟨a', cap', e, h1, h2, h3⟩ := h
 cases e
 refine ⟨a, cap, by rw [List.length_take, Nat.min_eq_left hi], by rw [List.length_take]; omega, by rw [List.length_take]; omega, fun j x hx => ?_⟩
 rw [List.getElem?_take] at hx
 split at hx
 · exact h3 j x hx
 · cases hx
def KindL : Lies M.Kind := fun _ _ x cs => cs = [.int .i64 x.kind, .string x.name]
def TagL : Lies M.Tag := fun _ _ x cs => cs = [.int .i64 x.kind, .string x.name]
def InsL : Lies M.Ins := fun _ _ x cs => cs = [.int .i64 x.op, .int .i64 x.a, .string x.name, .string x.member]
def RefL : Lies M.Ref := fun _ _ x cs => cs = [.int .i64 x.keeper, .string x.name]
def AskL : Lies M.Ask := fun _ _ x cs => cs = [.string x.name, .int .i64 x.keeper]
def FieldL : Lies M.Field := fun _ _ x cs => cs = [.string x.name, .int .i64 x.kind.kind, .string x.kind.name]
def IntL : Lies Int := fun _ _ x cs => cs = [.int .i64 x]
def SMapL : Lies M.SMap := fun w I x cs => ∃ vl vs, cs = [.int .i64 x.at_, vl, vs] ∧ SliceOf 2 TagL w I vl x.locals ∧ SliceOf 2 TagL w I vs x.stack
def MethodL : Lies M.Method := fun w I x cs => ∃ va vc vm, cs = [.string x.name, va, .int .i64 x.ret.kind, .string x.ret.name, .int .i64 x.locals, .int .i64 x.stack, vc, vm] ∧
 SliceOf 2 KindL w I va x.args ∧ SliceOf 4 InsL w I vc x.code ∧ SliceOf 3 SMapL w I vm x.maps
def ClassL : Lies M.Class := fun w I x cs => ∃ vf vm, cs = [.string x.name, .string x.super, vf, vm] ∧ SliceOf 3 FieldL w I vf x.fields ∧ SliceOf 8 MethodL w I vm x.methods
def KeeperL : Lies M.Keeper := fun w I x cs => ∃ vo va, cs = [vo, va] ∧ SliceOf 4 ClassL w I vo x.owns ∧ SliceOf 2 AskL w I va x.asks
theorem MethodL.form {w : World} {I : Nat → Prop} {x : M.Method} {cs : List Value} (h : MethodL w I x cs) : ∃ a1 c1 a2 c2 a3 c3,
    cs = [.string x.name, .slice a1 x.args.length c1, .int .i64 x.ret.kind, .string x.ret.name, .int .i64 x.locals, .int .i64 x.stack, .slice a2 x.code.length c2, .slice a3 x.maps.length c3] := by
 obtain ⟨_, _, _, rfl, h1, h2, h3⟩ := h
 obtain ⟨a1, c1, rfl, _⟩ := h1.form
 obtain ⟨a2, c2, rfl, _⟩ := h2.form
 obtain ⟨a3, c3, rfl, _⟩ := h3.form
 exact ⟨a1, c1, a2, c2, a3, c3, rfl⟩
theorem ClassL.form {w : World} {I : Nat → Prop} {x : M.Class} {cs : List Value} (h : ClassL w I x cs) : ∃ a1 c1 a2 c2,
    cs = [.string x.name, .string x.super, .slice a1 x.fields.length c1, .slice a2 x.methods.length c2] := by
 obtain ⟨_, _, rfl, h1, h2⟩ := h
 obtain ⟨a1, c1, rfl, _⟩ := h1.form
 obtain ⟨a2, c2, rfl, _⟩ := h2.form
 exact ⟨a1, c1, a2, c2, rfl⟩
theorem KeeperL.form {w : World} {I : Nat → Prop} {x : M.Keeper} {cs : List Value} (h : KeeperL w I x cs) : ∃ a1 c1 a2 c2,
    cs = [.slice a1 x.owns.length c1, .slice a2 x.asks.length c2] := by
 obtain ⟨_, _, rfl, h1, h2⟩ := h
 obtain ⟨a1, c1, rfl, _⟩ := h1.form
 obtain ⟨a2, c2, rfl, _⟩ := h2.form
 exact ⟨a1, c1, a2, c2, rfl⟩
theorem SMapL.form {w : World} {I : Nat → Prop} {x : M.SMap} {cs : List Value} (h : SMapL w I x cs) : ∃ a1 c1 a2 c2,
    cs = [.int .i64 x.at_, .slice a1 x.locals.length c1, .slice a2 x.stack.length c2] := by
 obtain ⟨_, _, rfl, h1, h2⟩ := h
 obtain ⟨a1, c1, rfl, _⟩ := h1.form
 obtain ⟨a2, c2, rfl, _⟩ := h2.form
 exact ⟨a1, c1, a2, c2, rfl⟩
theorem KindL.stays : Stays KindL := fun _ _ _ _ _ _ _ _ h => h
theorem TagL.stays : Stays TagL := fun _ _ _ _ _ _ _ _ h => h
theorem InsL.stays : Stays InsL := fun _ _ _ _ _ _ _ _ h => h
theorem RefL.stays : Stays RefL := fun _ _ _ _ _ _ _ _ h => h
theorem AskL.stays : Stays AskL := fun _ _ _ _ _ _ _ _ h => h
theorem FieldL.stays : Stays FieldL := fun _ _ _ _ _ _ _ _ h => h
theorem IntL.stays : Stays IntL := fun _ _ _ _ _ _ _ _ h => h
theorem SMapL.stays : Stays SMapL := fun _ _ _ _ _ _ hs hI ⟨vl, vs, e, h1, h2⟩ => ⟨vl, vs, e, h1.keep TagL.stays hs hI, h2.keep TagL.stays hs hI⟩
theorem MethodL.stays : Stays MethodL := fun _ _ _ _ _ _ hs hI ⟨va, vc, vm, e, h1, h2, h3⟩ =>
 ⟨va, vc, vm, e, h1.keep KindL.stays hs hI, h2.keep InsL.stays hs hI, h3.keep SMapL.stays hs hI⟩
theorem ClassL.stays : Stays ClassL := fun _ _ _ _ _ _ hs hI ⟨vf, vm, e, h1, h2⟩ => ⟨vf, vm, e, h1.keep FieldL.stays hs hI, h2.keep MethodL.stays hs hI⟩
theorem KeeperL.stays : Stays KeeperL := fun _ _ _ _ _ _ hs hI ⟨vo, va, e, h1, h2⟩ => ⟨vo, va, e, h1.keep ClassL.stays hs hI, h2.keep AskL.stays hs hI⟩
theorem CellsAt.two {w : World} {b o : Nat} {x y : Value} (h : CellsAt w b o [x, y]) : w.cell? ⟨b, o, none⟩ = some x ∧ w.cell? ⟨b, o + 1, none⟩ = some y :=
 ⟨by simpa using h 0 x rfl, h 1 y rfl⟩
theorem CellsAt.one {w : World} {b o : Nat} {x : Value} (h : CellsAt w b o [x]) : w.cell? ⟨b, o, none⟩ = some x := by simpa using h 0 x rfl
theorem CellsAt.three {w : World} {b o : Nat} {x y z : Value} (h : CellsAt w b o [x, y, z]) :
    w.cell? ⟨b, o, none⟩ = some x ∧ w.cell? ⟨b, o + 1, none⟩ = some y ∧ w.cell? ⟨b, o + 2, none⟩ = some z :=
 ⟨by simpa using h 0 x rfl, h 1 y rfl, h 2 z rfl⟩
theorem CellsAt.four {w : World} {b o : Nat} {x y z u : Value} (h : CellsAt w b o [x, y, z, u]) :
    w.cell? ⟨b, o, none⟩ = some x ∧ w.cell? ⟨b, o + 1, none⟩ = some y ∧ w.cell? ⟨b, o + 2, none⟩ = some z ∧ w.cell? ⟨b, o + 3, none⟩ = some u :=
 ⟨by simpa using h 0 x rfl, h 1 y rfl, h 2 z rfl, h 3 u rfl⟩
theorem CellsAt.eight {w : World} {b o : Nat} {x0 x1 x2 x3 x4 x5 x6 x7 : Value} (h : CellsAt w b o [x0, x1, x2, x3, x4, x5, x6, x7]) :
    w.cell? ⟨b, o, none⟩ = some x0 ∧ w.cell? ⟨b, o + 1, none⟩ = some x1 ∧ w.cell? ⟨b, o + 2, none⟩ = some x2 ∧ w.cell? ⟨b, o + 3, none⟩ = some x3 ∧
    w.cell? ⟨b, o + 4, none⟩ = some x4 ∧ w.cell? ⟨b, o + 5, none⟩ = some x5 ∧ w.cell? ⟨b, o + 6, none⟩ = some x6 ∧ w.cell? ⟨b, o + 7, none⟩ = some x7 :=
 ⟨by simpa using h 0 x0 rfl, h 1 x1 rfl, h 2 x2 rfl, h 3 x3 rfl, h 4 x4 rfl, h 5 x5 rfl, h 6 x6 rfl, h 7 x7 rfl⟩
theorem CellsAt.ext {w w' : World} {b o : Nat} {cs : List Value} (h : CellsAt w b o cs) (hb : Ext w w') : CellsAt w' b o cs := fun j v hj => hb.cellE (h j v hj)
theorem CellsAt.kp {D : Nat → Prop} {w w' : World} {b o : Nat} {cs : List Value} (h : CellsAt w b o cs) (hk : Kp D w w') (hD : ¬ D b) : CellsAt w' b o cs := fun j v hj => hk.cellK (h j v hj) hD
end Go.Proofs.YtkndccgackohnaaGreatDoor
namespace Go.Proofs.YtkndccgackohnaaGreatDoor
open Go Go.RowKit
open Go.Lib (hid)
theorem ret_bool {a b : Bool} (h : a = b) : Ending.returned (.bool a) = .returned (.bool b) := by rw [h]
theorem toList_isEmpty (s : ByteArray) : s.toList.isEmpty = decide (s = M.none_) := by
 rw [ByteArray.toList_eq]
 obtain ⟨⟨l⟩⟩ := s
 cases l <;> simp [M.none_]
theorem nameOk_take (s : ByteArray) (k : Nat) (h : k < s.size) : s.data.toList.take (k + 1) = s.data.toList.take k ++ [s[k]] := by
 rw [List.take_succ_eq_append_getElem (by simpa using h)]; rfl
theorem namOk_no (s : ByteArray) (k : Nat) (h : k < s.size) (hc : M.letter s[k] = false) : M.namOk s = false := by
 have hm : s[k] ∈ s.data.toList := by simp [ByteArray.getElem_eq_getElem_data]
 unfold M.namOk
 rw [List.all_eq_false.2 ⟨_, hm, by simp [hc]⟩]
 simp
theorem letter_no1 {c : UInt8} (h : (c.toNat : Int) < 97) : M.letter c = false := by
 unfold M.letter; rw [decide_eq_false (by omega)]; rfl
theorem letter_no2 {c : UInt8} (h : (c.toNat : Int) < 97 ∨ 122 < (c.toNat : Int)) : M.letter c = false := by
 unfold M.letter
 rcases h with h | h
 · rw [decide_eq_false (by omega)]; rfl
 · rw [decide_eq_false (p := c.toNat ≤ 122) (by omega)]; simp
theorem letter_yes {c : UInt8} (h : 97 ≤ (c.toNat : Int) ∧ (c.toNat : Int) ≤ 122) : M.letter c = true := by
 unfold M.letter
 rw [decide_eq_true (by omega), decide_eq_true (by omega)]; rfl
theorem word_ok (s : ByteArray) (w : World) :
    Calls Tryz.prog 58 #[.string s] w fun e w' => e = .returned (.bool (M.namOk s)) ∧ w = w' := by
 by_cases h1 : s.size < 1
 · go_enter Tryz.func58, Tryz.ntmps58
   go_wp2
   go_ret
   exact ⟨ret_bool (by unfold M.namOk; rw [decide_eq_false (by omega)]; rfl), rfl⟩
 by_cases h2 : 6 < s.size
 · go_enter Tryz.func58, Tryz.ntmps58
   go_wp2
   go_ret
   exact ⟨ret_bool (by unfold M.namOk; rw [decide_eq_false (p := s.size ≤ 6) (by omega)]; simp), rfl⟩
 go_enter Tryz.func58, Tryz.ntmps58
 go_wp2
 go_loop [3] (fun i => ∃ k : Nat, k ≤ s.size ∧ i = .int .i64 k ∧ (s.data.toList.take k).all M.letter = true) (fun i => s.size - (intOf i).toNat)
 case atStart => exact ⟨0, Nat.zero_le _, rfl, by simp⟩
 case round =>
  obtain ⟨k, hk, rfl, hall⟩ := hrel
  have HA := hid hall; clear hall
  by_cases hlt : k < s.size
  · go_wp2
    · go_ret
      exact ⟨ret_bool (namOk_no s k hlt (letter_no2 (by assumption))).symm, rfl⟩
    · go_round
      case rel =>
       refine ⟨k + 1, by omega, by go_num, ?_⟩
       rw [nameOk_take s k hlt, List.all_append, HA.out]
       simp [letter_yes (c := s[k]) (by assumption)]
      case measure => simp [intOf]; omega
    · go_ret
      exact ⟨ret_bool (namOk_no s k hlt (letter_no1 (by assumption))).symm, rfl⟩
  · go_wp2
    go_ret
    refine ⟨ret_bool ?_, rfl⟩
    have h := HA.out
    rw [List.take_of_length_le (by simp; omega)] at h
    unfold M.namOk
    rw [h, decide_eq_true (by omega), decide_eq_true (by omega)]
    rfl
theorem nam_ok (s : ByteArray) (w : World) :
    Calls Tryz.prog 37 #[.string s] w fun e w' => e = .returned (.bool (M.namOk s)) ∧ w = w' := by
 go_enter Tryz.func37, Tryz.ntmps37
 go_wp2_with (go_at_call 58; refine (word_ok _ _).mono ?_; rintro e w' ⟨rfl, rfl⟩)
 go_ret
 exact ⟨rfl, rfl⟩
def ShapeIs (k : M.Kind) (e : Ending) : Prop := (M.kndOk k = true ∧ ∃ t x, e = .returned (.iface t x)) ∨ (M.kndOk k = false ∧ e = .returned .nilIface)
theorem kndOk_1 {n : ByteArray} (h : n.toList.isEmpty = true) : M.kndOk ⟨1, n⟩ = true := by
 rw [toList_isEmpty] at h; simp [M.kndOk, h]
theorem kndOk_1n {n : ByteArray} (h : n.toList.isEmpty = false) : M.kndOk ⟨1, n⟩ = false := by
 rw [toList_isEmpty] at h; simp [M.kndOk, h]
theorem kndOk_2 {k : Int} {n : ByteArray} (h1 : k = 2) : M.kndOk ⟨k, n⟩ = M.namOk n := by
 subst h1; simp [M.kndOk]
theorem kndOk_0 {k : Int} {n : ByteArray} (h1 : ¬ k = 1) (h2 : ¬ k = 2) : M.kndOk ⟨k, n⟩ = false := by
 simp [M.kndOk, h1, h2]
theorem shape_of (k : M.Kind) (w : World) :
    Calls Tryz.prog 105 #[.agg #[.int .i64 k.kind, .string k.name]] w fun e w' => ShapeIs k e ∧ Ext w w' := by
 obtain ⟨kk, kn⟩ := k
 by_cases h1 : kk = 1
 · subst h1
   cases hn : kn.toList.isEmpty
   · go_enter Tryz.func105, Tryz.ntmps105
     go_wp2
     go_ret
     exact ⟨.inr ⟨kndOk_1n hn, rfl⟩, ((Kp.refl _ _).alloc _)⟩
   · go_enter Tryz.func105, Tryz.ntmps105
     go_wp2
     go_ret
     exact ⟨.inl ⟨kndOk_1 hn, _, _, rfl⟩, ((Kp.refl _ _).alloc _)⟩
 · by_cases h2 : kk = 2
   · have HN := hid (kndOk_2 (n := kn) h2)
     cases hb : M.namOk kn
     all_goals
      have HB := hid hb; clear hb
      go_enter Tryz.func105, Tryz.ntmps105
      go_wp2_with (go_at_call 58; refine (word_ok _ _).mono ?_; rintro e w' ⟨rfl, rfl⟩; rw [HB.out])
      go_ret
     · exact ⟨.inr ⟨by rw [HN.out, HB.out], rfl⟩, ((Kp.refl _ _).alloc _)⟩
     · exact ⟨.inl ⟨by rw [HN.out, HB.out], _, _, rfl⟩, ((Kp.refl _ _).alloc _)⟩
   · go_enter Tryz.func105, Tryz.ntmps105
     go_wp2
     go_ret
     exact ⟨.inr ⟨kndOk_0 h1 h2, rfl⟩, ((Kp.refl _ _).alloc _)⟩
theorem knd_ok (k : M.Kind) (w : World) :
    Calls Tryz.prog 77 #[.agg #[.int .i64 k.kind, .string k.name]] w fun e w' => e = .returned (.bool (M.kndOk k)) ∧ Ext w w' := by
 go_enter Tryz.func77, Tryz.ntmps77
 go_wp2_with fail
 refine (shape_of k _).mono ?_
 rintro e w1 ⟨⟨hk, t, x, rfl⟩ | ⟨hk, rfl⟩, hB⟩
 · go_wp2
   go_ret
   exact ⟨ret_bool hk.symm, (by repeat (first | assumption | exact Kp.refl _ _ | apply Kp.alloc | apply Kp.drew | apply Kp.drewN | refine Kp.trans ?_ (by assumption)))⟩
 · go_wp2
   go_ret
   exact ⟨ret_bool hk.symm, (by repeat (first | assumption | exact Kp.refl _ _ | apply Kp.alloc | apply Kp.drew | apply Kp.drewN | refine Kp.trans ?_ (by assumption)))⟩
theorem tagOk_a {k : Int} {n : ByteArray} (h : k = 0 ∨ k = 1 ∨ k = 3) : M.tagOk ⟨k, n⟩ = n.toList.isEmpty := by
 unfold M.tagOk; rw [if_pos h, toList_isEmpty]
theorem tagOk_b {k : Int} {n : ByteArray} (h : k = 2) : M.tagOk ⟨k, n⟩ = M.namOk n := by
 subst h; rfl
theorem tagOk_c {k : Int} {n : ByteArray} (h0 : ¬ k = 0) (h1 : ¬ k = 1) (h2 : ¬ k = 2) (h3 : ¬ k = 3) : M.tagOk ⟨k, n⟩ = false := by
 simp [M.tagOk, h0, h1, h2, h3]
theorem tag_ok (k : M.Tag) (w : World) :
    Calls Tryz.prog 156 #[.agg #[.int .i64 k.kind, .string k.name]] w fun e w' => e = .returned (.bool (M.tagOk k)) ∧ Ext w w' := by
 obtain ⟨kk, kn⟩ := k
 by_cases h0 : kk = 0
 · have HT := hid (tagOk_a (n := kn) (.inl h0))
   go_enter Tryz.func156, Tryz.ntmps156
   go_wp2
   go_ret
   exact ⟨ret_bool HT.out.symm, ((Kp.refl _ _).alloc _)⟩
 by_cases h1 : kk = 1
 · have HT := hid (tagOk_a (n := kn) (.inr (.inl h1)))
   go_enter Tryz.func156, Tryz.ntmps156
   go_wp2
   go_ret
   exact ⟨ret_bool HT.out.symm, ((Kp.refl _ _).alloc _)⟩
 by_cases h3 : kk = 3
 · have HT := hid (tagOk_a (n := kn) (.inr (.inr h3)))
   go_enter Tryz.func156, Tryz.ntmps156
   go_wp2
   go_ret
   exact ⟨ret_bool HT.out.symm, ((Kp.refl _ _).alloc _)⟩
 by_cases h2 : kk = 2
 · have HT := hid (tagOk_b (n := kn) h2)
   go_enter Tryz.func156, Tryz.ntmps156
   go_wp2_with (go_at_call 37; refine (nam_ok _ _).mono ?_; rintro e w' ⟨rfl, rfl⟩)
   go_ret
   exact ⟨ret_bool HT.out.symm, ((Kp.refl _ _).alloc _)⟩
 · go_enter Tryz.func156, Tryz.ntmps156
   go_wp2
   go_ret
   exact ⟨ret_bool (tagOk_c h0 h1 h2 h3).symm, ((Kp.refl _ _).alloc _)⟩
end Go.Proofs.YtkndccgackohnaaGreatDoor
namespace Go.Proofs.YtkndccgackohnaaGreatDoor
open Go
namespace M
def bs (l : List UInt8) : ByteArray := ⟨⟨l⟩⟩
theorem bs_data (s : ByteArray) : bs s.data.toList = s := rfl
theorem bs_inj {a b : List UInt8} (h : bs a = bs b) : a = b := by
 have := congrArg (fun s : ByteArray => s.data.toList) h
 exact this
def wordsGo : List UInt8 → List UInt8 → List (List UInt8)
 | cur, [] => [cur]
 | cur, c :: r => if c = 32 then cur :: wordsGo [] r else wordsGo (cur ++ [c]) r
def words (s : ByteArray) : List ByteArray := (wordsGo [] s.data.toList).map bs
theorem wordsGo_none : ∀ (a cur : List UInt8), 32 ∉ a → wordsGo cur a = [cur ++ a]
 | [], cur, _ => by simp [wordsGo]
 | c :: r, cur, h => by
  have h1 : c ≠ 32 := fun e => h (by simp [e])
  rw [wordsGo, if_neg h1, wordsGo_none r _ (fun e => h (by simp [e]))]
  simp
theorem wordsGo_hit : ∀ (a b cur : List UInt8), 32 ∉ a → wordsGo cur (a ++ 32 :: b) = (cur ++ a) :: wordsGo [] b
 | [], b, cur, _ => by simp [wordsGo]
 | c :: r, b, cur, h => by
  have h1 : c ≠ 32 := fun e => h (by simp [e])
  rw [List.cons_append, wordsGo, if_neg h1, wordsGo_hit r b _ (fun e => h (by simp [e]))]
  simp
theorem wordsGo_ne (a : List UInt8) : ∀ cur, wordsGo cur a ≠ [] := by
 induction a with
 | nil => intro cur h; simp [wordsGo] at h
 | cons c r ih =>
  intro cur h
  rw [wordsGo] at h
  split at h
  · cases h
  · exact ih _ h
def digit (n : Int) : List UInt8 := [UInt8.ofNat (48 + n.toNat)]
structure Chg where
 kind : Int
 keeper : Int
 name : ByteArray
 dst : Int
deriving DecidableEq
def chgOk (c : Chg) : Bool := decide (0 ≤ c.keeper) && (decide (c.keeper ≤ 2) && (namOk c.name && (if c.kind = 3 then decide (0 ≤ c.dst) && decide (c.dst ≤ 2) else (decide (c.kind = 2) || decide (c.kind = 4)) && decide (c.dst = 0))))
def takeW : List UInt8 := [116, 97, 107, 101]
def askW : List UInt8 := [97, 115, 107]
def freeW : List UInt8 := [102, 114, 101, 101]
def chgLine (c : Chg) : List UInt8 :=
 if c.kind = 2 then takeW ++ 32 :: (digit c.keeper ++ 32 :: c.name.data.toList)
 else if c.kind = 3 then askW ++ 32 :: (digit c.keeper ++ 32 :: (c.name.data.toList ++ 32 :: digit c.dst))
 else if c.kind = 4 then freeW ++ 32 :: (digit c.keeper ++ 32 :: c.name.data.toList)
 else []
def chgText (c : Chg) : ByteArray := if chgOk c then bs (chgLine c) else bs []
theorem namOk_noSpace {s : ByteArray} (h : namOk s = true) : (32 : UInt8) ∉ s.data.toList := by
 intro hm
 unfold namOk at h
 simp only [Bool.and_eq_true, List.all_eq_true] at h
 have := h.2 _ hm
 revert this
 decide
theorem digit_noSpace {n : Int} (h0 : 0 ≤ n) (h2 : n ≤ 2) : (32 : UInt8) ∉ digit n := by
 have : n = 0 ∨ n = 1 ∨ n = 2 := by omega
 rcases this with rfl | rfl | rfl <;> decide
theorem digit_inj {m n : Int} (h0 : 0 ≤ n) (h2 : n ≤ 2) (g0 : 0 ≤ m) (g2 : m ≤ 2) (h : digit m = digit n) : m = n := by
 have a : n = 0 ∨ n = 1 ∨ n = 2 := by omega
 have b : m = 0 ∨ m = 1 ∨ m = 2 := by omega
 rcases a with rfl | rfl | rfl <;> rcases b with rfl | rfl | rfl <;> first | rfl | exact absurd h (by decide)
theorem chgOk_parts {c : Chg} (h : chgOk c = true) : 0 ≤ c.keeper ∧ c.keeper ≤ 2 ∧ namOk c.name = true ∧ ((c.kind = 3 ∧ 0 ≤ c.dst ∧ c.dst ≤ 2) ∨ ((c.kind = 2 ∨ c.kind = 4) ∧ c.dst = 0)) := by
 unfold chgOk at h
 simp only [Bool.and_eq_true, decide_eq_true_eq] at h
 obtain ⟨h1, h2, h3, h4⟩ := h
 refine ⟨h1, h2, h3, ?_⟩
 split at h4
 · rename_i h5
   simp only [Bool.and_eq_true, decide_eq_true_eq] at h4
   exact .inl ⟨h5, h4⟩
 · simp only [Bool.and_eq_true, Bool.or_eq_true, decide_eq_true_eq] at h4
   exact .inr h4
theorem words_take {c : Chg} (h : chgOk c = true) (hk : c.kind = 2) : words (chgText c) = [bs takeW, bs (digit c.keeper), c.name] := by
 obtain ⟨h1, h2, h3, -⟩ := chgOk_parts h
 unfold chgText words
 rw [if_pos h]
 unfold chgLine
 rw [if_pos hk]
 simp only [bs]
 rw [wordsGo_hit _ _ _ (by decide), wordsGo_hit _ _ _ (digit_noSpace h1 h2), wordsGo_none _ _ (namOk_noSpace h3)]
 rfl
theorem words_free {c : Chg} (h : chgOk c = true) (hk : c.kind = 4) : words (chgText c) = [bs freeW, bs (digit c.keeper), c.name] := by
 obtain ⟨h1, h2, h3, -⟩ := chgOk_parts h
 unfold chgText words
 rw [if_pos h]
 unfold chgLine
 rw [if_neg (by omega), if_neg (by omega), if_pos hk]
 simp only [bs]
 rw [wordsGo_hit _ _ _ (by decide), wordsGo_hit _ _ _ (digit_noSpace h1 h2), wordsGo_none _ _ (namOk_noSpace h3)]
 rfl
theorem words_ask {c : Chg} (h : chgOk c = true) (hk : c.kind = 3) : words (chgText c) = [bs askW, bs (digit c.keeper), c.name, bs (digit c.dst)] := by
 obtain ⟨h1, h2, h3, h4⟩ := chgOk_parts h
 have h5 : 0 ≤ c.dst ∧ c.dst ≤ 2 := by omega
 unfold chgText words
 rw [if_pos h]
 unfold chgLine
 rw [if_neg (by omega), if_pos hk]
 simp only [bs]
 rw [wordsGo_hit _ _ _ (by decide), wordsGo_hit _ _ _ (digit_noSpace h1 h2), wordsGo_hit _ _ _ (namOk_noSpace h3), wordsGo_none _ _ (digit_noSpace h5.1 h5.2)]
 rfl
theorem chgText_inj {c d : Chg} (hc : chgOk c = true) (hd : chgOk d = true) (h : chgText c = chgText d) : c = d := by
 obtain ⟨c1, c2, c3, c4⟩ := chgOk_parts hc
 obtain ⟨d1, d2, d3, d4⟩ := chgOk_parts hd
 have hw : words (chgText c) = words (chgText d) := by rw [h]
 have key : c.kind = d.kind ∧ c.keeper = d.keeper ∧ c.name = d.name ∧ c.dst = d.dst := by
  rcases c4 with ⟨ck, c5, c6⟩ | ⟨ck | ck, c5⟩ <;> rcases d4 with ⟨dk, d5, d6⟩ | ⟨dk | dk, d5⟩ <;>
   simp only [words_ask hc, words_take hc, words_free hc, words_ask hd, words_take hd, words_free hd, ck, dk] at hw <;>
   simp only [List.cons.injEq, List.nil_eq, List.cons_ne_nil, and_false, and_true] at hw
  · exact ⟨by omega, digit_inj d1 d2 c1 c2 (bs_inj hw.2.1), hw.2.2.1, digit_inj d5 d6 c5 c6 (bs_inj hw.2.2.2)⟩
  · exact ⟨by omega, digit_inj d1 d2 c1 c2 (bs_inj hw.2.1), hw.2.2, by omega⟩
  · exact absurd (bs_inj hw.1) (by decide)
  · exact absurd (bs_inj hw.1) (by decide)
  · exact ⟨by omega, digit_inj d1 d2 c1 c2 (bs_inj hw.2.1), hw.2.2, by omega⟩
 obtain ⟨a1, a2, a3, a4⟩ := c
 obtain ⟨b1, b2, b3, b4⟩ := d
 simp only at key
 obtain ⟨rfl, rfl, rfl, rfl⟩ := key
 rfl
def Reads (s : ByteArray) (n : Int) (b : Bool) : Prop := (b = true → 0 ≤ n → n ≤ 2 → s = bs (digit n)) ∧ (∀ d, 0 ≤ d → d ≤ 2 → s = bs (digit d) → n = d ∧ b = true)
def Says (s : ByteArray) : Option Chg → Prop
 | some c => chgOk c = true ∧ chgText c = s
 | none => ¬ ∃ c, chgOk c = true ∧ chgText c = s
theorem Says.one {s : ByteArray} : ∀ {a b : Option Chg}, Says s a → Says s b → a = b
 | none, none, _, _ => rfl
 | none, some c, h, k => absurd ⟨c, k⟩ h
 | some c, none, h, k => absurd ⟨c, h⟩ k
 | some c, some d, h, k => by rw [chgText_inj h.1 k.1 (h.2.trans k.2.symm)]
theorem words_nil : words (bs []) = [bs []] := rfl
theorem chgText_ok {c : Chg} {s : ByteArray} (h : chgText c = s) (hw : (words s).length ≠ 1) : chgOk c = true := by
 cases hc : chgOk c with
 | true => rfl
 | false =>
  unfold chgText at h
  rw [hc] at h
  simp only [Bool.false_eq_true, if_false] at h
  subst h
  exact absurd rfl hw
end M
end Go.Proofs.YtkndccgackohnaaGreatDoor
namespace Go.Proofs.YtkndccgackohnaaGreatDoor
open Go Go.RowKit
open Go.Lib (hid)
theorem sp_in (n lo hi : Int) (w : World) :
    Calls Tryz.prog 33 #[.int .i64 n, .int .i64 lo, .int .i64 hi] w fun e w' => e = .returned (.bool (decide (lo ≤ n) && decide (n ≤ hi))) ∧ w = w' := by
 go_enter Tryz.func33, Tryz.ntmps33
 go_wp2
 · go_ret
   exact ⟨ret_bool (by rw [decide_eq_true (p := lo ≤ n) (by omega)]; rfl), rfl⟩
 · go_ret
   exact ⟨ret_bool (by rw [decide_eq_false (p := lo ≤ n) (by omega)]; rfl), rfl⟩
theorem sp_nam_ok (s : ByteArray) (w : World) :
    Calls Tryz.prog 34 #[.string s] w fun e w' => e = .returned (.bool (M.namOk s)) ∧ w = w' := by
 by_cases h1 : s.size = 0
 · have h1' : ((s.size : Int) == 0) = true := by simp [h1]
   go_enter Tryz.func34, Tryz.ntmps34
   go_wp2
   go_ret
   exact ⟨ret_bool (by unfold M.namOk; rw [decide_eq_false (by omega)]; rfl), rfl⟩
 have h1' : ((s.size : Int) == 0) = false := beq_eq_false_iff_ne.2 (by omega)
 by_cases h2 : 6 < s.size
 · go_enter Tryz.func34, Tryz.ntmps34
   go_wp2
   go_ret
   exact ⟨ret_bool (by unfold M.namOk; rw [decide_eq_false (p := s.size ≤ 6) (by omega)]; simp), rfl⟩
 go_enter Tryz.func34, Tryz.ntmps34
 go_wp2
 go_loop [3] (fun i => ∃ k : Nat, k ≤ s.size ∧ i = .int .i64 k ∧ (s.data.toList.take k).all M.letter = true) (fun i => s.size - (intOf i).toNat)
 case atStart => exact ⟨0, Nat.zero_le _, rfl, by simp⟩
 case round =>
  obtain ⟨k, hk, rfl, hall⟩ := hrel
  have HA := hid hall; clear hall
  by_cases hlt : k < s.size
  · go_wp2
    · go_ret
      exact ⟨ret_bool (namOk_no s k hlt (letter_no2 (by assumption))).symm, rfl⟩
    · go_round
      case rel =>
       refine ⟨k + 1, by omega, by go_num, ?_⟩
       rw [nameOk_take s k hlt, List.all_append, HA.out]
       simp [letter_yes (c := s[k]) (by assumption)]
      case measure => simp [intOf]; omega
    · go_ret
      exact ⟨ret_bool (namOk_no s k hlt (letter_no1 (by assumption))).symm, rfl⟩
  · go_wp2
    go_ret
    refine ⟨ret_bool ?_, rfl⟩
    have h := HA.out
    rw [List.take_of_length_le (by simp; omega)] at h
    unfold M.namOk
    rw [h, decide_eq_true (by omega), decide_eq_true (by omega)]
    rfl
def Agg (t k : Nat) : Prop := ∃ fs, Tryz.prog.underlying t = some (.struct fs) ∧ (Tryz.prog.info? t).map (·.size) = some k
theorem Agg.is {t k : Nat} (h : Agg t k) (w : World) : (isAgg t).run Tryz.prog w = .ok true w ∧ (sizeOf t).run Tryz.prog w = .ok k w := by
 obtain ⟨fs, h1, h2⟩ := h
 cases hq : Tryz.prog.info? t with
 | none => rw [hq] at h2; cases h2
 | some i =>
  rw [hq] at h2
  have h2' : i.size = k := by simpa using h2
  subst h2'
  constructor
  · unfold isAgg
    rw [Sem.run_bind, run_underlying h1 w]
    simp
  · simp [sizeOf, typeInfo, hq]
theorem run_loadVar_agg {t k : Nat} (h : Agg t k) {w : World} {b o : Nat} {cs : List Value} (hc : CellsAt w b o cs) (hl : cs.length = k) : (loadVar t ⟨b, o, none⟩).run Tryz.prog w = .ok (.agg cs.toArray) w := by
 subst hl
 obtain ⟨h1, h2⟩ := h.is w
 have h3 := run_loadCells_list (P := Tryz.prog) w ⟨b, o, none⟩ cs (fun j v hv => by
  have := hc j v hv
  unfold Addr.add
  split
  · rename_i h0; subst h0; simpa using this
  · exact this)
 simp [loadVar, Sem.run_bind, h1, h2, h3]
theorem wp_load_agg {t k : Nat} (h : Agg t k) {o : Oper} {a : Act} {w : World} {K : Act → World → Prop} {Q : Exit → Act → World → Prop} (x : Operand) (ho : o.op = .load t x)
    (b off : Nat) (hx : a.eval x = .pointer (some ⟨b, off, none⟩)) (cs : List Value) (hc : CellsAt w b off cs) (hl : cs.length = k) (hK : K (a.put o.dst (.agg cs.toArray)) w) : o.wp Tryz.prog a w K Q := by
 unfold Oper.wp execOp
 simp only [ho, hx, Instr.loadAt, Instr.sureAddr, Sem.run_bind, Sem.run_pure, Result.andThen_ok, run_loadVar_agg h hc hl]
 exact hK
theorem wpList_load_agg {t k : Nat} (h : Agg t k) {ops : Array Oper} {rest : List Oper} {o : Oper} {a : Act} {w : World} {Q : Exit → Act → World → Prop} (hgd : o.guard = none) (x : Operand) (ho : o.op = .load t x)
    (b off : Nat) (hx : a.eval x = .pointer (some ⟨b, off, none⟩)) (cs : List Value) (hc : CellsAt w b off cs) (hl : cs.length = k) (hK : wpList Tryz.prog ops Q rest (a.put o.dst (.agg cs.toArray)) w) : wpList Tryz.prog ops Q (o :: rest) a w :=
 wpList_plain hgd fun _ hK' => wp_load_agg h x ho b off hx cs hc hl (hK' _ _ hK)
theorem results_agg {t k : Nat} (h : Agg t k) {fn : Func} {p : Tmp} (hf : fn.results = #[.cell p t]) (tmps : Array Value) (w : World) (b : Nat) (hp : tmps.getD p undef = .pointer (some ⟨b, 0, none⟩)) (cs : List Value) (hc : CellsAt w b 0 cs) (hl : cs.length = k) :
    (results fn tmps).run Tryz.prog w = .ok (.agg cs.toArray) w := by
 have hp' : tmps[p]?.getD undef = .pointer (some ⟨b, 0, none⟩) := by simpa using hp
 simp [results, hf, hp', asAddr, run_loadVar_agg h hc hl]
theorem results_agg2 {t k : Nat} (h : Agg t k) {fn : Func} {p q : Tmp} (hf : fn.results = #[.cell p t, .tmp q]) (tmps : Array Value) (w : World) (b : Nat) (hp : tmps.getD p undef = .pointer (some ⟨b, 0, none⟩)) (cs : List Value) (hc : CellsAt w b 0 cs) (hl : cs.length = k) :
    (results fn tmps).run Tryz.prog w = .ok (.tuple #[.agg cs.toArray, tmps.getD q undef]) w := by
 have hp' : tmps[p]?.getD undef = .pointer (some ⟨b, 0, none⟩) := by simpa using hp
 simp [results, hf, hp', asAddr, run_loadVar_agg h hc hl]
theorem agg_method : Agg 87 8 := ⟨_, Tryz.underlying87, by kernel_rfl⟩
theorem byte_conv (w : World) (x : Int) (h0 : 0 ≤ x) (h1 : x < 256) :
    (convert 33 9 (.slice (some ⟨w.heap.size, 0, none⟩) 1 1)).run Tryz.prog (w.alloc (.cells #[.int .u8 x] 5)) = .ok (.string (M.bs [UInt8.ofNat x.toNat])) (w.alloc (.cells #[.int .u8 x] 5)) := by
 refine Lib.run_convert_whole (P := Tryz.prog) _ 33 5 9 Tryz.underlying33 Tryz.underlying5 Tryz.underlying9 w.heap.size 0 (M.bs [UInt8.ofNat x.toNat]) ?_ 1
 intro i hi
 have hi0 : i = 0 := by
  have : (M.bs [UInt8.ofNat x.toNat]).size = 1 := rfl
  omega
 subst hi0
 rw [(Blk.new w 5 #[.int .u8 x]).cell]
 have hm : x.toNat % 256 = x.toNat := Nat.mod_eq_of_lt (by omega)
 have hx : ((x.toNat : Nat) : Int) = x := Int.toNat_of_nonneg h0
 have e : (M.bs [UInt8.ofNat x.toNat])[0] = UInt8.ofNat x.toNat := rfl
 simp [e, UInt8.toNat_ofNat', hm, hx]
theorem bs_size (l : List UInt8) : (M.bs l).size = l.length := by simp [M.bs, ByteArray.size]
theorem sp_plain (n : Int) (w : World) (h0 : -9223372036854775808 ≤ n) (h1 : n ≤ 9223372036854775807) :
    Calls Tryz.prog 30 #[.int .i64 n] w fun e w' => (∃ t, e = .returned (.string t) ∧ (0 ≤ n → n ≤ 2 → t = M.bs (M.digit n)) ∧ t.size ≤ 1100000000000000000) ∧ Ext w w' := by
 go_enter Tryz.func30, Tryz.ntmps30
 go_wp2
 go_loopw [0, 3] (fun i o wr => ∃ (k : Int) (t : ByteArray), i = .int .i64 k ∧ o = .string t ∧ k ≤ n ∧ ((k = n ∧ t.size = 0) ∨ 0 ≤ k ∧ 9 * (t.size : Int) + k ≤ n) ∧ Hid (n ≤ 2 → k = n ∧ t = ⟨#[]⟩) ∧ Ext w wr) (fun i _ _ => (intOf i).toNat)
 case atStart => exact ⟨n, ⟨#[]⟩, rfl, rfl, Int.le_refl _, .inl ⟨rfl, rfl⟩, hid (fun _ => ⟨rfl, rfl⟩), Kp.refl _ _⟩
 case round =>
  obtain ⟨k, t, rfl, rfl, hk, hk0, HT, hE⟩ := hrel
  have HE := hid hE
  clear hE
  have ht : t.size ≤ 1030000000000000000 := by omega
  by_cases h9 : 9 < k
  · have c1 := byte_conv wr (48 + k % 10) (by omega) (by omega)
    have hz := bs_size [UInt8.ofNat (48 + k % 10).toNat]
    simp only [List.length_singleton] at hz
    go_wp2_with fail
    go_round
    case rel => exact ⟨k / 10, _, rfl, rfl, by omega, .inr ⟨by omega, by rw [ByteArray.size_append, hz]; omega⟩, hid (fun _ => by omega), HE.out.trans ((Kp.refl _ _).alloc _)⟩
    case measure => simp [intOf]; omega
  · have c1 := byte_conv wr ((48 + k) % 256) (by omega) (by omega)
    have hz := bs_size [UInt8.ofNat ((48 + k) % 256).toNat]
    simp only [List.length_singleton] at hz
    go_wp2_with fail
    go_ret
    refine ⟨⟨_, rfl, fun g0 g2 => ?_, by rw [ByteArray.size_append, hz]; omega⟩, HE.out.trans ((Kp.refl _ _).alloc _)⟩
    obtain ⟨rfl, rfl⟩ := HT.out g2
    have : k = 0 ∨ k = 1 ∨ k = 2 := by omega
    rcases this with rfl | rfl | rfl <;> rfl
theorem sp_num (n : Int) (w : World) (h0 : -9223372036854775807 ≤ n) (h1 : n ≤ 9223372036854775807) :
    Calls Tryz.prog 38 #[.int .i64 n] w fun e w' => (∃ t, e = .returned (.string t) ∧ (0 ≤ n → n ≤ 2 → t = M.bs (M.digit n)) ∧ t.size ≤ 1100000000000000001) ∧ Ext w w' := by
 by_cases h : n < 0
 · have hz : (ByteArray.mk #[45]).size = 1 := rfl
   go_enter Tryz.func38, Tryz.ntmps38
   go_wp2_with fail
   refine (sp_plain _ _ (by omega) (by omega)).mono ?_
   rintro e w1 ⟨⟨t, rfl, -, ht⟩, hE⟩
   go_wp2_with fail
   go_ret
   exact ⟨⟨_, rfl, fun g _ => by omega, by rw [ByteArray.size_append, hz]; omega⟩, hE⟩
 · go_enter Tryz.func38, Tryz.ntmps38
   go_wp2_with fail
   refine (sp_plain _ _ (by omega) (by omega)).mono ?_
   rintro e w1 ⟨⟨t, rfl, ht, hs⟩, hE⟩
   go_wp2_with fail
   go_ret
   exact ⟨⟨_, rfl, ht, by omega⟩, hE⟩
theorem toList_eq_true {a b : ByteArray} (h : (a.toList == b.toList) = true) : a = b := by
 have h2 := beq_iff_eq.1 h
 rw [ByteArray.toList_eq, ByteArray.toList_eq] at h2
 exact ByteArray.ext (Array.toList_inj.1 h2)
theorem sp_read_digit (d : Int) (h0 : 0 ≤ d) (h2 : d ≤ 2) (w : World) :
    Calls Tryz.prog 19 #[.string (M.bs (M.digit d))] w fun e w' => e = .returned (.tuple #[.int .i64 d, .bool true]) ∧ Ext w w' := by
 have hd : ∃ c : UInt8, M.bs (M.digit d) = ⟨#[c]⟩ ∧ (c.toNat : Int) = 48 + d := by
  have : d = 0 ∨ d = 1 ∨ d = 2 := by omega
  rcases this with rfl | rfl | rfl
  · exact ⟨48, rfl, rfl⟩
  · exact ⟨49, rfl, rfl⟩
  · exact ⟨50, rfl, rfl⟩
 have HD : Hid (M.bs (M.digit d) = M.bs (M.digit d)) := hid rfl
 obtain ⟨c, hs, hc⟩ := hd
 have HS := hid hs
 rw [hs]
 clear hs
 obtain ⟨s, hse⟩ : ∃ s : ByteArray, s = ⟨#[c]⟩ := ⟨_, rfl⟩
 have hz : s.size = 1 := by rw [hse]; rfl
 have hg : s[0] = c := by subst hse; rfl
 rw [← hse] at HS ⊢
 clear hse
 go_enter Tryz.func19, Tryz.ntmps19
 go_wp2_with fail
 go_loopw [4, 6] (fun n i wr => ∃ k : Nat, i = .int .i64 k ∧ ((k = 0 ∧ n = .int .i64 0) ∨ (k = 1 ∧ n = .int .i64 d)) ∧ Ext w wr) (fun _ i _ => 1 - (intOf i).toNat)
 case atStart => exact ⟨0, rfl, .inl ⟨rfl, rfl⟩, Kp.refl _ _⟩
 case round =>
  obtain ⟨k, rfl, hk, hE⟩ := hrel
  have HE := hid hE
  clear hE
  rcases hk with ⟨rfl, rfl⟩ | ⟨rfl, rfl⟩
  · go_wp2_with fail
    go_round
    case rel =>
     refine ⟨1, rfl, .inr ⟨rfl, ?_⟩, HE.out⟩
     have e : 48 + d - 48 = d := by omega
     rw [e]
    case measure => simp [intOf]
  · go_wp2_with fail
    refine (sp_num d _ (by omega) (by omega)).mono ?_
    rintro e w1 ⟨⟨t, rfl, ht, -⟩, hE1⟩
    obtain rfl : t = s := (ht h0 h2).trans HS.out
    go_wp2_with fail
    go_ret2
    exact ⟨rfl, HE.out.trans hE1⟩
def ReadP (s : ByteArray) (e : Ending) : Prop := ∃ n b, e = .returned (.tuple #[.int .i64 n, .bool b]) ∧ (b = true → 0 ≤ n → n ≤ 2 → s = M.bs (M.digit n)) ∧ -100000 ≤ n ∧ n ≤ 100000
theorem sp_read_any (s : ByteArray) (w : World) (hs : s.size ≤ 4000000000) :
    Calls Tryz.prog 19 #[.string s] w fun e w' => ReadP s e ∧ Ext w w' := by
 by_cases hz : s.size = 0
 · go_enter Tryz.func19, Tryz.ntmps19
   go_wp2_with fail
   go_ret2
   exact ⟨⟨_, _, rfl, fun h => by (cases h), by omega, by omega⟩, Kp.refl _ _⟩
 by_cases hm : ((s[0]'(by omega)).toNat : Int) = 45
 · skip
   by_cases hb : s.size = 1 ∨ 5 < s.size
   · go_enter Tryz.func19, Tryz.ntmps19
     go_wp2_with fail
     all_goals (go_ret2; exact ⟨⟨_, _, rfl, fun h => by (cases h), by omega, by omega⟩, Kp.refl _ _⟩)
   have hb1 : ((s.size : Int) == 1) = false := beq_eq_false_iff_ne.2 (by omega)
   have hb2 : decide ((5 : Int) < s.size) = false := decide_eq_false (by omega)
   go_enter Tryz.func19, Tryz.ntmps19
   go_wp2_with fail
   go_loopw [4, 6] (fun n i wr => ∃ (k : Nat) (x : Int) (p : Int), 1 ≤ k ∧ k ≤ s.size ∧ i = .int .i64 k ∧ n = .int .i64 x ∧ 0 ≤ x ∧ x + 1 ≤ p ∧ Hid (p = 10 ^ (k - 1)) ∧ Ext w wr) (fun _ i _ => s.size - (intOf i).toNat)
   case atStart => exact ⟨1, 0, 1, by omega, by omega, rfl, rfl, by omega, by omega, hid (by simp), Kp.refl _ _⟩
   case round =>
    obtain ⟨k, x, p, hka, hks, rfl, rfl, hx0, hxp, HP, hE⟩ := hrel
    have HE := hid hE
    clear hE
    have hp : p ≤ 10000 := by
     rw [HP.out]
     have h1 : (10 ^ (k - 1) : Nat) ≤ 10 ^ 4 := Nat.pow_le_pow_right (by omega) (by omega)
     have h2 : ((10 ^ (k - 1) : Nat) : Int) ≤ ((10 ^ 4 : Nat) : Int) := Int.ofNat_le.2 h1
     simpa using h2
    by_cases hlt : k < s.size
    · go_wp2_with fail
      all_goals first
       | (go_ret2; exact ⟨⟨_, _, rfl, fun h => by (cases h), by omega, by omega⟩, HE.out⟩)
       | skip
      go_round
      case rel =>
       refine ⟨k + 1, _, p * 10, by omega, by omega, by go_num, rfl, by omega, by omega, hid ?_, HE.out⟩
       rw [HP.out, show k + 1 - 1 = (k - 1) + 1 by omega, Int.pow_succ]
      case measure => simp [intOf]; omega
    · go_wp2_with fail
      refine (sp_num _ _ (by omega) (by omega)).mono ?_
      rintro e w1 ⟨⟨t, rfl, ht, -⟩, hE1⟩
      have HT := hid ht
      clear ht
      cases hb : (t.toList == s.toList)
      · go_wp2_with fail
        go_ret2
        exact ⟨⟨_, _, rfl, fun h => by (cases h), by omega, by omega⟩, HE.out.trans hE1⟩
      · have HTS := hid (toList_eq_true hb)
        go_wp2_with fail
        go_ret2
        exact ⟨⟨_, _, rfl, fun _ g0 g2 => by rw [← HTS.out]; exact HT.out g0 g2, by omega, by omega⟩, HE.out.trans hE1⟩
 · have hm2 : (((s[0]'(by omega)).toNat : Int) == 45) = false := beq_eq_false_iff_ne.2 hm
   by_cases hb : s.size = 0 ∨ 4 < s.size
   · go_enter Tryz.func19, Tryz.ntmps19
     go_wp2_with fail
     all_goals (go_ret2; exact ⟨⟨_, _, rfl, fun h => by (cases h), by omega, by omega⟩, Kp.refl _ _⟩)
   have hb1 : ((s.size : Int) == 0) = false := beq_eq_false_iff_ne.2 (by omega)
   have hb2 : decide ((4 : Int) < s.size) = false := decide_eq_false (by omega)
   go_enter Tryz.func19, Tryz.ntmps19
   go_wp2_with fail
   go_loopw [4, 6] (fun n i wr => ∃ (k : Nat) (x : Int) (p : Int), 0 ≤ k ∧ k ≤ s.size ∧ i = .int .i64 k ∧ n = .int .i64 x ∧ 0 ≤ x ∧ x + 1 ≤ p ∧ Hid (p = 10 ^ (k - 0)) ∧ Ext w wr) (fun _ i _ => s.size - (intOf i).toNat)
   case atStart => exact ⟨0, 0, 1, by omega, by omega, rfl, rfl, by omega, by omega, hid (by simp), Kp.refl _ _⟩
   case round =>
    obtain ⟨k, x, p, hka, hks, rfl, rfl, hx0, hxp, HP, hE⟩ := hrel
    have HE := hid hE
    clear hE
    have hp : p ≤ 10000 := by
     rw [HP.out]
     have h1 : (10 ^ (k - 0) : Nat) ≤ 10 ^ 4 := Nat.pow_le_pow_right (by omega) (by omega)
     have h2 : ((10 ^ (k - 0) : Nat) : Int) ≤ ((10 ^ 4 : Nat) : Int) := Int.ofNat_le.2 h1
     simpa using h2
    by_cases hlt : k < s.size
    · go_wp2_with fail
      all_goals first
       | (go_ret2; exact ⟨⟨_, _, rfl, fun h => by (cases h), by omega, by omega⟩, HE.out⟩)
       | skip
      go_round
      case rel =>
       refine ⟨k + 1, _, p * 10, by omega, by omega, by go_num, rfl, by omega, by omega, hid ?_, HE.out⟩
       rw [HP.out, show k + 1 - 0 = (k - 0) + 1 by omega, Int.pow_succ]
      case measure => simp [intOf]; omega
    · go_wp2_with fail
      refine (sp_num _ _ (by omega) (by omega)).mono ?_
      rintro e w1 ⟨⟨t, rfl, ht, -⟩, hE1⟩
      have HT := hid ht
      clear ht
      cases hb : (t.toList == s.toList)
      · go_wp2_with fail
        go_ret2
        exact ⟨⟨_, _, rfl, fun h => by (cases h), by omega, by omega⟩, HE.out.trans hE1⟩
      · have HTS := hid (toList_eq_true hb)
        go_wp2_with fail
        go_ret2
        exact ⟨⟨_, _, rfl, fun _ g0 g2 => by rw [← HTS.out]; exact HT.out g0 g2, by omega, by omega⟩, HE.out.trans hE1⟩
def Elem (t e k : Nat) : Prop := ∃ i z bytes, Tryz.prog.underlying t = some (.slice e) ∧ Tryz.prog.info? e = some i ∧ i.zero = some z ∧ i.size = k ∧ i.bytes = bytes ∧ z.cells.size = k ∧ 0 < k ∧ bytes ≤ 4096
theorem elem_of {t e k : Nat} {z : Value} {bytes : Nat} (ht : Tryz.prog.underlying t = some (.slice e)) (hi : (Tryz.prog.info? e).map (fun i => (i.zero, i.size, i.bytes)) = some (some z, k, bytes))
    (hz : z.cells.size = k) (hk : 0 < k) (hb : bytes ≤ 4096) : Elem t e k := by
 obtain ⟨i, h1, h2, h3, h4⟩ := info_parts hi
 exact ⟨i, z, bytes, ht, h1, h2, h3, h4, hz, hk, hb⟩
theorem elem_int : Elem 63 3 1 := elem_of (z := .int .i64 0) (bytes := 8) Tryz.underlying63 (by kernel_rfl) rfl (by decide) (by decide)
theorem Kp.grown {D : Nat → Prop} {w a b : World} {row : Option Nat} (h : Kp D w a) (hg : a.grownBy b row) (hr : ∀ k, row = some k → k < w.heap.size → D k) : Kp D w b :=
 ⟨hg.os.trans h.os, hg.tape.trans h.tape, hg.output.trans h.output, Nat.le_trans h.size hg.size,
  fun k hk hd => (hg.block k (Nat.lt_of_lt_of_le hk h.size) (fun e => hd (hr k e.symm hk))).trans (h.block k hk hd)⟩
theorem owns_kp {D : Nat → Prop} {a b : World} {base e k n : Nat} {v : Value} {xs : List Value} (h : a.ownsRow base e k v n xs) (hk : Kp D a b) (hD : ∀ g, v.ownBlock = some g → base ≤ g → ¬ D g) : b.ownsRow base e k v n xs := by
 refine ⟨h.1, ?_⟩
 rcases h.2 with h4 | ⟨g, cap, cur, rfl, hg, hb, rest⟩
 · exact .inl h4
 · exact .inr ⟨g, cap, cur, rfl, hg, (hk.block g (Array.getElem?_eq_some_iff.1 hb).1 (hD g rfl hg)).trans hb, rest⟩
theorem owns_form {w : World} {base e k n : Nat} {v : Value} {xs : List Value} (h : w.ownsRow base e k v n xs) (hn : 0 < n) :
    ∃ g cap, v = .slice (some ⟨g, 0, none⟩) n cap ∧ base ≤ g ∧ g < w.heap.size ∧ n ≤ cap := by
 rcases h.2 with ⟨_, h4⟩ | ⟨g', c', cur, hv, hg, hb', hle, _⟩
 · omega
 · exact ⟨g', c', hv, hg, (Array.getElem?_eq_some_iff.1 hb').1, hle⟩
theorem Kp.own {D D' : Nat → Prop} {w a b : World} (h : Kp D w a) (hk : Kp D' a b) (hD : ∀ k, D' k → w.heap.size ≤ k) : Kp D w b :=
 ⟨hk.os.trans h.os, hk.tape.trans h.tape, hk.output.trans h.output, Nat.le_trans h.size hk.size,
  fun k hkw hd => (hk.block k (Nat.lt_of_lt_of_le hkw h.size) (fun x => absurd (hD k x) (Nat.not_le.2 hkw))).trans (h.block k hkw hd)⟩
theorem wpList_append_one {t e k : Nat} (E : Elem t e k) (w : World) {ops : Array Oper} {rest : List Oper} {o : Oper} {a : Act} {Q : Exit → Act → World → Prop} (hgd : o.guard = none) (s x : Operand)
    (ho : o.op = .call { callee := .builtin .append, args := #[s, x], argTypes := #[t, t] }) (base : Nat) (v : Value) (n : Nat) (xs : List Value) (hs : a.eval s = v) (hown : w.ownsRow base e k v n xs)
    (g c : Nat) (news : List Value) (hx : a.eval x = .slice (some ⟨g, 0, none⟩) 1 c) (hl : news.length = k) (hnews : CellsAt w g 0 news) (h1 : ∀ u ∈ news, u.oneCell' = true)
    (hn : n + 1 ≤ 4294967296) (hbase : base ≤ w.heap.size)
    (h : ∀ v' w', w'.ownsRow base e k v' (n + 1) (xs ++ news) → Kp (fun b => v.ownBlock = some b) w w' → (∃ g' c', v' = .slice (some ⟨g', 0, none⟩) (n + 1) c' ∧ base ≤ g' ∧ g' < w'.heap.size) → wpList Tryz.prog ops Q rest (a.put o.dst v') w') :
    wpList Tryz.prog ops Q (o :: rest) a w := by
 obtain ⟨i, z, bytes, ht, hi, hz, hsz, hby, hzs, hk, hb⟩ := E
 refine wpList_append_own w hgd s x t ho base e i z k bytes ht hi hz hsz hby hzs hk v n xs hs hown ⟨g, 0, none⟩ 1 c news hx (by omega) ?_ h1 (by unfold maxLen; omega) ?_ hbase ?_
 · intro j u hj
   have := hnews j u hj
   rw [Nat.zero_add] at this
   unfold Addr.add
   split
   · rename_i hj0; subst hj0; exact this
   · simpa using this
 · have : (n + 1) * bytes ≤ 4294967296 * 4096 := Nat.mul_le_mul hn hb
   omega
 · intro v' w' h2 h3 _
   refine h v' w' h2 ⟨h3.os, h3.tape, h3.output, h3.size, fun k hk hd => h3.block k hk (fun e => hd e.symm)⟩ ?_
   rcases h2.2 with ⟨_, h4⟩ | ⟨g', c', cur, hv, hg, hb', _⟩
   · omega
   · exact ⟨g', c', hv, hg, (Array.getElem?_eq_some_iff.1 hb').1⟩
theorem wpListIn_append_one {F : Fence} {nf : Nat} {t e k : Nat} (E : Elem t e k) (w : World) {ops : Array Oper} {rest : List Oper} {o : Oper} {a : Act} {Q : Exit → Act → World → Prop} (hgd : o.guard = none) (s x : Operand)
    (ho : o.op = .call { callee := .builtin .append, args := #[s, x], argTypes := #[t, t] }) (base : Nat) (v : Value) (n : Nat) (xs : List Value) (hs : a.eval s = v) (hown : w.ownsRow base e k v n xs)
    (g c : Nat) (news : List Value) (hx : a.eval x = .slice (some ⟨g, 0, none⟩) 1 c) (hl : news.length = k) (hnews : CellsAt w g 0 news) (h1 : ∀ u ∈ news, u.oneCell' = true)
    (hn : n + 1 ≤ 4294967296) (hbase : base ≤ w.heap.size)
    (h : ∀ v' w', w'.ownsRow base e k v' (n + 1) (xs ++ news) → Kp (fun b => v.ownBlock = some b) w w' → (∃ g' c', v' = .slice (some ⟨g', 0, none⟩) (n + 1) c' ∧ base ≤ g' ∧ g' < w'.heap.size) → wpListIn F nf Tryz.prog ops Q rest (a.put o.dst v') w') :
    wpListIn F nf Tryz.prog ops Q (o :: rest) a w := by
 obtain ⟨i, z, bytes, ht, hi, hz, hsz, hby, hzs, hk, hb⟩ := E
 refine wpListIn_append_own w hgd s x t ho base e i z k bytes ht hi hz hsz hby hzs hk v n xs hs hown ⟨g, 0, none⟩ 1 c news hx (by omega) ?_ h1 (by unfold maxLen; omega) ?_ hbase ?_
 · intro j u hj
   have := hnews j u hj
   rw [Nat.zero_add] at this
   unfold Addr.add
   split
   · rename_i hj0; subst hj0; exact this
   · simpa using this
 · have : (n + 1) * bytes ≤ 4294967296 * 4096 := Nat.mul_le_mul hn hb
   omega
 · intro v' w' h2 h3 _
   refine h v' w' h2 ⟨h3.os, h3.tape, h3.output, h3.size, fun k hk hd => h3.block k hk (fun e => hd e.symm)⟩ ?_
   rcases h2.2 with ⟨_, h4⟩ | ⟨g', c', cur, hv, hg, hb', _⟩
   · omega
   · exact ⟨g', c', hv, hg, (Array.getElem?_eq_some_iff.1 hb').1⟩
theorem map_flat {α β : Type} (f : α → β) (l : List α) : l.map f = l.flatMap fun x => [f x] := by
 induction l with
 | nil => rfl
 | cons x r ih => rw [List.map_cons, List.flatMap_cons, ih]; rfl
theorem SliceOf.of_owns {α : Type} {k : Nat} {R : Lies α} {w : World} {I : Nat → Prop} {base e n : Nat} {v : Value} {cs : List Value} (enc : α → List Value) {l : List α} (hown : w.ownsRow base e k v n cs)
    (hn : n = l.length) (hcs : cs = l.flatMap enc) (hek : ∀ x ∈ l, (enc x).length = k) (hR : ∀ x ∈ l, R w I x (enc x)) (hI : ∀ b, base ≤ b → b < w.heap.size → I b) (hlen : l.length ≤ 4294967296) : SliceOf k R w I v l := by
 have flat : ∀ (l : List α), (∀ x ∈ l, (enc x).length = k) → ∀ i x, l[i]? = some x → ∀ j u, (enc x)[j]? = some u → (l.flatMap enc)[i * k + j]? = some u := by
  intro l
  induction l with
  | nil => intro _ i x h; simp at h
  | cons y r ih =>
   intro hy i x hx j u hj
   have hyk := hy y (by simp)
   rw [List.flatMap_cons]
   cases i with
   | zero =>
    simp at hx; subst hx
    rw [List.getElem?_append_left (by rw [Nat.zero_mul, Nat.zero_add]; exact (List.getElem?_eq_some_iff.1 hj).1), Nat.zero_mul, Nat.zero_add]; exact hj
   | succ i =>
    rw [List.getElem?_append_right (by rw [hyk, Nat.succ_mul]; omega), hyk, show (i + 1) * k + j - k = i * k + j from by rw [Nat.succ_mul]; omega]
    exact ih (fun z hz => hy z (by simp [hz])) i x (by simpa using hx) j u hj
 subst hn hcs
 rcases hown.2 with ⟨rfl, h0⟩ | ⟨g, cap, cur, rfl, hg, hb, hle, _, hsz, htk⟩
 · have : l = [] := List.length_eq_zero_iff.1 h0
   subst this
   exact SliceOf.nil _ _ _ _
 · refine ⟨_, cap, rfl, hle, hlen, fun i x hx => ⟨g, 0, enc x, rfl, hI g hg (Array.getElem?_eq_some_iff.1 hb).1, hR x (List.mem_of_getElem? hx), hek x (List.mem_of_getElem? hx), ?_⟩⟩
   intro j u hj
   have := flat l hek i x hx j u hj
   rw [← htk, List.getElem?_take] at this
   split at this
   · simp only [World.cell?, hb]
     simpa [Nat.zero_add] using this
   · cases this
theorem CellsAt.ofB {w : World} {b : Nat} {t : TypeId} {cs : Array Value} (h : Blk w b t cs) : CellsAt w b 0 cs.toList := by
 intro j v hj
 rw [Nat.zero_add]
 exact h.c j v (by simpa using hj)
theorem CellsAt.newA {W : World} {g : Nat} (t : TypeId) (cs : Array Value) (h : W.heap.size = g) : CellsAt (W.alloc (.cells cs t)) g 0 cs.toList := by
 subst h
 exact CellsAt.ofB (Blk.new W t cs)
theorem owns_val {w : World} {base e k n : Nat} {v : Value} {xs : List Value} (h : w.ownsRow base e k v n xs) : ∃ a c, v = .slice a n c := by
 rcases h.2 with ⟨rfl, rfl⟩ | ⟨g, c, cur, rfl, _⟩
 · exact ⟨_, _, rfl⟩
 · exact ⟨_, _, rfl⟩
theorem owns_lt {w : World} {base e k n : Nat} {v : Value} {xs : List Value} (h : w.ownsRow base e k v n xs) {g : Nat} (hg : v.ownBlock = some g) : base ≤ g ∧ g < w.heap.size := h.lt g hg
theorem step_append_one {t e k : Nat} (E : Elem t e k) {ops : Array Oper} {o : Oper} {a : Act} {w : World} {K : Act → World → Prop} {Q : Exit → Act → World → Prop} {E' : Prop} (hgd : o.guard = none) (s x : Operand)
    (ho : o.op = .call { callee := .builtin .append, args := #[s, x], argTypes := #[t, t] }) (base : Nat) (v : Value) (n : Nat) (xs : List Value) (hs : a.eval s = v) (hown : w.ownsRow base e k v n xs)
    (g c : Nat) (news : List Value) (hx : a.eval x = .slice (some ⟨g, 0, none⟩) 1 c) (hl : news.length = k) (hnews : CellsAt w g 0 news) (h1 : ∀ u ∈ news, u.oneCell' = true)
    (hn : n + 1 ≤ 4294967296) (hbase : base ≤ w.heap.size)
    (h : ∀ g' c' w', w'.ownsRow base e k (.slice (some ⟨g', 0, none⟩) (n + 1) c') (n + 1) (xs ++ news) → Kp (fun b => v.ownBlock = some b) w w' → (v.ownBlock = some g' ∨ w.heap.size = g') → K (a.put o.dst (.slice (some ⟨g', 0, none⟩) (n + 1) c')) w') :
    if Region.wanted o (yielded ops a.tmps) = true then Oper.wp Tryz.prog o a w K Q else E' := by
 obtain ⟨i, z, bytes, ht, hi, hz, hsz, hby, hzs, hk, hb⟩ := E
 refine step_append_lies w hgd s x t ho base e i z k bytes ht hi hz hsz hby hzs hk v n xs hs hown ⟨g, 0, none⟩ 1 c news hx (by omega) ?_ h1 (by omega) (by unfold maxLen; omega) ?_ hbase w.heap.size rfl ?_
 · intro j u hj
   have := hnews j u hj
   rw [Nat.zero_add] at this
   unfold Addr.add
   split
   · rename_i hj0; subst hj0; exact this
   · simpa using this
 · have : (n + 1) * bytes ≤ 4294967296 * 4096 := Nat.mul_le_mul hn hb
   omega
 · intro g' c' w' h2 h3 h4 h5
   exact h g' c' w' h2 ⟨h3.os, h3.tape, h3.output, h3.size, fun k hk hd => h3.block k hk (fun e => hd e.symm)⟩ (h4.imp id Eq.symm)
theorem wpList_append_at {t e k : Nat} (E : Elem t e k) {ops : Array Oper} {rest : List Oper} {o : Oper} {a : Act} {w : World} {Q : Exit → Act → World → Prop} (hgd : o.guard = none) (s x : Operand)
    (ho : o.op = .call { callee := .builtin .append, args := #[s, x], argTypes := #[t, t] }) (base : Nat) (v : Value) (n : Nat) (xs : List Value) (hs : a.eval s = v) (hown : w.ownsRow base e k v n xs)
    (g c : Nat) (news : List Value) (hx : a.eval x = .slice (some ⟨g, 0, none⟩) 1 c) (hl : news.length = k) (hnews : CellsAt w g 0 news) (h1 : ∀ u ∈ news, u.oneCell' = true)
    (hn : n + 1 ≤ 4294967296) (hbase : base ≤ w.heap.size)
    (h : ∀ g' c' w', w'.ownsRow base e k (.slice (some ⟨g', 0, none⟩) (n + 1) c') (n + 1) (xs ++ news) → Kp (fun b => v.ownBlock = some b) w w' → (v.ownBlock = some g' ∨ w.heap.size = g') → wpList Tryz.prog ops Q rest (a.put o.dst (.slice (some ⟨g', 0, none⟩) (n + 1) c')) w') :
    wpList Tryz.prog ops Q (o :: rest) a w := by
 obtain ⟨i, z, bytes, ht, hi, hz, hsz, hby, hzs, hk, hb⟩ := E
 refine wpList_append_lies w hgd s x t ho base e i z k bytes ht hi hz hsz hby hzs hk v n xs hs hown ⟨g, 0, none⟩ 1 c news hx (by omega) ?_ h1 (by omega) (by unfold maxLen; omega) ?_ hbase w.heap.size rfl ?_
 · intro j u hj
   have := hnews j u hj
   rw [Nat.zero_add] at this
   unfold Addr.add
   split
   · rename_i hj0; subst hj0; exact this
   · simpa using this
 · have : (n + 1) * bytes ≤ 4294967296 * 4096 := Nat.mul_le_mul hn hb
   omega
 · intro g' c' w' h2 h3 h4 h5
   exact h g' c' w' h2 ⟨h3.os, h3.tape, h3.output, h3.size, fun k hk hd => h3.block k hk (fun e => hd e.symm)⟩ (h4.imp id Eq.symm)
end Go.Proofs.YtkndccgackohnaaGreatDoor
namespace Go.Proofs.YtkndccgackohnaaGreatDoor.M
structure MRef where
 of : Ref
 at_ : Int
def pickIn (p : Plan) (n : ByteArray) : List Ref → Option MRef
 | [] => none
 | c :: r => match methodIx (cls p c) n with
  | some i => some ⟨c, i⟩
  | none => pickIn p n r
def pick (p : Plan) (r : Ref) (n : ByteArray) : Option MRef := if canLay p r then pickIn p n (chain p r) else none
def linkClass (p : Plan) (k : Int) (n m : ByteArray) : Ref × Int :=
 if has p k && namOk n && namOk m then
  (if (find p k n).2 = 1 then (if canLay p (find p k n).1 then ((find p k n).1, 1) else (zref, 4)) else (zref, 2))
 else (zref, 2)
end Go.Proofs.YtkndccgackohnaaGreatDoor.M
namespace Go.Proofs.YtkndccgackohnaaGreatDoor.M
structure FRef where
 of : Ref
 at_ : Int
 kind : Kind
def zkind : Kind := ⟨0, none_⟩
def zfref : FRef := ⟨zref, 0, zkind⟩
def addFields (of : Ref) : List Field → List FRef → List FRef
 | [], acc => acc
 | f :: r, acc => addFields of r (acc ++ [⟨of, acc.length, f.kind⟩])
def layoutGo (p : Plan) : List Ref → List FRef → List FRef
 | [], acc => acc
 | c :: r, acc => layoutGo p r (addFields c (cls p c).fields acc)
def layout (p : Plan) (r : Ref) : List FRef := if canLay p r then layoutGo p (chain p r).reverse [] else []
def firstGo (p : Plan) (of : Ref) : List Ref → Nat → Nat
 | [], n => n
 | c :: r, n => if c = of then n else firstGo p of r (n + (cls p c).fields.length)
def firstField (p : Plan) (of low : Ref) : Nat := firstGo p of (chain p low).reverse 0
def fieldName (p : Plan) (r : Ref) (f : FRef) : ByteArray := (((cls p f.of).fields[(f.at_ - firstField p f.of r).toNat]?).map Field.name).getD none_
def getIn (p : Plan) (k : Int) (m : ByteArray) (r : Ref) : List FRef → FRef × Int
 | [] => (zfref, 3)
 | f :: l => if fieldName p r f = m then (if agree p k f.of.keeper f.kind then (f, 1) else (zfref, 4)) else getIn p k m r l
def get (p : Plan) (k : Int) (n m : ByteArray) : FRef × Int :=
 if (linkClass p k n m).2 = 1 then getIn p k m (linkClass p k n m).1 (layout p (linkClass p k n m).1) else (zfref, (linkClass p k n m).2)
def zmethod : Method := ⟨none_, [], zkind, 0, 0, [], []⟩
def zmref : MRef := ⟨zref, 0⟩
def method? (p : Plan) (m : MRef) : Option Method := if 0 ≤ m.at_ then (cls p m.of).methods[m.at_.toNat]? else none
def method (p : Plan) (m : MRef) : Method := (method? p m).getD zmethod
def call (p : Plan) (k : Int) (n m : ByteArray) : MRef × Int :=
 if (linkClass p k n m).2 = 1 then
  (match pick p (linkClass p k n m).1 m with
  | none => (zmref, 3)
  | some x => if agreeMethod p k x.of.keeper (method p x) then (x, 1) else (zmref, 4))
 else (zmref, (linkClass p k n m).2)
def hasMethod (p : Plan) (m : MRef) : Bool := canLay p m.of && decide (0 ≤ m.at_) && decide (m.at_ < (cls p m.of).methods.length)
structure Frm where
 locals : List Tag
 stack : List Tag
def ztag : Tag := ⟨0, none_⟩
def numTag : Tag := ⟨1, none_⟩
def nullTag : Tag := ⟨3, none_⟩
def clsTag (n : ByteArray) : Tag := ⟨2, n⟩
def tagOf (k : Kind) : Tag := if kndOk k then ⟨k.kind, k.name⟩ else ztag
def may (p : Plan) (k : Int) (a b : Tag) : Bool :=
 if b.kind = 0 ∨ a = b then true else if b.kind ≠ 2 then false else if a.kind = 3 then true else if a.kind ≠ 2 then false
 else decide ((find p k a.name).2 = 1) && decide ((find p k b.name).2 = 1) && under p (find p k a.name).1 (find p k b.name).1
def lkTake (s : Frm) : Option (Tag × Frm) := s.stack.getLast?.map fun t => (t, ⟨s.locals, s.stack.dropLast⟩)
def lkAs (p : Plan) (k : Int) (t : Tag) (s : Frm) : Option Frm := (lkTake s).bind fun x => if may p k x.1 t then some x.2 else none
def lkObj (s : Frm) : Option Frm := (lkTake s).bind fun x => if x.1.kind = 2 ∨ x.1.kind = 3 then some x.2 else none
def lkPut (m : Method) (t : Tag) (s : Frm) : Option Frm := if m.stack ≤ s.stack.length then none else some ⟨s.locals, s.stack ++ [t]⟩
def mayAll (p : Plan) (k : Int) : List Tag → List Tag → Bool
 | a :: r, b :: l => may p k a b && mayAll p k r l
 | _, _ => true
def suffices_ (p : Plan) (k : Int) (s : Frm) (f : SMap) : Bool := decide (f.stack.length = s.stack.length) && mayAll p k s.locals f.locals && mayAll p k s.stack f.stack
def mapAt (m : Method) (at_ : Int) : Option SMap := m.maps.find? fun f => f.at_ = at_
def lkBranch (p : Plan) (k : Int) (m : Method) (tgt : Int) (s : Frm) : Option Frm :=
 (mapAt m tgt).bind fun f => if suffices_ p k s f then some s else none
def lkMeet (p : Plan) (k : Int) (m : Method) (goes : Bool) (at_ : Int) (s : Frm) : Option Frm :=
 match mapAt m at_ with
 | none => if goes then some s else none
 | some f => if goes && !suffices_ p k s f then none else some ⟨f.locals, f.stack⟩
def lkAsAll (p : Plan) (k : Int) : List Kind → Frm → Option Frm
 | [], s => some s
 | a :: r, s => (lkAs p k (tagOf a) s).bind (lkAsAll p k r)
def lkIns (p : Plan) (k : Int) (m : Method) (i : Ins) (s : Frm) : Option Frm :=
 if i.op = 1 then lkPut m numTag s
 else if i.op = 2 then (s.locals[i.a.toNat]?).bind fun t => if t.kind = 0 then none else lkPut m t s
 else if i.op = 3 then (lkTake s).map fun x => ⟨x.2.locals.set i.a.toNat x.1, x.2.stack⟩
 else if i.op = 4 then (lkAs p k numTag s).bind fun s1 => (lkAs p k numTag s1).bind (lkPut m numTag)
 else if i.op = 5 then lkPut m nullTag s
 else if i.op = 6 then lkPut m (clsTag i.name) s
 else if i.op = 7 then (if (get p k i.name i.member).2 = 1 then (lkAs p k (clsTag i.name) s).bind (lkPut m (tagOf (get p k i.name i.member).1.kind)) else none)
 else if i.op = 8 then (if (get p k i.name i.member).2 = 1 then (lkAs p k (tagOf (get p k i.name i.member).1.kind) s).bind (lkAs p k (clsTag i.name)) else none)
 else if i.op = 9 then (if (call p k i.name i.member).2 = 1 then
     (lkAsAll p k (method p (call p k i.name i.member).1).args.reverse s).bind fun s1 => (lkAs p k (clsTag i.name) s1).bind (lkPut m (tagOf (method p (call p k i.name i.member).1).ret)) else none)
 else if i.op = 10 then lkAs p k (tagOf m.ret) s
 else if i.op = 11 then (lkAs p k numTag s).bind (lkBranch p k m i.a)
 else if i.op = 12 then (lkObj s).bind (lkBranch p k m i.a)
 else if i.op = 13 then lkBranch p k m i.a s
 else if i.op = 14 then lkAs p k numTag s
 else (lkObj s).bind (lkPut m (clsTag i.name))
def framesGo (p : Plan) (k : Int) (m : Method) : List Ins → Nat → Bool → Frm → List Frm → Sum Int (List Frm)
 | [], at_, goes, _, known => if goes then .inl (at_ + 1) else .inr known
 | i :: r, at_, goes, s, known =>
  match lkMeet p k m goes at_ s with
  | none => .inl (at_ + 1)
  | some s1 => match lkIns p k m i s1 with
   | none => .inl (at_ + 1)
   | some s2 => framesGo p k m r (at_ + 1) (decide (i.op ≠ 10) && decide (i.op ≠ 13)) s2 (known ++ [s1])
def lkStart (x : MRef) (m : Method) : Frm := ⟨(clsTag x.of.name :: m.args.map tagOf) ++ List.replicate (m.locals.toNat - (m.args.length + 1)) ztag, []⟩
def look (p : Plan) (x : MRef) : List Frm × Int :=
 match framesGo p x.of.keeper (method p x) (method p x).code 0 true (lkStart x (method p x)) [] with
 | .inl n => ([], n)
 | .inr l => (l, 0)
def right (p : Plan) (x : MRef) : Bool := decide ((look p x).2 = 0)
def lookClass (p : Plan) (r : Ref) : Bool := canLay p r && (List.range (cls p r).methods.length).all fun i => right p ⟨r, i⟩
structure Val where
 kind : Int
 n : Int
theorem Val.ext_iff' {a b : Val} : a = b ↔ a.kind = b.kind ∧ a.n = b.n := by
 cases a; cases b; simp
instance : DecidableEq Val := fun _ _ => decidable_of_iff' _ Val.ext_iff'
structure VObj where
 of : Ref
 fields : List Val
structure Fr where
 of : MRef
 pc : Int
 locals : List Val
 stack : List Val
structure St where
 status : Int
 frames : List Fr
 heap : List VObj
 outs : List Int
 back : Val
def zval : Val := ⟨0, 0⟩
def nullVal : Val := ⟨3, 0⟩
def numVal (n : Int) : Val := ⟨1, n⟩
def zst : St := ⟨0, [], [], [], zval⟩
def numOk (n : Int) : Bool := decide (-9999 ≤ n) && decide (n ≤ 9999)
def valOk (v : Val) (objs : Nat) : Bool :=
 if v.kind = 0 ∨ v.kind = 3 then decide (v.n = 0) else if v.kind = 1 then numOk v.n else if v.kind = 2 then decide (0 ≤ v.n) && decide (v.n < objs) else false
def heapOk (p : Plan) (h : List VObj) : Bool :=
 decide (h.length ≤ 12) && h.all fun o => canLay p o.of && decide (o.fields.length = (layout p o.of).length) && o.fields.all (valOk · h.length)
def ofAt (h : List VObj) (n : Int) : Ref := ((h[n.toNat]?).map VObj.of).getD zref
def hasType (p : Plan) (k : Int) (h : List VObj) (v : Val) (t : Kind) : Bool :=
 if t.kind = 1 then decide (v.kind = 1) else if v.kind = 3 then true else if v.kind ≠ 2 then false
 else decide ((find p k t.name).2 = 1) && under p (ofAt h v.n) (find p k t.name).1
def fits (p : Plan) (k : Int) (h : List VObj) (v : Val) (t : Tag) : Bool :=
 if t.kind = 0 then true else if t.kind = 3 then decide (v.kind = 3) else hasType p k h v ⟨t.kind, t.name⟩
def frameOk (p : Plan) (f : Fr) (objs : Nat) : Bool :=
 hasMethod p f.of && decide (0 ≤ f.pc) && decide (f.pc < (method p f.of).code.length) && decide ((f.locals.length : Int) = (method p f.of).locals) &&
 decide ((f.stack.length : Int) ≤ (method p f.of).stack) && f.locals.all (valOk · objs) && f.stack.all (valOk · objs)
def vmOk (p : Plan) (s : St) : Bool :=
 decide (1 ≤ s.status) && decide (s.status ≤ 10) && decide (s.heap.length ≤ 12) && decide (s.outs.length ≤ 40) && decide (s.frames.length ≤ 8) &&
 (decide (0 < s.frames.length) == decide (s.status = 1)) && s.outs.all numOk && s.frames.all (frameOk p · s.heap.length) && heapOk p s.heap && valOk s.back s.heap.length
def onTop (s : St) (f : Fr → Fr) : St := { s with frames := s.frames.dropLast ++ (s.frames.getLast?.map f).toList }
def top (s : St) : Fr := s.frames.getLastD ⟨zmref, 0, [], []⟩
def jump (p : Plan) (tgt : Int) (s : St) : Int × St :=
 if ((method p (top s).of).code.length : Int) ≤ tgt then (10, s) else (1, onTop s fun f => { f with pc := tgt })
def next (p : Plan) (s : St) : Int × St := jump p ((top s).pc + 1) s
def push (p : Plan) (v : Val) (s : St) : Int × St :=
 if (method p (top s).of).stack ≤ (top s).stack.length then (10, s) else next p (onTop s fun f => { f with stack := f.stack ++ [v] })
def popAll (c : Nat) (s : St) : Option (List Val × St) :=
 if (top s).stack.length < c then none
 else some ((top s).stack.drop ((top s).stack.length - c), onTop s fun f => { f with stack := f.stack.take (f.stack.length - c) })
def pop (s : St) : Option (Val × St) := (popAll 1 s).map fun x => (x.1.headD zval, x.2)
def class_ (p : Plan) (n : ByteArray) (s : St) : Ref × Bool :=
 ((find p (top s).of.of.keeper n).1, decide ((find p (top s).of.of.keeper n).2 = 1) && canLay p (find p (top s).of.of.keeper n).1)
def fresh (p : Plan) (r : Ref) : VObj := ⟨r, (layout p r).map fun f => if f.kind.kind = 1 then numVal 0 else nullVal⟩
def create (p : Plan) (r : Ref) (s : St) : Val × St := (⟨2, s.heap.length⟩, { s with heap := s.heap ++ [fresh p r] })
def object (p : Plan) (v : Val) (t : Ref) (s : St) : Int :=
 if v.kind = 3 then 3 else if v.kind ≠ 2 then 10 else if under p (ofAt s.heap v.n) t then 1 else 10
def hasTypes (p : Plan) (k : Int) (h : List VObj) : List Val → List Kind → Bool
 | v :: r, t :: l => hasType p k h v t && hasTypes p k h r l
 | _, _ => true
def enter (p : Plan) (lk : Bool) (x : MRef) (vs : List Val) (s : St) : Int × St :=
 if 8 ≤ s.frames.length then (7, s)
 else if lk && !right p x then (5, s)
 else if hasTypes p x.of.keeper s.heap vs (⟨2, x.of.name⟩ :: (method p x).args) then
  (1, { s with frames := s.frames ++ [⟨x, 0, vs ++ List.replicate ((method p x).locals.toNat - vs.length) zval, []⟩] })
 else (10, s)
def end_ (c : Int) (s : St) : St := if c = 1 then s else { s with status := c, frames := [] }
def fieldsAt (h : List VObj) (n : Int) : List Val := ((h[n.toNat]?).map VObj.fields).getD []
def setField (h : List VObj) (n a : Int) (v : Val) : List VObj := h.modify n.toNat fun o => { o with fields := o.fields.set a.toNat v }
def doIns (p : Plan) (lk : Bool) (i : Ins) (s : St) : Int × St :=
 if i.op = 1 then push p (numVal i.a) s
 else if i.op = 2 then (if (((top s).locals[i.a.toNat]?).getD zval).kind = 0 then (10, s) else push p (((top s).locals[i.a.toNat]?).getD zval) s)
 else if i.op = 3 then (match pop s with
  | none => (10, s)
  | some (v, s1) => next p (onTop s1 fun f => { f with locals := f.locals.set i.a.toNat v }))
 else if i.op = 4 then (match popAll 2 s with
  | some ([a, b], s1) => if a.kind = 1 ∧ b.kind = 1 then (if numOk (a.n + b.n) then push p (numVal (a.n + b.n)) s1 else (9, s1)) else (10, s1)
  | _ => (10, s))
 else if i.op = 5 then push p nullVal s
 else if i.op = 6 then (if (class_ p i.name s).2 then (if 12 ≤ s.heap.length then (8, s) else push p (create p (class_ p i.name s).1 s).1 (create p (class_ p i.name s).1 s).2) else (4, s))
 else if i.op = 7 then (if (get p (top s).of.of.keeper i.name i.member).2 = 1 then
     (match pop s with
     | none => (10, s)
     | some (v, s1) =>
      if object p v (get p (top s).of.of.keeper i.name i.member).1.of s1 = 1 then
       push p (((fieldsAt s1.heap v.n)[(get p (top s).of.of.keeper i.name i.member).1.at_.toNat]?).getD zval) s1
      else (object p v (get p (top s).of.of.keeper i.name i.member).1.of s1, s1))
  else (4, s))
 else if i.op = 8 then (if (get p (top s).of.of.keeper i.name i.member).2 = 1 then
     (match popAll 2 s with
     | some ([o, v], s1) =>
      if hasType p (get p (top s).of.of.keeper i.name i.member).1.of.keeper s1.heap v (get p (top s).of.of.keeper i.name i.member).1.kind then
       (if object p o (get p (top s).of.of.keeper i.name i.member).1.of s1 = 1 then
        next p { s1 with heap := setField s1.heap o.n (get p (top s).of.of.keeper i.name i.member).1.at_ v }
       else (object p o (get p (top s).of.of.keeper i.name i.member).1.of s1, s1))
      else (10, s1)
     | _ => (10, s))
  else (4, s))
 else if i.op = 9 then (if (call p (top s).of.of.keeper i.name i.member).2 = 1 then
     (match popAll ((method p (call p (top s).of.of.keeper i.name i.member).1).args.length + 1) s with
     | some (vs, s1) =>
      if object p (vs.headD zval) (call p (top s).of.of.keeper i.name i.member).1.of s1 = 1 then
       (match pick p (ofAt s1.heap (vs.headD zval).n) i.member with
       | some x => enter p lk x vs s1
       | none => (10, s1))
      else (object p (vs.headD zval) (call p (top s).of.of.keeper i.name i.member).1.of s1, s1)
     | none => (10, s))
  else (4, s))
 else if i.op = 10 then (match pop s with
  | none => (10, s)
  | some (v, s1) => if hasType p (top s).of.of.keeper s1.heap v (method p (top s).of).ret then
      (if s1.frames.length = 1 then (2, { s1 with back := v }) else push p v { s1 with frames := s1.frames.dropLast })
   else (10, s1))
 else if i.op = 11 then (match pop s with
  | none => (10, s)
  | some (v, s1) => if v.kind = 1 then (if v.n = 0 then jump p i.a s1 else next p s1) else (10, s1))
 else if i.op = 12 then (match pop s with
  | none => (10, s)
  | some (v, s1) => if v.kind = 2 ∨ v.kind = 3 then (if v.kind = 3 then jump p i.a s1 else next p s1) else (10, s1))
 else if i.op = 13 then jump p i.a s
 else if i.op = 14 then (match pop s with
  | none => (10, s)
  | some (v, s1) => if v.kind = 1 then next p (if s1.outs.length < 40 then { s1 with outs := s1.outs ++ [v.n] } else s1) else (10, s1))
 else (match pop s with
  | none => (10, s)
  | some (v, s1) => if v.kind = 2 ∨ v.kind = 3 then
      (if v.kind = 3 then push p v s1
      else if (class_ p i.name s1).2 then (if under p (ofAt s1.heap v.n) (class_ p i.name s1).1 then push p v s1 else (6, s1)) else (4, s1))
   else (10, s1))
def zins : Ins := ⟨0, 0, none_, none_⟩
def stepped (p : Plan) (lk : Bool) (s : St) : Int × St := doIns p lk (((method p (top s).of).code[(top s).pc.toNat]?).getD zins) s
def step (p : Plan) (lk : Bool) (s : St) : St := if s.status = 1 then end_ (stepped p lk s).1 (stepped p lk s).2 else s
def steps (p : Plan) (lk : Bool) : Nat → St → St
 | 0, s => s
 | f + 1, s => if s.status = 1 then steps p lk f (step p lk s) else s
def startable (m : Method) (args : List Int) : Bool := decide (m.args.length = args.length) && m.args.all fun k => decide (k.kind = 1)
def linkSt : St := ⟨4, [], [], [], zval⟩
def start (p : Plan) (lk : Bool) (k : Int) (n m : ByteArray) (args : List Int) : St :=
 if (find p k n).2 = 1 ∧ canLay p (find p k n).1 = true then
  (if (call p k n m).2 = 1 ∧ startable (method p (call p k n m).1) args = true then
   end_ (enter p lk (call p k n m).1 (⟨2, 0⟩ :: args.map numVal) ⟨1, [], [fresh p (find p k n).1], [], zval⟩).1
    (enter p lk (call p k n m).1 (⟨2, 0⟩ :: args.map numVal) ⟨1, [], [fresh p (find p k n).1], [], zval⟩).2
  else linkSt)
 else linkSt
def vmNew (p : Plan) (lk : Bool) (k : Int) (n m : ByteArray) (args : List Int) : St :=
 if lodOk p && has p k && namOk n && namOk m && args.all numOk then start p lk k n m args else zst
def vmRun (p : Plan) (lk : Bool) (s : St) (fuel : Int) : St :=
 if decide (fuel ≤ 400) && lodOk p && vmOk p s then steps p lk fuel.toNat s else zst
def classes (p : Plan) : List Ref :=
 (List.range p.length).flatMap fun k => (((p[k]?).map fun q => q.owns.map fun c => (⟨k, c.name⟩ : Ref)).getD []).filter fun r => decide (0 < (chain p r).length)
def planRight (p : Plan) : Bool := lodOk p && (classes p).all (lookClass p)
end Go.Proofs.YtkndccgackohnaaGreatDoor.M
