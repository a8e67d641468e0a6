/- Walks. -/
import Derived.WalkKit
import Derived.Deep.Draws
import Derived.Test.YtohpiobncgafeaaGreatDoorProg
import Derived.Test.YtohpiobncgafeaaGreatDoorLnka
import Derived.WalkLawsBesides
import Derived.WalkSpells
import Derived.Lib.Hide
import Derived.Deep.QuietTactic
import Derived.BigQuiet
import Derived.OwnWalk
import Derived.OwnWalkIn
import Derived.WalkSmall
import Derived.Deep.RegionLaw
import Derived.Deep.AppendLies
import Derived.Deep.Quiet
import Derived.Deep.RegionWith
import Derived.Deep.RegionHeld3
import Derived.StillTailTactics
import Derived.Maps.Own
set_option maxRecDepth 100000
set_option maxHeartbeats 4000000
set_option linter.unusedSimpArgs false
set_option linter.unusedVariables false
namespace Go.Proofs.YtohpiobncgafeaaGreatDoor
open Go Go.RowKit
theorem aS{w:World}{b o:Nat}{v:Value}(h:w.cell? ⟨b,o,none⟩=some v):b<w.heap.size:=by
 rcases Nat.lt_or_ge b w.heap.size with h1|h1
 · exact h1
 · simp[World.cell?,Array.getElem?_eq_none h1]at h
structure Kp(D:Nat→Prop)(w w':World):Prop where
 os:w'.os=w.os
 tape:w'.tape=w.tape
 output:w'.output=w.output
 size:w.heap.size≤w'.heap.size
 block:∀k,k<w.heap.size→¬D k→w'.heap[k]?=w.heap[k]?
section
variable {D D':Nat→Prop} {w w' a b c:World}
theorem Kp.refl(D:Nat→Prop)(w:World):Kp D w w:=⟨rfl,rfl,rfl,Nat.le_refl _,fun _ _ _=>rfl⟩
theorem Kp.trans(h:Kp D a b)(k:Kp D b c):Kp D a c:=
 ⟨k.os.trans h.os,k.tape.trans h.tape,k.output.trans h.output,Nat.le_trans h.size k.size,
  fun i hi hd=>(k.block i (Nat.lt_of_lt_of_le hi h.size) hd).trans (h.block i hi hd)⟩
theorem Kp.weak(h:Kp D a b)(hD:∀k,k<a.heap.size→D k→D' k):Kp D' a b:=
 ⟨h.os,h.tape,h.output,h.size,fun k hk hd=>h.block k hk fun x=>hd (hD k hk x)⟩
theorem Kp.below(h:Kp D a b)(n:Nat)(hn:n≤a.heap.size)(hD:∀k,k<n→¬D k):Below n a b:=
 ⟨h.os,h.tape,h.output,h.size,fun k hk=>h.block k (by omega) (hD k hk)⟩
theorem Kp.alloc(h:Kp D a b)(o:Obj):Kp D a (b.alloc o):=
 ⟨h.os,h.tape,h.output,by simp;exact Nat.le_succ_of_le h.size,fun k hk hd=>(Below.heap_alloc b o k (Nat.lt_of_lt_of_le hk h.size)).trans (h.block k hk hd)⟩
theorem Kp.drew(h:Kp D a b):Kp D a b.drew:=⟨h.os,h.tape,h.output,h.size,h.block⟩
theorem Kp.drewN(h:Kp D a b)(n:Nat):Kp D a (b.drewN n):=⟨h.os,h.tape,h.output,h.size,h.block⟩
theorem Kp.setCell(h:Kp D a b){p:Addr}(hp:p.block<a.heap.size→D p.block)(v:Value):Kp D a (b.setCell p v):=
 ⟨h.os,h.tape,h.output,by simp[World.setCell];exact h.size,
  fun k hk hd=>(Below.heap_setCell b p v k (fun e=>hd (by subst e;exact hp hk))).trans (h.block k hk hd)⟩
theorem Kp.cell(h:Kp D a b){k o:Nat}(hk:k<a.heap.size)(hd:¬D k):b.cell? ⟨k,o,none⟩=a.cell? ⟨k,o,none⟩:=
 World.cell?_of_block (h.block k hk hd)
theorem Kp.frozen(h:Kp D a b){k o:Nat}(hk:k<a.heap.size)(hd:¬D k):b.frozen? ⟨k,o,none⟩=a.frozen? ⟨k,o,none⟩:=
 World.frozen?_of_block (h.block k hk hd)
abbrev Ext(w w':World):Prop:=Kp (fun _=>False) w w'
theorem Kp.any(h:Ext a b):Kp D a b:=h.weak fun _ _ x=>x.elim
theorem Ext.Og{w w':World}(h:Ext w w'):Below w.heap.size w w':=Kp.below h _ (Nat.le_refl _) fun _ _ x=>x
theorem Kp.aJ(h:Ext a b){k o:Nat}{v:Value}(hc:a.cell? ⟨k,o,none⟩=some v):b.cell? ⟨k,o,none⟩=some v:=
 (h.cell (aS hc) (fun x=>x)).trans hc
theorem Kp.jF(h:Kp D a b){k o:Nat}{v:Value}(hc:a.cell? ⟨k,o,none⟩=some v)(hd:¬D k):b.cell? ⟨k,o,none⟩=some v:=
 (h.cell (aS hc) hd).trans hc
theorem Kp.Ii{o':Obj}(h:Ext (a.alloc o') b){k o:Nat}{v:Value}(hc:a.cell? ⟨k,o,none⟩=some v):b.cell? ⟨k,o,none⟩=some v:=
 h.aJ (((Kp.refl _ _).alloc _:Ext a _).aJ hc)
inductive KX(D:Nat→Prop)(w:World):World→Prop
 |r:KX D w w
 |a {b:World} {o:Obj}:KX D w b→KX D w (b.alloc o)
 |d {b:World}:KX D w b→KX D w b.drew
 |n {b:World} {k:Nat}:KX D w b→KX D w (b.drewN k)
 |h {b:World}:Kp D w b→KX D w b
theorem KX.k{D:Nat→Prop}{w b:World}(h:KX D w b):Kp D w b:=by
 induction h with
 |r=>exact Kp.refl _ _
 |a _ ih=>exact ih.alloc _
 |d _ ih=>exact ih.drew
 |n _ ih=>exact ih.drewN _
 |h h=>exact h
theorem kx{D:Nat→Prop}{w b:World}(h:KX D w b:=by repeat (first|assumption|constructor)):Kp D w b:=h.k
theorem DZ{W w1:World}(hb:Ext W w1):
    (∀b o,b<W.heap.size→w1.cell? ⟨b,o,none⟩=W.cell? ⟨b,o,none⟩)∧(∀b o,b<W.heap.size→w1.frozen? ⟨b,o,none⟩=W.frozen? ⟨b,o,none⟩):=
 ⟨fun _ _ h=>hb.cell h fun x=>x,fun _ _ h=>hb.frozen h fun x=>x⟩
end
def az(w:World)(g:Nat)(t:TypeId)(cs:Array Value):Prop:=w.heap[g]?=some (.cells cs t (0,0))
section
variable {w w':World} {g:Nat} {t:TypeId} {cs:Array Value}
theorem az.lt(h:az w g t cs):g<w.heap.size:=by
 rcases Nat.lt_or_ge g w.heap.size with cK|hge
 · exact cK
 · unfold az at h;rw[Array.getElem?_eq_none hge]at h;cases h
theorem az.cell(h:az w g t cs)(i:Nat):w.cell? ⟨g,i,none⟩=cs[i]?:=by
 unfold az at h;simp[World.cell?,h]
theorem az.c(h:az w g t cs)(i:Nat)(v:Value)(hv:cs[i]?=some v):w.cell? ⟨g,i,none⟩=some v:=(h.cell i).trans hv
theorem az.frozen(h:az w g t cs)(i:Nat):w.frozen? ⟨g,i,none⟩=false:=by
 unfold az at h;simp[World.frozen?,h]
theorem az.keep(h:az w g t cs)(hk:w'.heap[g]?=w.heap[g]?):az w' g t cs:=hk.trans h
theorem az.ext(h:az w g t cs)(hb:Ext w w'):az w' g t cs:=(hb.block g h.lt fun x=>x).trans h
theorem az.kp{D:Nat→Prop}(h:az w g t cs)(hb:Kp D w w')(hg:¬D g):az w' g t cs:=(hb.block g h.lt hg).trans h
theorem az.new(w:World)(t:TypeId)(cs:Array Value):az (w.alloc (.cells cs t)) w.heap.size t cs:=by
 unfold az World.alloc;simp
theorem nu(w:World)(cs:Array Value)(t:TypeId):∃x,x=w.alloc (.cells cs t)∧Ext w x∧az x w.heap.size t cs:=⟨_,rfl,(Kp.refl _ _).alloc _,az.new _ _ _⟩
theorem az.bA(h:az w g t cs)(i:Nat)(u:Value):az (w.setCell ⟨g,i,none⟩ u) g t (cs.setIfInBounds i u):=by
 unfold az at h ⊢;simp[World.setCell,Array.getElem?_modify,h]
end
def af(w:World)(b o:Nat)(cs:List Value):Prop:=∀j v,cs[j]?=some v→w.cell? ⟨b,o+j,none⟩=some v
abbrev fD(α:Type):=World→(Nat→Prop)→α→List Value→Prop
def SliceOf{α:Type}(k:Nat)(R:fD α)(w:World)(I:Nat→Prop)(v:Value)(xs:List α):Prop:=
 ∃a cap,v=.slice a xs.length cap∧xs.length≤cap∧xs.length≤4294967296∧
  ∀i x,xs[i]?=some x→∃b off cs,a=some ⟨b,off,none⟩∧I b∧R w I x cs∧cs.length=k∧af w b (off+i*k) cs
theorem af.keep{w w':World}{b o:Nat}{cs:List Value}(h:af w b o cs)(hs:∀o v,w.cell? ⟨b,o,none⟩=some v→w'.cell? ⟨b,o,none⟩=some v):af w' b o cs:=
 fun j v hj=>hs _ _ (h j v hj)
def Same(I:Nat→Prop)(w w':World):Prop:=∀b o v,I b→w.cell? ⟨b,o,none⟩=some v→w'.cell? ⟨b,o,none⟩=some v
theorem Ext.same{I:Nat→Prop}{w w':World}(h:Ext w w'):Same I w w':=fun _ _ _ _ hc=>Kp.aJ h hc
theorem Kp.same{I D:Nat→Prop}{w w':World}(h:Kp D w w')(hI:∀b,I b→¬D b):Same I w w':=fun b _ _ hb hc=>h.jF hc (hI b hb)
def bD{α:Type}(R:fD α):Prop:=∀(w w':World) (I J:Nat→Prop) (x:α) (cs:List Value),Same I w w'→(∀b,I b→J b)→R w I x cs→R w' J x cs
theorem SliceOf.keep{α:Type}{k:Nat}{R:fD α}(hR:bD R){w w':World}{I J:Nat→Prop}{v:Value}{xs:List α}(h:SliceOf k R w I v xs)
    (hs:Same I w w') (KU:∀b,I b→J b):SliceOf k R w' J v xs:=by
 obtain⟨a,cap,e,h1,h2,h3⟩:=h;refine⟨a,cap,e,h1,h2,fun i x hx=>?_⟩;obtain⟨b,off,cs',ea,hI,hr,hl,hc⟩:=h3 i x hx;exact⟨b,off,cs',ea,KU b hI,hR _ _ _ _ _ _ hs KU hr,hl,hc.keep fun o v=>hs b o v hI⟩
theorem SliceOf.ext{α:Type}{k:Nat}{R:fD α}{w w':World}{I:Nat→Prop}{v:Value}{xs:List α}(h:SliceOf k R w I v xs)(hR:bD R)(hE:Ext w w'):SliceOf k R w' I v xs:=
 h.keep hR (Ext.same hE) fun _ h=>h
theorem SliceOf.get{α:Type}{k:Nat}{R:fD α}{w:World}{I:Nat→Prop}{a:Option Addr}{n cap:Nat}{xs:List α}(h:SliceOf k R w I (.slice a n cap) xs){i:Nat}{x:α}(hx:xs[i]?=some x):
    ∃b off cs,a=some ⟨b,off,none⟩∧I b∧R w I x cs∧cs.length=k∧af w b (off+i*k) cs:=by
 obtain⟨a',cap',e,h1,h2,h3⟩:=h;cases e;exact h3 i x hx
theorem SliceOf.form{α:Type}{k:Nat}{R:fD α}{w:World}{I:Nat→Prop}{v:Value}{xs:List α}(h:SliceOf k R w I v xs):
    ∃a cap,v=.slice a xs.length cap∧xs.length≤cap∧xs.length≤4294967296:=by
 obtain⟨a,cap,e,h1,h2,_⟩:=h;exact⟨a,cap,e,h1,h2⟩
theorem SliceOf.nil{α:Type}(k:Nat)(R:fD α)(w:World)(I:Nat→Prop):SliceOf k R w I (.slice none 0 0) ([]:List α):=
 ⟨none,0,rfl,Nat.le_refl _,by simp,fun i x hx=>by simp at hx⟩
theorem SliceOf.take{α:Type}{k:Nat}{R:fD α}{w:World}{I:Nat→Prop}{a:Option Addr}{n cap:Nat}{xs:List α}(h:SliceOf k R w I (.slice a n cap) xs){i:Nat}(hi:i≤xs.length):
    SliceOf k R w I (.slice a i cap) (xs.take i):=by
 obtain⟨a',cap',e,h1,h2,h3⟩:=h;cases e;refine⟨a,cap,by rw[List.length_take,Nat.min_eq_left hi],by rw[List.length_take];omega,by rw[List.length_take];omega,fun j x hx=>?_⟩;rw[List.getElem?_take]at hx;split at hx
 · exact h3 j x hx
 · cases hx
def eZ:fD M.Kind:=fun _ _ x cs=>cs=[.int .i64 x.kind,.string x.name]
def eU:fD M.Tag:=fun _ _ x cs=>cs=[.int .i64 x.kind,.string x.name]
def lD:fD M.Ins:=fun _ _ x cs=>cs=[.int .i64 x.op,.int .i64 x.a,.string x.name,.string x.member]
def uL:fD M.Ref:=fun _ _ x cs=>cs=[.int .i64 x.keeper,.string x.name]
def Ja:fD M.Ask:=fun _ _ x cs=>cs=[.string x.name,.int .i64 x.keeper]
def lN:fD M.Field:=fun _ _ x cs=>cs=[.string x.name,.int .i64 x.kind.kind,.string x.kind.name]
def kL:fD Int:=fun _ _ x cs=>cs=[.int .i64 x]
def iB:fD M.SMap:=fun w I x cs=>∃vl vs,cs=[.int .i64 x.at_,vl,vs]∧SliceOf 2 eU w I vl x.locals∧SliceOf 2 eU w I vs x.stack
def aC:fD M.Method:=fun w I x cs=>∃va vc vm,cs=[.string x.name,va,.int .i64 x.ret.kind,.string x.ret.name,.int .i64 x.locals,.int .i64 x.stack,vc,vm]∧
 SliceOf 2 eZ w I va x.args∧SliceOf 4 lD w I vc x.code∧SliceOf 3 iB w I vm x.maps
def aL:fD M.Class:=fun w I x cs=>∃vf vm,cs=[.string x.name,.string x.aW,vf,vm]∧SliceOf 3 lN w I vf x.fields∧SliceOf 8 aC w I vm x.methods
def aH:fD M.jc:=fun w I x cs=>∃vo va,cs=[vo,va]∧SliceOf 4 aL w I vo x.owns∧SliceOf 2 Ja w I va x.asks
theorem aC.form{w:World}{I:Nat→Prop}{x:M.Method}{cs:List Value}(h:aC w I x cs):∃a1 c1 a2 c2 a3 c3,
    cs=[.string x.name,.slice a1 x.args.length c1,.int .i64 x.ret.kind,.string x.ret.name,.int .i64 x.locals,.int .i64 x.stack,.slice a2 x.code.length c2,.slice a3 x.maps.length c3]:=by
 obtain⟨_,_,_,rfl,h1,h2,h3⟩:=h;obtain⟨a1,c1,rfl,_⟩:=h1.form;obtain⟨a2,c2,rfl,_⟩:=h2.form;obtain⟨a3,c3,rfl,_⟩:=h3.form;exact⟨a1,c1,a2,c2,a3,c3,rfl⟩
theorem aL.form{w:World}{I:Nat→Prop}{x:M.Class}{cs:List Value}(h:aL w I x cs):∃a1 c1 a2 c2,
    cs=[.string x.name,.string x.aW,.slice a1 x.fields.length c1,.slice a2 x.methods.length c2]:=by
 obtain⟨_,_,rfl,h1,h2⟩:=h;obtain⟨a1,c1,rfl,_⟩:=h1.form;obtain⟨a2,c2,rfl,_⟩:=h2.form;exact⟨a1,c1,a2,c2,rfl⟩
theorem aH.form{w:World}{I:Nat→Prop}{x:M.jc}{cs:List Value}(h:aH w I x cs):∃a1 c1 a2 c2,
    cs=[.slice a1 x.owns.length c1,.slice a2 x.asks.length c2]:=by
 obtain⟨_,_,rfl,h1,h2⟩:=h;obtain⟨a1,c1,rfl,_⟩:=h1.form;obtain⟨a2,c2,rfl,_⟩:=h2.form;exact⟨a1,c1,a2,c2,rfl⟩
theorem iB.form{w:World}{I:Nat→Prop}{x:M.SMap}{cs:List Value}(h:iB w I x cs):∃a1 c1 a2 c2,
    cs=[.int .i64 x.at_,.slice a1 x.locals.length c1,.slice a2 x.stack.length c2]:=by
 obtain⟨_,_,rfl,h1,h2⟩:=h;obtain⟨a1,c1,rfl,_⟩:=h1.form;obtain⟨a2,c2,rfl,_⟩:=h2.form;exact⟨a1,c1,a2,c2,rfl⟩
theorem eZ.stays:bD eZ:=fun _ _ _ _ _ _ _ _ h=>h
theorem eU.stays:bD eU:=fun _ _ _ _ _ _ _ _ h=>h
theorem lD.stays:bD lD:=fun _ _ _ _ _ _ _ _ h=>h
theorem uL.stays:bD uL:=fun _ _ _ _ _ _ _ _ h=>h
theorem Ja.stays:bD Ja:=fun _ _ _ _ _ _ _ _ h=>h
theorem lN.stays:bD lN:=fun _ _ _ _ _ _ _ _ h=>h
theorem kL.stays:bD kL:=fun _ _ _ _ _ _ _ _ h=>h
theorem iB.stays:bD iB:=fun _ _ _ _ _ _ hs hI ⟨vl,vs,e,h1,h2⟩=>⟨vl,vs,e,h1.keep eU.stays hs hI,h2.keep eU.stays hs hI⟩
theorem aC.stays:bD aC:=fun _ _ _ _ _ _ hs hI ⟨va,vc,vm,e,h1,h2,h3⟩=>
 ⟨va,vc,vm,e,h1.keep eZ.stays hs hI,h2.keep lD.stays hs hI,h3.keep iB.stays hs hI⟩
theorem aL.stays:bD aL:=fun _ _ _ _ _ _ hs hI ⟨vf,vm,e,h1,h2⟩=>⟨vf,vm,e,h1.keep lN.stays hs hI,h2.keep aC.stays hs hI⟩
theorem aH.stays:bD aH:=fun _ _ _ _ _ _ hs hI ⟨vo,va,e,h1,h2⟩=>⟨vo,va,e,h1.keep aL.stays hs hI,h2.keep Ja.stays hs hI⟩
theorem af.two{w:World}{b o:Nat}{x y:Value}(h:af w b o [x,y]):w.cell? ⟨b,o,none⟩=some x∧w.cell? ⟨b,o+1,none⟩=some y:=
 ⟨by simpa using h 0 x rfl,h 1 y rfl⟩
theorem af.one{w:World}{b o:Nat}{x:Value}(h:af w b o [x]):w.cell? ⟨b,o,none⟩=some x:=by simpa using h 0 x rfl
theorem af.three{w:World}{b o:Nat}{x y z:Value}(h:af w b o [x,y,z]):
    w.cell? ⟨b,o,none⟩=some x∧w.cell? ⟨b,o+1,none⟩=some y∧w.cell? ⟨b,o+2,none⟩=some z:=
 ⟨by simpa using h 0 x rfl,h 1 y rfl,h 2 z rfl⟩
theorem af.four{w:World}{b o:Nat}{x y z u:Value}(h:af w b o [x,y,z,u]):
    w.cell? ⟨b,o,none⟩=some x∧w.cell? ⟨b,o+1,none⟩=some y∧w.cell? ⟨b,o+2,none⟩=some z∧w.cell? ⟨b,o+3,none⟩=some u:=
 ⟨by simpa using h 0 x rfl,h 1 y rfl,h 2 z rfl,h 3 u rfl⟩
theorem af.eight{w:World}{b o:Nat}{x0 x1 x2 x3 x4 x5 x6 x7:Value}(h:af w b o [x0,x1,x2,x3,x4,x5,x6,x7]):
    w.cell? ⟨b,o,none⟩=some x0∧w.cell? ⟨b,o+1,none⟩=some x1∧w.cell? ⟨b,o+2,none⟩=some x2∧w.cell? ⟨b,o+3,none⟩=some x3∧
    w.cell? ⟨b,o+4,none⟩=some x4∧w.cell? ⟨b,o+5,none⟩=some x5∧w.cell? ⟨b,o+6,none⟩=some x6∧w.cell? ⟨b,o+7,none⟩=some x7:=
 ⟨by simpa using h 0 x0 rfl,h 1 x1 rfl,h 2 x2 rfl,h 3 x3 rfl,h 4 x4 rfl,h 5 x5 rfl,h 6 x6 rfl,h 7 x7 rfl⟩
theorem af.ext{w w':World}{b o:Nat}{cs:List Value}(h:af w b o cs)(hb:Ext w w'):af w' b o cs:=fun j v hj=>hb.aJ (h j v hj)
theorem af.kp{D:Nat→Prop}{w w':World}{b o:Nat}{cs:List Value}(h:af w b o cs)(hk:Kp D w w')(hD:¬D b):af w' b o cs:=fun j v hj=>hk.jF (h j v hj) hD
end Go.Proofs.YtohpiobncgafeaaGreatDoor
namespace Go.Proofs.YtohpiobncgafeaaGreatDoor
open Go Go.RowKit
theorem Kp.N9{D:Nat→Prop}{w:World}{b:Nat}(hD:D b)(v0 v1 v2 v3 v4 v5 v6 v7:Value):Kp D w ((((((((w.setCell ⟨b,0,none⟩ v0).setCell ⟨b,1,none⟩ v1).setCell ⟨b,2,none⟩ v2).setCell ⟨b,3,none⟩ v3).setCell ⟨b,4,none⟩ v4).setCell ⟨b,5,none⟩ v5).setCell ⟨b,6,none⟩ v6).setCell ⟨b,7,none⟩ v7):=
 (((((((((Kp.refl D w).setCell (p:=⟨b,0,none⟩) (fun _=>hD) v0).setCell (p:=⟨b,1,none⟩) (fun _=>hD) v1).setCell (p:=⟨b,2,none⟩) (fun _=>hD) v2).setCell (p:=⟨b,3,none⟩) (fun _=>hD) v3).setCell (p:=⟨b,4,none⟩) (fun _=>hD) v4).setCell (p:=⟨b,5,none⟩) (fun _=>hD) v5).setCell (p:=⟨b,6,none⟩) (fun _=>hD) v6).setCell (p:=⟨b,7,none⟩) (fun _=>hD) v7)
theorem az.N9{w:World}{b:Nat}{t:TypeId}{u0 u1 u2 u3 u4 u5 u6 u7:Value}(h:az w b t #[u0,u1,u2,u3,u4,u5,u6,u7])(v0 v1 v2 v3 v4 v5 v6 v7:Value):az ((((((((w.setCell ⟨b,0,none⟩ v0).setCell ⟨b,1,none⟩ v1).setCell ⟨b,2,none⟩ v2).setCell ⟨b,3,none⟩ v3).setCell ⟨b,4,none⟩ v4).setCell ⟨b,5,none⟩ v5).setCell ⟨b,6,none⟩ v6).setCell ⟨b,7,none⟩ v7) b t #[v0,v1,v2,v3,v4,v5,v6,v7]:=by
 have h0:az (w.setCell ⟨b,0,none⟩ v0) b t #[v0,u1,u2,u3,u4,u5,u6,u7]:=h.bA 0 v0;have h1:az ((w.setCell ⟨b,0,none⟩ v0).setCell ⟨b,1,none⟩ v1) b t #[v0,v1,u2,u3,u4,u5,u6,u7]:=h0.bA 1 v1;have h2:az (((w.setCell ⟨b,0,none⟩ v0).setCell ⟨b,1,none⟩ v1).setCell ⟨b,2,none⟩ v2) b t #[v0,v1,v2,u3,u4,u5,u6,u7]:=h1.bA 2 v2;have h3:az ((((w.setCell ⟨b,0,none⟩ v0).setCell ⟨b,1,none⟩ v1).setCell ⟨b,2,none⟩ v2).setCell ⟨b,3,none⟩ v3) b t #[v0,v1,v2,v3,u4,u5,u6,u7]:=h2.bA 3 v3;have h4:az (((((w.setCell ⟨b,0,none⟩ v0).setCell ⟨b,1,none⟩ v1).setCell ⟨b,2,none⟩ v2).setCell ⟨b,3,none⟩ v3).setCell ⟨b,4,none⟩ v4) b t #[v0,v1,v2,v3,v4,u5,u6,u7]:=h3.bA 4 v4;have h5:az ((((((w.setCell ⟨b,0,none⟩ v0).setCell ⟨b,1,none⟩ v1).setCell ⟨b,2,none⟩ v2).setCell ⟨b,3,none⟩ v3).setCell ⟨b,4,none⟩ v4).setCell ⟨b,5,none⟩ v5) b t #[v0,v1,v2,v3,v4,v5,u6,u7]:=h4.bA 5 v5;have h6:az (((((((w.setCell ⟨b,0,none⟩ v0).setCell ⟨b,1,none⟩ v1).setCell ⟨b,2,none⟩ v2).setCell ⟨b,3,none⟩ v3).setCell ⟨b,4,none⟩ v4).setCell ⟨b,5,none⟩ v5).setCell ⟨b,6,none⟩ v6) b t #[v0,v1,v2,v3,v4,v5,v6,u7]:=h5.bA 6 v6;have h7:az ((((((((w.setCell ⟨b,0,none⟩ v0).setCell ⟨b,1,none⟩ v1).setCell ⟨b,2,none⟩ v2).setCell ⟨b,3,none⟩ v3).setCell ⟨b,4,none⟩ v4).setCell ⟨b,5,none⟩ v5).setCell ⟨b,6,none⟩ v6).setCell ⟨b,7,none⟩ v7) b t #[v0,v1,v2,v3,v4,v5,v6,v7]:=h6.bA 7 v7;exact h7
theorem ae{a b:Bool}(h:a=b):Ending.returned (.bool a)=.returned (.bool b):=by rw[h]
theorem eH(s:ByteArray):s.toList.isEmpty=decide (s=M.none_):=by
 rw[ByteArray.toList_eq];obtain⟨⟨l⟩⟩:=s;cases l<;>simp[M.none_]
theorem ET(s:ByteArray)(k:Nat)(h:k<s.size):s.data.toList.take (k+1)=s.data.toList.take k++[s[k]]:=by
 rw[List.take_succ_eq_append_getElem (by simpa using h)];rfl
theorem ES(s:ByteArray)(k:Nat)(h:k<s.size)(hc:M.letter s[k]=false):M.aY s=false:=by
 have hm:s[k]∈s.data.toList:=by simp[ByteArray.getElem_eq_getElem_data]
 unfold M.aY;rw[List.all_eq_false.2 ⟨_,hm,by simp[hc]⟩];simp
theorem G8{c:UInt8}(h:(c.toNat:Int)<97):M.letter c=false:=by
 unfold M.letter;rw[decide_eq_false (by omega)];rfl
theorem G9{c:UInt8}(h:(c.toNat:Int)<97∨122<(c.toNat:Int)):M.letter c=false:=by
 unfold M.letter;rcases h with h|h
 · rw[decide_eq_false (by omega)];rfl
 · rw[decide_eq_false (p:=c.toNat≤122) (by omega)];simp
theorem Ha{c:UInt8}(h:97≤(c.toNat:Int)∧(c.toNat:Int)≤122):M.letter c=true:=by
 unfold M.letter;rw[decide_eq_true (by omega),decide_eq_true (by omega)];rfl
theorem uD(s:ByteArray)(w:World):
    Calls Tryz.prog 63 #[.string s] w fun e w'=>e=.returned (.bool (M.aY s))∧w=w':=by
 by_cases h1:s.size<1
 · go_enter Tryz.func63,Tryz.ntmps63;go_wp2;go_ret;exact⟨ae (by unfold M.aY;rw[decide_eq_false (by omega)];rfl),rfl⟩
 by_cases h2:6<s.size
 · go_enter Tryz.func63,Tryz.ntmps63;go_wp2;go_ret;exact⟨ae (by unfold M.aY;rw[decide_eq_false (p:=s.size≤6) (by omega)];simp),rfl⟩
 go_enter Tryz.func63,Tryz.ntmps63;go_wp2;go_loop [3] (fun i=>∃k:Nat,k≤s.size∧i=.int .i64 k∧(s.data.toList.take k).all M.letter=true) (fun i=>s.size - (intOf i).toNat)
 case atStart=>exact⟨0,Nat.zero_le _,rfl,by simp⟩
 case round =>
  obtain⟨k,hk,rfl,oq⟩:=hrel;have HA:=Ys oq;clear oq;by_cases cK:k<s.size
  · go_wp2
    · go_ret;exact⟨ae (ES s k cK (G9 (by assumption))).symm,rfl⟩
    · go_round
      case rel=>
       refine⟨k+1,by omega,by go_num,?_⟩;rw[ET s k cK,List.all_append,HA.o];simp[Ha (c:=s[k]) (by assumption)]
      case measure=>simp[intOf];omega
    · go_ret;exact⟨ae (ES s k cK (G8 (by assumption))).symm,rfl⟩
  · go_wp2;go_ret;refine⟨ae ?_,rfl⟩;have h:=HA.o;rw[List.take_of_length_le (by simp;omega)]at h;unfold M.aY;rw[h,decide_eq_true (by omega),decide_eq_true (by omega)];rfl
theorem eY(s:ByteArray)(w:World):
    Calls Tryz.prog 25 #[.string s] w fun e w'=>e=.returned (.bool (M.aY s))∧w=w':=by
 go_enter Tryz.func25,Tryz.ntmps25;go_wp2_with (go_at_call 63;refine(uD _ _).mono ?_;rintro e w' ⟨rfl,rfl⟩);go_ret;exact⟨rfl,rfl⟩
theorem Df(n:Int)(w:World):
    Calls Tryz.prog 26 #[.int .i64 n] w fun e w'=>e=.returned (.bool (decide (-9999≤n)&&decide (n≤9999)))∧w=w':=by
 go_enter Tryz.func26,Tryz.ntmps26;go_wp2
 · go_ret;exact⟨ae (by rw[decide_eq_true (p:= -9999≤n) (by omega)];rfl),rfl⟩
 · go_ret;exact⟨ae (by rw[decide_eq_false (p:= -9999≤n) (by omega)];rfl),rfl⟩
theorem xM(n:Int)(w:World):
    Calls Tryz.prog 67 #[.int .i64 n] w fun e w'=>e=.returned (.agg #[.int .i64 1,.int .i64 n])∧Ext w w':=by
 go_enter Tryz.func67,Tryz.ntmps67;go_wp2;refine bodyPost_ret (v:=.agg #[.int .i64 1,.int .i64 n]) (by simp[results,Tryz.results67,go_sem]) rfl ?_;exact⟨rfl,((Kp.refl _ _).alloc _)⟩
theorem EY(w:World):
    Calls Tryz.prog 103 #[] w fun e w'=>e=.returned (.agg #[.int .i64 3,.int .i64 0])∧Ext w w':=by
 go_enter Tryz.func103,Tryz.ntmps103;go_wp2;refine bodyPost_ret (v:=.agg #[.int .i64 3,.int .i64 0]) (by simp[results,Tryz.results103,go_sem]) rfl ?_;exact⟨rfl,((Kp.refl _ _).alloc _)⟩
def Py(k:M.Kind)(e:Ending):Prop:=(M.fV k=true∧∃t x,e=.returned (.iface t x))∨(M.fV k=false∧e=.returned .nilIface)
theorem QG{n:ByteArray}(h:n.toList.isEmpty=true):M.fV ⟨1,n⟩=true:=by
 rw[eH]at h;simp[M.fV,h]
theorem Nn{n:ByteArray}(h:n.toList.isEmpty=false):M.fV ⟨1,n⟩=false:=by
 rw[eH]at h;simp[M.fV,h]
theorem QH{k:Int}{n:ByteArray}(h1:k=2):M.fV ⟨k,n⟩=M.aY n:=by
 subst h1;simp[M.fV]
theorem QF{k:Int}{n:ByteArray}(h1:¬k=1)(h2:¬k=2):M.fV ⟨k,n⟩=false:=by
 simp[M.fV,h1,h2]
theorem Ob(k:M.Kind)(w:World):
    Calls Tryz.prog 122 #[.agg #[.int .i64 k.kind,.string k.name]] w fun e w'=>Py k e∧Ext w w':=by
 obtain⟨kk,kn⟩:=k;by_cases h1:kk=1
 · subst h1;cases hn:kn.toList.isEmpty
   · go_enter Tryz.func122,Tryz.ntmps122;go_wp2;go_ret;exact⟨.inr ⟨Nn hn,rfl⟩,((Kp.refl _ _).alloc _)⟩
   · go_enter Tryz.func122,Tryz.ntmps122;go_wp2;go_ret;exact⟨.inl ⟨QG hn,_,_,rfl⟩,((Kp.refl _ _).alloc _)⟩
 · by_cases h2:kk=2
   · have HN:=Ys (QH (n:=kn) h2);cases hb:M.aY kn
     all_goals
      have HB:=Ys hb;clear hb;go_enter Tryz.func122,Tryz.ntmps122;go_wp2_with (go_at_call 63;refine(uD _ _).mono ?_;rintro e w' ⟨rfl,rfl⟩;rw[HB.o]);go_ret
     · exact⟨.inr ⟨by rw[HN.o,HB.o],rfl⟩,((Kp.refl _ _).alloc _)⟩
     · exact⟨.inl ⟨by rw[HN.o,HB.o],_,_,rfl⟩,((Kp.refl _ _).alloc _)⟩
   · go_enter Tryz.func122,Tryz.ntmps122;go_wp2;go_ret;exact⟨.inr ⟨QF h1 h2,rfl⟩,((Kp.refl _ _).alloc _)⟩
theorem uX(k:M.Kind)(w:World):
    Calls Tryz.prog 78 #[.agg #[.int .i64 k.kind,.string k.name]] w fun e w'=>e=.returned (.bool (M.fV k))∧Ext w w':=by
 go_enter Tryz.func78,Tryz.ntmps78;go_wp2_with fail;refine(Ob k _).mono ?_;rintro e w1 ⟨⟨hk,t,x,rfl⟩|⟨hk,rfl⟩,hB⟩
 · go_wp2;go_ret;exact⟨ae hk.symm,(by repeat (first|assumption|exact Kp.refl _ _|apply Kp.alloc|apply Kp.drew|apply Kp.drewN|refine Kp.trans ?_ (by assumption)))⟩
 · go_wp2;go_ret;exact⟨ae hk.symm,(by repeat (first|assumption|exact Kp.refl _ _|apply Kp.alloc|apply Kp.drew|apply Kp.drewN|refine Kp.trans ?_ (by assumption)))⟩
theorem Dm{k:Int}{n:ByteArray}(h:k=0∨k=1∨k=3):M.uw ⟨k,n⟩=n.toList.isEmpty:=by
 unfold M.uw;rw[if_pos h,eH]
theorem QW{k:Int}{n:ByteArray}(h:k=2):M.uw ⟨k,n⟩=M.aY n:=by
 subst h;rfl
theorem QX{k:Int}{n:ByteArray}(h0:¬k=0)(h1:¬k=1)(h2:¬k=2)(h3:¬k=3):M.uw ⟨k,n⟩=false:=by
 simp[M.uw,h0,h1,h2,h3]
theorem VJ(k:M.Tag)(w:World):
    Calls Tryz.prog 154 #[.agg #[.int .i64 k.kind,.string k.name]] w fun e w'=>e=.returned (.bool (M.uw k))∧Ext w w':=by
 obtain⟨kk,kn⟩:=k;by_cases h0:kk=0
 · have HT:=Ys (Dm (n:=kn) (.inl h0));go_enter Tryz.func154,Tryz.ntmps154;go_wp2;go_ret;exact⟨ae HT.o.symm,((Kp.refl _ _).alloc _)⟩
 by_cases h1:kk=1
 · have HT:=Ys (Dm (n:=kn) (.inr (.inl h1)));go_enter Tryz.func154,Tryz.ntmps154;go_wp2;go_ret;exact⟨ae HT.o.symm,((Kp.refl _ _).alloc _)⟩
 by_cases h3:kk=3
 · have HT:=Ys (Dm (n:=kn) (.inr (.inr h3)));go_enter Tryz.func154,Tryz.ntmps154;go_wp2;go_ret;exact⟨ae HT.o.symm,((Kp.refl _ _).alloc _)⟩
 by_cases h2:kk=2
 · have HT:=Ys (QW (n:=kn) h2);go_enter Tryz.func154,Tryz.ntmps154;go_wp2_with (go_at_call 25;refine(eY _ _).mono ?_;rintro e w' ⟨rfl,rfl⟩);go_ret;exact⟨ae HT.o.symm,((Kp.refl _ _).alloc _)⟩
 · go_enter Tryz.func154,Tryz.ntmps154;go_wp2;go_ret;exact⟨ae (QX h0 h1 h2 h3).symm,((Kp.refl _ _).alloc _)⟩
def Elem(t e k:Nat):Prop:=∃i z bytes,Tryz.prog.underlying t=some (.slice e)∧Tryz.prog.info? e=some i∧i.zero=some z∧i.size=k∧i.bytes=bytes∧z.cells.size=k∧0<k∧bytes≤4096
theorem iJ{t e k:Nat}{z:Value}{bytes:Nat}(ht:Tryz.prog.underlying t=some (.slice e))(hi:(Tryz.prog.info? e).map (fun i=>(i.zero,i.size,i.bytes))=some (some z,k,bytes))
    (hz:z.cells.size=k) (hk:0<k) (hb:bytes≤4096):Elem t e k:=by
 obtain⟨i,h1,h2,h3,h4⟩:=info_parts hi;exact⟨i,z,bytes,ht,h1,h2,h3,h4,hz,hk,hb⟩
theorem yl:Elem 61 3 1:=iJ (z:=.int .i64 0) (bytes:=8) Tryz.underlying61 (by kernel_rfl) rfl (by decide) (by decide)
theorem LW:Elem 147 51 2:=iJ (z:=.agg #[.int .i64 0,.string ⟨#[]⟩]) (bytes:=24) Tryz.underlying147 (by kernel_rfl) rfl (by decide) (by decide)
theorem aA{D:Nat→Prop}{a b:World}{base e k n:Nat}{v:Value}{xs:List Value}(h:a.ownsRow base e k v n xs)(hk:Kp D a b)(hD:∀g,v.ownBlock=some g→base≤g→¬D g):b.ownsRow base e k v n xs:=by
 refine⟨h.1,?_⟩;rcases h.2 with h4|⟨g,cap,cur,rfl,hg,hb,rest⟩
 · exact .inl h4
 · exact .inr ⟨g,cap,cur,rfl,hg,(hk.block g (Array.getElem?_eq_some_iff.1 hb).1 (hD g rfl hg)).trans hb,rest⟩
theorem aX{w:World}{base e k n:Nat}{v:Value}{xs:List Value}(h:w.ownsRow base e k v n xs)(hn:0<n):
    ∃g cap,v=.slice (some ⟨g,0,none⟩) n cap∧base≤g∧g<w.heap.size∧n≤cap:=by
 rcases h.2 with⟨_,h4⟩|⟨g',c',cur,hv,hg,JD,hle,_⟩
 · omega
 · exact⟨g',c',hv,hg,(Array.getElem?_eq_some_iff.1 JD).1,hle⟩
theorem Kp.own{D D':Nat→Prop}{w a b:World}(h:Kp D w a)(hk:Kp D' a b)(hD:∀k,D' k→w.heap.size≤k):Kp D w b:=
 ⟨hk.os.trans h.os,hk.tape.trans h.tape,hk.output.trans h.output,Nat.le_trans h.size hk.size,
  fun k uU hd=>(hk.block k (Nat.lt_of_lt_of_le uU h.size) (fun x=>absurd (hD k x) (Nat.not_le.2 uU))).trans (h.block k uU hd)⟩
theorem mU{t e k:Nat}(E:Elem t e k)(w:World){ops:Array Oper}{rest:List Oper}{o:Oper}{a:Act}{Q:Exit→Act→World→Prop}(JI:o.guard=none)(s x:Operand)
    (ho:o.op=.call {callee:=.builtin .append,args:=#[s,x],argTypes:=#[t,t]}) (base:Nat) (v:Value) (n:Nat) (xs:List Value) (hs:a.eval s=v) (dI:w.ownsRow base e k v n xs)
    (g c:Nat) (news:List Value) (hx:a.eval x=.slice (some ⟨g,0,none⟩) 1 c) (hl:news.length=k) (yJ:af w g 0 news) (h1:∀u∈news,u.oneCell'=true)
    (hn:n+1≤4294967296) (qo:base≤w.heap.size)
    (h:∀v' w',w'.ownsRow base e k v' (n+1) (xs++news)→Kp (fun b=>v.ownBlock=some b) w w'→(∃g' c',v'=.slice (some ⟨g',0,none⟩) (n+1) c'∧base≤g'∧g'<w'.heap.size)→wpList Tryz.prog ops Q rest (a.put o.dst v') w'):
    wpList Tryz.prog ops Q (o::rest) a w:=by
 obtain⟨i,z,bytes,ht,hi,hz,qx,KW,K5,hk,hb⟩:=E;refine wpList_append_own w JI s x t ho base e i z k bytes ht hi hz qx KW K5 hk v n xs hs dI ⟨g,0,none⟩ 1 c news hx (by omega) ?_ h1 (by unfold maxLen;omega) ?_ qo ?_
 · intro j u hj;have:=yJ j u hj;rw[Nat.zero_add]at this;unfold Addr.add;split
   · rename_i RU;subst RU;exact this
   · simpa using this
 · have:(n+1)*bytes≤4294967296*4096:=Nat.mul_le_mul hn hb;omega
 · intro v' w' h2 h3 _;refine h v' w' h2 ⟨h3.os,h3.tape,h3.output,h3.size,fun k hk hd=>h3.block k hk (fun e=>hd e.symm)⟩ ?_;rcases h2.2 with⟨_,h4⟩|⟨g',c',cur,hv,hg,JD,_⟩
   · omega
   · exact⟨g',c',hv,hg,(Array.getElem?_eq_some_iff.1 JD).1⟩
theorem rE{F:Fence}{nf:Nat}{t e k:Nat}(E:Elem t e k)(w:World){ops:Array Oper}{rest:List Oper}{o:Oper}{a:Act}{Q:Exit→Act→World→Prop}(JI:o.guard=none)(s x:Operand)
    (ho:o.op=.call {callee:=.builtin .append,args:=#[s,x],argTypes:=#[t,t]}) (base:Nat) (v:Value) (n:Nat) (xs:List Value) (hs:a.eval s=v) (dI:w.ownsRow base e k v n xs)
    (g c:Nat) (news:List Value) (hx:a.eval x=.slice (some ⟨g,0,none⟩) 1 c) (hl:news.length=k) (yJ:af w g 0 news) (h1:∀u∈news,u.oneCell'=true)
    (hn:n+1≤4294967296) (qo:base≤w.heap.size)
    (h:∀v' w',w'.ownsRow base e k v' (n+1) (xs++news)→Kp (fun b=>v.ownBlock=some b) w w'→(∃g' c',v'=.slice (some ⟨g',0,none⟩) (n+1) c'∧base≤g'∧g'<w'.heap.size)→wpListIn F nf Tryz.prog ops Q rest (a.put o.dst v') w'):
    wpListIn F nf Tryz.prog ops Q (o::rest) a w:=by
 obtain⟨i,z,bytes,ht,hi,hz,qx,KW,K5,hk,hb⟩:=E;refine wpListIn_append_own w JI s x t ho base e i z k bytes ht hi hz qx KW K5 hk v n xs hs dI ⟨g,0,none⟩ 1 c news hx (by omega) ?_ h1 (by unfold maxLen;omega) ?_ qo ?_
 · intro j u hj;have:=yJ j u hj;rw[Nat.zero_add]at this;unfold Addr.add;split
   · rename_i RU;subst RU;exact this
   · simpa using this
 · have:(n+1)*bytes≤4294967296*4096:=Nat.mul_le_mul hn hb;omega
 · intro v' w' h2 h3 _;refine h v' w' h2 ⟨h3.os,h3.tape,h3.output,h3.size,fun k hk hd=>h3.block k hk (fun e=>hd e.symm)⟩ ?_;rcases h2.2 with⟨_,h4⟩|⟨g',c',cur,hv,hg,JD,_⟩
   · omega
   · exact⟨g',c',hv,hg,(Array.getElem?_eq_some_iff.1 JD).1⟩
theorem NK{α β:Type}(f:α→β)(l:List α):l.map f=l.flatMap fun x=>[f x]:=by
 induction l with
 |nil=>rfl
 |cons x r ih=>rw[List.map_cons,List.flatMap_cons,ih];rfl
theorem SliceOf.gT{α:Type}{k:Nat}{R:fD α}{w:World}{I:Nat→Prop}{base e n:Nat}{v:Value}{cs:List Value}(enc:α→List Value){l:List α}(dI:w.ownsRow base e k v n cs)
    (hn:n=l.length) (bE:cs=l.flatMap enc) (Aw:∀x∈l,(enc x).length=k) (hR:∀x∈l,R w I x (enc x)) (hI:∀b,base≤b→b<w.heap.size→I b) (hlen:l.length≤4294967296):SliceOf k R w I v l:=by
 have flat:∀(l:List α),(∀x∈l,(enc x).length=k)→∀i x,l[i]?=some x→∀j u,(enc x)[j]?=some u→(l.flatMap enc)[i*k+j]?=some u:=by
  intro l;induction l with
  |nil=>intro _ i x h;simp at h
  | cons y r ih =>
   intro hy i x hx j u hj;have hyk:=hy y (by simp);rw[List.flatMap_cons];cases i with
   |zero=>
    simp at hx;subst hx;rw[List.getElem?_append_left (by rw[Nat.zero_mul,Nat.zero_add];exact(List.getElem?_eq_some_iff.1 hj).1),Nat.zero_mul,Nat.zero_add];exact hj
   |succ i=>
    rw[List.getElem?_append_right (by rw[hyk,Nat.succ_mul];omega),hyk,show(i+1)*k+j - k=i*k+j from by rw[Nat.succ_mul];omega];exact ih (fun z hz=>hy z (by simp[hz])) i x (by simpa using hx) j u hj
 subst hn bE;rcases dI.2 with⟨rfl,h0⟩|⟨g,cap,cur,rfl,hg,hb,hle,_,qx,OW⟩
 · have:l=[]:=List.length_eq_zero_iff.1 h0;subst this;exact SliceOf.nil _ _ _ _
 · refine⟨_,cap,rfl,hle,hlen,fun i x hx=>⟨g,0,enc x,rfl,hI g hg (Array.getElem?_eq_some_iff.1 hb).1,hR x (List.mem_of_getElem? hx),Aw x (List.mem_of_getElem? hx),?_⟩⟩;intro j u hj;have:=flat l Aw i x hx j u hj;rw[←OW,List.getElem?_take]at this;split at this
   · simp only[World.cell?,hb];simpa [Nat.zero_add]using this
   · cases this
theorem lT:Elem 119 63 2:=iJ (z:=.agg #[.int .i64 0,.int .i64 0]) (bytes:=16) Tryz.underlying119 (by kernel_rfl) rfl (by decide) (by decide)
theorem af.iV{w:World}{b:Nat}{t:TypeId}{cs:Array Value}(h:az w b t cs):af w b 0 cs.toList:=by
 intro j v hj;rw[Nat.zero_add];exact h.c j v (by simpa using hj)
theorem af.zk{W:World}{g:Nat}(t:TypeId)(cs:Array Value)(h:W.heap.size=g):af (W.alloc (.cells cs t)) g 0 cs.toList:=by
 subst h;exact af.iV (az.new W t cs)
theorem bJ{w:World}{base e k n:Nat}{v:Value}{xs:List Value}(h:w.ownsRow base e k v n xs):∃a c,v=.slice a n c:=by
 rcases h.2 with⟨rfl,rfl⟩|⟨g,c,cur,rfl,_⟩
 · exact⟨_,_,rfl⟩
 · exact⟨_,_,rfl⟩
theorem xx{t e k:Nat}(E:Elem t e k){ops:Array Oper}{o:Oper}{a:Act}{w:World}{K:Act→World→Prop}{Q:Exit→Act→World→Prop}{E':Prop}(JI:o.guard=none)(s x:Operand)
    (ho:o.op=.call {callee:=.builtin .append,args:=#[s,x],argTypes:=#[t,t]}) (base:Nat) (v:Value) (n:Nat) (xs:List Value) (hs:a.eval s=v) (dI:w.ownsRow base e k v n xs)
    (g c:Nat) (news:List Value) (hx:a.eval x=.slice (some ⟨g,0,none⟩) 1 c) (hl:news.length=k) (yJ:af w g 0 news) (h1:∀u∈news,u.oneCell'=true)
    (hn:n+1≤4294967296) (qo:base≤w.heap.size)
    (h:∀g' c' w',w'.ownsRow base e k (.slice (some ⟨g',0,none⟩) (n+1) c') (n+1) (xs++news)→Kp (fun b=>v.ownBlock=some b) w w'→(v.ownBlock=some g'∨w.heap.size=g')→K (a.put o.dst (.slice (some ⟨g',0,none⟩) (n+1) c')) w'):
    if Region.wanted o (yielded ops a.tmps)=true then Oper.wp Tryz.prog o a w K Q else E':=by
 obtain⟨i,z,bytes,ht,hi,hz,qx,KW,K5,hk,hb⟩:=E;refine step_append_lies w JI s x t ho base e i z k bytes ht hi hz qx KW K5 hk v n xs hs dI ⟨g,0,none⟩ 1 c news hx (by omega) ?_ h1 (by omega) (by unfold maxLen;omega) ?_ qo w.heap.size rfl ?_
 · intro j u hj;have:=yJ j u hj;rw[Nat.zero_add]at this;unfold Addr.add;split
   · rename_i RU;subst RU;exact this
   · simpa using this
 · have:(n+1)*bytes≤4294967296*4096:=Nat.mul_le_mul hn hb;omega
 · intro g' c' w' h2 h3 h4 h5;exact h g' c' w' h2 ⟨h3.os,h3.tape,h3.output,h3.size,fun k hk hd=>h3.block k hk (fun e=>hd e.symm)⟩ (h4.imp id Eq.symm)
theorem aV{t e k:Nat}(E:Elem t e k){ops:Array Oper}{rest:List Oper}{o:Oper}{a:Act}{w:World}{Q:Exit→Act→World→Prop}(JI:o.guard=none)(s x:Operand)
    (ho:o.op=.call {callee:=.builtin .append,args:=#[s,x],argTypes:=#[t,t]}) (base:Nat) (v:Value) (n:Nat) (xs:List Value) (hs:a.eval s=v) (dI:w.ownsRow base e k v n xs)
    (g c:Nat) (news:List Value) (hx:a.eval x=.slice (some ⟨g,0,none⟩) 1 c) (hl:news.length=k) (yJ:af w g 0 news) (h1:∀u∈news,u.oneCell'=true)
    (hn:n+1≤4294967296) (qo:base≤w.heap.size)
    (h:∀g' c' w',w'.ownsRow base e k (.slice (some ⟨g',0,none⟩) (n+1) c') (n+1) (xs++news)→Kp (fun b=>v.ownBlock=some b) w w'→(v.ownBlock=some g'∨w.heap.size=g')→wpList Tryz.prog ops Q rest (a.put o.dst (.slice (some ⟨g',0,none⟩) (n+1) c')) w'):
    wpList Tryz.prog ops Q (o::rest) a w:=by
 obtain⟨i,z,bytes,ht,hi,hz,qx,KW,K5,hk,hb⟩:=E;refine wpList_append_lies w JI s x t ho base e i z k bytes ht hi hz qx KW K5 hk v n xs hs dI ⟨g,0,none⟩ 1 c news hx (by omega) ?_ h1 (by omega) (by unfold maxLen;omega) ?_ qo w.heap.size rfl ?_
 · intro j u hj;have:=yJ j u hj;rw[Nat.zero_add]at this;unfold Addr.add;split
   · rename_i RU;subst RU;exact this
   · simpa using this
 · have:(n+1)*bytes≤4294967296*4096:=Nat.mul_le_mul hn hb;omega
 · intro g' c' w' h2 h3 h4 h5;exact h g' c' w' h2 ⟨h3.os,h3.tape,h3.output,h3.size,fun k hk hd=>h3.block k hk (fun e=>hd e.symm)⟩ (h4.imp id Eq.symm)
theorem xw(w:World)(k o:Nat)(T:TypeId)(cs:Array Value)(vs:Value)(n:Nat)(most:Int)(hB:az w k T cs)(h0:cs[o]?=some vs)(h1:cs[o+1]?=some (.int .i64 most))(hv:∃a c,vs=.slice a n c)(x y:Int)(cK:most≤(n:Int)):
    Calls Tryz.prog 135 #[.pointer (some ⟨k,o,none⟩),.agg #[.int .i64 x,.int .i64 y]] w fun e w'=>e=.returned (.bool false)∧Ext w w':=by
 obtain⟨a,c,rfl⟩:=hv;have c0:=hB.c o _ h0;have c1:=hB.c (o+1) _ h1;have hz:=aS c0;clear hB h0 h1;go_enter Tryz.func135,Tryz.ntmps135;go_wp2;go_quiet (fail);go_wp2;go_ret;exact⟨rfl,kx⟩
theorem Hs(w:World)(k o B:Nat)(T:TypeId)(cs:Array Value)(vs:Value)(n:Nat)(xs:List Value)(most:Int)(hB:az w k T cs)(h0:cs[o]?=some vs)(h1:cs[o+1]?=some (.int .i64 most))
    (x y:Int) (own:w.ownsRow B 63 2 vs n xs) (hn:n≤1000) (cK:(n:Int)<most) (jy:vs.ownBlock≠some k) (hb:B≤w.heap.size):
    Calls Tryz.prog 135 #[.pointer (some ⟨k,o,none⟩),.agg #[.int .i64 x,.int .i64 y]] w fun e w'=>
     e=.returned (.bool true)∧∃g c,w'.ownsRow B 63 2 (.slice (some ⟨g,0,none⟩) (n+1) c) (n+1) (xs++[.int .i64 x,.int .i64 y])∧(vs.ownBlock=some g∨w.heap.size≤g)∧
      az w' k T (cs.setIfInBounds o (.slice (some ⟨g,0,none⟩) (n+1) c))∧Kp (fun b=>b=k∨vs.ownBlock=some b) w w':=by
 obtain⟨a,c,rfl⟩:=bJ own;have c0:=hB.c o _ h0;have c1:=hB.c (o+1) _ h1;have f0:=hB.frozen o;have hz:=aS c0;have HB:=Ys hB;have HO:=Ys own;have Ib:=Ys jy;have H0:=Ys h0;clear hB h0 h1 own jy;have U7:(most≤(n:Int))=False:=by simp;omega
 have MU:n+1≤4294967296:=by omega
 have hE:∀W,Ext w W→W.ownsRow B 63 2 (.slice a n c) n xs:=fun W hW=>aA HO.o hW fun _ _ _ x=>x;have HE:=Ys hE;clear hE;go_enter Tryz.func135,Tryz.ntmps135;go_wp2;go_quiet (fail);go_wp2;clear c1 U7;go_region_law (refine xx lT rfl (.tmp 19) (.tmp 21) rfl B (.slice a n c) n xs rfl (HE.o _ kx) (w.heap.size+1) 1 [.int .i64 x,.int .i64 y] (by simp[Act.eval]) rfl (af.zk _ _ (by simp)) (by simp[Value.oneCell']) MU (by simp;omega) ?_;intro g c' w1 FB j3 IL;have hB1:=(HB.o.ext kx).kp j3 Ib.o;have d0:=hB1.c o _ H0.o;have e0:=hB1.frozen o;have z1:=hB1.lt;have BJ:=Ys hB1;have OC:=Ys FB;have BP:=Ys j3;have Xv:=Ys IL;clear FB j3 IL hB1 c0 f0 hz)
 all_goals
  go_wp2;go_ret;refine⟨rfl,g,c',aA OC.o ((Kp.refl (·=k) _).setCell (fun _=>rfl) _) (fun q hq _ e=>?_),?_,BJ.o.bA _ _,?_⟩
  · cases hq;have e':g=k:=e;subst e';rcases Xv.o with h|h
    · exact Ib.o h
    · have:=HB.o.lt;simp at h;omega
  · rcases Xv.o with h|h
    · exact .inl h
    · right;simp at h;omega
  · refine Kp.setCell (Kp.trans ((kx:Ext w _).any) (BP.o.weak fun b _ hb=>.inr hb)) (fun _=>.inl rfl) _
structure gy(C:World→Prop)(T:Type)(f:T→World):Prop where
 aK:∀s,C (f s)
 o:∀W,C W→∃s,W=f s
theorem gy.ex(C:World→Prop)(w:World)(h:C w):∃(T:Type) (f:T→World),Nonempty T∧gy C T f:=⟨{W:World // C W},Subtype.val,⟨⟨w,h⟩⟩,fun s=>s.2,fun W h=>⟨⟨W,h⟩,rfl⟩⟩
theorem Kt{P:Program}{id:Nat}{Q:Exit→Act→World→Prop}{a:Act}{w:World}{l:List Oper}{T:Type}(f:T→World)(h0:∃s,w.drew=f s)(hm:P.follows .mixedOrders=true)(hB:Region.lexB .any l.toArray=true)
    (h:wpQuiet P l.toArray (fun w'=>∃s,w'=f s) (fun a'=>∀w',(∃s,w'=f s)→Q .normal a' w') l a):(Code.region id l.toArray true).wp P Q a w:=
 wp_region_quiet (C:=fun w'=>∃s,w'=f s) hm hB h0 (by simpa using h)
theorem qn{P:Program}{ops:Array Oper}{C:World→Prop}{K A:Act→Prop}{a:Act}(hK:∀a',A a'→K a')(h:A a):wpQuiet P ops C K [] a:=wpQuiet_nil (hK _ h)
theorem Hp{P:Program}{ops:Array Oper}{C:World→Prop}{K A B:Act→Prop}{a:Act}(hK:∀a',A a'→B a'→K a')(h:A a)(h2:B a):wpQuiet P ops C K [] a:=wpQuiet_nil (hK _ h h2)
theorem kk{C:World→Prop}{T:Type}{f:T→World}{K2 R:Act→World→Prop}{a:Act}{w:World}(H:Zs (gy C T f))(ag:∀a'' w',(∃s,w'=f s)→R a'' w'→K2 a'' w')(h:C w)(h2:R a w):K2 a w:=ag _ _ (H.o.o _ h) h2
theorem O0{P:Program}{id:Nat}{Q:Exit→Act→World→Prop}{a:Act}{w:World}{l:List Oper}{C:World→Prop}{T:Type}{f:T→World}(H:Zs (gy C T f))(h0:C w.drew)
    (h:wpQuiet P l.toArray (fun w'=>∃s,w'=f s) (fun a'=>∀w',(∃s,w'=f s)→Q .normal a' w') l a) (hm:P.follows .mixedOrders=true:=by kernel_rfl) (hB:Region.lexB .any l.toArray=true:=by kernel_rfl):(Code.region id l.toArray true).wp P Q a w:=
 Kt f (H.o.o _ h0) hm hB h
abbrev Key:=Int×ByteArray
def iP(r:Key):Value:=.agg #[.int .i64 r.1,.string r.2]
def sZ(x:Key×Int):Value×Value:=(iP x.1,.int .i64 x.2)
def fI(w:World)(b:Nat)(m:List (Key×Int)):Prop:=
 ∃es clock,w.heap[b]?=some (.map es clock)∧es.toList.map (fun e=>(e.key,e.val))=m.map sZ
def look(m:List (Key×Int))(k:Key):Option Int:=(m.find? fun x=>decide (k=x.1)).map Prod.snd
theorem qE{m:List (Key×Int)}{k:Key}{v:Int}(h:look m k=none):look (m++[(k,v)]) k=some v:=by
 unfold look at*;rw[List.find?_append];cases hf:m.find? fun x=>decide (k=x.1)
 · simp
 · rw[hf]at h;simp at h
theorem pJ{m:List (Key×Int)}{k k':Key}{v:Int}(h:k'≠k):look (m++[(k,v)]) k'=look m k':=by
 unfold look;rw[List.find?_append];cases hf:m.find? fun x=>decide (k'=x.1)
 · simp[h]
 · rfl
theorem fI.lt{w:World}{b:Nat}{m:List (Key×Int)}(h:fI w b m):b<w.heap.size:=by
 obtain⟨es,c,hb,_⟩:=h;exact(Array.getElem?_eq_some_iff.1 hb).1
theorem fI.keep{w w':World}{b:Nat}{m:List (Key×Int)}(h:fI w b m)(hk:w'.heap[b]?=w.heap[b]?):fI w' b m:=by
 obtain⟨es,c,hb,e⟩:=h;exact⟨es,c,hk.trans hb,e⟩
theorem fI.kp{D:Nat→Prop}{w w':World}{b:Nat}{m:List (Key×Int)}(h:fI w b m)(hk:Kp D w w')(hd:¬D b):fI w' b m:=h.keep (hk.block b h.lt hd)
theorem fI.new(w:World):fI (w.alloc (.map #[] 0)) w.heap.size []:=⟨#[],0,heap_alloc_new w _,rfl⟩
theorem AX(a b:Key)(w:World):(Op.equal 51 (iP a) (iP b)).run Tryz.prog w=.ok (decide (a=b)) w:=by
 unfold Op.equal iP;show(Op.equalIn 10000 _ _ _).run _ w=_
 go_simp;obtain⟨a1,a2⟩:=a;obtain⟨b1,b2⟩:=b;have e:(a2.toList=b2.toList)↔a2=b2:=by
  rw[ByteArray.toList_eq,ByteArray.toList_eq];obtain⟨⟨x⟩⟩:=a2;obtain⟨⟨y⟩⟩:=b2;simp
 simp only[e,Prod.mk.injEq];by_cases h1:a1=b1<;>by_cases h2:a2=b2<;>simp[h1,h2]
theorem iX(em:Bool)(k:Int)(s:ByteArray)(w:World):(Instr.checkKey em 10000 51 (.agg #[.int .i64 k,.string s])).run Tryz.prog w=.ok () w:=by
 cases em<;>kernel_rfl
theorem zf:Tryz.prog.underlying 92=some (.map 51 3):=Tryz.underlying92
theorem Nk:∃fs,Tryz.prog.underlying 51=some (.struct fs):=⟨_,Tryz.underlying51⟩
theorem xu(k:Key)(w:World):∀(es:List MapEntry) (m:List (Key×Int)) (i:Nat),es.map (fun e=>(e.key,e.val))=m.map sZ→
    (look m k=none∧(Instr.findAsking 51 (iP k) es i).run Tryz.prog w=.ok none w)∨
    ∃v j,look m k=some v∧(Instr.findAsking 51 (iP k) es i).run Tryz.prog w=.ok (some (j,.int .i64 v)) w:=by
 intro es;induction es with
 |nil=>
  intro m i h;cases m with
  |nil=>exact .inl ⟨rfl,rfl⟩
  |cons x r=>simp at h
 | cons e es ih =>
  intro m i h;cases m with
  |nil=>simp at h
  |cons x r=>
   simp only[List.map_cons,List.cons.injEq]at h;obtain⟨h1,h2⟩:=h;have hk:e.key=iP x.1:=congrArg Prod.fst h1;have hv:e.val=.int .i64 x.2:=congrArg Prod.snd h1;unfold Instr.findAsking;rw[hk];simp only[Sem.run_bind,AX,Result.andThen_ok];by_cases hkx:k=x.1
   · refine .inr ⟨x.2,i,by unfold look;rw[List.find?_cons_of_pos (by simp[hkx])];rfl,?_⟩;simp[hkx,hv]
   · have hl:look (x::r) k=look r k:=by unfold look;rw[List.find?_cons_of_neg (by simp[hkx])]
     rw[hl,decide_eq_false hkx];simpa using ih r (i+1) h2
theorem oQ(k:Key)(w:World)(es:List MapEntry)(m:List (Key×Int))(h:es.map (fun e=>(e.key,e.val))=m.map sZ):
    (look m k=none∧(Instr.findKey 51 (iP k) es).run Tryz.prog w=.ok none w)∨
    ∃v j,look m k=some v∧(Instr.findKey 51 (iP k) es).run Tryz.prog w=.ok (some (j,.int .i64 v)) w:=by
 obtain⟨fs,KY⟩:=Nk;unfold Instr.findKey;simp only[Sem.run_bind,run_underlying KY,Result.andThen_ok];cases es with
 |nil=>
  cases m with
  |nil=>exact .inl ⟨rfl,rfl⟩
  |cons x r=>simp at h
 |cons e es=>
  have hn:Instr.findNow (.struct fs) (iP k) (e::es) 0=none:=by simp[Instr.findNow,Instr.sameNow]
  rw[hn];exact xu k w (e::es) m 0 h
theorem kJ{w:World}{b:Nat}{m:List (Key×Int)}(h:fI w b m)(k:Int)(s:ByteArray):
    (Instr.lookup 92 (.map (some b)) (.agg #[.int .i64 k,.string s]) true).run Tryz.prog w=.ok (.tuple #[.int .i64 ((look m (k,s)).getD 0),.bool (look m (k,s)).isSome]) w:=by
 obtain⟨es,clock,hb,he⟩:=h;unfold Instr.lookup;simp only[Sem.run_bind,run_underlying zf,Result.andThen_ok];rcases oQ (k,s) w es.toList m he with⟨h1,h2⟩|⟨v,j,h1,h2⟩
 · simp only[iP]at h2;simp[getObj,Sem.run,hb,iX,h2,h1,go_sem]
 · simp only[iP]at h2;simp[getObj,Sem.run,hb,iX,h2,h1,go_sem]
theorem sj{w:World}{b:Nat}{m:List (Key×Int)}(h:fI w b m)(k:Int)(s:ByteArray):
    (Instr.lookup 92 (.map (some b)) (.agg #[.int .i64 k,.string s]) false).run Tryz.prog w=.ok (.int .i64 ((look m (k,s)).getD 0)) w:=by
 obtain⟨es,clock,hb,he⟩:=h;unfold Instr.lookup;simp only[Sem.run_bind,run_underlying zf,Result.andThen_ok];rcases oQ (k,s) w es.toList m he with⟨h1,h2⟩|⟨v,j,h1,h2⟩
 · simp only[iP]at h2;simp[getObj,Sem.run,hb,iX,h2,h1,go_sem]
 · simp only[iP]at h2;simp[getObj,Sem.run,hb,iX,h2,h1,go_sem]
theorem Hr{w:World}{b:Nat}{m:List (Key×Int)}(h:fI w b m)(k:Int)(s:ByteArray)(v:Int)(hn:look m (k,s)=none):
    ∃w',(Instr.mapUpdate 92 (.map (some b)) (.agg #[.int .i64 k,.string s]) (.int .i64 v)).run Tryz.prog w=.ok () w'∧fI w' b (m++[((k,s),v)])∧Kp (·=b) w w'∧w'.heap.size=w.heap.size:=by
 obtain⟨es,clock,hb,he⟩:=h;refine⟨{w with heap:=w.heap.setIfInBounds b (.map (es.push {key:=.agg #[.int .i64 k,.string s],val:=.int .i64 v,born:=clock}) (clock+1))},?_,?_,?_,by simp⟩
 · unfold Instr.mapUpdate;simp only[Sem.run_bind,run_underlying zf,Result.andThen_ok];rcases oQ (k,s) w es.toList m he with⟨h1,h2⟩|⟨v,j,h1,h2⟩
   · simp only[iP]at h2;simp[getObj,setObj,Sem.run,hb,iX,h2,go_sem]
   · rw[h1]at hn;cases hn
 · have cK:=(Array.getElem?_eq_some_iff.1 hb).1;refine⟨_,_,by simp[cK];exact⟨rfl,rfl⟩,?_⟩;simp[he,sZ,iP]
 · refine⟨rfl,rfl,rfl,by simp,fun i hi jy=>?_⟩;simp only[Array.getElem?_setIfInBounds];rw[if_neg (fun e=>jy e.symm)]
theorem eO(w:World){ops:Array Oper}{rest:List Oper}{o:Oper}{a:Act}{Q:Exit→Act→World→Prop}
    (hg:o.guard=none) (mo x y:Operand) (dL:o.op=Op.mapUpdate 92 mo x y) (b:Nat) (m:List (Key×Int)) (k:Int) (s:ByteArray) (v:Int)
    (hm:a.eval mo=.map (some b)) (hx:a.eval x=.agg #[.int .i64 k,.string s]) (hv:a.eval y=.int .i64 v) (h:fI w b m) (hn:look m (k,s)=none)
    (hK:∀w',fI w' b (m++[((k,s),v)])→Kp (·=b) w w'→w'.heap.size=w.heap.size→wpList Tryz.prog ops Q rest (a.put o.dst undef) w'):
    wpList Tryz.prog ops Q (o::rest) a w:=by
 refine wpList_plain hg fun K' hK'=>?_;obtain⟨w',Qz,r1,r2,r3⟩:=Hr h k s v hn;unfold Oper.wp;simp[execOp,dL,hm,hx,hv,Qz,Result.andThen];exact hK' _ _ (hK w' r1 r2 r3)
structure au where
 L:Nat
 O:Nat
 A:Nat
 D:Nat
structure aj(w:World)(l:au)(p:M.ai):Prop where
 ok:M.dM p=true
 ord:l.O<l.A∧l.A<l.D∧l.D<l.L
 blk:∃a cap,az w l.L 94 #[.slice a p.length cap,.map (some l.O),.map (some l.A),.map (some l.D)]∧SliceOf 2 aH w (· <l.O) (.slice a p.length cap) p
 own:∃m,fI w l.O m∧∀k s,look m (k,s)=(M.nK p ⟨k,s⟩).map Int.ofNat
 ask:∃m,fI w l.A m∧∀k s,look m (k,s)=M.sN p k s
 laid:∃m,fI w l.D m∧∀k s v,look m (k,s)=some v→v=if M.bI p ⟨k,s⟩then 1 else 2
theorem aj.lt{w:World}{l:au}{p:M.ai}(h:aj w l p):l.L<w.heap.size:=by
 obtain⟨a,cap,hb,_⟩:=h.blk;exact hb.lt
theorem aj.keep{w w':World}{l:au}{p:M.ai}(h:aj w l p)(hk:∀k,k≤l.L→w'.heap[k]?=w.heap[k]?):aj w' l p:=by
 obtain⟨o1,o2,o3⟩:=h.ord;refine⟨h.ok,h.ord,?_,?_,?_,?_⟩
 · obtain⟨a,cap,hb,hs⟩:=h.blk;exact⟨a,cap,hb.keep (hk _ (Nat.le_refl _)),hs.keep aH.stays (fun b o v hI hc=>(World.cell?_of_block (hk b (by omega))).trans hc) fun _ h=>h⟩
 · obtain⟨m,hm,e⟩:=h.own;exact⟨m,hm.keep (hk _ (by omega)),e⟩
 · obtain⟨m,hm,e⟩:=h.ask;exact⟨m,hm.keep (hk _ (by omega)),e⟩
 · obtain⟨m,hm,e⟩:=h.laid;exact⟨m,hm.keep (hk _ (by omega)),e⟩
theorem aj.kp{D:Nat→Prop}{w w':World}{l:au}{p:M.ai}(h:aj w l p)(hk:Kp D w w')(hD:∀k,k≤l.L→¬D k):aj w' l p:=
 h.keep fun k GL=>hk.block k (by have:=h.lt;omega) (hD k GL)
theorem aj.ext{w w':World}{l:au}{p:M.ai}(h:aj w l p)(hk:Ext w w'):aj w' l p:=h.kp hk fun _ _ x=>x
theorem aj.CY{w:World}{l:au}{p:M.ai}(h:aj w l p):∀W,Ext w W→∀k s,
    (Instr.lookup 92 (.map (some l.O)) (.agg #[.int .i64 k,.string s]) true).run Tryz.prog W=
     .ok (.tuple #[.int .i64 (((M.nK p ⟨k,s⟩).map Int.ofNat).getD 0),.bool (M.nK p ⟨k,s⟩).isSome]) W:=by
 intro W hW k s;obtain⟨m,hm,e⟩:=h.own;rw[kJ (hm.kp hW fun x=>x),e];simp
theorem aj.Nv{w:World}{l:au}{p:M.ai}(h:aj w l p):∀W,Ext w W→∀k s,
    (Instr.lookup 92 (.map (some l.O)) (.agg #[.int .i64 k,.string s]) false).run Tryz.prog W=
     .ok (.int .i64 (((M.nK p ⟨k,s⟩).map Int.ofNat).getD 0)) W:=by
 intro W hW k s;obtain⟨m,hm,e⟩:=h.own;rw[sj (hm.kp hW fun x=>x),e]
theorem aj.CX{w:World}{l:au}{p:M.ai}(h:aj w l p):∀W,Ext w W→∀k s,
    (Instr.lookup 92 (.map (some l.A)) (.agg #[.int .i64 k,.string s]) true).run Tryz.prog W=
     .ok (.tuple #[.int .i64 ((M.sN p k s).getD 0),.bool (M.sN p k s).isSome]) W:=by
 intro W hW k s;obtain⟨m,hm,e⟩:=h.ask;rw[kJ (hm.kp hW fun x=>x),e]
theorem aj.cells{w:World}{l:au}{p:M.ai}(h:aj w l p):∃a cap,SliceOf 2 aH w (· <l.O) (.slice a p.length cap) p∧(∀W,Ext w W→W.cell? ⟨l.L,0,none⟩=some (.slice a p.length cap))∧
    (∀W,Ext w W→W.cell? ⟨l.L,1,none⟩=some (.map (some l.O)))∧(∀W,Ext w W→W.cell? ⟨l.L,2,none⟩=some (.map (some l.A)))∧(∀W,Ext w W→W.cell? ⟨l.L,3,none⟩=some (.map (some l.D))):=by
 obtain⟨a,cap,hb,hs⟩:=h.blk;exact⟨a,cap,hs,fun W hW=>Kp.aJ hW (hb.c 0 _ rfl),fun W hW=>Kp.aJ hW (hb.c 1 _ rfl),fun W hW=>Kp.aJ hW (hb.c 2 _ rfl),fun W hW=>Kp.aJ hW (hb.c 3 _ rfl)⟩
theorem Kl{op:Int}(h:M.isNum op=true):op=1∨op=2∨op=3∨op=11∨op=12∨op=13:=by
 simpa [M.isNum,or_assoc]using h
theorem A9{op:Int}(h:M.jo op=true):op=6∨op=15:=by
 simpa [M.jo,or_assoc]using h
theorem BC{op:Int}(h:M.kQ op=true):op=7∨op=8∨op=9:=by
 simpa [M.kQ,or_assoc]using h
theorem BH{op:Int}(h:M.mG op=true):op=4∨op=5∨op=10∨op=14:=by
 simpa [M.mG,or_assoc]using h
theorem NQ{op:Int}(h1:M.isNum op=false)(h2:M.jo op=false)(h3:M.kQ op=false)(h4:M.mG op=false):
    (¬op=1∧¬op=2∧¬op=3∧¬op=4∧¬op=5∧¬op=6∧¬op=7∧¬op=8)∧¬op=9∧¬op=10∧¬op=11∧¬op=12∧¬op=13∧¬op=14∧¬op=15:=by
 simp[M.isNum,M.jo,M.kQ,M.mG]at h1 h2 h3 h4;omega
theorem L9(op a:Int)(s m:ByteArray)(w:World)(h:M.isNum op=true):
    Calls Tryz.prog 151 #[.agg #[.int .i64 op,.int .i64 a,.string s,.string m]] w fun e w'=>e=.returned (.iface 258 (.agg #[.int .i64 op,.int .i64 a]))∧Ext w w':=by
 rcases Kl h with rfl|rfl|rfl|rfl|rfl|rfl
 all_goals
  clear h;go_enter Tryz.func151,Tryz.ntmps151;go_wp2;go_ret;exact⟨rfl,((Kp.refl _ _).alloc _)⟩
theorem L6(op a:Int)(s m:ByteArray)(w:World)(h:M.jo op=true):
    Calls Tryz.prog 151 #[.agg #[.int .i64 op,.int .i64 a,.string s,.string m]] w fun e w'=>e=.returned (.iface 260 (.agg #[.int .i64 op,.string s]))∧Ext w w':=by
 rcases A9 h with rfl|rfl
 all_goals
  clear h;go_enter Tryz.func151,Tryz.ntmps151;go_wp2;go_ret;exact⟨rfl,((Kp.refl _ _).alloc _)⟩
theorem L8(op a:Int)(s m:ByteArray)(w:World)(h:M.kQ op=true):
    Calls Tryz.prog 151 #[.agg #[.int .i64 op,.int .i64 a,.string s,.string m]] w fun e w'=>e=.returned (.iface 262 (.agg #[.int .i64 op,.string s,.string m]))∧Ext w w':=by
 rcases BC h with rfl|rfl|rfl
 all_goals
  clear h;go_enter Tryz.func151,Tryz.ntmps151;go_wp2;go_ret;exact⟨rfl,((Kp.refl _ _).alloc _)⟩
theorem Ma(op a:Int)(s m:ByteArray)(w:World)(h:M.mG op=true):
    Calls Tryz.prog 151 #[.agg #[.int .i64 op,.int .i64 a,.string s,.string m]] w fun e w'=>e=.returned (.iface 264 (.agg #[.int .i64 op]))∧Ext w w':=by
 rcases BH h with rfl|rfl|rfl|rfl
 all_goals
  clear h;go_enter Tryz.func151,Tryz.ntmps151;go_wp2;go_ret;exact⟨rfl,((Kp.refl _ _).alloc _)⟩
theorem PZ(op a:Int)(s m:ByteArray)(w:World)(h1:M.isNum op=false)(h2:M.jo op=false)(h3:M.kQ op=false)(h4:M.mG op=false):
    Calls Tryz.prog 151 #[.agg #[.int .i64 op,.int .i64 a,.string s,.string m]] w fun e w'=>e=.returned .nilIface∧Ext w w':=by
 obtain⟨⟨a1,a2,a3,a4,a5,a6,a7,a8⟩,b1,b2,b3,b4,b5,b6,b7⟩:=NQ h1 h2 h3 h4;clear h1 h2 h3 h4;go_enter Tryz.func151,Tryz.ntmps151;go_wp2;go_ret;exact⟨rfl,((Kp.refl _ _).alloc _)⟩
theorem zH(x:Value)(w:World):(Instr.typeAssert (.iface 258 x) 20 264 true).run Tryz.prog w=.ok (.tuple #[.agg #[.int .i64 0],.bool false]) w:=by kernel_rfl
theorem zA(x:Value)(w:World):(Instr.typeAssert (.iface 260 x) 20 264 true).run Tryz.prog w=.ok (.tuple #[.agg #[.int .i64 0],.bool false]) w:=by kernel_rfl
theorem zF(x:Value)(w:World):(Instr.typeAssert (.iface 262 x) 20 264 true).run Tryz.prog w=.ok (.tuple #[.agg #[.int .i64 0],.bool false]) w:=by kernel_rfl
theorem zI(x:Value)(w:World):(Instr.typeAssert (.iface 264 x) 20 264 true).run Tryz.prog w=.ok (.tuple #[x,.bool true]) w:=by kernel_rfl
theorem zG(x:Value)(w:World):(Instr.typeAssert (.iface 258 x) 20 258 true).run Tryz.prog w=.ok (.tuple #[x,.bool true]) w:=by kernel_rfl
theorem zy(x:Value)(w:World):(Instr.typeAssert (.iface 260 x) 20 258 true).run Tryz.prog w=.ok (.tuple #[.agg #[.int .i64 0,.int .i64 0],.bool false]) w:=by kernel_rfl
theorem zD(x:Value)(w:World):(Instr.typeAssert (.iface 262 x) 20 258 true).run Tryz.prog w=.ok (.tuple #[.agg #[.int .i64 0,.int .i64 0],.bool false]) w:=by kernel_rfl
theorem zw(x:Value)(w:World):(Instr.typeAssert (.iface 260 x) 20 260 true).run Tryz.prog w=.ok (.tuple #[x,.bool true]) w:=by kernel_rfl
theorem zB(x:Value)(w:World):(Instr.typeAssert (.iface 262 x) 20 260 true).run Tryz.prog w=.ok (.tuple #[.agg #[.int .i64 0,.string M.none_],.bool false]) w:=by kernel_rfl
theorem zC(x:Value)(w:World):(Instr.typeAssert (.iface 262 x) 20 262 true).run Tryz.prog w=.ok (.tuple #[x,.bool true]) w:=by kernel_rfl
theorem CL(op a:Int)(w:World):
    Calls Tryz.prog 152 #[.iface 258 (.agg #[.int .i64 op,.int .i64 a])] w fun e w'=>e=.returned (.agg #[.int .i64 op,.int .i64 a,.string M.none_,.string M.none_])∧Ext w w':=by
 have t1:=zH (.agg #[.int .i64 op,.int .i64 a]);have t2:=zG (.agg #[.int .i64 op,.int .i64 a]);go_enter Tryz.func152,Tryz.ntmps152;go_wp2;refine bodyPost_ret (v:=.agg #[.int .i64 op,.int .i64 a,.string M.none_,.string M.none_]) (by simp[results,Tryz.results152,go_sem]) rfl ?_;exact⟨rfl,kx⟩
theorem CK(op:Int)(s:ByteArray)(w:World):
    Calls Tryz.prog 152 #[.iface 260 (.agg #[.int .i64 op,.string s])] w fun e w'=>e=.returned (.agg #[.int .i64 op,.int .i64 0,.string s,.string M.none_])∧Ext w w':=by
 have t1:=zA (.agg #[.int .i64 op,.string s]);have t2:=zy (.agg #[.int .i64 op,.string s]);have t3:=zw (.agg #[.int .i64 op,.string s]);go_enter Tryz.func152,Tryz.ntmps152;go_wp2;refine bodyPost_ret (v:=.agg #[.int .i64 op,.int .i64 0,.string s,.string M.none_]) (by simp[results,Tryz.results152,go_sem]) rfl ?_;exact⟨rfl,kx⟩
theorem IV(op:Int)(s m:ByteArray)(w:World):
    Calls Tryz.prog 152 #[.iface 262 (.agg #[.int .i64 op,.string s,.string m])] w fun e w'=>e=.returned (.agg #[.int .i64 op,.int .i64 0,.string s,.string m])∧Ext w w':=by
 have t1:=zF (.agg #[.int .i64 op,.string s,.string m]);have t2:=zD (.agg #[.int .i64 op,.string s,.string m]);have t3:=zB (.agg #[.int .i64 op,.string s,.string m]);have t4:=zC (.agg #[.int .i64 op,.string s,.string m]);go_enter Tryz.func152,Tryz.ntmps152;go_wp2;refine bodyPost_ret (v:=.agg #[.int .i64 op,.int .i64 0,.string s,.string m]) (by simp[results,Tryz.results152,go_sem]) rfl ?_;exact⟨rfl,kx⟩
theorem xK(op:Int)(w:World):
    Calls Tryz.prog 152 #[.iface 264 (.agg #[.int .i64 op])] w fun e w'=>e=.returned (.agg #[.int .i64 op,.int .i64 0,.string M.none_,.string M.none_])∧Ext w w':=by
 have t1:=zI (.agg #[.int .i64 op]);go_enter Tryz.func152,Tryz.ntmps152;go_wp2;refine bodyPost_ret (v:=.agg #[.int .i64 op,.int .i64 0,.string M.none_,.string M.none_]) (by simp[results,Tryz.results152,go_sem]) rfl ?_;exact⟨rfl,kx⟩
theorem Km(op:Int)(w:World):
    Calls Tryz.prog 155 #[.int .i64 op] w fun e w'=>e=.returned (.tuple #[.int .i64 (M.iU op),.int .i64 (M.jM op)])∧w=w':=by
 by_cases h1:op=1
 · subst h1;go_enter Tryz.func155,Tryz.ntmps155;go_wp2;go_ret2;exact⟨rfl,rfl⟩
 by_cases h2:op=2
 · subst h2;go_enter Tryz.func155,Tryz.ntmps155;go_wp2;go_ret2;exact⟨rfl,rfl⟩
 by_cases h3:op=3
 · subst h3;go_enter Tryz.func155,Tryz.ntmps155;go_wp2;go_ret2;exact⟨rfl,rfl⟩
 · have e1:M.iU op=0:=if_neg h1;have e2:M.jM op=15:=by unfold M.jM;rw[if_neg h1,if_neg (by omega)]
   rw[e1,e2];clear e1 e2;go_enter Tryz.func155,Tryz.ntmps155;go_wp2;go_ret2;exact⟨rfl,rfl⟩
theorem rU(op a:Int)(w:World):
    Calls Tryz.prog 153 #[.iface 258 (.agg #[.int .i64 op,.int .i64 a])] w fun e w'=>e=.returned (.bool (decide (M.iU op≤a)&&decide (a≤M.jM op)))∧Ext w w':=by
 have t1:=zH (.agg #[.int .i64 op,.int .i64 a]);have t2:=zG (.agg #[.int .i64 op,.int .i64 a]);generalize hl:M.iU op=l;generalize hm:M.jM op=m;have hr:=Km op;rw[hl,hm]at hr;have HR:=Ys hr;clear hr hl hm;by_cases h1:l≤a
 · go_enter Tryz.func153,Tryz.ntmps153;go_wp2_with (go_at_call 155;refine(HR.o _).mono ?_;rintro e w' ⟨rfl,rfl⟩);go_ret;exact⟨ae (by rw[decide_eq_true h1];simp),kx⟩
 · go_enter Tryz.func153,Tryz.ntmps153;go_wp2_with (go_at_call 155;refine(HR.o _).mono ?_;rintro e w' ⟨rfl,rfl⟩);go_ret;exact⟨ae (by rw[decide_eq_false (p:=l≤a) (by omega)];simp),kx⟩
theorem rT(op:Int)(s:ByteArray)(w:World):
    Calls Tryz.prog 153 #[.iface 260 (.agg #[.int .i64 op,.string s])] w fun e w'=>e=.returned (.bool (M.aY s))∧Ext w w':=by
 have t1:=zA (.agg #[.int .i64 op,.string s]);have t2:=zy (.agg #[.int .i64 op,.string s]);have t3:=zw (.agg #[.int .i64 op,.string s]);go_enter Tryz.func153,Tryz.ntmps153;go_wp2_with (go_at_call 63;refine(uD _ _).mono ?_;rintro e w' ⟨rfl,rfl⟩);go_ret;exact⟨rfl,kx⟩
theorem yu(op:Int)(s m:ByteArray)(w:World):
    Calls Tryz.prog 153 #[.iface 262 (.agg #[.int .i64 op,.string s,.string m])] w fun e w'=>e=.returned (.bool (M.aY s&&M.aY m))∧Ext w w':=by
 have t1:=zF (.agg #[.int .i64 op,.string s,.string m]);have t2:=zD (.agg #[.int .i64 op,.string s,.string m]);have t3:=zB (.agg #[.int .i64 op,.string s,.string m]);have t4:=zC (.agg #[.int .i64 op,.string s,.string m]);cases hs:M.aY s
 all_goals
  have HS:=Ys hs;clear hs;go_enter Tryz.func153,Tryz.ntmps153;go_wp2_with fail;refine(uD _ _).mono ?_;rintro e w' ⟨rfl,rfl⟩;rw[HS.o]
 · go_wp2;go_ret;exact⟨rfl,kx⟩
 · go_wp2_with (go_at_call 63;refine(uD _ _).mono ?_;rintro e w' ⟨rfl,rfl⟩);go_ret;exact⟨rfl,kx⟩
theorem om(op:Int)(w:World):
    Calls Tryz.prog 153 #[.iface 264 (.agg #[.int .i64 op])] w fun e w'=>e=.returned (.bool true)∧Ext w w':=by
 have t1:=zI (.agg #[.int .i64 op]);go_enter Tryz.func153,Tryz.ntmps153;go_wp2;go_ret;exact⟨rfl,kx⟩
theorem iI(a b:ByteArray):(a.toList==b.toList)=decide (a=b):=by
 rw[ByteArray.toList_eq,ByteArray.toList_eq,Bool.eq_iff_iff,decide_eq_true_iff,beq_iff_eq];constructor
 · intro h;obtain⟨⟨x⟩⟩:=a;obtain⟨⟨y⟩⟩:=b;simp at h;subst h;rfl
 · intro h;rw[h]
theorem toList_nil(s:ByteArray):s.toList=[]↔s=M.none_:=by
 rw[ByteArray.toList_eq];obtain⟨⟨l⟩⟩:=s;simp[M.none_]
theorem JS{op a:Int}{s m:ByteArray}(h:M.isNum op=true):M.gK ⟨op,a,s,m⟩=(decide (s=M.none_)&&decide (m=M.none_)&&decide (M.iU op≤a)&&decide (a≤M.jM op)):=by
 unfold M.gK;rw[if_pos h]
theorem JQ{op a:Int}{s m:ByteArray}(h0:M.isNum op=false)(h:M.jo op=true):M.gK ⟨op,a,s,m⟩=(decide (a=0)&&decide (m=M.none_)&&M.aY s):=by
 unfold M.gK;rw[if_neg (by simp[h0]),if_pos h]
theorem JR{op a:Int}{s m:ByteArray}(h0:M.isNum op=false)(h1:M.jo op=false)(h:M.kQ op=true):M.gK ⟨op,a,s,m⟩=(decide (a=0)&&M.aY s&&M.aY m):=by
 unfold M.gK;rw[if_neg (by simp[h0]),if_neg (by simp[h1]),if_pos h]
theorem JU{op a:Int}{s m:ByteArray}(h0:M.isNum op=false)(h1:M.jo op=false)(h2:M.kQ op=false)(h:M.mG op=true):M.gK ⟨op,a,s,m⟩=(decide (a=0)&&decide (s=M.none_)&&decide (m=M.none_)):=by
 unfold M.gK;rw[if_neg (by simp[h0]),if_neg (by simp[h1]),if_neg (by simp[h2]),if_pos h]
theorem Nc{op a:Int}{s m:ByteArray}(h0:M.isNum op=false)(h1:M.jo op=false)(h2:M.kQ op=false)(h:M.mG op=false):M.gK ⟨op,a,s,m⟩=false:=by
 unfold M.gK;rw[if_neg (by simp[h0]),if_neg (by simp[h1]),if_neg (by simp[h2]),if_neg (by simp[h])]
theorem Nl{op:Int}(h:M.jo op=true):M.isNum op=false:=by rcases A9 h with rfl|rfl<;>rfl
theorem EB{op:Int}(h:M.kQ op=true):M.isNum op=false∧M.jo op=false:=by rcases BC h with rfl|rfl|rfl<;>exact⟨rfl,rfl⟩
theorem yP{op:Int}(h:M.mG op=true):M.isNum op=false∧M.jo op=false∧M.kQ op=false:=by
 rcases BH h with rfl|rfl|rfl|rfl<;>exact⟨rfl,rfl,rfl⟩
theorem JX(op a:Int)(s m:ByteArray)(w:World)(h:M.isNum op=true):
    Calls Tryz.prog 147 #[.agg #[.int .i64 op,.int .i64 a,.string s,.string m]] w fun e w'=>e=.returned (.bool (M.gK ⟨op,a,s,m⟩))∧Ext w w':=by
 have HE:=Ys (JS (op:=op) (a:=a) (s:=s) (m:=m) h);have HK:=Ys h;clear h;go_enter Tryz.func147,Tryz.ntmps147;go_wp2_with (go_at_call 151;refine(L9 _ _ _ _ _ HK.o).mono ?_;rintro e w1 ⟨rfl,hB⟩);have b1:=(az.new w 30 #[.int .i64 op,.int .i64 a,.string s,.string m]).ext hB;have c0:=b1.c 0 _ rfl;have c1:=b1.c 1 _ rfl;have c2:=b1.c 2 _ rfl;have c3:=b1.c 3 _ rfl;have hz:=b1.lt;have HB:=Ys hB;clear hB b1;by_cases hs:s.toList=[]
 · by_cases hm:m.toList=[]
   · first|(go_region_with (first|(go_at_call 152;refine(CL _ _ _).mono ?_;rintro e w2 ⟨rfl,hB2⟩;have d0:=hB2.aJ c0;have d1:=hB2.aJ c1;have d2:=hB2.aJ c2;have d3:=hB2.aJ c3)|(go_at_call 153;refine(rU _ _ _).mono ?_;rintro e w3 ⟨rfl,Ar⟩)))|fail
     all_goals
      go_wp2;go_ret;have hB:=HB.o;exact⟨ae (by rw[HE.o];rw[toList_nil]at hs hm;simp[hs,hm]),(by repeat (first|assumption|exact Kp.refl _ _|apply Kp.alloc|apply Kp.drew|apply Kp.drewN|refine Kp.trans ?_ (by assumption)))⟩
   · first|(go_region_with (first|(go_at_call 152;refine(CL _ _ _).mono ?_;rintro e w2 ⟨rfl,hB2⟩;have d0:=hB2.aJ c0;have d1:=hB2.aJ c1;have d2:=hB2.aJ c2;have d3:=hB2.aJ c3)|(go_at_call 153;refine(rU _ _ _).mono ?_;rintro e w3 ⟨rfl,Ar⟩)))|fail
     all_goals
      go_wp2;go_ret;have hB:=HB.o;exact⟨ae (by rw[HE.o];rw[toList_nil]at hm;simp[hm]),(by repeat (first|assumption|exact Kp.refl _ _|apply Kp.alloc|apply Kp.drew|apply Kp.drewN|refine Kp.trans ?_ (by assumption)))⟩
 · first|(go_region_with (first|(go_at_call 152;refine(CL _ _ _).mono ?_;rintro e w2 ⟨rfl,hB2⟩;have d0:=hB2.aJ c0;have d1:=hB2.aJ c1;have d2:=hB2.aJ c2;have d3:=hB2.aJ c3)|(go_at_call 153;refine(rU _ _ _).mono ?_;rintro e w3 ⟨rfl,Ar⟩)))|fail
   all_goals
    go_wp2;go_ret;have hB:=HB.o;exact⟨ae (by rw[HE.o];rw[toList_nil]at hs;simp[hs]),(by repeat (first|assumption|exact Kp.refl _ _|apply Kp.alloc|apply Kp.drew|apply Kp.drewN|refine Kp.trans ?_ (by assumption)))⟩
theorem JV(op a:Int)(s m:ByteArray)(w:World)(h:M.jo op=true):
    Calls Tryz.prog 147 #[.agg #[.int .i64 op,.int .i64 a,.string s,.string m]] w fun e w'=>e=.returned (.bool (M.gK ⟨op,a,s,m⟩))∧Ext w w':=by
 have HE:=Ys (JQ (op:=op) (a:=a) (s:=s) (m:=m) (Nl h) h);have HK:=Ys h;clear h;go_enter Tryz.func147,Tryz.ntmps147;go_wp2_with (go_at_call 151;refine(L6 _ _ _ _ _ HK.o).mono ?_;rintro e w1 ⟨rfl,hB⟩);have b1:=(az.new w 30 #[.int .i64 op,.int .i64 a,.string s,.string m]).ext hB;have c0:=b1.c 0 _ rfl;have c1:=b1.c 1 _ rfl;have c2:=b1.c 2 _ rfl;have c3:=b1.c 3 _ rfl;have hz:=b1.lt;have HB:=Ys hB;clear hB b1;by_cases ha:0=a
 · by_cases hm:m.toList=[]
   · first|(go_region_with (first|(go_at_call 152;refine(CK _ _ _).mono ?_;rintro e w2 ⟨rfl,hB2⟩;have d0:=hB2.aJ c0;have d1:=hB2.aJ c1;have d2:=hB2.aJ c2;have d3:=hB2.aJ c3)|(go_at_call 153;refine(rT _ _ _).mono ?_;rintro e w3 ⟨rfl,Ar⟩)))|fail
     all_goals
      go_wp2;go_ret;have hB:=HB.o;exact⟨ae (by rw[HE.o];rw[toList_nil]at hm;simp[←ha,hm]),(by repeat (first|assumption|exact Kp.refl _ _|apply Kp.alloc|apply Kp.drew|apply Kp.drewN|refine Kp.trans ?_ (by assumption)))⟩
   · first|(go_region_with (first|(go_at_call 152;refine(CK _ _ _).mono ?_;rintro e w2 ⟨rfl,hB2⟩;have d0:=hB2.aJ c0;have d1:=hB2.aJ c1;have d2:=hB2.aJ c2;have d3:=hB2.aJ c3)|(go_at_call 153;refine(rT _ _ _).mono ?_;rintro e w3 ⟨rfl,Ar⟩)))|fail
     all_goals
      go_wp2;go_ret;have hB:=HB.o;exact⟨ae (by rw[HE.o];rw[toList_nil]at hm;simp[hm]),(by repeat (first|assumption|exact Kp.refl _ _|apply Kp.alloc|apply Kp.drew|apply Kp.drewN|refine Kp.trans ?_ (by assumption)))⟩
 · first|(go_region_with (first|(go_at_call 152;refine(CK _ _ _).mono ?_;rintro e w2 ⟨rfl,hB2⟩;have d0:=hB2.aJ c0;have d1:=hB2.aJ c1;have d2:=hB2.aJ c2;have d3:=hB2.aJ c3)|(go_at_call 153;refine(rT _ _ _).mono ?_;rintro e w3 ⟨rfl,Ar⟩)))|fail
   all_goals
    go_wp2;go_ret;have hB:=HB.o;exact⟨ae (by rw[HE.o];simp[Ne.symm ha]),(by repeat (first|assumption|exact Kp.refl _ _|apply Kp.alloc|apply Kp.drew|apply Kp.drewN|refine Kp.trans ?_ (by assumption)))⟩
theorem JW(op a:Int)(s m:ByteArray)(w:World)(h:M.kQ op=true):
    Calls Tryz.prog 147 #[.agg #[.int .i64 op,.int .i64 a,.string s,.string m]] w fun e w'=>e=.returned (.bool (M.gK ⟨op,a,s,m⟩))∧Ext w w':=by
 have HE:=Ys (JR (op:=op) (a:=a) (s:=s) (m:=m) (EB h).1 (EB h).2 h);have HK:=Ys h;clear h;go_enter Tryz.func147,Tryz.ntmps147;go_wp2_with (go_at_call 151;refine(L8 _ _ _ _ _ HK.o).mono ?_;rintro e w1 ⟨rfl,hB⟩);have b1:=(az.new w 30 #[.int .i64 op,.int .i64 a,.string s,.string m]).ext hB;have c0:=b1.c 0 _ rfl;have c1:=b1.c 1 _ rfl;have c2:=b1.c 2 _ rfl;have c3:=b1.c 3 _ rfl;have hz:=b1.lt;have HB:=Ys hB;clear hB b1;by_cases ha:0=a
 · first|(go_region_with (first|(go_at_call 152;refine(IV _ _ _ _).mono ?_;rintro e w2 ⟨rfl,hB2⟩;have d0:=hB2.aJ c0;have d1:=hB2.aJ c1;have d2:=hB2.aJ c2;have d3:=hB2.aJ c3)|(go_at_call 153;refine(yu _ _ _ _).mono ?_;rintro e w3 ⟨rfl,Ar⟩)))|fail
   all_goals
    go_wp2;go_ret;have hB:=HB.o;exact⟨ae (by rw[HE.o];simp[←ha]),(by repeat (first|assumption|exact Kp.refl _ _|apply Kp.alloc|apply Kp.drew|apply Kp.drewN|refine Kp.trans ?_ (by assumption)))⟩
 · first|(go_region_with (first|(go_at_call 152;refine(IV _ _ _ _).mono ?_;rintro e w2 ⟨rfl,hB2⟩;have d0:=hB2.aJ c0;have d1:=hB2.aJ c1;have d2:=hB2.aJ c2;have d3:=hB2.aJ c3)|(go_at_call 153;refine(yu _ _ _ _).mono ?_;rintro e w3 ⟨rfl,Ar⟩)))|fail
   all_goals
    go_wp2;go_ret;have hB:=HB.o;exact⟨ae (by rw[HE.o];simp[Ne.symm ha]),(by repeat (first|assumption|exact Kp.refl _ _|apply Kp.alloc|apply Kp.drew|apply Kp.drewN|refine Kp.trans ?_ (by assumption)))⟩
theorem JY (op a : Int) (s m : ByteArray) (w : World) (h : M.mG op = true) :
    Calls Tryz.prog 147 #[.agg #[.int .i64 op,.int .i64 a,.string s,.string m]] w fun e w'=>e=.returned (.bool (M.gK ⟨op,a,s,m⟩))∧Ext w w':=by
 have HE:=Ys (JU (op:=op) (a:=a) (s:=s) (m:=m) (yP h).1 (yP h).2.1 (yP h).2.2 h);have HK:=Ys h;clear h;go_enter Tryz.func147,Tryz.ntmps147;go_wp2_with (go_at_call 151;refine(Ma _ _ _ _ _ HK.o).mono ?_;rintro e w1 ⟨rfl,hB⟩);have b1:=(az.new w 30 #[.int .i64 op,.int .i64 a,.string s,.string m]).ext hB;have c0:=b1.c 0 _ rfl;have c1:=b1.c 1 _ rfl;have c2:=b1.c 2 _ rfl;have c3:=b1.c 3 _ rfl;have hz:=b1.lt;have HB:=Ys hB;clear hB b1;by_cases ha:0=a
 · by_cases hs:s.toList=[]
   · by_cases hm:m.toList=[]
     · first|(go_region_with (first|(go_at_call 152;refine(xK _ _).mono ?_;rintro e w2 ⟨rfl,hB2⟩;have d0:=hB2.aJ c0;have d1:=hB2.aJ c1;have d2:=hB2.aJ c2;have d3:=hB2.aJ c3)|(go_at_call 153;refine(om _ _).mono ?_;rintro e w3 ⟨rfl,Ar⟩)))|fail
       all_goals
        go_wp2;go_ret;have hB:=HB.o;exact⟨ae (by rw[HE.o];rw[toList_nil]at hs hm;simp[←ha,hs,hm]),(by repeat (first|assumption|exact Kp.refl _ _|apply Kp.alloc|apply Kp.drew|apply Kp.drewN|refine Kp.trans ?_ (by assumption)))⟩
     · first|(go_region_with (first|(go_at_call 152;refine(xK _ _).mono ?_;rintro e w2 ⟨rfl,hB2⟩;have d0:=hB2.aJ c0;have d1:=hB2.aJ c1;have d2:=hB2.aJ c2;have d3:=hB2.aJ c3)|(go_at_call 153;refine(om _ _).mono ?_;rintro e w3 ⟨rfl,Ar⟩)))|fail
       all_goals
        go_wp2;go_ret;have hB:=HB.o;exact⟨ae (by rw[HE.o];rw[toList_nil]at hm;simp[hm]),(by repeat (first|assumption|exact Kp.refl _ _|apply Kp.alloc|apply Kp.drew|apply Kp.drewN|refine Kp.trans ?_ (by assumption)))⟩
   · first|(go_region_with (first|(go_at_call 152;refine(xK _ _).mono ?_;rintro e w2 ⟨rfl,hB2⟩;have d0:=hB2.aJ c0;have d1:=hB2.aJ c1;have d2:=hB2.aJ c2;have d3:=hB2.aJ c3)|(go_at_call 153;refine(om _ _).mono ?_;rintro e w3 ⟨rfl,Ar⟩)))|fail
     all_goals
      go_wp2;go_ret;have hB:=HB.o;exact⟨ae (by rw[HE.o];rw[toList_nil]at hs;simp[hs]),(by repeat (first|assumption|exact Kp.refl _ _|apply Kp.alloc|apply Kp.drew|apply Kp.drewN|refine Kp.trans ?_ (by assumption)))⟩
 · first|(go_region_with (first|(go_at_call 152;refine(xK _ _).mono ?_;rintro e w2 ⟨rfl,hB2⟩;have d0:=hB2.aJ c0;have d1:=hB2.aJ c1;have d2:=hB2.aJ c2;have d3:=hB2.aJ c3)|(go_at_call 153;refine(om _ _).mono ?_;rintro e w3 ⟨rfl,Ar⟩)))|fail
   all_goals
    go_wp2;go_ret;have hB:=HB.o;exact⟨ae (by rw[HE.o];simp[Ne.symm ha]),(by repeat (first|assumption|exact Kp.refl _ _|apply Kp.alloc|apply Kp.drew|apply Kp.drewN|refine Kp.trans ?_ (by assumption)))⟩
theorem Ng(op a:Int)(s m:ByteArray)(w:World)(h1:M.isNum op=false)(h2:M.jo op=false)(h3:M.kQ op=false)(h4:M.mG op=false):
    Calls Tryz.prog 147 #[.agg #[.int .i64 op,.int .i64 a,.string s,.string m]] w fun e w'=>e=.returned (.bool (M.gK ⟨op,a,s,m⟩))∧Ext w w':=by
 have HE:=Ys (Nc (op:=op) (a:=a) (s:=s) (m:=m) h1 h2 h3 h4);have H:=Ys (And.intro (And.intro h1 h2) (And.intro h3 h4));clear h1 h2 h3 h4;go_enter Tryz.func147,Tryz.ntmps147;go_wp2_with (go_at_call 151;refine(PZ _ _ _ _ _ H.o.1.1 H.o.1.2 H.o.2.1 H.o.2.2).mono ?_;rintro e w1 ⟨rfl,hB⟩);go_quiet (fail);go_wp2;go_ret;exact⟨ae (by rw[HE.o]),(by repeat (first|assumption|exact Kp.refl _ _|apply Kp.alloc|apply Kp.drew|apply Kp.drewN|refine Kp.trans ?_ (by assumption)))⟩
theorem Nf(i:M.Ins)(w:World):
    Calls Tryz.prog 147 #[.agg #[.int .i64 i.op,.int .i64 i.a,.string i.name,.string i.member]] w fun e w'=>e=.returned (.bool (M.gK i))∧Ext w w':=by
 cases h1:M.isNum i.op
 · cases h2:M.jo i.op
   · cases h3:M.kQ i.op
     · cases h4:M.mG i.op
       · exact Ng _ _ _ _ _ h1 h2 h3 h4
       · exact JY _ _ _ _ _ h4
     · exact JW _ _ _ _ _ h3
   · exact JV _ _ _ _ _ h2
 · exact JX _ _ _ _ _ h1
theorem all_succ{α:Type}{p:α→Bool}{l:List α}{k:Nat}{x:α}(h:(l.take k).all p=true)(hx:l[k]?=some x)(hp:p x=true):(l.take (k+1)).all p=true:=by
 rw[List.take_add_one,hx,List.all_append,h];simp[hp]
theorem jD{α:Type}{p:α→Bool}{l:List α}{k:Nat}{x:α}(hx:l[k]?=some x)(hp:p x=false):l.all p=false:=
 List.all_eq_false.2 ⟨x,List.mem_of_getElem? hx,by simp[hp]⟩
theorem iH{α:Type}{p:α→Bool}{l:List α}{k:Nat}(h:(l.take k).all p=true)(hk:l.length≤k):l.all p=true:=by
 rw[List.take_of_length_le hk]at h;exact h
theorem get_some{α:Type}{l:List α}{k:Nat}(h:k<l.length):∃x,l[k]?=some x:=⟨_,List.getElem?_eq_getElem h⟩
theorem Dn(w:World)(I:Nat→Prop)(v:Value)(l:List M.Tag)(h:SliceOf 2 eU w I v l):
    Calls Tryz.prog 148 #[v] w fun e w'=>e=.returned (.bool (M.oU l))∧Ext w w':=by
 obtain⟨a,cap,rfl,hn,dx⟩:=h.form;go_enter Tryz.func148,Tryz.ntmps148;go_wp2;go_loopw [7] (fun i wr=>∃k:Nat,k≤l.length∧i=.int .i64 k∧Ext w wr∧Zs ((l.take k).all M.uw=true)) (fun i _=>l.length - (intOf i).toNat)
 case atStart=>exact⟨0,Nat.zero_le _,rfl,Kp.refl _ _,Ys (by simp)⟩
 case round =>
  obtain⟨k,hk,rfl,hE,HA⟩:=hrel;by_cases cK:k<l.length
  · obtain⟨x,hx⟩:=get_some cK;obtain⟨b,off,cs,rfl,hI,rfl, -,hc⟩:=h.get hx;obtain⟨g0,g1⟩:=(hc.ext hE).two;have HX:=Ys hx;clear hx hc;cases ht:M.uw x
    all_goals
     have HT:=Ys ht;clear ht;go_wp2_with (go_at_call 154;refine(VJ x _).mono ?_;rintro e w1 ⟨rfl,hB⟩;rw[HT.o])
    · go_ret;exact⟨ae (jD HX.o HT.o).symm,(by repeat (first|assumption|exact Kp.refl _ _|apply Kp.alloc|apply Kp.drew|apply Kp.drewN|refine Kp.trans ?_ (by assumption)))⟩
    · go_roundw
      case rel=>exact⟨k+1,by omega,by go_num,(by repeat (first|assumption|exact Kp.refl _ _|apply Kp.alloc|apply Kp.drew|apply Kp.drewN|refine Kp.trans ?_ (by assumption))),Ys (all_succ HA.o HX.o HT.o)⟩
      case measure=>simp[intOf];omega
  · go_wp2;go_ret;exact⟨ae (iH HA.o (by omega)).symm,kx⟩
theorem PL (w : World) (I : Nat → Prop) (cs : List Value) (m : M.Method) (h : aC w I m cs) :
    Calls Tryz.prog 139 #[.agg cs.toArray] w fun e w'=>e=.returned (.bool (M.codeOk m))∧Ext w w':=by
 obtain⟨va,vc,vm,rfl,h1,h2,h3⟩:=h;obtain⟨a,cap,rfl,hn,dx⟩:=h2.form;by_cases yI:m.code.length<1
 · go_enter Tryz.func139,Tryz.ntmps139;go_wp2;go_ret;exact⟨ae (by unfold M.codeOk;rw[decide_eq_false (by omega)];rfl),kx⟩
 by_cases DD:16<m.code.length
 · go_enter Tryz.func139,Tryz.ntmps139;go_wp2;go_ret;exact⟨ae (by unfold M.codeOk;rw[decide_eq_false (p:=m.code.length≤16) (by omega)];simp),kx⟩
 have HL:Zs (M.codeOk m=m.code.all (M.fM m)):=Ys (by
  unfold M.codeOk;rw[decide_eq_true (by omega),decide_eq_true (by omega)];rfl)
 go_enter Tryz.func139,Tryz.ntmps139;go_wp2;have aM:Ext w (w.alloc (.cells #[.string m.name,va,.int .i64 m.ret.kind,.string m.ret.name,.int .i64 m.locals,.int .i64 m.stack,.slice a m.code.length cap,vm] 34)):=((Kp.refl _ _).alloc _);have b0:=az.new w 34 #[.string m.name,va,.int .i64 m.ret.kind,.string m.ret.name,.int .i64 m.locals,.int .i64 m.stack,.slice a m.code.length cap,vm];have p4:=b0.c 4 _ rfl;have p6:=b0.c 6 _ rfl;go_loopw [18] (fun i wr=>∃k:Nat,k≤m.code.length∧i=.int .i64 k∧Ext (w.alloc (.cells #[.string m.name,va,.int .i64 m.ret.kind,.string m.ret.name,.int .i64 m.locals,.int .i64 m.stack,.slice a m.code.length cap,vm] 34)) wr∧Zs ((m.code.take k).all (M.fM m)=true)) (fun i _=>m.code.length - (intOf i).toNat)
 case atStart=>exact⟨0,Nat.zero_le _,rfl,Kp.refl _ _,Ys (by simp)⟩
 case round =>
  obtain⟨k,hk,rfl,hE,HA⟩:=hrel;by_cases cK:k<m.code.length
  · obtain ⟨x, hx⟩ := get_some cK; obtain ⟨b, off, cs, rfl, hI, rfl, -, hc⟩ := h2.get hx; obtain ⟨g0, g1, g2, g3⟩ := ((hc.ext aM).ext hE).four; have q4 := hE.aJ p4; have q6 := hE.aJ p6; have HX := Ys hx; clear hx hc p4 p6; cases ht : M.gK x
    · have HT:=Ys ht;clear ht;go_wp2_with (go_at_call 147;refine(Nf x _).mono ?_;rintro e w1 ⟨rfl,hB⟩;rw[HT.o]);go_ret;exact⟨ae (by rw[HL.o];exact(jD HX.o (by unfold M.fM;rw[HT.o];rfl)).symm),(by repeat (first|assumption|exact Kp.refl _ _|apply Kp.alloc|apply Kp.drew|apply Kp.drewN|refine Kp.trans ?_ (by assumption)))⟩
    · have HT := Ys ht; clear ht; go_wp2_with (go_at_call 147; refine (Nf x _).mono ?_; rintro e w1 ⟨rfl, hB⟩; rw [HT.o]; have r4 := hB.Ii q4; have r6 := hB.Ii q6; obtain ⟨l8, hf1⟩ := DZ hB)
      all_goals first
       | (go_ret
          exact⟨ae (by
           rw[HL.o];exact(jD HX.o (by unfold M.fM;rw[HT.o];(repeat' split)<;>simp<;>simp_all<;>omega)).symm),(by repeat (first|assumption|exact Kp.refl _ _|apply Kp.alloc|apply Kp.drew|apply Kp.drewN|refine Kp.trans ?_ (by assumption)))⟩)
       | (go_roundw
          case rel=>
           exact⟨k+1,by omega,by go_num,(by repeat (first|assumption|exact Kp.refl _ _|apply Kp.alloc|apply Kp.drew|apply Kp.drewN|refine Kp.trans ?_ (by assumption))),Ys (all_succ HA.o HX.o (by
            unfold M.fM;rw[HT.o];(repeat' split)<;>simp<;>simp_all<;>omega))⟩
          case measure=>simp[intOf];omega)
  · go_wp2;go_ret;exact⟨ae (by rw[HL.o];exact(iH HA.o (by omega)).symm),(by repeat (first|assumption|exact Kp.refl _ _|apply Kp.alloc|apply Kp.drew|apply Kp.drewN|refine Kp.trans ?_ (by assumption)))⟩
end Go.Proofs.YtohpiobncgafeaaGreatDoor
