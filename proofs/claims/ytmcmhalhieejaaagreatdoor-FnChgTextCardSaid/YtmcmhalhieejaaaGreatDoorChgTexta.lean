/- Walks. -/
import Derived.WalkKit
import Derived.Deep.Draws
import Derived.Lib.Hide
import Derived.Test.YtmcmhalhieejaaaGreatDoorProg
import Derived.WalkLawsBesides
import Derived.WalkSpells
import Derived.Deep.QuietTactic
import Derived.BigQuiet
import Derived.Lib.SplitLaws
import Derived.Laws.Rows
import Derived.ArgAppend
import Derived.Lib.SlBytesRow
import Derived.OwnWalk
import Derived.OwnWalkIn
import Derived.WalkSmall
import Derived.Deep.RegionLaw
import Derived.Deep.AppendLies
set_option maxRecDepth 100000
set_option maxHeartbeats 4000000
set_option linter.unusedSimpArgs false
set_option linter.unusedVariables false
namespace Go.Proofs.YtmcmhalhieejaaaGreatDoor
def Zz(p:Prop):Prop:=p
theorem Zz.o{p:Prop}(h:Zz p):p:=h
theorem Zy{p:Prop}(h:p):Zz p:=h
end Go.Proofs.YtmcmhalhieejaaaGreatDoor
namespace Go.Proofs.YtmcmhalhieejaaaGreatDoor.M
structure Kind where
 kind:Int
 name:ByteArray
structure Tag where
 kind:Int
 name:ByteArray
structure Ins where
 op:Int
 a:Int
 name:ByteArray
 member:ByteArray
structure SMap where
 at_:Int
 locals:List Tag
 stack:List Tag
structure Field where
 name:ByteArray
 kind:Kind
structure Method where
 name:ByteArray
 args:List Kind
 ret:Kind
 locals:Int
 stack:Int
 code:List Ins
 maps:List SMap
structure Class where
 name:ByteArray
 av:ByteArray
 fields:List Field
 methods:List Method
structure Ask where
 name:ByteArray
 keeper:Int
structure eO where
 owns:List Class
 asks:List Ask
abbrev aP:=List eO
structure Ref where
 keeper:Int
 name:ByteArray
theorem Ref.dP{a b:Ref}:a=b↔a.keeper=b.keeper∧a.name=b.name:=by
 cases a;cases b;simp
theorem Kind.dP{a b:Kind}:a=b↔a.kind=b.kind∧a.name=b.name:=by
 cases a;cases b;simp
theorem Tag.dP{a b:Tag}:a=b↔a.kind=b.kind∧a.name=b.name:=by
 cases a;cases b;simp
theorem Ins.dP{a b:Ins}:a=b↔a.op=b.op∧a.a=b.a∧a.name=b.name∧a.member=b.member:=by
 cases a;cases b;simp
instance:DecidableEq Ref:=fun _ _=>decidable_of_iff' _ Ref.dP
instance:DecidableEq Kind:=fun _ _=>decidable_of_iff' _ Kind.dP
instance:DecidableEq Tag:=fun _ _=>decidable_of_iff' _ Tag.dP
instance:DecidableEq Ins:=fun _ _=>decidable_of_iff' _ Ins.dP
theorem Field.dP{a b:Field}:a=b↔a.name=b.name∧a.kind=b.kind:=by
 cases a;cases b;simp
instance:DecidableEq Field:=fun _ _=>decidable_of_iff' _ Field.dP
def letter(c:UInt8):Bool:=decide (97≤c.toNat)&&decide (c.toNat≤122)
def aB(s:ByteArray):Bool:=decide (1≤s.size)&&decide (s.size≤6)&&s.data.toList.all letter
abbrev none_:ByteArray:=⟨#[]⟩
def bF(k:Kind):Bool:=(k.kind==1&&decide (k.name=none_))|| (k.kind==2&&aB k.name)
def fE(t:Tag):Bool:=
 if t.kind=0∨t.kind=1∨t.kind=3 then decide (t.name=none_)else if t.kind=2 then aB t.name else false
def gp(op:Int):Int:=if op=1 then -9999 else 0
def gM(op:Int):Int:=if op=1 then 9999 else if op=2∨op=3 then 5 else 15
def isNum(op:Int):Bool:=op==1 || op==2 || op==3 || op==11 || op==12 || op==13
def dQ(op:Int):Bool:=op==6 || op==15
def eD(op:Int):Bool:=op==7 || op==8 || op==9
def fB(op:Int):Bool:=op==4 || op==5 || op==10 || op==14
def bJ(i:Ins):Bool:=
 if isNum i.op then decide (i.name=none_)&&decide (i.member=none_)&&decide (gp i.op≤i.a)&&decide (i.a≤gM i.op)
 else if dQ i.op then decide (i.a=0)&&decide (i.member=none_)&&aB i.name
 else if eD i.op then decide (i.a=0)&&aB i.name&&aB i.member
 else if fB i.op then decide (i.a=0)&&decide (i.name=none_)&&decide (i.member=none_)
 else false
def ig(l:List Tag):Bool:=l.all fE
def kJ(m:Method)(i:Ins):Bool:=
 bJ i&&(if i.op=2∨i.op=3 then decide (i.a<m.locals)else if i.op=11∨i.op=12∨i.op=13 then decide (i.a<m.code.length)else true)
def codeOk(m:Method):Bool:=decide (1≤m.code.length)&&decide (m.code.length≤16)&&m.code.all (kJ m)
def qx(m:Method)(f:SMap):Bool:=
 decide (f.at_ <m.code.length)&&decide ((f.locals.length:Int)=m.locals)&&decide ((f.stack.length:Int)≤m.stack)&&ig f.locals&&ig f.stack
def aT(m:Method):Int→List SMap→Bool
 |_,[]=>true
 |last,f::r=>decide (last<f.at_)&&qx m f&&aT m f.at_ r
def fP(m:Method):Bool:=decide (m.maps.length≤5)&&aT m 0 m.maps
def dN(m:Method):Bool:=
 aB m.name&&decide (m.args.length≤3)&&bF m.ret&&m.args.all bF&&
 decide ((m.args.length:Int)+1≤m.locals)&&decide (m.locals≤6)&&decide (1≤m.stack)&&decide (m.stack≤5)&&codeOk m&&fP m
def aG{α:Type}(name:α→ByteArray)(ok:α→Bool):List α→List ByteArray→Bool
 |[],_=>true
 |x::r,seen=>ok x&& !(seen.any fun y=>decide (y=name x))&&aG name ok r (seen++[name x])
def eY(c:Class):Bool:=
 aB c.name&&(decide (c.av=none_)|| aB c.av)&&decide (c.fields.length≤3)&&decide (c.methods.length≤4)&&
 aG Field.name (fun f=>aB f.name&&bF f.kind) c.fields []&&aG Method.name dN c.methods []
def has(p:aP)(k:Int):Bool:=decide (0≤k)&&decide (k<p.length)
def dJ(p:aP)(k:eO):Bool:=
 decide (k.owns.length≤5)&&decide (k.asks.length≤4)&&aG Class.name eY k.owns []&&aG Ask.name (fun a=>aB a.name&&has p a.keeper) k.asks []
def qw(p:aP):Bool:=decide (1≤p.length)&&decide (p.length≤3)&&p.all (dJ p)
def wG(p:aP)(k:Int):Option eO:=if 0≤k then p[k.toNat]? else none
def cls?(p:aP)(r:Ref):Option Class:=(wG p r.keeper).bind fun k=>k.owns.find? fun c=>c.name=r.name
def Je(p:aP)(k:Int)(n:ByteArray):Option Int:=(wG p k).bind fun q=>(q.asks.find? fun a=>a.name=n).map Ask.keeper
def owned(p:aP)(r:Ref):Bool:=(cls? p r).isSome
def rW:Ref:=⟨0,none_⟩
def Aa(p:aP)(n:ByteArray):Nat→List Int→Int→List Int×Int
 |0,_,_=>([],3)
 |f+1,asked,k=>match Je p k n with
  |none=>if owned p ⟨k,n⟩then(asked,1)else([],2)
  |some next=>if asked.contains next then([],3)else Aa p n f (asked++[next]) next
def path(p:aP)(k:Int)(n:ByteArray):List Int×Int:=if has p k then Aa p n 4 [k] k else([],2)
def resolve(p:aP)(k:Int)(n:ByteArray):Ref×Int:=
 if(path p k n).2=1 then(⟨(path p k n).1.getLastD 0,n⟩,1)else(rW,(path p k n).2)
def av(p:aP)(r:Ref):ByteArray:=((cls? p r).map Class.av).getD none_
def wm(p:aP):Nat→Ref→Option (List Ref)
 |0,_=>none
 |f+1,r=>
  if av p r=none_ then some [r]
  else if(resolve p r.keeper (av p r)).2=1 then(wm p f (resolve p r.keeper (av p r)).1).map (r::·)else none
def Ci(p:aP)(r:Ref):Option (List Ref):=wm p 6 r
def find(p:aP)(k:Int)(n:ByteArray):Ref×Int:=
 if(resolve p k n).2=1 then(if(Ci p (resolve p k n).1).isSome then((resolve p k n).1,1)else(rW,4))else(rW,(resolve p k n).2)
def zS(p:aP)(r:Ref):Bool:=decide ((find p r.keeper r.name).2=1)&&decide ((find p r.keeper r.name).1=r)
def chain(p:aP)(r:Ref):List Ref:=if zS p r then(Ci p r).getD []else []
def under(p:aP)(low top:Ref):Bool:=(chain p low).contains top
def agree(p:aP)(a b:Int)(k:Kind):Bool:=
 k.kind==1 || (if(find p a k.name).2=1∧(find p b k.name).2=1 then decide ((find p a k.name).1=(find p b k.name).1)
  else decide ((find p a k.name).2≠1)&&decide ((find p b k.name).2≠1))
def lV(p:aP)(a b:Int)(m:Method):Bool:=m.args.all (agree p a b)&&agree p a b m.ret
def zU(c:Class)(n:ByteArray):Option Nat:=c.methods.findIdx? fun m=>m.name=n
def Be(c:Class)(n:ByteArray):Option Nat:=c.fields.findIdx? fun f=>f.name=n
def Ki:Class:=⟨none_,none_,[],[]⟩
def cls(p:aP)(r:Ref):Class:=(cls? p r).getD Ki
def vB(p:aP)(low high:Ref)(m:Method):Bool:=
 match(cls p high).methods.find? (fun n=>n.name=m.name)with
 |none=>true
 |some n=>decide (m.ret=n.ret)&&decide (m.args=n.args)&&lV p low.keeper high.keeper m
def z8(p:aP)(low high:Ref):Bool:=
 (cls p low).fields.all (fun f=>(Be (cls p high) f.name).isNone)&&(cls p low).methods.all (vB p low high)
def qd(p:aP):List Ref→Bool
 |[]=>true
 |low::r=>r.all (z8 p low)&&qd p r
def qV(p:aP)(r:Ref):Bool:= !(chain p r).isEmpty&&qd p (chain p r)
end Go.Proofs.YtmcmhalhieejaaaGreatDoor.M
namespace Go.Proofs.YtmcmhalhieejaaaGreatDoor
open Go Go.RowKit
theorem ax{w:World}{b o:Nat}{v:Value}(h:w.cell? ⟨b,o,none⟩=some v):b<w.heap.size:=by
 rcases Nat.lt_or_ge b w.heap.size with h1|h1
 · exact h1
 · simp[World.cell?,Array.getElem?_eq_none h1]at h
structure Kp(D:Nat→Prop)(w w':World):Prop where
 os:w'.os=w.os
 tape:w'.tape=w.tape
 output:w'.output=w.output
 size:w.heap.size≤w'.heap.size
 block:∀k,k<w.heap.size→¬D k→w'.heap[k]?=w.heap[k]?
section
variable {D D':Nat→Prop} {w w' a b c:World}
theorem Kp.of_below(h:Below w.heap.size w w'):Kp D w w':=⟨h.os,h.tape,h.output,h.size,fun k hk _=>h.block k hk⟩
theorem Kp.refl(D:Nat→Prop)(w:World):Kp D w w:=⟨rfl,rfl,rfl,Nat.le_refl _,fun _ _ _=>rfl⟩
theorem Kp.trans(h:Kp D a b)(k:Kp D b c):Kp D a c:=
 ⟨k.os.trans h.os,k.tape.trans h.tape,k.output.trans h.output,Nat.le_trans h.size k.size,
  fun i hi hd=>(k.block i (Nat.lt_of_lt_of_le hi h.size) hd).trans (h.block i hi hd)⟩
theorem Kp.weak(h:Kp D a b)(hD:∀k,k<a.heap.size→D k→D' k):Kp D' a b:=
 ⟨h.os,h.tape,h.output,h.size,fun k hk hd=>h.block k hk fun x=>hd (hD k hk x)⟩
theorem Kp.below(h:Kp D a b)(n:Nat)(hn:n≤a.heap.size)(hD:∀k,k<n→¬D k):Below n a b:=
 ⟨h.os,h.tape,h.output,h.size,fun k hk=>h.block k (by omega) (hD k hk)⟩
theorem Kp.alloc(h:Kp D a b)(o:Obj):Kp D a (b.alloc o):=
 ⟨h.os,h.tape,h.output,by simp;exact Nat.le_succ_of_le h.size,fun k hk hd=>(Below.heap_alloc b o k (Nat.lt_of_lt_of_le hk h.size)).trans (h.block k hk hd)⟩
theorem Kp.drew(h:Kp D a b):Kp D a b.drew:=⟨h.os,h.tape,h.output,h.size,h.block⟩
theorem Kp.drewN(h:Kp D a b)(n:Nat):Kp D a (b.drewN n):=⟨h.os,h.tape,h.output,h.size,h.block⟩
theorem Kp.setCell(h:Kp D a b){p:Addr}(hp:p.block<a.heap.size→D p.block)(v:Value):Kp D a (b.setCell p v):=
 ⟨h.os,h.tape,h.output,by simp[World.setCell];exact h.size,
  fun k hk hd=>(Below.heap_setCell b p v k (fun e=>hd (by subst e;exact hp hk))).trans (h.block k hk hd)⟩
theorem Kp.cell(h:Kp D a b){k o:Nat}(hk:k<a.heap.size)(hd:¬D k):b.cell? ⟨k,o,none⟩=a.cell? ⟨k,o,none⟩:=
 World.cell?_of_block (h.block k hk hd)
theorem Kp.frozen(h:Kp D a b){k o:Nat}(hk:k<a.heap.size)(hd:¬D k):b.frozen? ⟨k,o,none⟩=a.frozen? ⟨k,o,none⟩:=
 World.frozen?_of_block (h.block k hk hd)
abbrev Ext(w w':World):Prop:=Kp (fun _=>False) w w'
theorem Kp.any(h:Ext a b):Kp D a b:=h.weak fun _ _ x=>x.elim
theorem Ext.um{w w':World}(h:Ext w w'):Below w.heap.size w w':=Kp.below h _ (Nat.le_refl _) fun _ _ x=>x
theorem Kp.aj(h:Ext a b){k o:Nat}{v:Value}(hc:a.cell? ⟨k,o,none⟩=some v):b.cell? ⟨k,o,none⟩=some v:=
 (h.cell (ax hc) (fun x=>x)).trans hc
theorem Kp.gH(h:Kp D a b){k o:Nat}{v:Value}(hc:a.cell? ⟨k,o,none⟩=some v)(hd:¬D k):b.cell? ⟨k,o,none⟩=some v:=
 (h.cell (ax hc) hd).trans hc
theorem Kp.vY{o':Obj}(h:Ext (a.alloc o') b){k o:Nat}{v:Value}(hc:a.cell? ⟨k,o,none⟩=some v):b.cell? ⟨k,o,none⟩=some v:=
 h.aj (((Kp.refl _ _).alloc _:Ext a _).aj hc)
inductive KX(D:Nat→Prop)(w:World):World→Prop
 |r:KX D w w
 |a {b:World} {o:Obj}:KX D w b→KX D w (b.alloc o)
 |d {b:World}:KX D w b→KX D w b.drew
 |n {b:World} {k:Nat}:KX D w b→KX D w (b.drewN k)
 |h {b:World}:Kp D w b→KX D w b
theorem KX.k{D:Nat→Prop}{w b:World}(h:KX D w b):Kp D w b:=by
 induction h with
 |r=>exact Kp.refl _ _
 |a _ ih=>exact ih.alloc _
 |d _ ih=>exact ih.drew
 |n _ ih=>exact ih.drewN _
 |h h=>exact h
theorem kx{D:Nat→Prop}{w b:World}(h:KX D w b:=by repeat (first|assumption|constructor)):Kp D w b:=h.k
theorem Ch{W w1:World}(hb:Ext W w1):
    (∀b o,b<W.heap.size→w1.cell? ⟨b,o,none⟩=W.cell? ⟨b,o,none⟩)∧(∀b o,b<W.heap.size→w1.frozen? ⟨b,o,none⟩=W.frozen? ⟨b,o,none⟩):=
 ⟨fun _ _ h=>hb.cell h fun x=>x,fun _ _ h=>hb.frozen h fun x=>x⟩
end
def az(w:World)(g:Nat)(t:TypeId)(cs:Array Value):Prop:=w.heap[g]?=some (.cells cs t (0,0))
section
variable {w w':World} {g:Nat} {t:TypeId} {cs:Array Value}
theorem az.lt(h:az w g t cs):g<w.heap.size:=by
 rcases Nat.lt_or_ge g w.heap.size with dI|Hl
 · exact dI
 · unfold az at h;rw[Array.getElem?_eq_none Hl]at h;cases h
theorem az.cell(h:az w g t cs)(i:Nat):w.cell? ⟨g,i,none⟩=cs[i]?:=by
 unfold az at h;simp[World.cell?,h]
theorem az.c(h:az w g t cs)(i:Nat)(v:Value)(hv:cs[i]?=some v):w.cell? ⟨g,i,none⟩=some v:=(h.cell i).trans hv
theorem az.frozen(h:az w g t cs)(i:Nat):w.frozen? ⟨g,i,none⟩=false:=by
 unfold az at h;simp[World.frozen?,h]
def BU(w:World)(g:Nat):List Nat→List Value→Prop
 |i::r,v::l=>w.cell? ⟨g,i,none⟩=some v∧BU w g r l
 |_,_=>True
def Eb{T:Type}(W:T→World)(g:Nat):List Nat→List Value→Prop
 |i::r,v::l=>(∀z,(W z).cell? ⟨g,i,none⟩=some v)∧Eb W g r l
 |_,_=>True
def Ec(w:World)(g:Nat):List Nat→Prop
 |i::r=>w.frozen? ⟨g,i,none⟩=false∧Ec w g r
 |_=>True
theorem BU.of{w:World}{g:Nat}:∀(n k:Nat) (l:List Value),(∀j v,l[j]?=some v→w.cell? ⟨g,k+j,none⟩=some v)→BU w g (List.range' k n) l
 |0,_,_,_=>by simp[BU]
 |n+1,k,[],_=>by simp[List.range'_succ,BU]
 |n+1,k,v::l,h=>by
  rw[List.range'_succ];exact⟨h 0 v rfl,BU.of n (k+1) l fun j u hj=>by have:=h (j+1) u hj;rwa[Nat.add_right_comm,←Nat.add_assoc]at*⟩
theorem Eb.of{T:Type}{W:T→World}{g:Nat}:∀(n k:Nat) (l:List Value),(∀j v,l[j]?=some v→∀z,(W z).cell? ⟨g,k+j,none⟩=some v)→Eb W g (List.range' k n) l
 |0,_,_,_=>by simp[Eb]
 |n+1,k,[],_=>by simp[List.range'_succ,Eb]
 |n+1,k,v::l,h=>by
  rw[List.range'_succ];exact⟨h 0 v rfl,Eb.of n (k+1) l fun j u hj z=>by have:=h (j+1) u hj z;rwa[Nat.add_right_comm,←Nat.add_assoc]at*⟩
theorem Ec.of{w:World}{g:Nat}(h:∀i,w.frozen? ⟨g,i,none⟩=false):∀l:List Nat,Ec w g l
 |[]=>trivial
 |i::l=>⟨h i,Ec.of h l⟩
theorem az.ca(h:az w g t cs):g<w.heap.size∧BU w g [0,1,2,3,4,5,6,7,8,9,10,11] cs.toList:=
 ⟨h.lt,BU.of 12 0 _ fun j v hj=>by rw[Nat.zero_add];exact h.c j v (by rw[←Array.getElem?_toList];exact hj)⟩
theorem az.fz(h:az w g t cs):Ec w g [0,1,2,3,4,5,6,7,8,9,10,11]:=Ec.of (fun i=>h.frozen i) _
theorem az.keep(h:az w g t cs)(hk:w'.heap[g]?=w.heap[g]?):az w' g t cs:=hk.trans h
theorem az.ext(h:az w g t cs)(hb:Ext w w'):az w' g t cs:=(hb.block g h.lt fun x=>x).trans h
theorem az.kp{D:Nat→Prop}(h:az w g t cs)(hb:Kp D w w')(hg:¬D g):az w' g t cs:=(hb.block g h.lt hg).trans h
theorem az.new(w:World)(t:TypeId)(cs:Array Value):az (w.alloc (.cells cs t)) w.heap.size t cs:=by
 unfold az World.alloc;simp
theorem nu(w:World)(cs:Array Value)(t:TypeId):∃x,x=w.alloc (.cells cs t)∧Ext w x∧az x w.heap.size t cs:=⟨_,rfl,(Kp.refl _ _).alloc _,az.new _ _ _⟩
theorem az.bn(h:az w g t cs)(i:Nat)(u:Value):az (w.setCell ⟨g,i,none⟩ u) g t (cs.setIfInBounds i u):=by
 unfold az at h ⊢;simp[World.setCell,Array.getElem?_modify,h]
end
def af(w:World)(b o:Nat)(cs:List Value):Prop:=∀j v,cs[j]?=some v→w.cell? ⟨b,o+j,none⟩=some v
abbrev dD(α:Type):=World→(Nat→Prop)→α→List Value→Prop
def SliceOf{α:Type}(k:Nat)(R:dD α)(w:World)(I:Nat→Prop)(v:Value)(xs:List α):Prop:=
 ∃a cap,v=.slice a xs.length cap∧xs.length≤cap∧xs.length≤4294967296∧
  ∀i x,xs[i]?=some x→∃b off cs,a=some ⟨b,off,none⟩∧I b∧R w I x cs∧cs.length=k∧af w b (off+i*k) cs
theorem af.keep{w w':World}{b o:Nat}{cs:List Value}(h:af w b o cs)(hs:∀o v,w.cell? ⟨b,o,none⟩=some v→w'.cell? ⟨b,o,none⟩=some v):af w' b o cs:=
 fun j v hj=>hs _ _ (h j v hj)
def Same(I:Nat→Prop)(w w':World):Prop:=∀b o v,I b→w.cell? ⟨b,o,none⟩=some v→w'.cell? ⟨b,o,none⟩=some v
theorem Ext.same{I:Nat→Prop}{w w':World}(h:Ext w w'):Same I w w':=fun _ _ _ _ hc=>Kp.aj h hc
theorem Kp.same{I D:Nat→Prop}{w w':World}(h:Kp D w w')(hI:∀b,I b→¬D b):Same I w w':=fun b _ _ hb hc=>h.gH hc (hI b hb)
def eU{α:Type}(R:dD α):Prop:=∀(w w':World) (I J:Nat→Prop) (x:α) (cs:List Value),Same I w w'→(∀b,I b→J b)→R w I x cs→R w' J x cs
theorem SliceOf.keep{α:Type}{k:Nat}{R:dD α}(hR:eU R){w w':World}{I J:Nat→Prop}{v:Value}{xs:List α}(h:SliceOf k R w I v xs)
    (hs:Same I w w') (AB:∀b,I b→J b):SliceOf k R w' J v xs:=by
 obtain⟨a,cap,e,h1,h2,h3⟩:=h;refine⟨a,cap,e,h1,h2,fun i x hx=>?_⟩;obtain⟨b,off,cs',ea,hI,hr,hl,hc⟩:=h3 i x hx;exact⟨b,off,cs',ea,AB b hI,hR _ _ _ _ _ _ hs AB hr,hl,hc.keep fun o v=>hs b o v hI⟩
theorem SliceOf.ext{α:Type}{k:Nat}{R:dD α}{w w':World}{I:Nat→Prop}{v:Value}{xs:List α}(h:SliceOf k R w I v xs)(hR:eU R)(hE:Ext w w'):SliceOf k R w' I v xs:=
 h.keep hR (Ext.same hE) fun _ h=>h
theorem SliceOf.get{α:Type}{k:Nat}{R:dD α}{w:World}{I:Nat→Prop}{a:Option Addr}{n cap:Nat}{xs:List α}(h:SliceOf k R w I (.slice a n cap) xs){i:Nat}{x:α}(hx:xs[i]?=some x):
    ∃b off cs,a=some ⟨b,off,none⟩∧I b∧R w I x cs∧cs.length=k∧af w b (off+i*k) cs:=by
 obtain⟨a',cap',e,h1,h2,h3⟩:=h;cases e;exact h3 i x hx
theorem SliceOf.form{α:Type}{k:Nat}{R:dD α}{w:World}{I:Nat→Prop}{v:Value}{xs:List α}(h:SliceOf k R w I v xs):
    ∃a cap,v=.slice a xs.length cap∧xs.length≤cap∧xs.length≤4294967296:=by
 obtain⟨a,cap,e,h1,h2,_⟩:=h;exact⟨a,cap,e,h1,h2⟩
theorem SliceOf.nil{α:Type}(k:Nat)(R:dD α)(w:World)(I:Nat→Prop):SliceOf k R w I (.slice none 0 0) ([]:List α):=
 ⟨none,0,rfl,Nat.le_refl _,by simp,fun i x hx=>by simp at hx⟩
theorem SliceOf.take{α:Type}{k:Nat}{R:dD α}{w:World}{I:Nat→Prop}{a:Option Addr}{n cap:Nat}{xs:List α}(h:SliceOf k R w I (.slice a n cap) xs){i:Nat}(hi:i≤xs.length):
    SliceOf k R w I (.slice a i cap) (xs.take i):=by
 obtain⟨a',cap',e,h1,h2,h3⟩:=h;cases e;refine⟨a,cap,by rw[List.length_take,Nat.min_eq_left hi],by rw[List.length_take];omega,by rw[List.length_take];omega,fun j x hx=>?_⟩;rw[List.getElem?_take]at hx;split at hx
 · exact h3 j x hx
 · cases hx
def jo:dD M.Kind:=fun _ _ x cs=>cs=[.int .i64 x.kind,.string x.name]
def dx:dD M.Tag:=fun _ _ x cs=>cs=[.int .i64 x.kind,.string x.name]
def jf:dD M.Ins:=fun _ _ x cs=>cs=[.int .i64 x.op,.int .i64 x.a,.string x.name,.string x.member]
def Fg:dD M.Ref:=fun _ _ x cs=>cs=[.int .i64 x.keeper,.string x.name]
def eH:dD M.Ask:=fun _ _ x cs=>cs=[.string x.name,.int .i64 x.keeper]
def bD:dD M.Field:=fun _ _ x cs=>cs=[.string x.name,.int .i64 x.kind.kind,.string x.kind.name]
def Fb:dD Int:=fun _ _ x cs=>cs=[.int .i64 x]
def dE:dD M.SMap:=fun w I x cs=>∃vl vs,cs=[.int .i64 x.at_,vl,vs]∧SliceOf 2 dx w I vl x.locals∧SliceOf 2 dx w I vs x.stack
def aC:dD M.Method:=fun w I x cs=>∃va vc vm,cs=[.string x.name,va,.int .i64 x.ret.kind,.string x.ret.name,.int .i64 x.locals,.int .i64 x.stack,vc,vm]∧
 SliceOf 2 jo w I va x.args∧SliceOf 4 jf w I vc x.code∧SliceOf 3 dE w I vm x.maps
def ai:dD M.Class:=fun w I x cs=>∃vf vm,cs=[.string x.name,.string x.av,vf,vm]∧SliceOf 3 bD w I vf x.fields∧SliceOf 8 aC w I vm x.methods
def aA:dD M.eO:=fun w I x cs=>∃vo va,cs=[vo,va]∧SliceOf 4 ai w I vo x.owns∧SliceOf 2 eH w I va x.asks
theorem aC.form{w:World}{I:Nat→Prop}{x:M.Method}{cs:List Value}(h:aC w I x cs):∃a1 c1 a2 c2 a3 c3,
    cs=[.string x.name,.slice a1 x.args.length c1,.int .i64 x.ret.kind,.string x.ret.name,.int .i64 x.locals,.int .i64 x.stack,.slice a2 x.code.length c2,.slice a3 x.maps.length c3]:=by
 obtain⟨_,_,_,rfl,h1,h2,h3⟩:=h;obtain⟨a1,c1,rfl,_⟩:=h1.form;obtain⟨a2,c2,rfl,_⟩:=h2.form;obtain⟨a3,c3,rfl,_⟩:=h3.form;exact⟨a1,c1,a2,c2,a3,c3,rfl⟩
theorem ai.form{w:World}{I:Nat→Prop}{x:M.Class}{cs:List Value}(h:ai w I x cs):∃a1 c1 a2 c2,
    cs=[.string x.name,.string x.av,.slice a1 x.fields.length c1,.slice a2 x.methods.length c2]:=by
 obtain⟨_,_,rfl,h1,h2⟩:=h;obtain⟨a1,c1,rfl,_⟩:=h1.form;obtain⟨a2,c2,rfl,_⟩:=h2.form;exact⟨a1,c1,a2,c2,rfl⟩
theorem aA.form{w:World}{I:Nat→Prop}{x:M.eO}{cs:List Value}(h:aA w I x cs):∃a1 c1 a2 c2,
    cs=[.slice a1 x.owns.length c1,.slice a2 x.asks.length c2]:=by
 obtain⟨_,_,rfl,h1,h2⟩:=h;obtain⟨a1,c1,rfl,_⟩:=h1.form;obtain⟨a2,c2,rfl,_⟩:=h2.form;exact⟨a1,c1,a2,c2,rfl⟩
theorem dE.form{w:World}{I:Nat→Prop}{x:M.SMap}{cs:List Value}(h:dE w I x cs):∃a1 c1 a2 c2,
    cs=[.int .i64 x.at_,.slice a1 x.locals.length c1,.slice a2 x.stack.length c2]:=by
 obtain⟨_,_,rfl,h1,h2⟩:=h;obtain⟨a1,c1,rfl,_⟩:=h1.form;obtain⟨a2,c2,rfl,_⟩:=h2.form;exact⟨a1,c1,a2,c2,rfl⟩
theorem jo.stays:eU jo:=fun _ _ _ _ _ _ _ _ h=>h
theorem dx.stays:eU dx:=fun _ _ _ _ _ _ _ _ h=>h
theorem jf.stays:eU jf:=fun _ _ _ _ _ _ _ _ h=>h
theorem Fg.stays:eU Fg:=fun _ _ _ _ _ _ _ _ h=>h
theorem eH.stays:eU eH:=fun _ _ _ _ _ _ _ _ h=>h
theorem bD.stays:eU bD:=fun _ _ _ _ _ _ _ _ h=>h
theorem Fb.stays:eU Fb:=fun _ _ _ _ _ _ _ _ h=>h
theorem dE.stays:eU dE:=fun _ _ _ _ _ _ hs hI ⟨vl,vs,e,h1,h2⟩=>⟨vl,vs,e,h1.keep dx.stays hs hI,h2.keep dx.stays hs hI⟩
theorem aC.stays:eU aC:=fun _ _ _ _ _ _ hs hI ⟨va,vc,vm,e,h1,h2,h3⟩=>
 ⟨va,vc,vm,e,h1.keep jo.stays hs hI,h2.keep jf.stays hs hI,h3.keep dE.stays hs hI⟩
theorem ai.stays:eU ai:=fun _ _ _ _ _ _ hs hI ⟨vf,vm,e,h1,h2⟩=>⟨vf,vm,e,h1.keep bD.stays hs hI,h2.keep aC.stays hs hI⟩
theorem aA.stays:eU aA:=fun _ _ _ _ _ _ hs hI ⟨vo,va,e,h1,h2⟩=>⟨vo,va,e,h1.keep ai.stays hs hI,h2.keep eH.stays hs hI⟩
theorem af.two{w:World}{b o:Nat}{x y:Value}(h:af w b o [x,y]):w.cell? ⟨b,o,none⟩=some x∧w.cell? ⟨b,o+1,none⟩=some y:=
 ⟨by simpa using h 0 x rfl,h 1 y rfl⟩
theorem af.one{w:World}{b o:Nat}{x:Value}(h:af w b o [x]):w.cell? ⟨b,o,none⟩=some x:=by simpa using h 0 x rfl
theorem af.three{w:World}{b o:Nat}{x y z:Value}(h:af w b o [x,y,z]):
    w.cell? ⟨b,o,none⟩=some x∧w.cell? ⟨b,o+1,none⟩=some y∧w.cell? ⟨b,o+2,none⟩=some z:=
 ⟨by simpa using h 0 x rfl,h 1 y rfl,h 2 z rfl⟩
theorem af.four{w:World}{b o:Nat}{x y z u:Value}(h:af w b o [x,y,z,u]):
    w.cell? ⟨b,o,none⟩=some x∧w.cell? ⟨b,o+1,none⟩=some y∧w.cell? ⟨b,o+2,none⟩=some z∧w.cell? ⟨b,o+3,none⟩=some u:=
 ⟨by simpa using h 0 x rfl,h 1 y rfl,h 2 z rfl,h 3 u rfl⟩
theorem af.eight{w:World}{b o:Nat}{x0 x1 x2 x3 x4 x5 x6 x7:Value}(h:af w b o [x0,x1,x2,x3,x4,x5,x6,x7]):
    w.cell? ⟨b,o,none⟩=some x0∧w.cell? ⟨b,o+1,none⟩=some x1∧w.cell? ⟨b,o+2,none⟩=some x2∧w.cell? ⟨b,o+3,none⟩=some x3∧
    w.cell? ⟨b,o+4,none⟩=some x4∧w.cell? ⟨b,o+5,none⟩=some x5∧w.cell? ⟨b,o+6,none⟩=some x6∧w.cell? ⟨b,o+7,none⟩=some x7:=
 ⟨by simpa using h 0 x0 rfl,h 1 x1 rfl,h 2 x2 rfl,h 3 x3 rfl,h 4 x4 rfl,h 5 x5 rfl,h 6 x6 rfl,h 7 x7 rfl⟩
theorem af.ext{w w':World}{b o:Nat}{cs:List Value}(h:af w b o cs)(hb:Ext w w'):af w' b o cs:=fun j v hj=>hb.aj (h j v hj)
theorem af.kp{D:Nat→Prop}{w w':World}{b o:Nat}{cs:List Value}(h:af w b o cs)(hk:Kp D w w')(hD:¬D b):af w' b o cs:=fun j v hj=>hk.gH (h j v hj) hD
end Go.Proofs.YtmcmhalhieejaaaGreatDoor
namespace Go.Proofs.YtmcmhalhieejaaaGreatDoor
open Go Go.RowKit
theorem ag{a b:Bool}(h:a=b):Ending.returned (.bool a)=.returned (.bool b):=by rw[h]
theorem aX(s:ByteArray):s.toList.isEmpty=decide (s=M.none_):=by
 rw[ByteArray.toList_eq];obtain⟨⟨l⟩⟩:=s;cases l<;>simp[M.none_]
theorem l7(s:ByteArray)(k:Nat)(h:k<s.size):s.data.toList.take (k+1)=s.data.toList.take k++[s[k]]:=by
 rw[List.take_succ_eq_append_getElem (by simpa using h)];rfl
theorem kN(s:ByteArray)(k:Nat)(h:k<s.size)(hc:M.letter s[k]=false):M.aB s=false:=by
 have hm:s[k]∈s.data.toList:=by simp[ByteArray.getElem_eq_getElem_data]
 unfold M.aB;rw[List.all_eq_false.2 ⟨_,hm,by simp[hc]⟩];simp
theorem nT{c:UInt8}(h:(c.toNat:Int)<97):M.letter c=false:=by
 unfold M.letter;rw[decide_eq_false (by omega)];rfl
theorem nU{c:UInt8}(h:(c.toNat:Int)<97∨122<(c.toNat:Int)):M.letter c=false:=by
 unfold M.letter;rcases h with h|h
 · rw[decide_eq_false (by omega)];rfl
 · rw[decide_eq_false (p:=c.toNat≤122) (by omega)];simp
theorem nV{c:UInt8}(h:97≤(c.toNat:Int)∧(c.toNat:Int)≤122):M.letter c=true:=by
 unfold M.letter;rw[decide_eq_true (by omega),decide_eq_true (by omega)];rfl
theorem kT(s:ByteArray)(w:World):
    Calls Tryz.prog 45 #[.string s] w fun e w'=>e=.returned (.bool (M.aB s))∧w=w':=by
 by_cases h1:s.size<1
 · go_enter Tryz.func45,Tryz.ntmps45;go_wp2;go_ret;exact⟨ag (by unfold M.aB;rw[decide_eq_false (by omega)];rfl),rfl⟩
 by_cases h2:6<s.size
 · go_enter Tryz.func45,Tryz.ntmps45;go_wp2;go_ret;exact⟨ag (by unfold M.aB;rw[decide_eq_false (p:=s.size≤6) (by omega)];simp),rfl⟩
 go_enter Tryz.func45,Tryz.ntmps45;go_wp2;go_loop [3] (fun i=>∃k:Nat,k≤s.size∧i=.int .i64 k∧(s.data.toList.take k).all M.letter=true) (fun i=>s.size - (intOf i).toNat)
 case atStart=>exact⟨0,Nat.zero_le _,rfl,by simp⟩
 case round =>
  obtain⟨k,hk,rfl,gF⟩:=hrel;have HA:=Zy gF;clear gF;by_cases dI:k<s.size
  · go_wp2
    · go_ret;exact⟨ag (kN s k dI (nU (by assumption))).symm,rfl⟩
    · go_round
      case rel=>
       refine⟨k+1,by omega,by go_num,?_⟩;rw[l7 s k dI,List.all_append,HA.o];simp[nV (c:=s[k]) (by assumption)]
      case measure=>simp[intOf];omega
    · go_ret;exact⟨ag (kN s k dI (nT (by assumption))).symm,rfl⟩
  · go_wp2;go_ret;refine⟨ag ?_,rfl⟩;have h:=HA.o;rw[List.take_of_length_le (by simp;omega)]at h;unfold M.aB;rw[h,decide_eq_true (by omega),decide_eq_true (by omega)];rfl
theorem dS(s:ByteArray)(w:World):
    Calls Tryz.prog 30 #[.string s] w fun e w'=>e=.returned (.bool (M.aB s))∧w=w':=by
 go_enter Tryz.func30,Tryz.ntmps30;go_wp2_with (go_at_call 45;refine(kT _ _).mono ?_;rintro e w' ⟨rfl,rfl⟩);go_ret;exact⟨rfl,rfl⟩
def A9(k:M.Kind)(e:Ending):Prop:=(M.bF k=true∧∃t x,e=.returned (.iface t x))∨(M.bF k=false∧e=.returned .nilIface)
theorem Bw{n:ByteArray}(h:n.toList.isEmpty=true):M.bF ⟨1,n⟩=true:=by
 rw[aX]at h;simp[M.bF,h]
theorem zQ{n:ByteArray}(h:n.toList.isEmpty=false):M.bF ⟨1,n⟩=false:=by
 rw[aX]at h;simp[M.bF,h]
theorem Bz{k:Int}{n:ByteArray}(h1:k=2):M.bF ⟨k,n⟩=M.aB n:=by
 subst h1;simp[M.bF]
theorem Bv{k:Int}{n:ByteArray}(h1:¬k=1)(h2:¬k=2):M.bF ⟨k,n⟩=false:=by
 simp[M.bF,h1,h2]
theorem Af(k:M.Kind)(w:World):
    Calls Tryz.prog 77 #[.agg #[.int .i64 k.kind,.string k.name]] w fun e w'=>A9 k e∧Ext w w':=by
 obtain⟨kk,kn⟩:=k;by_cases h1:kk=1
 · subst h1;cases hn:kn.toList.isEmpty
   · go_enter Tryz.func77,Tryz.ntmps77;go_wp2;go_ret;exact⟨.inr ⟨zQ hn,rfl⟩,((Kp.refl _ _).alloc _)⟩
   · go_enter Tryz.func77,Tryz.ntmps77;go_wp2;go_ret;exact⟨.inl ⟨Bw hn,_,_,rfl⟩,((Kp.refl _ _).alloc _)⟩
 · by_cases h2:kk=2
   · have HN:=Zy (Bz (n:=kn) h2);cases hb:M.aB kn
     all_goals
      have HB:=Zy hb;clear hb;go_enter Tryz.func77,Tryz.ntmps77;go_wp2_with (go_at_call 45;refine(kT _ _).mono ?_;rintro e w' ⟨rfl,rfl⟩;rw[HB.o]);go_ret
     · exact⟨.inr ⟨by rw[HN.o,HB.o],rfl⟩,((Kp.refl _ _).alloc _)⟩
     · exact⟨.inl ⟨by rw[HN.o,HB.o],_,_,rfl⟩,((Kp.refl _ _).alloc _)⟩
   · go_enter Tryz.func77,Tryz.ntmps77;go_wp2;go_ret;exact⟨.inr ⟨Bv h1 h2,rfl⟩,((Kp.refl _ _).alloc _)⟩
theorem rA(k:M.Kind)(w:World):
    Calls Tryz.prog 55 #[.agg #[.int .i64 k.kind,.string k.name]] w fun e w'=>e=.returned (.bool (M.bF k))∧Ext w w':=by
 go_enter Tryz.func55,Tryz.ntmps55;go_wp2_with fail;refine(Af k _).mono ?_;rintro e w1 ⟨⟨hk,t,x,rfl⟩|⟨hk,rfl⟩,hB⟩
 · go_wp2;go_ret;exact⟨ag hk.symm,(by repeat (first|assumption|exact Kp.refl _ _|apply Kp.alloc|apply Kp.drew|apply Kp.drewN|refine Kp.trans ?_ (by assumption)))⟩
 · go_wp2;go_ret;exact⟨ag hk.symm,(by repeat (first|assumption|exact Kp.refl _ _|apply Kp.alloc|apply Kp.drew|apply Kp.drewN|refine Kp.trans ?_ (by assumption)))⟩
theorem rT{k:Int}{n:ByteArray}(h:k=0∨k=1∨k=3):M.fE ⟨k,n⟩=n.toList.isEmpty:=by
 unfold M.fE;rw[if_pos h,aX]
theorem BL{k:Int}{n:ByteArray}(h:k=2):M.fE ⟨k,n⟩=M.aB n:=by
 subst h;rfl
theorem BM{k:Int}{n:ByteArray}(h0:¬k=0)(h1:¬k=1)(h2:¬k=2)(h3:¬k=3):M.fE ⟨k,n⟩=false:=by
 simp[M.fE,h0,h1,h2,h3]
theorem D8(k:M.Tag)(w:World):
    Calls Tryz.prog 125 #[.agg #[.int .i64 k.kind,.string k.name]] w fun e w'=>e=.returned (.bool (M.fE k))∧Ext w w':=by
 obtain⟨kk,kn⟩:=k;by_cases h0:kk=0
 · have HT:=Zy (rT (n:=kn) (.inl h0));go_enter Tryz.func125,Tryz.ntmps125;go_wp2;go_ret;exact⟨ag HT.o.symm,((Kp.refl _ _).alloc _)⟩
 by_cases h1:kk=1
 · have HT:=Zy (rT (n:=kn) (.inr (.inl h1)));go_enter Tryz.func125,Tryz.ntmps125;go_wp2;go_ret;exact⟨ag HT.o.symm,((Kp.refl _ _).alloc _)⟩
 by_cases h3:kk=3
 · have HT:=Zy (rT (n:=kn) (.inr (.inr h3)));go_enter Tryz.func125,Tryz.ntmps125;go_wp2;go_ret;exact⟨ag HT.o.symm,((Kp.refl _ _).alloc _)⟩
 by_cases h2:kk=2
 · have HT:=Zy (BL (n:=kn) h2);go_enter Tryz.func125,Tryz.ntmps125;go_wp2_with (go_at_call 30;refine(dS _ _).mono ?_;rintro e w' ⟨rfl,rfl⟩);go_ret;exact⟨ag HT.o.symm,((Kp.refl _ _).alloc _)⟩
 · go_enter Tryz.func125,Tryz.ntmps125;go_wp2;go_ret;exact⟨ag (BM h0 h1 h2 h3).symm,((Kp.refl _ _).alloc _)⟩
end Go.Proofs.YtmcmhalhieejaaaGreatDoor
namespace Go.Proofs.YtmcmhalhieejaaaGreatDoor
open Go
namespace M
def bs(l:List UInt8):ByteArray:=⟨⟨l⟩⟩
theorem j3{a b:List UInt8}(h:bs a=bs b):a=b:=by
 have:=congrArg (fun s:ByteArray=>s.data.toList) h;exact this
def aU:List UInt8→List UInt8→List (List UInt8)
 |cur,[]=>[cur]
 |cur,c::r=>if c=32 then cur::aU [] r else aU (cur++[c]) r
def words(s:ByteArray):List ByteArray:=(aU [] s.data.toList).map bs
theorem gP:∀(a cur:List UInt8),32 ∉ a→aU cur a=[cur++a]
 |[],cur,_=>by simp[aU]
 |c::r,cur,h=>by
  have h1:c≠32:=fun e=>h (by simp[e]);rw[aU,if_neg h1,gP r _ (fun e=>h (by simp[e]))];simp
theorem dF:∀(a b cur:List UInt8),32 ∉ a→aU cur (a++32::b)=(cur++a)::aU [] b
 |[],b,cur,_=>by simp[aU]
 |c::r,b,cur,h=>by
  have h1:c≠32:=fun e=>h (by simp[e]);rw[List.cons_append,aU,if_neg h1,dF r b _ (fun e=>h (by simp[e]))];simp
theorem vM(a:List UInt8):∀cur,aU cur a≠[]:=by
 induction a with
 |nil=>intro cur h;simp[aU]at h
 |cons c r ih=>
  intro cur h;rw[aU]at h;split at h
  · cases h
  · exact ih _ h
def digit(n:Int):List UInt8:=[UInt8.ofNat (48+n.toNat)]
structure mf where
 kind:Int
 keeper:Int
 name:ByteArray
 dst:Int
deriving DecidableEq
def bP(c:mf):Bool:=decide (0≤c.keeper)&&(decide (c.keeper≤2)&&(aB c.name&&(if c.kind=3 then decide (0≤c.dst)&&decide (c.dst≤2)else(decide (c.kind=2)|| decide (c.kind=4))&&decide (c.dst=0))))
def jL:List UInt8:=[116,97,107,101]
def ny:List UInt8:=[97,115,107]
def jy:List UInt8:=[102,114,101,101]
def bO(c:mf):List UInt8:=
 if c.kind=2 then jL++32::(digit c.keeper++32::c.name.data.toList)
 else if c.kind=3 then ny++32::(digit c.keeper++32::(c.name.data.toList++32::digit c.dst))
 else if c.kind=4 then jy++32::(digit c.keeper++32::c.name.data.toList)
 else []
def aL(c:mf):ByteArray:=if bP c then bs (bO c)else bs []
theorem ic{s:ByteArray}(h:aB s=true):(32:UInt8)∉ s.data.toList:=by
 intro hm;unfold aB at h;simp only[Bool.and_eq_true,List.all_eq_true]at h;have:=h.2 _ hm;revert this;decide
theorem fQ{n:Int}(h0:0≤n)(h2:n≤2):(32:UInt8)∉ digit n:=by
 have:n=0∨n=1∨n=2:=by omega
 rcases this with rfl|rfl|rfl<;>decide
theorem iy{m n:Int}(h0:0≤n)(h2:n≤2)(g0:0≤m)(g2:m≤2)(h:digit m=digit n):m=n:=by
 have a:n=0∨n=1∨n=2:=by omega
 have b:m=0∨m=1∨m=2:=by omega
 rcases a with rfl|rfl|rfl<;>rcases b with rfl|rfl|rfl<;>first|rfl|exact absurd h (by decide)
theorem bA{c:mf}(h:bP c=true):0≤c.keeper∧c.keeper≤2∧aB c.name=true∧((c.kind=3∧0≤c.dst∧c.dst≤2)∨((c.kind=2∨c.kind=4)∧c.dst=0)):=by
 unfold bP at h;simp only[Bool.and_eq_true,decide_eq_true_eq]at h;obtain⟨h1,h2,h3,h4⟩:=h;refine⟨h1,h2,h3,?_⟩;split at h4
 · rename_i h5;simp only[Bool.and_eq_true,decide_eq_true_eq]at h4;exact .inl ⟨h5,h4⟩
 · simp only[Bool.and_eq_true,Bool.or_eq_true,decide_eq_true_eq]at h4;exact .inr h4
theorem kC{c:mf}(h:bP c=true)(hk:c.kind=2):words (aL c)=[bs jL,bs (digit c.keeper),c.name]:=by
 obtain⟨h1,h2,h3, -⟩:=bA h;unfold aL words;rw[if_pos h];unfold bO;rw[if_pos hk];simp only[bs];rw[dF _ _ _ (by decide),dF _ _ _ (fQ h1 h2),gP _ _ (ic h3)];rfl
theorem ky{c:mf}(h:bP c=true)(hk:c.kind=4):words (aL c)=[bs jy,bs (digit c.keeper),c.name]:=by
 obtain⟨h1,h2,h3, -⟩:=bA h;unfold aL words;rw[if_pos h];unfold bO;rw[if_neg (by omega),if_neg (by omega),if_pos hk];simp only[bs];rw[dF _ _ _ (by decide),dF _ _ _ (fQ h1 h2),gP _ _ (ic h3)];rfl
theorem lN{c:mf}(h:bP c=true)(hk:c.kind=3):words (aL c)=[bs ny,bs (digit c.keeper),c.name,bs (digit c.dst)]:=by
 obtain⟨h1,h2,h3,h4⟩:=bA h;have h5:0≤c.dst∧c.dst≤2:=by omega
 unfold aL words;rw[if_pos h];unfold bO;rw[if_neg (by omega),if_pos hk];simp only[bs];rw[dF _ _ _ (by decide),dF _ _ _ (fQ h1 h2),dF _ _ _ (ic h3),gP _ _ (fQ h5.1 h5.2)];rfl
theorem sM{c d:mf}(hc:bP c=true)(hd:bP d=true)(h:aL c=aL d):c=d:=by
 obtain⟨c1,c2,c3,c4⟩:=bA hc;obtain⟨d1,d2,d3,d4⟩:=bA hd;have hw:words (aL c)=words (aL d):=by rw[h]
 have key:c.kind=d.kind∧c.keeper=d.keeper∧c.name=d.name∧c.dst=d.dst:=by
  rcases c4 with⟨ck,c5,c6⟩|⟨ck|ck,c5⟩<;>rcases d4 with⟨dk,d5,d6⟩|⟨dk|dk,d5⟩<;>
   simp only[lN hc,kC hc,ky hc,lN hd,kC hd,ky hd,ck,dk]at hw<;>
   simp only[List.cons.injEq,List.nil_eq,List.cons_ne_nil,and_false,and_true]at hw
  · exact⟨by omega,iy d1 d2 c1 c2 (j3 hw.2.1),hw.2.2.1,iy d5 d6 c5 c6 (j3 hw.2.2.2)⟩
  · exact⟨by omega,iy d1 d2 c1 c2 (j3 hw.2.1),hw.2.2,by omega⟩
  · exact absurd (j3 hw.1) (by decide)
  · exact absurd (j3 hw.1) (by decide)
  · exact⟨by omega,iy d1 d2 c1 c2 (j3 hw.2.1),hw.2.2,by omega⟩
 obtain⟨a1,a2,a3,a4⟩:=c;obtain⟨b1,b2,b3,b4⟩:=d;simp only at key;obtain⟨rfl,rfl,rfl,rfl⟩:=key;rfl
def Reads(s:ByteArray)(n:Int)(b:Bool):Prop:=(b=true→0≤n→n≤2→s=bs (digit n))∧(∀d,0≤d→d≤2→s=bs (digit d)→n=d∧b=true)
def Says(s:ByteArray):Option mf→Prop
 |some c=>bP c=true∧aL c=s
 |none=>¬∃c,bP c=true∧aL c=s
theorem Says.one{s:ByteArray}:∀{a b:Option mf},Says s a→Says s b→a=b
 |none,none,_,_=>rfl
 |none,some c,h,k=>absurd ⟨c,k⟩ h
 |some c,none,h,k=>absurd ⟨c,h⟩ k
 |some c,some d,h,k=>by rw[sM h.1 k.1 (h.2.trans k.2.symm)]
theorem uK{c:mf}{s:ByteArray}(h:aL c=s)(hw:(words s).length≠1):bP c=true:=by
 cases hc:bP c with
 |true=>rfl
 |false=>
  unfold aL at h;rw[hc]at h;simp only[Bool.false_eq_true,if_false]at h;subst h;exact absurd rfl hw
end M
end Go.Proofs.YtmcmhalhieejaaaGreatDoor
namespace Go.Proofs.YtmcmhalhieejaaaGreatDoor
open Go Go.RowKit
theorem dO(n lo hi:Int)(w:World):
    Calls Tryz.prog 26 #[.int .i64 n,.int .i64 lo,.int .i64 hi] w fun e w'=>e=.returned (.bool (decide (lo≤n)&&decide (n≤hi)))∧w=w':=by
 go_enter Tryz.func26,Tryz.ntmps26;go_wp2
 · go_ret;exact⟨ag (by rw[decide_eq_true (p:=lo≤n) (by omega)];rfl),rfl⟩
 · go_ret;exact⟨ag (by rw[decide_eq_false (p:=lo≤n) (by omega)];rfl),rfl⟩
theorem aJ(s:ByteArray)(w:World):
    Calls Tryz.prog 27 #[.string s] w fun e w'=>e=.returned (.bool (M.aB s))∧w=w':=by
 by_cases h1:s.size=0
 · have Ck:((s.size:Int)==0)=true:=by simp[h1]
   go_enter Tryz.func27,Tryz.ntmps27;go_wp2;go_ret;exact⟨ag (by unfold M.aB;rw[decide_eq_false (by omega)];rfl),rfl⟩
 have Ck:((s.size:Int)==0)=false:=beq_eq_false_iff_ne.2 (by omega);by_cases h2:6<s.size
 · go_enter Tryz.func27,Tryz.ntmps27;go_wp2;go_ret;exact⟨ag (by unfold M.aB;rw[decide_eq_false (p:=s.size≤6) (by omega)];simp),rfl⟩
 go_enter Tryz.func27,Tryz.ntmps27;go_wp2;go_loop [3] (fun i=>∃k:Nat,k≤s.size∧i=.int .i64 k∧(s.data.toList.take k).all M.letter=true) (fun i=>s.size - (intOf i).toNat)
 case atStart=>exact⟨0,Nat.zero_le _,rfl,by simp⟩
 case round =>
  obtain⟨k,hk,rfl,gF⟩:=hrel;have HA:=Zy gF;clear gF;by_cases dI:k<s.size
  · go_wp2
    · go_ret;exact⟨ag (kN s k dI (nU (by assumption))).symm,rfl⟩
    · go_round
      case rel=>
       refine⟨k+1,by omega,by go_num,?_⟩;rw[l7 s k dI,List.all_append,HA.o];simp[nV (c:=s[k]) (by assumption)]
      case measure=>simp[intOf];omega
    · go_ret;exact⟨ag (kN s k dI (nT (by assumption))).symm,rfl⟩
  · go_wp2;go_ret;refine⟨ag ?_,rfl⟩;have h:=HA.o;rw[List.take_of_length_le (by simp;omega)]at h;unfold M.aB;rw[h,decide_eq_true (by omega),decide_eq_true (by omega)];rfl
def rZ(t k:Nat):Prop:=∃fs,Tryz.prog.underlying t=some (.struct fs)∧(Tryz.prog.info? t).map (·.size)=some k
theorem rZ.is{t k:Nat}(h:rZ t k)(w:World):(isAgg t).run Tryz.prog w=.ok true w∧(sizeOf t).run Tryz.prog w=.ok k w:=by
 obtain⟨fs,h1,h2⟩:=h;cases hq:Tryz.prog.info? t with
 |none=>rw[hq]at h2;cases h2
 |some i=>
  rw[hq]at h2;have rY:i.size=k:=by simpa using h2
  subst rY;constructor
  · unfold isAgg;rw[Sem.run_bind,run_underlying h1 w];simp
  · simp[sizeOf,typeInfo,hq]
theorem jd{t k:Nat}(h:rZ t k){w:World}{b o:Nat}{cs:List Value}(hc:af w b o cs)(hl:cs.length=k):(loadVar t ⟨b,o,none⟩).run Tryz.prog w=.ok (.agg cs.toArray) w:=by
 subst hl;obtain⟨h1,h2⟩:=h.is w;have h3:=run_loadCells_list (P:=Tryz.prog) w ⟨b,o,none⟩ cs (fun j v hv=>by
  have:=hc j v hv;unfold Addr.add;split
  · rename_i h0;subst h0;simpa using this
  · exact this)
 simp[loadVar,Sem.run_bind,h1,h2,h3]
theorem jE{t k:Nat}(h:rZ t k){fn:Func}{p:Tmp}(hf:fn.results=#[.cell p t])(tmps:Array Value)(w:World)(b:Nat)(hp:tmps.getD p undef=.pointer (some ⟨b,0,none⟩))(cs:List Value)(hc:af w b 0 cs)(hl:cs.length=k):
    (results fn tmps).run Tryz.prog w=.ok (.agg cs.toArray) w:=by
 have JS:tmps[p]?.getD undef=.pointer (some ⟨b,0,none⟩):=by simpa using hp
 simp[results,hf,JS,asAddr,jd h hc hl]
theorem ae{t k:Nat}(h:rZ t k){fn:Func}{p q:Tmp}(hf:fn.results=#[.cell p t,.tmp q])(tmps:Array Value)(w:World)(b:Nat)(hp:tmps.getD p undef=.pointer (some ⟨b,0,none⟩))(cs:List Value)(hc:af w b 0 cs)(hl:cs.length=k):
    (results fn tmps).run Tryz.prog w=.ok (.tuple #[.agg cs.toArray,tmps.getD q undef]) w:=by
 have JS:tmps[p]?.getD undef=.pointer (some ⟨b,0,none⟩):=by simpa using hp
 simp[results,hf,JS,asAddr,jd h hc hl]
theorem ll(w:World)(x:Int)(h0:0≤x)(h1:x<256):
    (convert 22 9 (.slice (some ⟨w.heap.size,0,none⟩) 1 1)).run Tryz.prog (w.alloc (.cells #[.int .u8 x] 5))=.ok (.string (M.bs [UInt8.ofNat x.toNat])) (w.alloc (.cells #[.int .u8 x] 5)):=by
 refine Lib.run_convert_whole (P:=Tryz.prog) _ 22 5 9 Tryz.underlying22 Tryz.underlying5 Tryz.underlying9 w.heap.size 0 (M.bs [UInt8.ofNat x.toNat]) ?_ 1;intro i hi;have LM:i=0:=by
  have:(M.bs [UInt8.ofNat x.toNat]).size=1:=rfl;omega
 subst LM;rw[(az.new w 5 #[.int .u8 x]).cell];have hm:x.toNat % 256=x.toNat:=Nat.mod_eq_of_lt (by omega);have hx:((x.toNat:Nat):Int)=x:=Int.toNat_of_nonneg h0;have e:(M.bs [UInt8.ofNat x.toNat])[0]=UInt8.ofNat x.toNat:=rfl;simp[e,UInt8.toNat_ofNat',hm,hx]
theorem kG(l:List UInt8):(M.bs l).size=l.length:=by simp[M.bs,ByteArray.size]
theorem jI(n:Int)(w:World)(h0: -9223372036854775808≤n)(h1:n≤9223372036854775807):
    Calls Tryz.prog 23 #[.int .i64 n] w fun e w'=>(∃t,e=.returned (.string t)∧(0≤n→n≤2→t=M.bs (M.digit n))∧9*(t.size:Int)≤n.natAbs+18)∧Ext w w':=by
 go_enter Tryz.func23,Tryz.ntmps23;go_wp2;go_loopw [0,3] (fun i o wr=>∃(k:Int) (t:ByteArray),i=.int .i64 k∧o=.string t∧k≤n∧((k=n∧t.size=0)∨0≤k∧9*(t.size:Int)+k≤n)∧Zz (n≤2→k=n∧t=⟨#[]⟩)∧Ext w wr) (fun i _ _=>(intOf i).toNat)
 case atStart=>exact⟨n,⟨#[]⟩,rfl,rfl,Int.le_refl _,.inl ⟨rfl,rfl⟩,Zy (fun _=>⟨rfl,rfl⟩),Kp.refl _ _⟩
 case round=>
  obtain⟨k,t,rfl,rfl,hk,En,HT,hE⟩:=hrel;have HE:=Zy hE;clear hE;have ht:t.size≤1030000000000000000:=by omega
  by_cases h9:9<k
  · have c1:=ll wr (48+k % 10) (by omega) (by omega);have hz:=kG [UInt8.ofNat (48+k % 10).toNat];simp only[List.length_singleton]at hz;go_wp2_with fail;go_round
    case rel=>exact⟨k / 10,_,rfl,rfl,by omega,.inr ⟨by omega,by rw[ByteArray.size_append,hz];omega⟩,Zy (fun _=>by omega),HE.o.trans ((Kp.refl _ _).alloc _)⟩
    case measure=>simp[intOf];omega
  · have c1:=ll wr ((48+k)% 256) (by omega) (by omega);have hz:=kG [UInt8.ofNat ((48+k)% 256).toNat];simp only[List.length_singleton]at hz;go_wp2_with fail;go_ret;refine⟨⟨_,rfl,fun g0 g2=>?_,by rw[ByteArray.size_append,hz];omega⟩,HE.o.trans ((Kp.refl _ _).alloc _)⟩;obtain⟨rfl,rfl⟩:=HT.o g2;have:k=0∨k=1∨k=2:=by omega
    rcases this with rfl|rfl|rfl<;>rfl
theorem rQ(n:Int)(w:World)(h0: -9223372036854775807≤n)(h1:n≤9223372036854775807):
    Calls Tryz.prog 36 #[.int .i64 n] w fun e w'=>(∃t,e=.returned (.string t)∧(0≤n→n≤2→t=M.bs (M.digit n))∧9*(t.size:Int)≤n.natAbs+27)∧Ext w w':=by
 by_cases h:n<0
 · have hz:(ByteArray.mk #[45]).size=1:=rfl;go_enter Tryz.func36,Tryz.ntmps36;go_wp2_with fail;refine(jI _ _ (by omega) (by omega)).mono ?_;rintro e w1 ⟨⟨t,rfl, -,ht⟩,hE⟩;go_wp2_with fail;go_ret;exact⟨⟨_,rfl,fun g _=>by omega,by rw[ByteArray.size_append,hz];omega⟩,hE⟩
 · go_enter Tryz.func36,Tryz.ntmps36;go_wp2_with fail;refine(jI _ _ (by omega) (by omega)).mono ?_;rintro e w1 ⟨⟨t,rfl,ht,hs⟩,hE⟩;go_wp2_with fail;go_ret;exact⟨⟨_,rfl,ht,by omega⟩,hE⟩
theorem aM{a b:ByteArray}(h:(a.toList==b.toList)=true):a=b:=by
 have h2:=beq_iff_eq.1 h;rw[ByteArray.toList_eq,ByteArray.toList_eq]at h2;exact ByteArray.ext (Array.toList_inj.1 h2)
theorem pW(d:Int)(h0:0≤d)(h2:d≤2)(w:World):
    Calls Tryz.prog 21 #[.string (M.bs (M.digit d))] w fun e w'=>e=.returned (.tuple #[.int .i64 d,.bool true])∧Ext w w':=by
 have hd:∃c:UInt8,M.bs (M.digit d)=⟨#[c]⟩∧(c.toNat:Int)=48+d:=by
  have:d=0∨d=1∨d=2:=by omega
  rcases this with rfl|rfl|rfl
  · exact⟨48,rfl,rfl⟩
  · exact⟨49,rfl,rfl⟩
  · exact⟨50,rfl,rfl⟩
 have HD:Zz (M.bs (M.digit d)=M.bs (M.digit d)):=Zy rfl;obtain⟨c,hs,hc⟩:=hd;have HS:=Zy hs;rw[hs];clear hs;obtain⟨s,Hs⟩:∃s:ByteArray,s=⟨#[c]⟩:=⟨_,rfl⟩;have hz:s.size=1:=by rw[Hs];rfl
 have hg:s[0]=c:=by subst Hs;rfl
 rw[←Hs]at HS ⊢;clear Hs;go_enter Tryz.func21,Tryz.ntmps21;go_wp2_with fail;go_loopw [4,6] (fun n i wr=>∃k:Nat,i=.int .i64 k∧((k=0∧n=.int .i64 0)∨(k=1∧n=.int .i64 d))∧Ext w wr) (fun _ i _=>1 - (intOf i).toNat)
 case atStart=>exact⟨0,rfl,.inl ⟨rfl,rfl⟩,Kp.refl _ _⟩
 case round=>
  obtain⟨k,rfl,hk,hE⟩:=hrel;have HE:=Zy hE;clear hE;rcases hk with⟨rfl,rfl⟩|⟨rfl,rfl⟩
  · go_wp2_with fail;go_round
    case rel=>
     refine⟨1,rfl,.inr ⟨rfl,?_⟩,HE.o⟩;have e:48+d - 48=d:=by omega
     rw[e]
    case measure=>simp[intOf]
  · go_wp2_with fail;refine(rQ d _ (by omega) (by omega)).mono ?_;rintro e w1 ⟨⟨t,rfl,ht, -⟩,aQ⟩;obtain rfl:t=s:=(ht h0 h2).trans HS.o;go_wp2_with fail;go_ret2;exact⟨rfl,HE.o.trans aQ⟩
def Ff(s:ByteArray)(e:Ending):Prop:=∃n b,e=.returned (.tuple #[.int .i64 n,.bool b])∧(b=true→0≤n→n≤2→s=M.bs (M.digit n))∧ -100000≤n∧n≤100000
theorem dW(s:ByteArray)(w:World)(hs:s.size≤4000000000):
    Calls Tryz.prog 21 #[.string s] w fun e w'=>Ff s e∧Ext w w':=by
 by_cases hz:s.size=0
 · go_enter Tryz.func21,Tryz.ntmps21;go_wp2_with fail;go_ret2;exact⟨⟨_,_,rfl,fun h=>by(cases h),by omega,by omega⟩,Kp.refl _ _⟩
 by_cases hm:((s[0]'(by omega)).toNat:Int)=45
 · skip;by_cases hb:s.size=1∨5<s.size
   · go_enter Tryz.func21,Tryz.ntmps21;go_wp2_with fail
     all_goals (go_ret2;exact⟨⟨_,_,rfl,fun h=>by(cases h),by omega,by omega⟩,Kp.refl _ _⟩)
   have bf:((s.size:Int)==1)=false:=beq_eq_false_iff_ne.2 (by omega);have eu:decide ((5:Int)<s.size)=false:=decide_eq_false (by omega);go_enter Tryz.func21,Tryz.ntmps21;go_wp2_with fail;go_loopw [4,6] (fun n i wr=>∃(k:Nat) (x:Int) (p:Int),1≤k∧k≤s.size∧i=.int .i64 k∧n=.int .i64 x∧0≤x∧x+1≤p∧Zz (p=10 ^ (k - 1))∧Ext w wr) (fun _ i _=>s.size - (intOf i).toNat)
   case atStart=>exact⟨1,0,1,by omega,by omega,rfl,rfl,by omega,by omega,Zy (by simp),Kp.refl _ _⟩
   case round=>
    obtain⟨k,x,p,F4,JI,rfl,rfl,kg,Oq,HP,hE⟩:=hrel;have HE:=Zy hE;clear hE;have hp:p≤10000:=by
     rw[HP.o];have h1:(10 ^ (k - 1):Nat)≤10 ^ 4:=Nat.pow_le_pow_right (by omega) (by omega);have h2:((10 ^ (k - 1):Nat):Int)≤((10 ^ 4:Nat):Int):=Int.ofNat_le.2 h1;simpa using h2
    by_cases dI:k<s.size
    · go_wp2_with fail
      all_goals first
       |(go_ret2;exact⟨⟨_,_,rfl,fun h=>by(cases h),by omega,by omega⟩,HE.o⟩)
       |skip
      go_round
      case rel=>
       refine⟨k+1,_,p*10,by omega,by omega,by go_num,rfl,by omega,by omega,Zy ?_,HE.o⟩;rw[HP.o,show k+1 - 1=(k - 1)+1 by omega,Int.pow_succ]
      case measure=>simp[intOf];omega
    · go_wp2_with fail;refine(rQ _ _ (by omega) (by omega)).mono ?_;rintro e w1 ⟨⟨t,rfl,ht, -⟩,aQ⟩;have HT:=Zy ht;clear ht;cases hb:(t.toList==s.toList)
      · go_wp2_with fail;go_ret2;exact⟨⟨_,_,rfl,fun h=>by(cases h),by omega,by omega⟩,HE.o.trans aQ⟩
      · have IW:=Zy (aM hb);go_wp2_with fail;go_ret2;exact⟨⟨_,_,rfl,fun _ g0 g2=>by rw[←IW.o];exact HT.o g0 g2,by omega,by omega⟩,HE.o.trans aQ⟩
 · have Hp:(((s[0]'(by omega)).toNat:Int)==45)=false:=beq_eq_false_iff_ne.2 hm;by_cases hb:s.size=0∨4<s.size
   · go_enter Tryz.func21,Tryz.ntmps21;go_wp2_with fail
     all_goals (go_ret2;exact⟨⟨_,_,rfl,fun h=>by(cases h),by omega,by omega⟩,Kp.refl _ _⟩)
   have bf:((s.size:Int)==0)=false:=beq_eq_false_iff_ne.2 (by omega);have eu:decide ((4:Int)<s.size)=false:=decide_eq_false (by omega);go_enter Tryz.func21,Tryz.ntmps21;go_wp2_with fail;go_loopw [4,6] (fun n i wr=>∃(k:Nat) (x:Int) (p:Int),0≤k∧k≤s.size∧i=.int .i64 k∧n=.int .i64 x∧0≤x∧x+1≤p∧Zz (p=10 ^ (k - 0))∧Ext w wr) (fun _ i _=>s.size - (intOf i).toNat)
   case atStart=>exact⟨0,0,1,by omega,by omega,rfl,rfl,by omega,by omega,Zy (by simp),Kp.refl _ _⟩
   case round=>
    obtain⟨k,x,p,F4,JI,rfl,rfl,kg,Oq,HP,hE⟩:=hrel;have HE:=Zy hE;clear hE;have hp:p≤10000:=by
     rw[HP.o];have h1:(10 ^ (k - 0):Nat)≤10 ^ 4:=Nat.pow_le_pow_right (by omega) (by omega);have h2:((10 ^ (k - 0):Nat):Int)≤((10 ^ 4:Nat):Int):=Int.ofNat_le.2 h1;simpa using h2
    by_cases dI:k<s.size
    · go_wp2_with fail
      all_goals first
       |(go_ret2;exact⟨⟨_,_,rfl,fun h=>by(cases h),by omega,by omega⟩,HE.o⟩)
       |skip
      go_round
      case rel=>
       refine⟨k+1,_,p*10,by omega,by omega,by go_num,rfl,by omega,by omega,Zy ?_,HE.o⟩;rw[HP.o,show k+1 - 0=(k - 0)+1 by omega,Int.pow_succ]
      case measure=>simp[intOf];omega
    · go_wp2_with fail;refine(rQ _ _ (by omega) (by omega)).mono ?_;rintro e w1 ⟨⟨t,rfl,ht, -⟩,aQ⟩;have HT:=Zy ht;clear ht;cases hb:(t.toList==s.toList)
      · go_wp2_with fail;go_ret2;exact⟨⟨_,_,rfl,fun h=>by(cases h),by omega,by omega⟩,HE.o.trans aQ⟩
      · have IW:=Zy (aM hb);go_wp2_with fail;go_ret2;exact⟨⟨_,_,rfl,fun _ g0 g2=>by rw[←IW.o];exact HT.o g0 g2,by omega,by omega⟩,HE.o.trans aQ⟩
def Elem(t e k:Nat):Prop:=∃i z bytes,Tryz.prog.underlying t=some (.slice e)∧Tryz.prog.info? e=some i∧i.zero=some z∧i.size=k∧i.bytes=bytes∧z.cells.size=k∧0<k∧bytes≤4096
theorem fT{t e k:Nat}{z:Value}{bytes:Nat}(ht:Tryz.prog.underlying t=some (.slice e))(hi:(Tryz.prog.info? e).map (fun i=>(i.zero,i.size,i.bytes))=some (some z,k,bytes))
    (hz:z.cells.size=k) (hk:0<k) (hb:bytes≤4096):Elem t e k:=by
 obtain⟨i,h1,h2,h3,h4⟩:=info_parts hi;exact⟨i,z,bytes,ht,h1,h2,h3,h4,hz,hk,hb⟩
theorem Kp.grown{D:Nat→Prop}{w a b:World}{row:Option Nat}(h:Kp D w a)(hg:a.grownBy b row)(hr:∀k,row=some k→k<w.heap.size→D k):Kp D w b:=
 ⟨hg.os.trans h.os,hg.tape.trans h.tape,hg.output.trans h.output,Nat.le_trans h.size hg.size,
  fun k hk hd=>(hg.block k (Nat.lt_of_lt_of_le hk h.size) (fun e=>hd (hr k e.symm hk))).trans (h.block k hk hd)⟩
theorem aD{D:Nat→Prop}{a b:World}{base e k n:Nat}{v:Value}{xs:List Value}(h:a.ownsRow base e k v n xs)(hk:Kp D a b)(hD:∀g,v.ownBlock=some g→base≤g→¬D g):b.ownsRow base e k v n xs:=by
 refine⟨h.1,?_⟩;rcases h.2 with h4|⟨g,cap,cur,rfl,hg,hb,rest⟩
 · exact .inl h4
 · exact .inr ⟨g,cap,cur,rfl,hg,(hk.block g (Array.getElem?_eq_some_iff.1 hb).1 (hD g rfl hg)).trans hb,rest⟩
theorem Kp.own{D D':Nat→Prop}{w a b:World}(h:Kp D w a)(hk:Kp D' a b)(hD:∀k,D' k→w.heap.size≤k):Kp D w b:=
 ⟨hk.os.trans h.os,hk.tape.trans h.tape,hk.output.trans h.output,Nat.le_trans h.size hk.size,
  fun k DU hd=>(hk.block k (Nat.lt_of_lt_of_le DU h.size) (fun x=>absurd (hD k x) (Nat.not_le.2 DU))).trans (h.block k DU hd)⟩
theorem SliceOf.kP{α:Type}{k:Nat}{R:dD α}{w:World}{I:Nat→Prop}{base e n:Nat}{v:Value}{cs:List Value}(enc:α→List Value){l:List α}(jg:w.ownsRow base e k v n cs)
    (hn:n=l.length) (DK:cs=l.flatMap enc) (zB:∀x∈l,(enc x).length=k) (hR:∀x∈l,R w I x (enc x)) (hI:∀b,base≤b→b<w.heap.size→I b) (hlen:l.length≤4294967296):SliceOf k R w I v l:=by
 have flat:∀(l:List α),(∀x∈l,(enc x).length=k)→∀i x,l[i]?=some x→∀j u,(enc x)[j]?=some u→(l.flatMap enc)[i*k+j]?=some u:=by
  intro l;induction l with
  |nil=>intro _ i x h;simp at h
  | cons y r ih =>
   intro hy i x hx j u hj;have Mo:=hy y (by simp);rw[List.flatMap_cons];cases i with
   |zero=>
    simp at hx;subst hx;rw[List.getElem?_append_left (by rw[Nat.zero_mul,Nat.zero_add];exact(List.getElem?_eq_some_iff.1 hj).1),Nat.zero_mul,Nat.zero_add];exact hj
   |succ i=>
    rw[List.getElem?_append_right (by rw[Mo,Nat.succ_mul];omega),Mo,show(i+1)*k+j - k=i*k+j from by rw[Nat.succ_mul];omega];exact ih (fun z hz=>hy z (by simp[hz])) i x (by simpa using hx) j u hj
 subst hn DK;rcases jg.2 with⟨rfl,h0⟩|⟨g,cap,cur,rfl,hg,hb,hle,_,gL,J3⟩
 · have:l=[]:=List.length_eq_zero_iff.1 h0;subst this;exact SliceOf.nil _ _ _ _
 · refine⟨_,cap,rfl,hle,hlen,fun i x hx=>⟨g,0,enc x,rfl,hI g hg (Array.getElem?_eq_some_iff.1 hb).1,hR x (List.mem_of_getElem? hx),zB x (List.mem_of_getElem? hx),?_⟩⟩;intro j u hj;have:=flat l zB i x hx j u hj;rw[←J3,List.getElem?_take]at this;split at this
   · simp only[World.cell?,hb];simpa [Nat.zero_add]using this
   · cases this
theorem af.cO{w:World}{b:Nat}{t:TypeId}{cs:Array Value}(h:az w b t cs):af w b 0 cs.toList:=by
 intro j v hj;rw[Nat.zero_add];exact h.c j v (by simpa using hj)
theorem af.bN{W:World}{g:Nat}(t:TypeId)(cs:Array Value)(h:W.heap.size=g):af (W.alloc (.cells cs t)) g 0 cs.toList:=by
 subst h;exact af.cO (az.new W t cs)
theorem jD{w:World}{base e k n:Nat}{v:Value}{xs:List Value}(h:w.ownsRow base e k v n xs):∃a c,v=.slice a n c:=by
 rcases h.2 with⟨rfl,rfl⟩|⟨g,c,cur,rfl,_⟩
 · exact⟨_,_,rfl⟩
 · exact⟨_,_,rfl⟩
theorem dZ{w:World}{base e k n:Nat}{v:Value}{xs:List Value}(h:w.ownsRow base e k v n xs){g:Nat}(hg:v.ownBlock=some g):base≤g∧g<w.heap.size:=h.lt g hg
theorem ah{t e k:Nat}(E:Elem t e k){ops:Array Oper}{rest:List Oper}{o:Oper}{a:Act}{w:World}{Q:Exit→Act→World→Prop}(Cu:o.guard=none)(s x:Operand)
    (ho:o.op=.call {callee:=.builtin .append,args:=#[s,x],argTypes:=#[t,t]}) (base:Nat) (v:Value) (n:Nat) (xs:List Value) (hs:a.eval s=v) (jg:w.ownsRow base e k v n xs)
    (g c:Nat) (news:List Value) (hx:a.eval x=.slice (some ⟨g,0,none⟩) 1 c) (hl:news.length=k) (Ga:af w g 0 news) (h1:∀u∈news,u.oneCell'=true)
    (hn:n+1≤4294967296) (iC:base≤w.heap.size)
    (h:∀g' c' w',w'.ownsRow base e k (.slice (some ⟨g',0,none⟩) (n+1) c') (n+1) (xs++news)→Kp (fun b=>v.ownBlock=some b) w w'→(v.ownBlock=some g'∨w.heap.size=g')→wpList Tryz.prog ops Q rest (a.put o.dst (.slice (some ⟨g',0,none⟩) (n+1) c')) w'):
    wpList Tryz.prog ops Q (o::rest) a w:=by
 obtain⟨i,z,bytes,ht,hi,hz,gL,Hj,Hu,hk,hb⟩:=E;refine wpList_append_lies w Cu s x t ho base e i z k bytes ht hi hz gL Hj Hu hk v n xs hs jg ⟨g,0,none⟩ 1 c news hx (by omega) ?_ h1 (by omega) (by unfold maxLen;omega) ?_ iC w.heap.size rfl ?_
 · intro j u hj;have:=Ga j u hj;rw[Nat.zero_add]at this;unfold Addr.add;split
   · rename_i DN;subst DN;exact this
   · simpa using this
 · have:(n+1)*bytes≤4294967296*4096:=Nat.mul_le_mul hn hb;omega
 · intro g' c' w' h2 h3 h4 h5;exact h g' c' w' h2 ⟨h3.os,h3.tape,h3.output,h3.size,fun k hk hd=>h3.block k hk (fun e=>hd e.symm)⟩ (h4.imp id Eq.symm)
end Go.Proofs.YtmcmhalhieejaaaGreatDoor
namespace Go.Proofs.YtmcmhalhieejaaaGreatDoor.M
structure ng where
 of:Ref
 at_:Int
def Ac(p:aP)(n:ByteArray):List Ref→Option ng
 |[]=>none
 |c::r=>match zU (cls p c) n with
  |some i=>some ⟨c,i⟩
  |none=>Ac p n r
def pick(p:aP)(r:Ref)(n:ByteArray):Option ng:=if qV p r then Ac p n (chain p r)else none
def fO(p:aP)(k:Int)(n m:ByteArray):Ref×Int:=
 if has p k&&aB n&&aB m then
  (if(find p k n).2=1 then(if qV p (find p k n).1 then((find p k n).1,1)else(rW,4))else(rW,2))
 else(rW,2)
end Go.Proofs.YtmcmhalhieejaaaGreatDoor.M
namespace Go.Proofs.YtmcmhalhieejaaaGreatDoor.M
structure o9 where
 of:Ref
 at_:Int
 kind:Kind
def Cz:Kind:=⟨0,none_⟩
def Am:o9:=⟨rW,0,Cz⟩
def p8(of:Ref):List Field→List o9→List o9
 |[],acc=>acc
 |f::r,acc=>p8 of r (acc++[⟨of,acc.length,f.kind⟩])
def tJ(p:aP):List Ref→List o9→List o9
 |[],acc=>acc
 |c::r,acc=>tJ p r (p8 c (cls p c).fields acc)
def layout(p:aP)(r:Ref):List o9:=if qV p r then tJ p (chain p r).reverse []else []
def wu(p:aP)(of:Ref):List Ref→Nat→Nat
 |[],n=>n
 |c::r,n=>if c=of then n else wu p of r (n+(cls p c).fields.length)
def uO(p:aP)(of low:Ref):Nat:=wu p of (chain p low).reverse 0
def fieldName(p:aP)(r:Ref)(f:o9):ByteArray:=(((cls p f.of).fields[(f.at_ - uO p f.of r).toNat]?).map Field.name).getD none_
def Cj(p:aP)(k:Int)(m:ByteArray)(r:Ref):List o9→o9×Int
 |[]=>(Am,3)
 |f::l=>if fieldName p r f=m then(if agree p k f.of.keeper f.kind then(f,1)else(Am,4))else Cj p k m r l
def get(p:aP)(k:Int)(n m:ByteArray):o9×Int:=
 if(fO p k n m).2=1 then Cj p k m (fO p k n m).1 (layout p (fO p k n m).1)else(Am,(fO p k n m).2)
def BS:Method:=⟨none_,[],Cz,0,0,[],[]⟩
def wS:ng:=⟨rW,0⟩
def method?(p:aP)(m:ng):Option Method:=if 0≤m.at_ then(cls p m.of).methods[m.at_.toNat]? else none
def method(p:aP)(m:ng):Method:=(method? p m).getD BS
def call(p:aP)(k:Int)(n m:ByteArray):ng×Int:=
 if(fO p k n m).2=1 then
  (match pick p (fO p k n m).1 m with
  |none=>(wS,3)
  |some x=>if lV p k x.of.keeper (method p x)then(x,1)else(wS,4))
 else(wS,(fO p k n m).2)
structure oZ where
 locals:List Tag
 stack:List Tag
def GD:Tag:=⟨0,none_⟩
def lK:Tag:=⟨1,none_⟩
def BC:Tag:=⟨3,none_⟩
def lq(n:ByteArray):Tag:=⟨2,n⟩
def qI(k:Kind):Tag:=if bF k then⟨k.kind,k.name⟩else GD
def may(p:aP)(k:Int)(a b:Tag):Bool:=
 if b.kind=0∨a=b then true else if b.kind≠2 then false else if a.kind=3 then true else if a.kind≠2 then false
 else decide ((find p k a.name).2=1)&&decide ((find p k b.name).2=1)&&under p (find p k a.name).1 (find p k b.name).1
def vk(s:oZ):Option (Tag×oZ):=s.stack.getLast?.map fun t=>(t,⟨s.locals,s.stack.dropLast⟩)
def pK(p:aP)(k:Int)(t:Tag)(s:oZ):Option oZ:=(vk s).bind fun x=>if may p k x.1 t then some x.2 else none
def Cw(s:oZ):Option oZ:=(vk s).bind fun x=>if x.1.kind=2∨x.1.kind=3 then some x.2 else none
def l6(m:Method)(t:Tag)(s:oZ):Option oZ:=if m.stack≤s.stack.length then none else some ⟨s.locals,s.stack++[t]⟩
def vv(p:aP)(k:Int):List Tag→List Tag→Bool
 |a::r,b::l=>may p k a b&&vv p k r l
 |_,_=>true
def qH(p:aP)(k:Int)(s:oZ)(f:SMap):Bool:=decide (f.stack.length=s.stack.length)&&vv p k s.locals f.locals&&vv p k s.stack f.stack
def Cx(m:Method)(at_:Int):Option SMap:=m.maps.find? fun f=>f.at_=at_
def nW(p:aP)(k:Int)(m:Method)(tgt:Int)(s:oZ):Option oZ:=
 (Cx m tgt).bind fun f=>if qH p k s f then some s else none
def DZ(p:aP)(k:Int)(m:Method)(goes:Bool)(at_:Int)(s:oZ):Option oZ:=
 match Cx m at_ with
 |none=>if goes then some s else none
 |some f=>if goes&& !qH p k s f then none else some ⟨f.locals,f.stack⟩
def wJ(p:aP)(k:Int):List Kind→oZ→Option oZ
 |[],s=>some s
 |a::r,s=>(pK p k (qI a) s).bind (wJ p k r)
def Gs(p:aP)(k:Int)(m:Method)(i:Ins)(s:oZ):Option oZ:=
 if i.op=1 then l6 m lK s
 else if i.op=2 then(s.locals[i.a.toNat]?).bind fun t=>if t.kind=0 then none else l6 m t s
 else if i.op=3 then(vk s).map fun x=>⟨x.2.locals.set i.a.toNat x.1,x.2.stack⟩
 else if i.op=4 then(pK p k lK s).bind fun s1=>(pK p k lK s1).bind (l6 m lK)
 else if i.op=5 then l6 m BC s
 else if i.op=6 then l6 m (lq i.name) s
 else if i.op=7 then(if(get p k i.name i.member).2=1 then(pK p k (lq i.name) s).bind (l6 m (qI (get p k i.name i.member).1.kind))else none)
 else if i.op=8 then(if(get p k i.name i.member).2=1 then(pK p k (qI (get p k i.name i.member).1.kind) s).bind (pK p k (lq i.name))else none)
 else if i.op=9 then(if(call p k i.name i.member).2=1 then
     (wJ p k (method p (call p k i.name i.member).1).args.reverse s).bind fun s1=>(pK p k (lq i.name) s1).bind (l6 m (qI (method p (call p k i.name i.member).1).ret))else none)
 else if i.op=10 then pK p k (qI m.ret) s
 else if i.op=11 then(pK p k lK s).bind (nW p k m i.a)
 else if i.op=12 then(Cw s).bind (nW p k m i.a)
 else if i.op=13 then nW p k m i.a s
 else if i.op=14 then pK p k lK s
 else(Cw s).bind (l6 m (lq i.name))
def sP(p:aP)(k:Int)(m:Method):List Ins→Nat→Bool→oZ→List oZ→Sum Int (List oZ)
 |[],at_,goes,_,known=>if goes then .inl (at_+1)else .inr known
 | i :: r, at_, goes, s, known =>
  match DZ p k m goes at_ s with
  |none=>.inl (at_+1)
  |some s1=>match Gs p k m i s1 with
   |none=>.inl (at_+1)
   |some s2=>sP p k m r (at_+1) (decide (i.op≠10)&&decide (i.op≠13)) s2 (known++[s1])
def BA(x:ng)(m:Method):oZ:=⟨(lq x.of.name::m.args.map qI)++List.replicate (m.locals.toNat - (m.args.length+1)) GD,[]⟩
def look(p:aP)(x:ng):List oZ×Int:=
 match sP p x.of.keeper (method p x) (method p x).code 0 true (BA x (method p x)) []with
 | .inl n=>([],n)
 | .inr l=>(l,0)
def right(p:aP)(x:ng):Bool:=decide ((look p x).2=0)
structure Val where
 kind:Int
 n:Int
theorem Val.dP{a b:Val}:a=b↔a.kind=b.kind∧a.n=b.n:=by
 cases a;cases b;simp
instance:DecidableEq Val:=fun _ _=>decidable_of_iff' _ Val.dP
structure pF where
 of:Ref
 fields:List Val
structure Fr where
 of:ng
 pc:Int
 locals:List Val
 stack:List Val
structure St where
 status:Int
 frames:List Fr
 heap:List pF
 outs:List Int
 back:Val
def uu:Val:=⟨0,0⟩
def wL:Val:=⟨3,0⟩
def vC(n:Int):Val:=⟨1,n⟩
def Gu(n:Int):Bool:=decide (-9999≤n)&&decide (n≤9999)
def BD(h:List pF)(n:Int):Ref:=((h[n.toNat]?).map pF.of).getD rW
def hasType(p:aP)(k:Int)(h:List pF)(v:Val)(t:Kind):Bool:=
 if t.kind=1 then decide (v.kind=1)else if v.kind=3 then true else if v.kind≠2 then false
 else decide ((find p k t.name).2=1)&&under p (BD h v.n) (find p k t.name).1
def wN(s:St)(f:Fr→Fr):St:={s with frames:=s.frames.dropLast++(s.frames.getLast?.map f).toList}
def top(s:St):Fr:=s.frames.getLastD ⟨wS,0,[],[]⟩
def jump(p:aP)(tgt:Int)(s:St):Int×St:=
 if((method p (top s).of).code.length:Int)≤tgt then(10,s)else(1,wN s fun f=>{f with pc:=tgt})
def next(p:aP)(s:St):Int×St:=jump p ((top s).pc+1) s
def push(p:aP)(v:Val)(s:St):Int×St:=
 if(method p (top s).of).stack≤(top s).stack.length then(10,s)else next p (wN s fun f=>{f with stack:=f.stack++[v]})
def rE(c:Nat)(s:St):Option (List Val×St):=
 if(top s).stack.length<c then none
 else some ((top s).stack.drop ((top s).stack.length - c),wN s fun f=>{f with stack:=f.stack.take (f.stack.length - c)})
def pop(s:St):Option (Val×St):=(rE 1 s).map fun x=>(x.1.headD uu,x.2)
def nC(p:aP)(n:ByteArray)(s:St):Ref×Bool:=
 ((find p (top s).of.of.keeper n).1,decide ((find p (top s).of.of.keeper n).2=1)&&qV p (find p (top s).of.of.keeper n).1)
def fresh(p:aP)(r:Ref):pF:=⟨r,(layout p r).map fun f=>if f.kind.kind=1 then vC 0 else wL⟩
def create(p:aP)(r:Ref)(s:St):Val×St:=(⟨2,s.heap.length⟩,{s with heap:=s.heap++[fresh p r]})
def object(p:aP)(v:Val)(t:Ref)(s:St):Int:=
 if v.kind=3 then 3 else if v.kind≠2 then 10 else if under p (BD s.heap v.n) t then 1 else 10
def sZ(p:aP)(k:Int)(h:List pF):List Val→List Kind→Bool
 |v::r,t::l=>hasType p k h v t&&sZ p k h r l
 |_,_=>true
def enter(p:aP)(lk:Bool)(x:ng)(vs:List Val)(s:St):Int×St:=
 if 8≤s.frames.length then(7,s)
 else if lk&& !right p x then(5,s)
 else if sZ p x.of.keeper s.heap vs (⟨2,x.of.name⟩::(method p x).args)then
  (1,{s with frames:=s.frames++[⟨x,0,vs++List.replicate ((method p x).locals.toNat - vs.length) uu,[]⟩]})
 else(10,s)
def end_(c:Int)(s:St):St:=if c=1 then s else{s with status:=c,frames:=[]}
def yZ(h:List pF)(n:Int):List Val:=((h[n.toNat]?).map pF.fields).getD []
def Ae(h:List pF)(n a:Int)(v:Val):List pF:=h.modify n.toNat fun o=>{o with fields:=o.fields.set a.toNat v}
def Fs (p : aP) (lk : Bool) (i : Ins) (s : St) : Int × St :=
 if i.op=1 then push p (vC i.a) s
 else if i.op=2 then(if(((top s).locals[i.a.toNat]?).getD uu).kind=0 then(10,s)else push p (((top s).locals[i.a.toNat]?).getD uu) s)
 else if i.op=3 then(match pop s with
  |none=>(10,s)
  |some (v,s1)=>next p (wN s1 fun f=>{f with locals:=f.locals.set i.a.toNat v}))
 else if i.op=4 then(match rE 2 s with
  |some ([a,b],s1)=>if a.kind=1∧b.kind=1 then(if Gu (a.n+b.n)then push p (vC (a.n+b.n)) s1 else(9,s1))else(10,s1)
  |_=>(10,s))
 else if i.op=5 then push p wL s
 else if i.op=6 then(if(nC p i.name s).2 then(if 12≤s.heap.length then(8,s)else push p (create p (nC p i.name s).1 s).1 (create p (nC p i.name s).1 s).2)else(4,s))
 else if i.op = 7 then (if (get p (top s).of.of.keeper i.name i.member).2 = 1 then
     (match pop s with
     |none=>(10,s)
     | some (v, s1) =>
      if object p v (get p (top s).of.of.keeper i.name i.member).1.of s1=1 then
       push p (((yZ s1.heap v.n)[(get p (top s).of.of.keeper i.name i.member).1.at_.toNat]?).getD uu) s1
      else(object p v (get p (top s).of.of.keeper i.name i.member).1.of s1,s1))
  else(4,s))
 else if i.op = 8 then (if (get p (top s).of.of.keeper i.name i.member).2 = 1 then
     (match rE 2 s with
     | some ([o, v], s1) =>
      if hasType p (get p (top s).of.of.keeper i.name i.member).1.of.keeper s1.heap v (get p (top s).of.of.keeper i.name i.member).1.kind then
       (if object p o (get p (top s).of.of.keeper i.name i.member).1.of s1=1 then
        next p {s1 with heap:=Ae s1.heap o.n (get p (top s).of.of.keeper i.name i.member).1.at_ v}
       else(object p o (get p (top s).of.of.keeper i.name i.member).1.of s1,s1))
      else(10,s1)
     |_=>(10,s))
  else(4,s))
 else if i.op = 9 then (if (call p (top s).of.of.keeper i.name i.member).2 = 1 then
     (match rE ((method p (call p (top s).of.of.keeper i.name i.member).1).args.length+1) s with
     | some (vs, s1) =>
      if object p (vs.headD uu) (call p (top s).of.of.keeper i.name i.member).1.of s1=1 then
       (match pick p (BD s1.heap (vs.headD uu).n) i.member with
       |some x=>enter p lk x vs s1
       |none=>(10,s1))
      else(object p (vs.headD uu) (call p (top s).of.of.keeper i.name i.member).1.of s1,s1)
     |none=>(10,s))
  else(4,s))
 else if i.op = 10 then (match pop s with
  |none=>(10,s)
  |some (v,s1)=>if hasType p (top s).of.of.keeper s1.heap v (method p (top s).of).ret then
      (if s1.frames.length=1 then(2,{s1 with back:=v})else push p v {s1 with frames:=s1.frames.dropLast})
   else(10,s1))
 else if i.op=11 then(match pop s with
  |none=>(10,s)
  |some (v,s1)=>if v.kind=1 then(if v.n=0 then jump p i.a s1 else next p s1)else(10,s1))
 else if i.op=12 then(match pop s with
  |none=>(10,s)
  |some (v,s1)=>if v.kind=2∨v.kind=3 then(if v.kind=3 then jump p i.a s1 else next p s1)else(10,s1))
 else if i.op=13 then jump p i.a s
 else if i.op=14 then(match pop s with
  |none=>(10,s)
  |some (v,s1)=>if v.kind=1 then next p (if s1.outs.length<40 then{s1 with outs:=s1.outs++[v.n]}else s1)else(10,s1))
 else (match pop s with
  |none=>(10,s)
  |some (v,s1)=>if v.kind=2∨v.kind=3 then
      (if v.kind=3 then push p v s1
      else if(nC p i.name s1).2 then(if under p (BD s1.heap v.n) (nC p i.name s1).1 then push p v s1 else(6,s1))else(4,s1))
   else(10,s1))
def Kj:Ins:=⟨0,0,none_,none_⟩
def stepped(p:aP)(lk:Bool)(s:St):Int×St:=Fs p lk (((method p (top s).of).code[(top s).pc.toNat]?).getD Kj) s
def step(p:aP)(lk:Bool)(s:St):St:=if s.status=1 then end_ (stepped p lk s).1 (stepped p lk s).2 else s
end Go.Proofs.YtmcmhalhieejaaaGreatDoor.M
