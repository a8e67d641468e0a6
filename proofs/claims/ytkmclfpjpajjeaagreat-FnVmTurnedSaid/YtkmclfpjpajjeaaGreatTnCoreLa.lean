/- Walks. -/
import Derived.WalkKit
import Derived.Deep.Draws
import Derived.Lib.Hide
import Derived.Test.YtkmclfpjpajjeaaGreatProg
import Derived.WalkLawsBesides
import Derived.WalkSpells
import Derived.Deep.QuietTactic
import Derived.BigQuiet
import Derived.Lib.SplitLaws
import Derived.OwnWalk
import Derived.OwnWalkIn
import Derived.WalkSmall
import Derived.Deep.RegionLaw
import Derived.Deep.AppendLies
import Derived.Laws.Rows
import Derived.ArgAppend
import Derived.Lib.SlBytesRow
set_option maxRecDepth 100000
set_option maxHeartbeats 4000000
set_option linter.unusedSimpArgs false
set_option linter.unusedVariables false
namespace Go.Proofs.YtkmclfpjpajjeaaGreat
def Zs(p:Prop):Prop:=p
theorem Zs.o{p:Prop}(h:Zs p):p:=h
theorem Z3{p:Prop}(h:p):Zs p:=h
theorem Z2{p:Prop}(h:p:=by repeat (first|with_reducible exact Kp.refl _ _|with_reducible assumption|with_reducible refine Kp.alloc ?_ _|with_reducible refine Kp.drew ?_|with_reducible refine Kp.drewN ?_ _|with_reducible refine Kp.setCell ?_ (fun h=>absurd h (by simp<;>omega)) _|with_reducible refine Kp.trans ?_ (by with_reducible assumption)|exact Kp.refl _ _|assumption|refine Kp.alloc ?_ _|refine Kp.drew ?_|refine Kp.drewN ?_ _|(refine Kp.setCell ?_ (fun h=>absurd h (by simp;done)) _)|(refine Kp.setCell ?_ (fun h=>absurd h (by simp;omega)) _)|refine Kp.trans ?_ (by assumption))):p:=h
theorem Z1{p:Prop}(h:p:=by repeat (first|with_reducible assumption|with_reducible exact Kp.refl _ _|apply Kp.alloc|apply Kp.drew|apply Kp.drewN|refine Kp.setCell ?_ (fun h=>absurd h (by simp<;>omega)) _|assumption|refine Kp.trans ?_ (by assumption)|exact Kp.refl _ _)):p:=h
theorem ZS{p:Prop}(h:p:=by repeat (first|assumption|exact Kp.refl _ _|apply Kp.alloc|apply Kp.drew|apply Kp.drewN|refine Kp.trans ?_ (by assumption))):p:=h
theorem ZD{p:Prop}(h:p:=by with_reducible assumption):p:=h
theorem Ys{p:Prop}(h:p:=by simp[Value.oneCell']):p:=h
theorem Xs{p:Prop}(h:p:=by simp<;>omega):p:=h
theorem X2{p:Prop}(h:p:=by simp;omega):p:=h
theorem X1{p:Prop}(h:p:=by simp;done):p:=h
theorem XS{p:Prop}(h:p:=by assumption):p:=h
theorem Wr{p:Prop}(h:p:=by kernel_rfl):p:=h
theorem Wk{p:Prop}(h:p:=by decide):p:=h
theorem Wg{p:Prop}(h:p:=by omega):p:=h
theorem Wf{p:Prop}(h:p:=by simp):p:=h
end Go.Proofs.YtkmclfpjpajjeaaGreat
namespace Go.Proofs.YtkmclfpjpajjeaaGreat.M
structure Kind where
 kind:Int
 name:ByteArray
structure Tag where
 kind:Int
 name:ByteArray
structure Ins where
 op:Int
 a:Int
 name:ByteArray
 member:ByteArray
structure SMap where
 at_:Int
 locals:List Tag
 stack:List Tag
structure Field where
 name:ByteArray
 kind:Kind
structure Method where
 name:ByteArray
 args:List Kind
 ret:Kind
 locals:Int
 stack:Int
 code:List Ins
 maps:List SMap
structure Class where
 name:ByteArray
 aL:ByteArray
 fields:List Field
 methods:List Method
structure Ask where
 name:ByteArray
 keeper:Int
structure eY where
 owns:List Class
 asks:List Ask
abbrev ax:=List eY
structure Ref where
 keeper:Int
 name:ByteArray
theorem Ref.gJ{a b:Ref}:a=b↔a.keeper=b.keeper∧a.name=b.name:=by
 cases a;cases b;simp
theorem Kind.gJ{a b:Kind}:a=b↔a.kind=b.kind∧a.name=b.name:=by
 cases a;cases b;simp
theorem Tag.gJ{a b:Tag}:a=b↔a.kind=b.kind∧a.name=b.name:=by
 cases a;cases b;simp
theorem Ins.gJ{a b:Ins}:a=b↔a.op=b.op∧a.a=b.a∧a.name=b.name∧a.member=b.member:=by
 cases a;cases b;simp
instance:DecidableEq Ref:=fun _ _=>decidable_of_iff' _ Ref.gJ
instance:DecidableEq Kind:=fun _ _=>decidable_of_iff' _ Kind.gJ
instance:DecidableEq Tag:=fun _ _=>decidable_of_iff' _ Tag.gJ
instance:DecidableEq Ins:=fun _ _=>decidable_of_iff' _ Ins.gJ
theorem Field.gJ{a b:Field}:a=b↔a.name=b.name∧a.kind=b.kind:=by
 cases a;cases b;simp
instance:DecidableEq Field:=fun _ _=>decidable_of_iff' _ Field.gJ
def letter(c:UInt8):Bool:=decide (97≤c.toNat)&&decide (c.toNat≤122)
def aT(s:ByteArray):Bool:=decide (1≤s.size)&&decide (s.size≤6)&&s.data.toList.all letter
abbrev none_:ByteArray:=⟨#[]⟩
def fe(k:Kind):Bool:=(k.kind==1&&decide (k.name=none_))|| (k.kind==2&&aT k.name)
def nI(t:Tag):Bool:=
 if t.kind=0∨t.kind=1∨t.kind=3 then decide (t.name=none_)else if t.kind=2 then aT t.name else false
def kU(op:Int):Int:=if op=1 then -9999 else 0
def lZ(op:Int):Int:=if op=1 then 9999 else if op=2∨op=3 then 5 else 15
def isNum(op:Int):Bool:=op==1 || op==2 || op==3 || op==11 || op==12 || op==13
def jO(op:Int):Bool:=op==6 || op==15
def kS(op:Int):Bool:=op==7 || op==8 || op==9
def mG(op:Int):Bool:=op==4 || op==5 || op==10 || op==14
def eH(i:Ins):Bool:=
 if isNum i.op then decide (i.name=none_)&&decide (i.member=none_)&&decide (kU i.op≤i.a)&&decide (i.a≤lZ i.op)
 else if jO i.op then decide (i.a=0)&&decide (i.member=none_)&&aT i.name
 else if kS i.op then decide (i.a=0)&&aT i.name&&aT i.member
 else if mG i.op then decide (i.a=0)&&decide (i.name=none_)&&decide (i.member=none_)
 else false
def rU(l:List Tag):Bool:=l.all nI
def iZ(m:Method)(i:Ins):Bool:=
 eH i&&(if i.op=2∨i.op=3 then decide (i.a<m.locals)else if i.op=11∨i.op=12∨i.op=13 then decide (i.a<m.code.length)else true)
def codeOk(m:Method):Bool:=decide (1≤m.code.length)&&decide (m.code.length≤16)&&m.code.all (iZ m)
def rE(m:Method)(f:SMap):Bool:=
 decide (f.at_ <m.code.length)&&decide ((f.locals.length:Int)=m.locals)&&decide ((f.stack.length:Int)≤m.stack)&&rU f.locals&&rU f.stack
def dH(m:Method):Int→List SMap→Bool
 |_,[]=>true
 |last,f::r=>decide (last<f.at_)&&rE m f&&dH m f.at_ r
def nG(m:Method):Bool:=decide (m.maps.length≤5)&&dH m 0 m.maps
def jA(m:Method):Bool:=
 aT m.name&&decide (m.args.length≤3)&&fe m.ret&&m.args.all fe&&
 decide ((m.args.length:Int)+1≤m.locals)&&decide (m.locals≤6)&&decide (1≤m.stack)&&decide (m.stack≤5)&&codeOk m&&nG m
def aZ{α:Type}(name:α→ByteArray)(ok:α→Bool):List α→List ByteArray→Bool
 |[],_=>true
 |x::r,seen=>ok x&& !(seen.any fun y=>decide (y=name x))&&aZ name ok r (seen++[name x])
def jF(c:Class):Bool:=
 aT c.name&&(decide (c.aL=none_)|| aT c.aL)&&decide (c.fields.length≤3)&&decide (c.methods.length≤4)&&
 aZ Field.name (fun f=>aT f.name&&fe f.kind) c.fields []&&aZ Method.name jA c.methods []
def has(p:ax)(k:Int):Bool:=decide (0≤k)&&decide (k<p.length)
def bA(p:ax)(k:eY):Bool:=
 decide (k.owns.length≤5)&&decide (k.asks.length≤4)&&aZ Class.name jF k.owns []&&aZ Ask.name (fun a=>aT a.name&&has p a.keeper) k.asks []
def dF(p:ax):Bool:=decide (1≤p.length)&&decide (p.length≤3)&&p.all (bA p)
def fw(p:ax)(k:Int):Option eY:=if 0≤k then p[k.toNat]? else none
def tu(p:ax)(r:Ref):Option Nat:=(fw p r.keeper).bind fun k=>k.owns.findIdx? fun c=>c.name=r.name
def cls?(p:ax)(r:Ref):Option Class:=(fw p r.keeper).bind fun k=>k.owns.find? fun c=>c.name=r.name
def ug(p:ax)(k:Int)(n:ByteArray):Option Int:=(fw p k).bind fun q=>(q.asks.find? fun a=>a.name=n).map Ask.keeper
def owned(p:ax)(r:Ref):Bool:=(cls? p r).isSome
def qg:Ref:=⟨0,none_⟩
def gX(p:ax)(n:ByteArray):Nat→List Int→Int→List Int×Int
 |0,_,_=>([],3)
 |f+1,asked,k=>match ug p k n with
  |none=>if owned p ⟨k,n⟩then(asked,1)else([],2)
  |some next=>if asked.contains next then([],3)else gX p n f (asked++[next]) next
def path(p:ax)(k:Int)(n:ByteArray):List Int×Int:=if has p k then gX p n 4 [k] k else([],2)
def resolve(p:ax)(k:Int)(n:ByteArray):Ref×Int:=
 if(path p k n).2=1 then(⟨(path p k n).1.getLastD 0,n⟩,1)else(qg,(path p k n).2)
def aL(p:ax)(r:Ref):ByteArray:=((cls? p r).map Class.aL).getD none_
def bT(p:ax):Nat→Ref→Option (List Ref)
 |0,_=>none
 |f+1,r=>
  if aL p r=none_ then some [r]
  else if(resolve p r.keeper (aL p r)).2=1 then(bT p f (resolve p r.keeper (aL p r)).1).map (r::·)else none
def jw(p:ax)(r:Ref):Option (List Ref):=bT p 6 r
def find(p:ax)(k:Int)(n:ByteArray):Ref×Int:=
 if(resolve p k n).2=1 then(if(jw p (resolve p k n).1).isSome then((resolve p k n).1,1)else(qg,4))else(qg,(resolve p k n).2)
def fo(p:ax)(r:Ref):Bool:=decide ((find p r.keeper r.name).2=1)&&decide ((find p r.keeper r.name).1=r)
def chain(p:ax)(r:Ref):List Ref:=if fo p r then(jw p r).getD []else []
def under(p:ax)(low top:Ref):Bool:=(chain p low).contains top
def agree(p:ax)(a b:Int)(k:Kind):Bool:=
 k.kind==1 || (if(find p a k.name).2=1∧(find p b k.name).2=1 then decide ((find p a k.name).1=(find p b k.name).1)
  else decide ((find p a k.name).2≠1)&&decide ((find p b k.name).2≠1))
def bX(p:ax)(a b:Int)(m:Method):Bool:=m.args.all (agree p a b)&&agree p a b m.ret
def lM(c:Class)(n:ByteArray):Option Nat:=c.methods.findIdx? fun m=>m.name=n
def uw(c:Class)(n:ByteArray):Option Nat:=c.fields.findIdx? fun f=>f.name=n
def ack:Class:=⟨none_,none_,[],[]⟩
def cls(p:ax)(r:Ref):Class:=(cls? p r).getD ack
def dV(p:ax)(low high:Ref)(m:Method):Bool:=
 match(cls p high).methods.find? (fun n=>n.name=m.name)with
 |none=>true
 |some n=>decide (m.ret=n.ret)&&decide (m.args=n.args)&&bX p low.keeper high.keeper m
def ja(p:ax)(low high:Ref):Bool:=
 (cls p low).fields.all (fun f=>(uw (cls p high) f.name).isNone)&&(cls p low).methods.all (dV p low high)
def ek(p:ax):List Ref→Bool
 |[]=>true
 |low::r=>r.all (ja p low)&&ek p r
def bu(p:ax)(r:Ref):Bool:= !(chain p r).isEmpty&&ek p (chain p r)
end Go.Proofs.YtkmclfpjpajjeaaGreat.M
namespace Go.Proofs.YtkmclfpjpajjeaaGreat
open Go Go.RowKit
theorem aF{w:World}{b o:Nat}{v:Value}(h:w.cell? ⟨b,o,none⟩=some v):b<w.heap.size:=by
 rcases Nat.lt_or_ge b w.heap.size with h1|h1
 · exact h1
 · simp[World.cell?,Array.getElem?_eq_none h1]at h
structure Kp(D:Nat→Prop)(w w':World):Prop where
 os:w'.os=w.os
 tape:w'.tape=w.tape
 output:w'.output=w.output
 size:w.heap.size≤w'.heap.size
 block:∀k,k<w.heap.size→¬D k→w'.heap[k]?=w.heap[k]?
section
variable {D D':Nat→Prop} {w w' a b c:World}
theorem Kp.refl(D:Nat→Prop)(w:World):Kp D w w:=⟨rfl,rfl,rfl,Nat.le_refl _,fun _ _ _=>rfl⟩
theorem Kp.rr{D:Nat→Prop}{w:World}:Kp D w w:=Kp.refl D w
theorem Kp.trans(h:Kp D a b)(k:Kp D b c):Kp D a c:=
 ⟨k.os.trans h.os,k.tape.trans h.tape,k.output.trans h.output,Nat.le_trans h.size k.size,
  fun i hi hd=>(k.block i (Nat.lt_of_lt_of_le hi h.size) hd).trans (h.block i hi hd)⟩
theorem Kp.weak(h:Kp D a b)(hD:∀k,k<a.heap.size→D k→D' k):Kp D' a b:=
 ⟨h.os,h.tape,h.output,h.size,fun k hk hd=>h.block k hk fun x=>hd (hD k hk x)⟩
theorem Kp.below(h:Kp D a b)(n:Nat)(hn:n≤a.heap.size)(hD:∀k,k<n→¬D k):Below n a b:=
 ⟨h.os,h.tape,h.output,h.size,fun k hk=>h.block k Wg (hD k hk)⟩
theorem Kp.alloc(h:Kp D a b)(o:Obj):Kp D a (b.alloc o):=
 ⟨h.os,h.tape,h.output,by simp;exact Nat.le_succ_of_le h.size,fun k hk hd=>(Below.heap_alloc b o k (Nat.lt_of_lt_of_le hk h.size)).trans (h.block k hk hd)⟩
theorem Kp.drew(h:Kp D a b):Kp D a b.drew:=⟨h.os,h.tape,h.output,h.size,h.block⟩
theorem Kp.drewN(h:Kp D a b)(n:Nat):Kp D a (b.drewN n):=⟨h.os,h.tape,h.output,h.size,h.block⟩
theorem Kp.setCell(h:Kp D a b){p:Addr}(hp:p.block<a.heap.size→D p.block)(v:Value):Kp D a (b.setCell p v):=
 ⟨h.os,h.tape,h.output,by simp[World.setCell];exact h.size,
  fun k hk hd=>(Below.heap_setCell b p v k (fun e=>hd (by subst e;exact hp hk))).trans (h.block k hk hd)⟩
theorem Kp.cell(h:Kp D a b){k o:Nat}(hk:k<a.heap.size)(hd:¬D k):b.cell? ⟨k,o,none⟩=a.cell? ⟨k,o,none⟩:=
 World.cell?_of_block (h.block k hk hd)
theorem Kp.frozen(h:Kp D a b){k o:Nat}(hk:k<a.heap.size)(hd:¬D k):b.frozen? ⟨k,o,none⟩=a.frozen? ⟨k,o,none⟩:=
 World.frozen?_of_block (h.block k hk hd)
abbrev Ext(w w':World):Prop:=Kp (fun _=>False) w w'
theorem Kp.any(h:Ext a b):Kp D a b:=h.weak fun _ _ x=>x.elim
theorem Ext.Wq{w w':World}(h:Ext w w'):Below w.heap.size w w':=Kp.below h _ (Nat.le_refl _) fun _ _ x=>x
theorem Kp.aD(h:Ext a b){k o:Nat}{v:Value}(hc:a.cell? ⟨k,o,none⟩=some v):b.cell? ⟨k,o,none⟩=some v:=
 (h.cell (aF hc) (fun x=>x)).trans hc
theorem Kp.jg(h:Kp D a b){k o:Nat}{v:Value}(hc:a.cell? ⟨k,o,none⟩=some v)(hd:¬D k):b.cell? ⟨k,o,none⟩=some v:=
 (h.cell (aF hc) hd).trans hc
theorem Kp.P5{o':Obj}(h:Ext (a.alloc o') b){k o:Nat}{v:Value}(hc:a.cell? ⟨k,o,none⟩=some v):b.cell? ⟨k,o,none⟩=some v:=
 h.aD (((Kp.refl _ _).alloc _:Ext a _).aD hc)
inductive KX(D:Nat→Prop)(w:World):World→Prop
 |r:KX D w w
 |a {b:World} {o:Obj}:KX D w b→KX D w (b.alloc o)
 |d {b:World}:KX D w b→KX D w b.drew
 |n {b:World} {k:Nat}:KX D w b→KX D w (b.drewN k)
 |h {b:World}:Kp D w b→KX D w b
theorem KX.k{D:Nat→Prop}{w b:World}(h:KX D w b):Kp D w b:=by
 induction h with
 |r=>exact Kp.refl _ _
 |a _ ih=>exact ih.alloc _
 |d _ ih=>exact ih.drew
 |n _ ih=>exact ih.drewN _
 |h h=>exact h
theorem kx{D:Nat→Prop}{w b:World}(h:KX D w b:=by repeat (first|assumption|constructor)):Kp D w b:=h.k
theorem Lp{W w1:World}(hb:Ext W w1):
    (∀b o,b<W.heap.size→w1.cell? ⟨b,o,none⟩=W.cell? ⟨b,o,none⟩)∧(∀b o,b<W.heap.size→w1.frozen? ⟨b,o,none⟩=W.frozen? ⟨b,o,none⟩):=
 ⟨fun _ _ h=>hb.cell h fun x=>x,fun _ _ h=>hb.frozen h fun x=>x⟩
end
theorem aJ{p0 p1:Prop}(h0:p0)(h1:p1):Zs p0∧Zs p1:=⟨Z3 h0,Z3 h1⟩
theorem bg{p0 p1 p2:Prop}(h0:p0)(h1:p1)(h2:p2):Zs p0∧Zs p1∧Zs p2:=⟨Z3 h0,Z3 h1,Z3 h2⟩
theorem gD{p0 p1 p2 p3:Prop}(h0:p0)(h1:p1)(h2:p2)(h3:p3):Zs p0∧Zs p1∧Zs p2∧Zs p3:=⟨Z3 h0,Z3 h1,Z3 h2,Z3 h3⟩
theorem kL{p0 p1 p2 p3 p4:Prop}(h0:p0)(h1:p1)(h2:p2)(h3:p3)(h4:p4):Zs p0∧Zs p1∧Zs p2∧Zs p3∧Zs p4:=⟨Z3 h0,Z3 h1,Z3 h2,Z3 h3,Z3 h4⟩
theorem qU{p0 p1 p2 p3 p4 p5:Prop}(h0:p0)(h1:p1)(h2:p2)(h3:p3)(h4:p4)(h5:p5):Zs p0∧Zs p1∧Zs p2∧Zs p3∧Zs p4∧Zs p5:=⟨Z3 h0,Z3 h1,Z3 h2,Z3 h3,Z3 h4,Z3 h5⟩
theorem pX{p0 p1 p2 p3 p4 p5 p6:Prop}(h0:p0)(h1:p1)(h2:p2)(h3:p3)(h4:p4)(h5:p5)(h6:p6):Zs p0∧Zs p1∧Zs p2∧Zs p3∧Zs p4∧Zs p5∧Zs p6:=⟨Z3 h0,Z3 h1,Z3 h2,Z3 h3,Z3 h4,Z3 h5,Z3 h6⟩
theorem JI{p0 p1 p2 p3 p4 p5 p6 p7:Prop}(h0:p0)(h1:p1)(h2:p2)(h3:p3)(h4:p4)(h5:p5)(h6:p6)(h7:p7):Zs p0∧Zs p1∧Zs p2∧Zs p3∧Zs p4∧Zs p5∧Zs p6∧Zs p7:=⟨Z3 h0,Z3 h1,Z3 h2,Z3 h3,Z3 h4,Z3 h5,Z3 h6,Z3 h7⟩
theorem LX{p0 p1 p2 p3 p4 p5 p6 p7 p8:Prop}(h0:p0)(h1:p1)(h2:p2)(h3:p3)(h4:p4)(h5:p5)(h6:p6)(h7:p7)(h8:p8):Zs p0∧Zs p1∧Zs p2∧Zs p3∧Zs p4∧Zs p5∧Zs p6∧Zs p7∧Zs p8:=⟨Z3 h0,Z3 h1,Z3 h2,Z3 h3,Z3 h4,Z3 h5,Z3 h6,Z3 h7,Z3 h8⟩
def ay(w:World)(g:Nat)(t:TypeId)(cs:Array Value):Prop:=w.heap[g]?=some (.cells cs t (0,0))
section
variable {w w':World} {g:Nat} {t:TypeId} {cs:Array Value}
theorem ay.lt(h:ay w g t cs):g<w.heap.size:=by
 rcases Nat.lt_or_ge g w.heap.size with bY|hge
 · exact bY
 · unfold ay at h;rw[Array.getElem?_eq_none hge]at h;cases h
theorem ay.cell(h:ay w g t cs)(i:Nat):w.cell? ⟨g,i,none⟩=cs[i]?:=by
 unfold ay at h;simp[World.cell?,h]
theorem ay.c(h:ay w g t cs)(i:Nat)(v:Value)(hv:cs[i]?=some v):w.cell? ⟨g,i,none⟩=some v:=(h.cell i).trans hv
theorem ay.frozen(h:ay w g t cs)(i:Nat):w.frozen? ⟨g,i,none⟩=false:=by
 unfold ay at h;simp[World.frozen?,h]
def Zf(w:World)(g:Nat):List Nat→List Value→Prop
 |i::r,v::l=>w.cell? ⟨g,i,none⟩=some v∧Zf w g r l
 |_,_=>True
def Ze{T:Type}(W:T→World)(g:Nat):List Nat→List Value→Prop
 |i::r,v::l=>(∀z,(W z).cell? ⟨g,i,none⟩=some v)∧Ze W g r l
 |_,_=>True
def FZi(w:World)(g:Nat):List Nat→Prop
 |i::r=>w.frozen? ⟨g,i,none⟩=false∧FZi w g r
 |_=>True
theorem Zf.of{w:World}{g:Nat}:∀(n k:Nat) (l:List Value),(∀j v,l[j]?=some v→w.cell? ⟨g,k+j,none⟩=some v)→Zf w g (List.range' k n) l
 |0,_,_,_=>by simp[Zf]
 |n+1,k,[],_=>by simp[List.range'_succ,Zf]
 |n+1,k,v::l,h=>by
  rw[List.range'_succ];exact⟨h 0 v rfl,Zf.of n (k+1) l fun j u hj=>by have:=h (j+1) u hj;rwa[Nat.add_right_comm,←Nat.add_assoc]at*⟩
theorem Ze.of{T:Type}{W:T→World}{g:Nat}:∀(n k:Nat) (l:List Value),(∀j v,l[j]?=some v→∀z,(W z).cell? ⟨g,k+j,none⟩=some v)→Ze W g (List.range' k n) l
 |0,_,_,_=>by simp[Ze]
 |n+1,k,[],_=>by simp[List.range'_succ,Ze]
 |n+1,k,v::l,h=>by
  rw[List.range'_succ];exact⟨h 0 v rfl,Ze.of n (k+1) l fun j u hj z=>by have:=h (j+1) u hj z;rwa[Nat.add_right_comm,←Nat.add_assoc]at*⟩
theorem FZi.of{w:World}{g:Nat}(h:∀i,w.frozen? ⟨g,i,none⟩=false):∀l:List Nat,FZi w g l
 |[]=>trivial
 |i::l=>⟨h i,FZi.of h l⟩
theorem ay.ca(h:ay w g t cs):g<w.heap.size∧Zf w g [0,1,2,3,4,5,6,7,8,9,10,11] cs.toList:=
 ⟨h.lt,Zf.of 12 0 _ fun j v hj=>by rw[Nat.zero_add];exact h.c j v (by rw[←Array.getElem?_toList];exact hj)⟩
theorem ay.kY{T:Type}{W:T→World}(h:∀z,ay (W z) g t cs):(∀z,g<(W z).heap.size)∧Ze W g [0,1,2,3,4,5,6,7,8,9,10,11] cs.toList:=
 ⟨fun z=>(h z).lt,Ze.of 12 0 _ fun j v hj z=>by rw[Nat.zero_add];exact(h z).c j v (by rw[←Array.getElem?_toList];exact hj)⟩
theorem ay.fz(h:ay w g t cs):FZi w g [0,1,2,3,4,5,6,7,8,9,10,11]:=FZi.of (fun i=>h.frozen i) _
theorem ay.keep(h:ay w g t cs)(hk:w'.heap[g]?=w.heap[g]?):ay w' g t cs:=hk.trans h
theorem ay.ext(h:ay w g t cs)(hb:Ext w w'):ay w' g t cs:=(hb.block g h.lt fun x=>x).trans h
theorem ay.kp{D:Nat→Prop}(h:ay w g t cs)(hb:Kp D w w')(hg:¬D g):ay w' g t cs:=(hb.block g h.lt hg).trans h
theorem ay.new(w:World)(t:TypeId)(cs:Array Value):ay (w.alloc (.cells cs t)) w.heap.size t cs:=by
 unfold ay World.alloc;simp
theorem nu(w:World)(cs:Array Value)(t:TypeId):∃x,x=w.alloc (.cells cs t)∧Ext w x∧ay x w.heap.size t cs:=⟨_,rfl,(Kp.refl _ _).alloc _,ay.new _ _ _⟩
theorem ay.bE(h:ay w g t cs)(i:Nat)(u:Value):ay (w.setCell ⟨g,i,none⟩ u) g t (cs.setIfInBounds i u):=by
 unfold ay at h ⊢;simp[World.setCell,Array.getElem?_modify,h]
end
def ae(w:World)(b o:Nat)(cs:List Value):Prop:=∀j v,cs[j]?=some v→w.cell? ⟨b,o+j,none⟩=some v
abbrev iJ(α:Type):=World→(Nat→Prop)→α→List Value→Prop
def SliceOf{α:Type}(k:Nat)(R:iJ α)(w:World)(I:Nat→Prop)(v:Value)(xs:List α):Prop:=
 ∃a cap,v=.slice a xs.length cap∧xs.length≤cap∧xs.length≤4294967296∧
  ∀i x,xs[i]?=some x→∃b off cs,a=some ⟨b,off,none⟩∧I b∧R w I x cs∧cs.length=k∧ae w b (off+i*k) cs
theorem ae.keep{w w':World}{b o:Nat}{cs:List Value}(h:ae w b o cs)(hs:∀o v,w.cell? ⟨b,o,none⟩=some v→w'.cell? ⟨b,o,none⟩=some v):ae w' b o cs:=
 fun j v hj=>hs _ _ (h j v hj)
def Same(I:Nat→Prop)(w w':World):Prop:=∀b o v,I b→w.cell? ⟨b,o,none⟩=some v→w'.cell? ⟨b,o,none⟩=some v
theorem Ext.same{I:Nat→Prop}{w w':World}(h:Ext w w'):Same I w w':=fun _ _ _ _ hc=>Kp.aD h hc
theorem Kp.same{I D:Nat→Prop}{w w':World}(h:Kp D w w')(hI:∀b,I b→¬D b):Same I w w':=fun b _ _ hb hc=>h.jg hc (hI b hb)
def bQ{α:Type}(R:iJ α):Prop:=∀(w w':World) (I J:Nat→Prop) (x:α) (cs:List Value),Same I w w'→(∀b,I b→J b)→R w I x cs→R w' J x cs
theorem SliceOf.keep{α:Type}{k:Nat}{R:iJ α}(hR:bQ R){w w':World}{I J:Nat→Prop}{v:Value}{xs:List α}(h:SliceOf k R w I v xs)
    (hs:Same I w w') (WU:∀b,I b→J b):SliceOf k R w' J v xs:=by
 obtain⟨a,cap,e,h1,h2,h3⟩:=h;refine⟨a,cap,e,h1,h2,fun i x hx=>?_⟩;obtain⟨b,off,cs',ea,hI,hr,hl,hc⟩:=h3 i x hx;exact⟨b,off,cs',ea,WU b hI,hR _ _ _ _ _ _ hs WU hr,hl,hc.keep fun o v=>hs b o v hI⟩
theorem SliceOf.ext{α:Type}{k:Nat}{R:iJ α}{w w':World}{I:Nat→Prop}{v:Value}{xs:List α}(h:SliceOf k R w I v xs)(hR:bQ R)(hE:Ext w w'):SliceOf k R w' I v xs:=
 h.keep hR (Ext.same hE) fun _ h=>h
theorem SliceOf.get{α:Type}{k:Nat}{R:iJ α}{w:World}{I:Nat→Prop}{a:Option Addr}{n cap:Nat}{xs:List α}(h:SliceOf k R w I (.slice a n cap) xs){i:Nat}{x:α}(hx:xs[i]?=some x):
    ∃b off cs,a=some ⟨b,off,none⟩∧I b∧R w I x cs∧cs.length=k∧ae w b (off+i*k) cs:=by
 obtain⟨a',cap',e,h1,h2,h3⟩:=h;cases e;exact h3 i x hx
theorem SliceOf.form{α:Type}{k:Nat}{R:iJ α}{w:World}{I:Nat→Prop}{v:Value}{xs:List α}(h:SliceOf k R w I v xs):
    ∃a cap,v=.slice a xs.length cap∧xs.length≤cap∧xs.length≤4294967296:=by
 obtain⟨a,cap,e,h1,h2,_⟩:=h;exact⟨a,cap,e,h1,h2⟩
theorem SliceOf.nil{α:Type}(k:Nat)(R:iJ α)(w:World)(I:Nat→Prop):SliceOf k R w I (.slice none 0 0) ([]:List α):=
 ⟨none,0,rfl,Nat.le_refl _,by simp,fun i x hx=>by simp at hx⟩
theorem SliceOf.take{α:Type}{k:Nat}{R:iJ α}{w:World}{I:Nat→Prop}{a:Option Addr}{n cap:Nat}{xs:List α}(h:SliceOf k R w I (.slice a n cap) xs){i:Nat}(hi:i≤xs.length):
    SliceOf k R w I (.slice a i cap) (xs.take i):=by
 obtain⟨a',cap',e,h1,h2,h3⟩:=h;cases e;refine⟨a,cap,by rw[List.length_take,Nat.min_eq_left hi],by rw[List.length_take];omega,by rw[List.length_take];omega,fun j x hx=>?_⟩;rw[List.getElem?_take]at hx;split at hx
 · exact h3 j x hx
 · cases hx
def jv:iJ M.Kind:=fun _ _ x cs=>cs=[.int .i64 x.kind,.string x.name]
def eB:iJ M.Tag:=fun _ _ x cs=>cs=[.int .i64 x.kind,.string x.name]
def tZ:iJ M.Ins:=fun _ _ x cs=>cs=[.int .i64 x.op,.int .i64 x.a,.string x.name,.string x.member]
def zn:iJ M.Ref:=fun _ _ x cs=>cs=[.int .i64 x.keeper,.string x.name]
def eu:iJ M.Ask:=fun _ _ x cs=>cs=[.string x.name,.int .i64 x.keeper]
def eF:iJ M.Field:=fun _ _ x cs=>cs=[.string x.name,.int .i64 x.kind.kind,.string x.kind.name]
def jQ:iJ Int:=fun _ _ x cs=>cs=[.int .i64 x]
def gY:iJ M.SMap:=fun w I x cs=>∃vl vs,cs=[.int .i64 x.at_,vl,vs]∧SliceOf 2 eB w I vl x.locals∧SliceOf 2 eB w I vs x.stack
def aG:iJ M.Method:=fun w I x cs=>∃va vc vm,cs=[.string x.name,va,.int .i64 x.ret.kind,.string x.ret.name,.int .i64 x.locals,.int .i64 x.stack,vc,vm]∧
 SliceOf 2 jv w I va x.args∧SliceOf 4 tZ w I vc x.code∧SliceOf 3 gY w I vm x.maps
def aP:iJ M.Class:=fun w I x cs=>∃vf vm,cs=[.string x.name,.string x.aL,vf,vm]∧SliceOf 3 eF w I vf x.fields∧SliceOf 8 aG w I vm x.methods
def aB:iJ M.eY:=fun w I x cs=>∃vo va,cs=[vo,va]∧SliceOf 4 aP w I vo x.owns∧SliceOf 2 eu w I va x.asks
theorem aG.form{w:World}{I:Nat→Prop}{x:M.Method}{cs:List Value}(h:aG w I x cs):∃a1 c1 a2 c2 a3 c3,
    cs=[.string x.name,.slice a1 x.args.length c1,.int .i64 x.ret.kind,.string x.ret.name,.int .i64 x.locals,.int .i64 x.stack,.slice a2 x.code.length c2,.slice a3 x.maps.length c3]:=by
 obtain⟨_,_,_,rfl,h1,h2,h3⟩:=h;obtain⟨a1,c1,rfl,_⟩:=h1.form;obtain⟨a2,c2,rfl,_⟩:=h2.form;obtain⟨a3,c3,rfl,_⟩:=h3.form;exact⟨a1,c1,a2,c2,a3,c3,rfl⟩
theorem aP.form{w:World}{I:Nat→Prop}{x:M.Class}{cs:List Value}(h:aP w I x cs):∃a1 c1 a2 c2,
    cs=[.string x.name,.string x.aL,.slice a1 x.fields.length c1,.slice a2 x.methods.length c2]:=by
 obtain⟨_,_,rfl,h1,h2⟩:=h;obtain⟨a1,c1,rfl,_⟩:=h1.form;obtain⟨a2,c2,rfl,_⟩:=h2.form;exact⟨a1,c1,a2,c2,rfl⟩
theorem aB.form{w:World}{I:Nat→Prop}{x:M.eY}{cs:List Value}(h:aB w I x cs):∃a1 c1 a2 c2,
    cs=[.slice a1 x.owns.length c1,.slice a2 x.asks.length c2]:=by
 obtain⟨_,_,rfl,h1,h2⟩:=h;obtain⟨a1,c1,rfl,_⟩:=h1.form;obtain⟨a2,c2,rfl,_⟩:=h2.form;exact⟨a1,c1,a2,c2,rfl⟩
theorem gY.form{w:World}{I:Nat→Prop}{x:M.SMap}{cs:List Value}(h:gY w I x cs):∃a1 c1 a2 c2,
    cs=[.int .i64 x.at_,.slice a1 x.locals.length c1,.slice a2 x.stack.length c2]:=by
 obtain⟨_,_,rfl,h1,h2⟩:=h;obtain⟨a1,c1,rfl,_⟩:=h1.form;obtain⟨a2,c2,rfl,_⟩:=h2.form;exact⟨a1,c1,a2,c2,rfl⟩
theorem jv.stays:bQ jv:=fun _ _ _ _ _ _ _ _ h=>h
theorem eB.stays:bQ eB:=fun _ _ _ _ _ _ _ _ h=>h
theorem tZ.stays:bQ tZ:=fun _ _ _ _ _ _ _ _ h=>h
theorem zn.stays:bQ zn:=fun _ _ _ _ _ _ _ _ h=>h
theorem eu.stays:bQ eu:=fun _ _ _ _ _ _ _ _ h=>h
theorem eF.stays:bQ eF:=fun _ _ _ _ _ _ _ _ h=>h
theorem jQ.stays:bQ jQ:=fun _ _ _ _ _ _ _ _ h=>h
theorem gY.stays:bQ gY:=fun _ _ _ _ _ _ hs hI ⟨vl,vs,e,h1,h2⟩=>⟨vl,vs,e,h1.keep eB.stays hs hI,h2.keep eB.stays hs hI⟩
theorem aG.stays:bQ aG:=fun _ _ _ _ _ _ hs hI ⟨va,vc,vm,e,h1,h2,h3⟩=>
 ⟨va,vc,vm,e,h1.keep jv.stays hs hI,h2.keep tZ.stays hs hI,h3.keep gY.stays hs hI⟩
theorem aP.stays:bQ aP:=fun _ _ _ _ _ _ hs hI ⟨vf,vm,e,h1,h2⟩=>⟨vf,vm,e,h1.keep eF.stays hs hI,h2.keep aG.stays hs hI⟩
theorem aB.stays:bQ aB:=fun _ _ _ _ _ _ hs hI ⟨vo,va,e,h1,h2⟩=>⟨vo,va,e,h1.keep aP.stays hs hI,h2.keep eu.stays hs hI⟩
theorem ae.two{w:World}{b o:Nat}{x y:Value}(h:ae w b o [x,y]):w.cell? ⟨b,o,none⟩=some x∧w.cell? ⟨b,o+1,none⟩=some y:=
 ⟨by simpa using h 0 x rfl,h 1 y rfl⟩
theorem ae.one{w:World}{b o:Nat}{x:Value}(h:ae w b o [x]):w.cell? ⟨b,o,none⟩=some x:=by simpa using h 0 x rfl
theorem ae.three{w:World}{b o:Nat}{x y z:Value}(h:ae w b o [x,y,z]):
    w.cell? ⟨b,o,none⟩=some x∧w.cell? ⟨b,o+1,none⟩=some y∧w.cell? ⟨b,o+2,none⟩=some z:=
 ⟨by simpa using h 0 x rfl,h 1 y rfl,h 2 z rfl⟩
theorem ae.four{w:World}{b o:Nat}{x y z u:Value}(h:ae w b o [x,y,z,u]):
    w.cell? ⟨b,o,none⟩=some x∧w.cell? ⟨b,o+1,none⟩=some y∧w.cell? ⟨b,o+2,none⟩=some z∧w.cell? ⟨b,o+3,none⟩=some u:=
 ⟨by simpa using h 0 x rfl,h 1 y rfl,h 2 z rfl,h 3 u rfl⟩
theorem ae.eight{w:World}{b o:Nat}{x0 x1 x2 x3 x4 x5 x6 x7:Value}(h:ae w b o [x0,x1,x2,x3,x4,x5,x6,x7]):
    w.cell? ⟨b,o,none⟩=some x0∧w.cell? ⟨b,o+1,none⟩=some x1∧w.cell? ⟨b,o+2,none⟩=some x2∧w.cell? ⟨b,o+3,none⟩=some x3∧
    w.cell? ⟨b,o+4,none⟩=some x4∧w.cell? ⟨b,o+5,none⟩=some x5∧w.cell? ⟨b,o+6,none⟩=some x6∧w.cell? ⟨b,o+7,none⟩=some x7:=
 ⟨by simpa using h 0 x0 rfl,h 1 x1 rfl,h 2 x2 rfl,h 3 x3 rfl,h 4 x4 rfl,h 5 x5 rfl,h 6 x6 rfl,h 7 x7 rfl⟩
theorem ae.ext{w w':World}{b o:Nat}{cs:List Value}(h:ae w b o cs)(hb:Ext w w'):ae w' b o cs:=fun j v hj=>hb.aD (h j v hj)
theorem ae.kp{D:Nat→Prop}{w w':World}{b o:Nat}{cs:List Value}(h:ae w b o cs)(hk:Kp D w w')(hD:¬D b):ae w' b o cs:=fun j v hj=>hk.jg (h j v hj) hD
end Go.Proofs.YtkmclfpjpajjeaaGreat
namespace Go.Proofs.YtkmclfpjpajjeaaGreat
open Go Go.RowKit
def BytesAt(W:World)(v:Value)(zs:List Int):Prop:=
 (v=.slice none 0 0∧zs=[])∨∃a cap,v=.slice (some a) zs.length cap∧zs.length≤cap∧(∀i,i<zs.length→W.cell? (a.add i)=some (.int .u8 (zs.getD i 0)))∧∀n∈zs,0≤n∧n<256
theorem BytesAt.form{W:World}{v:Value}{zs:List Int}(h:BytesAt W v zs):∃a cap,v=.slice a zs.length cap:=by
 rcases h with⟨rfl,rfl⟩|⟨a,cap,rfl,_⟩
 · exact⟨none,0,rfl⟩
 · exact⟨_,_,rfl⟩
theorem xM{W:World}{a:Addr}{v:Value}(h:W.cell? a=some v):a.block<W.heap.size:=by
 rcases Nat.lt_or_ge a.block W.heap.size with h1|h1
 · exact h1
 · simp[World.cell?,Array.getElem?_eq_none h1]at h
theorem BytesAt.ext{W W':World}{v:Value}{zs:List Int}(h:BytesAt W v zs)(hE:Ext W W'):BytesAt W' v zs:=by
 rcases h with h|⟨a,cap,h1,h2,h3,h4⟩
 · exact .inl h
 · exact .inr ⟨a,cap,h1,h2,fun i hi=>(World.cell?_of_block (hE.block _ (xM (h3 i hi)) fun x=>x)).trans (h3 i hi),h4⟩
theorem BO{zs:List Int}(h:∀n∈zs,0≤n∧n<256){i:Nat}(hi:i<zs.length):0≤zs.getD i 0∧zs.getD i 0<256:=by
 have e:zs.getD i 0=zs[i]:=by simp[List.getD,List.getElem?_eq_getElem hi]
 rw[e];exact h _ (List.getElem_mem _)
def ac8(f:FuncId):Prop:=∀(W:World) (v:Value) (zs:List Int),BytesAt W v zs→Calls Tryz.prog f #[v] W fun e W'=>e=.returned (.bool true)∧Ext W W'
theorem af{a b:Bool}(h:a=b):Ending.returned (.bool a)=.returned (.bool b):=by rw[h]
theorem gm(s:ByteArray):s.toList.isEmpty=decide (s=M.none_):=by
 rw[ByteArray.toList_eq];obtain⟨⟨l⟩⟩:=s;cases l<;>simp[M.none_]
theorem Dk(s:ByteArray)(k:Nat)(h:k<s.size):s.data.toList.take (k+1)=s.data.toList.take k++[s[k]]:=by
 rw[List.take_succ_eq_append_getElem (by simpa using h)];rfl
theorem AR(s:ByteArray)(k:Nat)(h:k<s.size)(hc:M.letter s[k]=false):M.aT s=false:=by
 have hm:s[k]∈s.data.toList:=by simp[ByteArray.getElem_eq_getElem_data]
 unfold M.aT;rw[List.all_eq_false.2 ⟨_,hm,by simp[hc]⟩];simp
theorem FO{c:UInt8}(h:(c.toNat:Int)<97):M.letter c=false:=by
 unfold M.letter;rw[decide_eq_false Wg];rfl
theorem FP{c:UInt8}(h:(c.toNat:Int)<97∨122<(c.toNat:Int)):M.letter c=false:=by
 unfold M.letter;rcases h with h|h
 · rw[decide_eq_false Wg];rfl
 · rw[decide_eq_false (p:=c.toNat≤122) Wg];simp
theorem FQ{c:UInt8}(h:97≤(c.toNat:Int)∧(c.toNat:Int)≤122):M.letter c=true:=by
 unfold M.letter;rw[decide_eq_true Wg,decide_eq_true Wg];rfl
theorem Bc(s:ByteArray)(w:World):
    Calls Tryz.prog 36 #[.string s] w fun e w'=>e=.returned (.bool (M.aT s))∧w=w':=by
 by_cases h1:s.size<1
 · go_enter Tryz.func36,Tryz.ntmps36;go_wp2;go_ret;exact⟨af (by unfold M.aT;rw[decide_eq_false Wg];rfl),rfl⟩
 by_cases h2:6<s.size
 · go_enter Tryz.func36,Tryz.ntmps36;go_wp2;go_ret;exact⟨af (by unfold M.aT;rw[decide_eq_false (p:=s.size≤6) Wg];simp),rfl⟩
 go_enter Tryz.func36,Tryz.ntmps36;go_wp2;go_loop [3] (fun i=>∃k:Nat,k≤s.size∧i=.int .i64 k∧(s.data.toList.take k).all M.letter=true) (fun i=>s.size - (intOf i).toNat)
 case atStart=>exact⟨0,Nat.zero_le _,rfl,by simp⟩
 case round =>
  obtain⟨k,hk,rfl,nW⟩:=hrel;have HA:=Z3 nW;clear nW;by_cases bY:k<s.size
  · go_wp2
    · go_ret;exact⟨af (AR s k bY (FP XS)).symm,rfl⟩
    · go_round
      case rel=>
       refine⟨k+1,by omega,by go_num,?_⟩;rw[Dk s k bY,List.all_append,HA.o];simp[FQ (c:=s[k]) XS]
      case measure=>simp[intOf];omega
    · go_ret;exact⟨af (AR s k bY (FO XS)).symm,rfl⟩
  · go_wp2;go_ret;refine⟨af ?_,rfl⟩;have h:=HA.o;rw[List.take_of_length_le X2]at h;unfold M.aT;rw[h,decide_eq_true Wg,decide_eq_true Wg];rfl
theorem iK(s:ByteArray)(w:World):
    Calls Tryz.prog 17 #[.string s] w fun e w'=>e=.returned (.bool (M.aT s))∧w=w':=by
 go_enter Tryz.func17,Tryz.ntmps17;go_wp2_with (go_at_call 36;refine(Bc _ _).mono ?_;rintro e w' ⟨rfl,rfl⟩);go_ret;exact⟨rfl,rfl⟩
theorem Kh(n:Int)(w:World):
    Calls Tryz.prog 20 #[.int .i64 n] w fun e w'=>e=.returned (.bool (decide (-9999≤n)&&decide (n≤9999)))∧w=w':=by
 go_enter Tryz.func20,Tryz.ntmps20;go_wp2
 · go_ret;exact⟨af (by rw[decide_eq_true (p:= -9999≤n) Wg];rfl),rfl⟩
 · go_ret;exact⟨af (by rw[decide_eq_false (p:= -9999≤n) Wg];rfl),rfl⟩
theorem Eu(n:Int)(w:World):
    Calls Tryz.prog 44 #[.int .i64 n] w fun e w'=>e=.returned (.agg #[.int .i64 1,.int .i64 n])∧Ext w w':=by
 go_enter Tryz.func44,Tryz.ntmps44;go_wp2;refine bodyPost_ret (v:=.agg #[.int .i64 1,.int .i64 n]) (by simp[results,Tryz.results44,go_sem]) rfl ?_;exact⟨rfl,(Kp.rr.alloc _)⟩
theorem MI(w:World):
    Calls Tryz.prog 90 #[] w fun e w'=>e=.returned (.agg #[.int .i64 3,.int .i64 0])∧Ext w w':=by
 go_enter Tryz.func90,Tryz.ntmps90;go_wp2;refine bodyPost_ret (v:=.agg #[.int .i64 3,.int .i64 0]) (by simp[results,Tryz.results90,go_sem]) rfl ?_;exact⟨rfl,(Kp.rr.alloc _)⟩
def XN(k:M.Kind)(e:Ending):Prop:=(M.fe k=true∧∃t x,e=.returned (.iface t x))∨(M.fe k=false∧e=.returned .nilIface)
theorem YM{n:ByteArray}(h:n.toList.isEmpty=true):M.fe ⟨1,n⟩=true:=by
 rw[gm]at h;simp[M.fe,h]
theorem VE{n:ByteArray}(h:n.toList.isEmpty=false):M.fe ⟨1,n⟩=false:=by
 rw[gm]at h;simp[M.fe,h]
theorem YN{k:Int}{n:ByteArray}(h1:k=2):M.fe ⟨k,n⟩=M.aT n:=by
 subst h1;simp[M.fe]
theorem YL{k:Int}{n:ByteArray}(h1:¬k=1)(h2:¬k=2):M.fe ⟨k,n⟩=false:=by
 simp[M.fe,h1,h2]
theorem Wi(k:M.Kind)(w:World):
    Calls Tryz.prog 141 #[.agg #[.int .i64 k.kind,.string k.name]] w fun e w'=>XN k e∧Ext w w':=by
 obtain⟨kk,kn⟩:=k;by_cases h1:kk=1
 · subst h1;cases hn:kn.toList.isEmpty
   · go_enter Tryz.func141,Tryz.ntmps141;go_wp2;go_ret;exact⟨.inr ⟨VE hn,rfl⟩,(Kp.rr.alloc _)⟩
   · go_enter Tryz.func141,Tryz.ntmps141;go_wp2;go_ret;exact⟨.inl ⟨YM hn,_,_,rfl⟩,(Kp.rr.alloc _)⟩
 · by_cases h2:kk=2
   · have HN:=Z3 (YN (n:=kn) h2);cases hb:M.aT kn
     all_goals
      have HB:=Z3 hb;clear hb;go_enter Tryz.func141,Tryz.ntmps141;go_wp2_with (go_at_call 36;refine(Bc _ _).mono ?_;rintro e w' ⟨rfl,rfl⟩;rw[HB.o]);go_ret
     · exact⟨.inr ⟨by rw[HN.o,HB.o],rfl⟩,(Kp.rr.alloc _)⟩
     · exact⟨.inl ⟨by rw[HN.o,HB.o],_,_,rfl⟩,(Kp.rr.alloc _)⟩
   · go_enter Tryz.func141,Tryz.ntmps141;go_wp2;go_ret;exact⟨.inr ⟨YL h1 h2,rfl⟩,(Kp.rr.alloc _)⟩
theorem Ca(k:M.Kind)(w:World):
    Calls Tryz.prog 118 #[.agg #[.int .i64 k.kind,.string k.name]] w fun e w'=>e=.returned (.bool (M.fe k))∧Ext w w':=by
 go_enter Tryz.func118,Tryz.ntmps118;go_wp2_with fail;refine(Wi k _).mono ?_;rintro e w1 ⟨⟨hk,t,x,rfl⟩|⟨hk,rfl⟩,hB⟩
 · go_wp2;go_ret;exact⟨af hk.symm,ZS⟩
 · go_wp2;go_ret;exact⟨af hk.symm,ZS⟩
theorem Kz{k:Int}{n:ByteArray}(h:k=0∨k=1∨k=3):M.nI ⟨k,n⟩=n.toList.isEmpty:=by
 unfold M.nI;rw[if_pos h,gm]
theorem Y4{k:Int}{n:ByteArray}(h:k=2):M.nI ⟨k,n⟩=M.aT n:=by
 subst h;rfl
theorem Y5{k:Int}{n:ByteArray}(h0:¬k=0)(h1:¬k=1)(h2:¬k=2)(h3:¬k=3):M.nI ⟨k,n⟩=false:=by
 simp[M.nI,h0,h1,h2,h3]
theorem aca(k:M.Tag)(w:World):
    Calls Tryz.prog 189 #[.agg #[.int .i64 k.kind,.string k.name]] w fun e w'=>e=.returned (.bool (M.nI k))∧Ext w w':=by
 obtain⟨kk,kn⟩:=k;by_cases h0:kk=0
 · have HT:=Z3 (Kz (n:=kn) (.inl h0));go_enter Tryz.func189,Tryz.ntmps189;go_wp2;go_ret;exact⟨af HT.o.symm,(Kp.rr.alloc _)⟩
 by_cases h1:kk=1
 · have HT:=Z3 (Kz (n:=kn) (.inr (.inl h1)));go_enter Tryz.func189,Tryz.ntmps189;go_wp2;go_ret;exact⟨af HT.o.symm,(Kp.rr.alloc _)⟩
 by_cases h3:kk=3
 · have HT:=Z3 (Kz (n:=kn) (.inr (.inr h3)));go_enter Tryz.func189,Tryz.ntmps189;go_wp2;go_ret;exact⟨af HT.o.symm,(Kp.rr.alloc _)⟩
 by_cases h2:kk=2
 · have HT:=Z3 (Y4 (n:=kn) h2);go_enter Tryz.func189,Tryz.ntmps189;go_wp2_with (go_at_call 17;refine(iK _ _).mono ?_;rintro e w' ⟨rfl,rfl⟩);go_ret;exact⟨af HT.o.symm,(Kp.rr.alloc _)⟩
 · go_enter Tryz.func189,Tryz.ntmps189;go_wp2;go_ret;exact⟨af (Y5 h0 h1 h2 h3).symm,(Kp.rr.alloc _)⟩
open Go
namespace M
def bs(l:List UInt8):ByteArray:=⟨⟨l⟩⟩
theorem BH{a b:List UInt8}(h:bs a=bs b):a=b:=by
 have:=congrArg (fun s:ByteArray=>s.data.toList) h;exact this
def iq:List UInt8→List UInt8→List (List UInt8)
 |cur,[]=>[cur]
 |cur,c::r=>if c=32 then cur::iq [] r else iq (cur++[c]) r
def words(s:ByteArray):List ByteArray:=(iq [] s.data.toList).map bs
theorem qc:∀(a cur:List UInt8),32 ∉ a→iq cur a=[cur++a]
 |[],cur,_=>by simp[iq]
 |c::r,cur,h=>by
  have h1:c≠32:=fun e=>h (by simp[e]);rw[iq,if_neg h1,qc r _ (fun e=>h (by simp[e]))];simp
theorem jP:∀(a b cur:List UInt8),32 ∉ a→iq cur (a++32::b)=(cur++a)::iq [] b
 |[],b,cur,_=>by simp[iq]
 |c::r,b,cur,h=>by
  have h1:c≠32:=fun e=>h (by simp[e]);rw[List.cons_append,iq,if_neg h1,jP r b _ (fun e=>h (by simp[e]))];simp
theorem PG(a:List UInt8):∀cur,iq cur a≠[]:=by
 induction a with
 |nil=>intro cur h;simp[iq]at h
 |cons c r ih=>
  intro cur h;rw[iq]at h;split at h
  · cases h
  · exact ih _ h
def digit(n:Int):List UInt8:=[UInt8.ofNat (48+n.toNat)]
structure WC where
 kind:Int
 keeper:Int
 name:ByteArray
 dst:Int
deriving DecidableEq
def yM(c:WC):Bool:=decide (0≤c.keeper)&&(decide (c.keeper≤2)&&(aT c.name&&(if c.kind=3 then decide (0≤c.dst)&&decide (c.dst≤2)else(decide (c.kind=2)|| decide (c.kind=4))&&decide (c.dst=0))))
def aaz:List UInt8:=[116,97,107,101]
def ade:List UInt8:=[97,115,107]
def ZM:List UInt8:=[102,114,101,101]
def Ei(c:WC):List UInt8:=
 if c.kind=2 then aaz++32::(digit c.keeper++32::c.name.data.toList)
 else if c.kind=3 then ade++32::(digit c.keeper++32::(c.name.data.toList++32::digit c.dst))
 else if c.kind=4 then ZM++32::(digit c.keeper++32::c.name.data.toList)
 else []
def lW(c:WC):ByteArray:=if yM c then bs (Ei c)else bs []
theorem rR{s:ByteArray}(h:aT s=true):(32:UInt8)∉ s.data.toList:=by
 intro hm;unfold aT at h;simp only[Bool.and_eq_true,List.all_eq_true]at h;have:=h.2 _ hm;revert this;decide
theorem oH{n:Int}(h0:0≤n)(h2:n≤2):(32:UInt8)∉ digit n:=by
 have:n=0∨n=1∨n=2:=by omega
 rcases this with rfl|rfl|rfl<;>decide
theorem xQ{m n:Int}(h0:0≤n)(h2:n≤2)(g0:0≤m)(g2:m≤2)(h:digit m=digit n):m=n:=by
 have a:n=0∨n=1∨n=2:=by omega
 have b:m=0∨m=1∨m=2:=by omega
 rcases a with rfl|rfl|rfl<;>rcases b with rfl|rfl|rfl<;>first|rfl|exact absurd h Wk
theorem oL{c:WC}(h:yM c=true):0≤c.keeper∧c.keeper≤2∧aT c.name=true∧((c.kind=3∧0≤c.dst∧c.dst≤2)∨((c.kind=2∨c.kind=4)∧c.dst=0)):=by
 unfold yM at h;simp only[Bool.and_eq_true,decide_eq_true_eq]at h;obtain⟨h1,h2,h3,h4⟩:=h;refine⟨h1,h2,h3,?_⟩;split at h4
 · rename_i h5;simp only[Bool.and_eq_true,decide_eq_true_eq]at h4;exact .inl ⟨h5,h4⟩
 · simp only[Bool.and_eq_true,Bool.or_eq_true,decide_eq_true_eq]at h4;exact .inr h4
theorem GL{c:WC}(h:yM c=true)(hk:c.kind=2):words (lW c)=[bs aaz,bs (digit c.keeper),c.name]:=by
 obtain⟨h1,h2,h3, -⟩:=oL h;unfold lW words;rw[if_pos h];unfold Ei;rw[if_pos hk];simp only[bs];rw[jP _ _ _ Wk,jP _ _ _ (oH h1 h2),qc _ _ (rR h3)];rfl
theorem GK{c:WC}(h:yM c=true)(hk:c.kind=4):words (lW c)=[bs ZM,bs (digit c.keeper),c.name]:=by
 obtain⟨h1,h2,h3, -⟩:=oL h;unfold lW words;rw[if_pos h];unfold Ei;rw[if_neg Wg,if_neg Wg,if_pos hk];simp only[bs];rw[jP _ _ _ Wk,jP _ _ _ (oH h1 h2),qc _ _ (rR h3)];rfl
theorem Jg{c:WC}(h:yM c=true)(hk:c.kind=3):words (lW c)=[bs ade,bs (digit c.keeper),c.name,bs (digit c.dst)]:=by
 obtain⟨h1,h2,h3,h4⟩:=oL h;have h5:0≤c.dst∧c.dst≤2:=by omega
 unfold lW words;rw[if_pos h];unfold Ei;rw[if_neg Wg,if_pos hk];simp only[bs];rw[jP _ _ _ Wk,jP _ _ _ (oH h1 h2),jP _ _ _ (rR h3),qc _ _ (oH h5.1 h5.2)];rfl
theorem Lt{c d:WC}(hc:yM c=true)(hd:yM d=true)(h:lW c=lW d):c=d:=by
 obtain⟨c1,c2,c3,c4⟩:=oL hc;obtain⟨d1,d2,d3,d4⟩:=oL hd;have hw:words (lW c)=words (lW d):=by rw[h]
 have key:c.kind=d.kind∧c.keeper=d.keeper∧c.name=d.name∧c.dst=d.dst:=by
  rcases c4 with⟨ck,c5,c6⟩|⟨ck|ck,c5⟩<;>rcases d4 with⟨dk,d5,d6⟩|⟨dk|dk,d5⟩<;>
   simp only[Jg hc,GL hc,GK hc,Jg hd,GL hd,GK hd,ck,dk]at hw<;>
   simp only[List.cons.injEq,List.nil_eq,List.cons_ne_nil,and_false,and_true]at hw
  · exact⟨by omega,xQ d1 d2 c1 c2 (BH hw.2.1),hw.2.2.1,xQ d5 d6 c5 c6 (BH hw.2.2.2)⟩
  · exact⟨by omega,xQ d1 d2 c1 c2 (BH hw.2.1),hw.2.2,by omega⟩
  · exact absurd (BH hw.1) Wk
  · exact absurd (BH hw.1) Wk
  · exact⟨by omega,xQ d1 d2 c1 c2 (BH hw.2.1),hw.2.2,by omega⟩
 obtain⟨a1,a2,a3,a4⟩:=c;obtain⟨b1,b2,b3,b4⟩:=d;simp only at key;obtain⟨rfl,rfl,rfl,rfl⟩:=key;rfl
def Says(s:ByteArray):Option WC→Prop
 |some c=>yM c=true∧lW c=s
 |none=>¬∃c,yM c=true∧lW c=s
theorem Says.one{s:ByteArray}:∀{a b:Option WC},Says s a→Says s b→a=b
 |none,none,_,_=>rfl
 |none,some c,h,k=>absurd ⟨c,k⟩ h
 |some c,none,h,k=>absurd ⟨c,h⟩ k
 |some c,some d,h,k=>by rw[Lt h.1 k.1 (h.2.trans k.2.symm)]
end M
end Go.Proofs.YtkmclfpjpajjeaaGreat
namespace Go.Proofs.YtkmclfpjpajjeaaGreat
open Go Go.RowKit
theorem lT(n lo hi:Int)(w:World):
    Calls Tryz.prog 29 #[.int .i64 n,.int .i64 lo,.int .i64 hi] w fun e w'=>e=.returned (.bool (decide (lo≤n)&&decide (n≤hi)))∧w=w':=by
 go_enter Tryz.func29,Tryz.ntmps29;go_wp2
 · go_ret;exact⟨af (by rw[decide_eq_true (p:=lo≤n) Wg];rfl),rfl⟩
 · go_ret;exact⟨af (by rw[decide_eq_false (p:=lo≤n) Wg];rfl),rfl⟩
theorem di(s:ByteArray)(w:World):
    Calls Tryz.prog 75 #[.string s] w fun e w'=>e=.returned (.bool (M.aT s))∧w=w':=by
 by_cases h1:s.size=0
 · have Ya:((s.size:Int)==0)=true:=by simp[h1]
   go_enter Tryz.func75,Tryz.ntmps75;go_wp2;go_ret;exact⟨af (by unfold M.aT;rw[decide_eq_false Wg];rfl),rfl⟩
 have Ya:((s.size:Int)==0)=false:=beq_eq_false_iff_ne.2 Wg;by_cases h2:6<s.size
 · go_enter Tryz.func75,Tryz.ntmps75;go_wp2;go_ret;exact⟨af (by unfold M.aT;rw[decide_eq_false (p:=s.size≤6) Wg];simp),rfl⟩
 go_enter Tryz.func75,Tryz.ntmps75;go_wp2;go_loop [3] (fun i=>∃k:Nat,k≤s.size∧i=.int .i64 k∧(s.data.toList.take k).all M.letter=true) (fun i=>s.size - (intOf i).toNat)
 case atStart=>exact⟨0,Nat.zero_le _,rfl,by simp⟩
 case round =>
  obtain⟨k,hk,rfl,nW⟩:=hrel;have HA:=Z3 nW;clear nW;by_cases bY:k<s.size
  · go_wp2
    · go_ret;exact⟨af (AR s k bY (FP XS)).symm,rfl⟩
    · go_round
      case rel=>
       refine⟨k+1,by omega,by go_num,?_⟩;rw[Dk s k bY,List.all_append,HA.o];simp[FQ (c:=s[k]) XS]
      case measure=>simp[intOf];omega
    · go_ret;exact⟨af (AR s k bY (FO XS)).symm,rfl⟩
  · go_wp2;go_ret;refine⟨af ?_,rfl⟩;have h:=HA.o;rw[List.take_of_length_le X2]at h;unfold M.aT;rw[h,decide_eq_true Wg,decide_eq_true Wg];rfl
def Elem(t e k:Nat):Prop:=∃i z bytes,Tryz.prog.underlying t=some (.slice e)∧Tryz.prog.info? e=some i∧i.zero=some z∧i.size=k∧i.bytes=bytes∧z.cells.size=k∧0<k∧bytes≤4096
theorem iP{t e k:Nat}{z:Value}{bytes:Nat}(ht:Tryz.prog.underlying t=some (.slice e))(hi:(Tryz.prog.info? e).map (fun i=>(i.zero,i.size,i.bytes))=some (some z,k,bytes))
    (hz:z.cells.size=k) (hk:0<k) (hb:bytes≤4096):Elem t e k:=by
 obtain⟨i,h1,h2,h3,h4⟩:=info_parts hi;exact⟨i,z,bytes,ht,h1,h2,h3,h4,hz,hk,hb⟩
theorem Fb:Elem 26 3 1:=iP (z:=.int .i64 0) (bytes:=8) Tryz.underlying26 Wr rfl Wk Wk
theorem Lx:Elem 67 70 2:=iP (z:=.agg #[.int .i64 0,.string ⟨#[]⟩]) (bytes:=24) Tryz.underlying67 Wr rfl Wk Wk
theorem aA{D:Nat→Prop}{a b:World}{base e k n:Nat}{v:Value}{xs:List Value}(h:a.ownsRow base e k v n xs)(hk:Kp D a b)(hD:∀g,v.ownBlock=some g→base≤g→¬D g):b.ownsRow base e k v n xs:=by
 refine⟨h.1,?_⟩;rcases h.2 with h4|⟨g,cap,cur,rfl,hg,hb,rest⟩
 · exact .inl h4
 · exact .inr ⟨g,cap,cur,rfl,hg,(hk.block g (Array.getElem?_eq_some_iff.1 hb).1 (hD g rfl hg)).trans hb,rest⟩
theorem cB{w:World}{base e k n:Nat}{v:Value}{xs:List Value}(h:w.ownsRow base e k v n xs)(hn:0<n):
    ∃g cap,v=.slice (some ⟨g,0,none⟩) n cap∧base≤g∧g<w.heap.size∧n≤cap:=by
 rcases h.2 with⟨_,h4⟩|⟨g',c',cur,hv,hg,Qk,hle,_⟩
 · omega
 · exact⟨g',c',hv,hg,(Array.getElem?_eq_some_iff.1 Qk).1,hle⟩
theorem Kp.own{D D':Nat→Prop}{w a b:World}(h:Kp D w a)(hk:Kp D' a b)(hD:∀k,D' k→w.heap.size≤k):Kp D w b:=
 ⟨hk.os.trans h.os,hk.tape.trans h.tape,hk.output.trans h.output,Nat.le_trans h.size hk.size,
  fun k BZ hd=>(hk.block k (Nat.lt_of_lt_of_le BZ h.size) (fun x=>absurd (hD k x) (Nat.not_le.2 BZ))).trans (h.block k BZ hd)⟩
theorem nJ{t e k:Nat}(E:Elem t e k)(w:World){ops:Array Oper}{rest:List Oper}{o:Oper}{a:Act}{Q:Exit→Act→World→Prop}(IU:o.guard=none)(s x:Operand)
    (ho:o.op=.call {callee:=.builtin .append,args:=#[s,x],argTypes:=#[t,t]}) (base:Nat) (v:Value) (n:Nat) (xs:List Value) (hs:a.eval s=v) (dY:w.ownsRow base e k v n xs)
    (g c:Nat) (news:List Value) (hx:a.eval x=.slice (some ⟨g,0,none⟩) 1 c) (hl:news.length=k) (FC:ae w g 0 news) (h1:∀u∈news,u.oneCell'=true)
    (hn:n+1≤4294967296) (kF:base≤w.heap.size)
    (h:∀v' w',w'.ownsRow base e k v' (n+1) (xs++news)→Kp (fun b=>v.ownBlock=some b) w w'→(∃g' c',v'=.slice (some ⟨g',0,none⟩) (n+1) c'∧base≤g'∧g'<w'.heap.size)→wpList Tryz.prog ops Q rest (a.put o.dst v') w'):
    wpList Tryz.prog ops Q (o::rest) a w:=by
 obtain⟨i,z,bytes,ht,hi,hz,kv,Rj,Rt,hk,hb⟩:=E;refine wpList_append_own w IU s x t ho base e i z k bytes ht hi hz kv Rj Rt hk v n xs hs dY ⟨g,0,none⟩ 1 c news hx Wg ?_ h1 (by unfold maxLen;omega) ?_ kF ?_
 · intro j u hj;have:=FC j u hj;rw[Nat.zero_add]at this;unfold Addr.add;split
   · rename_i Xe;subst Xe;exact this
   · simpa using this
 · have:(n+1)*bytes≤4294967296*4096:=Nat.mul_le_mul hn hb;omega
 · intro v' w' h2 h3 _;refine h v' w' h2 ⟨h3.os,h3.tape,h3.output,h3.size,fun k hk hd=>h3.block k hk (fun e=>hd e.symm)⟩ ?_;rcases h2.2 with⟨_,h4⟩|⟨g',c',cur,hv,hg,Qk,_⟩
   · omega
   · exact⟨g',c',hv,hg,(Array.getElem?_eq_some_iff.1 Qk).1⟩
theorem yG{F:Fence}{nf:Nat}{t e k:Nat}(E:Elem t e k)(w:World){ops:Array Oper}{rest:List Oper}{o:Oper}{a:Act}{Q:Exit→Act→World→Prop}(IU:o.guard=none)(s x:Operand)
    (ho:o.op=.call {callee:=.builtin .append,args:=#[s,x],argTypes:=#[t,t]}) (base:Nat) (v:Value) (n:Nat) (xs:List Value) (hs:a.eval s=v) (dY:w.ownsRow base e k v n xs)
    (g c:Nat) (news:List Value) (hx:a.eval x=.slice (some ⟨g,0,none⟩) 1 c) (hl:news.length=k) (FC:ae w g 0 news) (h1:∀u∈news,u.oneCell'=true)
    (hn:n+1≤4294967296) (kF:base≤w.heap.size)
    (h:∀v' w',w'.ownsRow base e k v' (n+1) (xs++news)→Kp (fun b=>v.ownBlock=some b) w w'→(∃g' c',v'=.slice (some ⟨g',0,none⟩) (n+1) c'∧base≤g'∧g'<w'.heap.size)→wpListIn F nf Tryz.prog ops Q rest (a.put o.dst v') w'):
    wpListIn F nf Tryz.prog ops Q (o::rest) a w:=by
 obtain⟨i,z,bytes,ht,hi,hz,kv,Rj,Rt,hk,hb⟩:=E;refine wpListIn_append_own w IU s x t ho base e i z k bytes ht hi hz kv Rj Rt hk v n xs hs dY ⟨g,0,none⟩ 1 c news hx Wg ?_ h1 (by unfold maxLen;omega) ?_ kF ?_
 · intro j u hj;have:=FC j u hj;rw[Nat.zero_add]at this;unfold Addr.add;split
   · rename_i Xe;subst Xe;exact this
   · simpa using this
 · have:(n+1)*bytes≤4294967296*4096:=Nat.mul_le_mul hn hb;omega
 · intro v' w' h2 h3 _;refine h v' w' h2 ⟨h3.os,h3.tape,h3.output,h3.size,fun k hk hd=>h3.block k hk (fun e=>hd e.symm)⟩ ?_;rcases h2.2 with⟨_,h4⟩|⟨g',c',cur,hv,hg,Qk,_⟩
   · omega
   · exact⟨g',c',hv,hg,(Array.getElem?_eq_some_iff.1 Qk).1⟩
theorem Mx{α β:Type}(f:α→β)(l:List α):l.map f=l.flatMap fun x=>[f x]:=by
 induction l with
 |nil=>rfl
 |cons x r ih=>rw[List.map_cons,List.flatMap_cons,ih];rfl
theorem SliceOf.gH{α:Type}{k:Nat}{R:iJ α}{w:World}{I:Nat→Prop}{base e n:Nat}{v:Value}{cs:List Value}(enc:α→List Value){l:List α}(dY:w.ownsRow base e k v n cs)
    (hn:n=l.length) (cK:cs=l.flatMap enc) (Hu:∀x∈l,(enc x).length=k) (hR:∀x∈l,R w I x (enc x)) (hI:∀b,base≤b→b<w.heap.size→I b) (hlen:l.length≤4294967296):SliceOf k R w I v l:=by
 have flat:∀(l:List α),(∀x∈l,(enc x).length=k)→∀i x,l[i]?=some x→∀j u,(enc x)[j]?=some u→(l.flatMap enc)[i*k+j]?=some u:=by
  intro l;induction l with
  |nil=>intro _ i x h;simp at h
  | cons y r ih =>
   intro hy i x hx j u hj;have hyk:=hy y Wf;rw[List.flatMap_cons];cases i with
   |zero=>
    simp at hx;subst hx;rw[List.getElem?_append_left (by rw[Nat.zero_mul,Nat.zero_add];exact(List.getElem?_eq_some_iff.1 hj).1),Nat.zero_mul,Nat.zero_add];exact hj
   |succ i=>
    rw[List.getElem?_append_right (by rw[hyk,Nat.succ_mul];omega),hyk,show(i+1)*k+j - k=i*k+j from by rw[Nat.succ_mul];omega];exact ih (fun z hz=>hy z (by simp[hz])) i x (by simpa using hx) j u hj
 subst hn cK;rcases dY.2 with⟨rfl,h0⟩|⟨g,cap,cur,rfl,hg,hb,hle,_,kv,Xh⟩
 · have:l=[]:=List.length_eq_zero_iff.1 h0;subst this;exact SliceOf.nil _ _ _ _
 · refine⟨_,cap,rfl,hle,hlen,fun i x hx=>⟨g,0,enc x,rfl,hI g hg (Array.getElem?_eq_some_iff.1 hb).1,hR x (List.mem_of_getElem? hx),Hu x (List.mem_of_getElem? hx),?_⟩⟩;intro j u hj;have:=flat l Hu i x hx j u hj;rw[←Xh,List.getElem?_take]at this;split at this
   · simp only[World.cell?,hb];simpa [Nat.zero_add]using this
   · cases this
theorem qG:Elem 109 38 2:=iP (z:=.agg #[.int .i64 0,.int .i64 0]) (bytes:=16) Tryz.underlying109 Wr rfl Wk Wk
theorem ae.gM{w:World}{b:Nat}{t:TypeId}{cs:Array Value}(h:ay w b t cs):ae w b 0 cs.toList:=by
 intro j v hj;rw[Nat.zero_add];exact h.c j v (by simpa using hj)
theorem ae.fB{W:World}{g:Nat}(t:TypeId)(cs:Array Value)(h:W.heap.size=g):ae (W.alloc (.cells cs t)) g 0 cs.toList:=by
 subst h;exact ae.gM (ay.new W t cs)
theorem bO{w:World}{base e k n:Nat}{v:Value}{xs:List Value}(h:w.ownsRow base e k v n xs):∃a c,v=.slice a n c:=by
 rcases h.2 with⟨rfl,rfl⟩|⟨g,c,cur,rfl,_⟩
 · exact⟨_,_,rfl⟩
 · exact⟨_,_,rfl⟩
theorem lq{w:World}{base e k n:Nat}{v:Value}{xs:List Value}(h:w.ownsRow base e k v n xs){g:Nat}(hg:v.ownBlock=some g):base≤g∧g<w.heap.size:=h.lt g hg
theorem D6{t e k:Nat}(E:Elem t e k){ops:Array Oper}{o:Oper}{a:Act}{w:World}{K:Act→World→Prop}{Q:Exit→Act→World→Prop}{E':Prop}(IU:o.guard=none)(s x:Operand)
    (ho:o.op=.call {callee:=.builtin .append,args:=#[s,x],argTypes:=#[t,t]}) (base:Nat) (v:Value) (n:Nat) (xs:List Value) (hs:a.eval s=v) (dY:w.ownsRow base e k v n xs)
    (g c:Nat) (news:List Value) (hx:a.eval x=.slice (some ⟨g,0,none⟩) 1 c) (hl:news.length=k) (FC:ae w g 0 news) (h1:∀u∈news,u.oneCell'=true)
    (hn:n+1≤4294967296) (kF:base≤w.heap.size)
    (h:∀g' c' w',w'.ownsRow base e k (.slice (some ⟨g',0,none⟩) (n+1) c') (n+1) (xs++news)→Kp (fun b=>v.ownBlock=some b) w w'→(v.ownBlock=some g'∨w.heap.size=g')→K (a.put o.dst (.slice (some ⟨g',0,none⟩) (n+1) c')) w'):
    if Region.wanted o (yielded ops a.tmps)=true then Oper.wp Tryz.prog o a w K Q else E':=by
 obtain⟨i,z,bytes,ht,hi,hz,kv,Rj,Rt,hk,hb⟩:=E;refine step_append_lies w IU s x t ho base e i z k bytes ht hi hz kv Rj Rt hk v n xs hs dY ⟨g,0,none⟩ 1 c news hx Wg ?_ h1 Wg (by unfold maxLen;omega) ?_ kF w.heap.size rfl ?_
 · intro j u hj;have:=FC j u hj;rw[Nat.zero_add]at this;unfold Addr.add;split
   · rename_i Xe;subst Xe;exact this
   · simpa using this
 · have:(n+1)*bytes≤4294967296*4096:=Nat.mul_le_mul hn hb;omega
 · intro g' c' w' h2 h3 h4 h5;exact h g' c' w' h2 ⟨h3.os,h3.tape,h3.output,h3.size,fun k hk hd=>h3.block k hk (fun e=>hd e.symm)⟩ (h4.imp id Eq.symm)
theorem az{t e k:Nat}(E:Elem t e k){ops:Array Oper}{rest:List Oper}{o:Oper}{a:Act}{w:World}{Q:Exit→Act→World→Prop}(IU:o.guard=none)(s x:Operand)
    (ho:o.op=.call {callee:=.builtin .append,args:=#[s,x],argTypes:=#[t,t]}) (base:Nat) (v:Value) (n:Nat) (xs:List Value) (hs:a.eval s=v) (dY:w.ownsRow base e k v n xs)
    (g c:Nat) (news:List Value) (hx:a.eval x=.slice (some ⟨g,0,none⟩) 1 c) (hl:news.length=k) (FC:ae w g 0 news) (h1:∀u∈news,u.oneCell'=true)
    (hn:n+1≤4294967296) (kF:base≤w.heap.size)
    (h:∀g' c' w',w'.ownsRow base e k (.slice (some ⟨g',0,none⟩) (n+1) c') (n+1) (xs++news)→Kp (fun b=>v.ownBlock=some b) w w'→(v.ownBlock=some g'∨w.heap.size=g')→wpList Tryz.prog ops Q rest (a.put o.dst (.slice (some ⟨g',0,none⟩) (n+1) c')) w'):
    wpList Tryz.prog ops Q (o::rest) a w:=by
 obtain⟨i,z,bytes,ht,hi,hz,kv,Rj,Rt,hk,hb⟩:=E;refine wpList_append_lies w IU s x t ho base e i z k bytes ht hi hz kv Rj Rt hk v n xs hs dY ⟨g,0,none⟩ 1 c news hx Wg ?_ h1 Wg (by unfold maxLen;omega) ?_ kF w.heap.size rfl ?_
 · intro j u hj;have:=FC j u hj;rw[Nat.zero_add]at this;unfold Addr.add;split
   · rename_i Xe;subst Xe;exact this
   · simpa using this
 · have:(n+1)*bytes≤4294967296*4096:=Nat.mul_le_mul hn hb;omega
 · intro g' c' w' h2 h3 h4 h5;exact h g' c' w' h2 ⟨h3.os,h3.tape,h3.output,h3.size,fun k hk hd=>h3.block k hk (fun e=>hd e.symm)⟩ (h4.imp id Eq.symm)
theorem D5(w:World)(k o:Nat)(T:TypeId)(cs:Array Value)(vs:Value)(n:Nat)(most:Int)(hB:ay w k T cs)(h0:cs[o]?=some vs)(h1:cs[o+1]?=some (.int .i64 most))(hv:∃a c,vs=.slice a n c)(x y:Int)(bY:most≤(n:Int)):
    Calls Tryz.prog 127 #[.pointer (some ⟨k,o,none⟩),.agg #[.int .i64 x,.int .i64 y]] w fun e w'=>e=.returned (.bool false)∧Ext w w':=by
 obtain⟨a,c,rfl⟩:=hv;have c0:=hB.c o _ h0;have c1:=hB.c (o+1) _ h1;have hz:=aF c0;clear hB h0 h1;go_enter Tryz.func127,Tryz.ntmps127;go_wp2;go_quiet (fail);go_wp2;go_ret;exact⟨rfl,kx⟩
theorem Px(w:World)(k o B:Nat)(T:TypeId)(cs:Array Value)(vs:Value)(n:Nat)(xs:List Value)(most:Int)(hB:ay w k T cs)(h0:cs[o]?=some vs)(h1:cs[o+1]?=some (.int .i64 most))
    (x y:Int) (own:w.ownsRow B 38 2 vs n xs) (hn:n≤1000) (bY:(n:Int)<most) (oV:vs.ownBlock≠some k) (hb:B≤w.heap.size):
    Calls Tryz.prog 127 #[.pointer (some ⟨k,o,none⟩),.agg #[.int .i64 x,.int .i64 y]] w fun e w'=>
     e=.returned (.bool true)∧∃g c,w'.ownsRow B 38 2 (.slice (some ⟨g,0,none⟩) (n+1) c) (n+1) (xs++[.int .i64 x,.int .i64 y])∧(vs.ownBlock=some g∨w.heap.size≤g)∧
      ay w' k T (cs.setIfInBounds o (.slice (some ⟨g,0,none⟩) (n+1) c))∧Kp (fun b=>b=k∨vs.ownBlock=some b) w w':=by
 obtain⟨a,c,rfl⟩:=bO own;have c0:=hB.c o _ h0;have c1:=hB.c (o+1) _ h1;have f0:=hB.frozen o;have hz:=aF c0;have⟨HB,HO,lG,H0⟩:=gD hB own oV h0;clear hB h0 h1 own oV;have abW:(most≤(n:Int))=False:=by simp;omega
 have Qp:n+1≤4294967296:=by omega
 have hE:∀W,Ext w W→W.ownsRow B 38 2 (.slice a n c) n xs:=fun W hW=>aA HO.o hW fun _ _ _ x=>x;have HE:=Z3 hE;clear hE;go_enter Tryz.func127,Tryz.ntmps127;go_wp2;go_quiet (fail);go_wp2;clear c1 abW;go_region_law (refine D6 qG rfl (.tmp 19) (.tmp 21) rfl B (.slice a n c) n xs rfl (HE.o _ kx) (w.heap.size+1) 1 [.int .i64 x,.int .i64 y] (by simp[Act.eval]) rfl (ae.fB _ _ Wf) Ys Qp X2 ?_;intro g c' w1 NB lI KO;have hB1:=(HB.o.ext kx).kp lI lG.o;have d0:=hB1.c o _ H0.o;have e0:=hB1.frozen o;have z1:=hB1.lt;have tL:=Z3 hB1;have Nw:=Z3 NB;have Ab:=Z3 lI;have HG1:=Z3 KO;clear NB lI KO hB1 c0 f0 hz)
 all_goals
  go_wp2;go_ret;refine⟨rfl,g,c',aA Nw.o ((Kp.refl (·=k) _).setCell (fun _=>rfl) _) (fun q hq _ e=>?_),?_,tL.o.bE _ _,?_⟩
  · cases hq;have e':g=k:=e;subst e';rcases HG1.o with h|h
    · exact lG.o h
    · have:=HB.o.lt;simp at h;omega
  · rcases HG1.o with h|h
    · exact .inl h
    · right;simp at h;omega
  · refine Kp.setCell (Kp.trans ((kx:Ext w _).any) (Ab.o.weak fun b _ hb=>.inr hb)) (fun _=>.inl rfl) _
structure kJ(w:World)(rb:Nat)(v:Value)(zs:List Int)(p:Nat):Prop where
 blk:ay w rb 80 #[v,.int .i64 p]
 byt:BytesAt w v zs
 own:zs.length≠0→∀a n c,v=.slice (some a) n c→a.block≠rb
 len:zs.length≤2000
theorem add_block(a:Addr)(i:Nat):(a.add i).block=a.block:=by
 unfold Addr.add;split<;>rfl
theorem BytesAt.kp{D:Nat→Prop}{W W':World}{v:Value}{zs:List Int}(h:BytesAt W v zs)(hk:Kp D W W')(hD:zs.length≠0→∀a n c,v=.slice (some a) n c→¬D a.block):BytesAt W' v zs:=by
 rcases h with h|⟨a,cap,h1,h2,h3,h4⟩
 · exact .inl h
 · exact .inr ⟨a,cap,h1,h2,fun i hi=>(World.cell?_of_block (hk.block _ (xM (h3 i hi)) (by rw[add_block];exact hD Wg a _ _ h1))).trans (h3 i hi),h4⟩
theorem kJ.ext{w w':World}{rb p:Nat}{v:Value}{zs:List Int}(h:kJ w rb v zs p)(hE:Ext w w'):kJ w' rb v zs p:=
 ⟨h.blk.ext hE,h.byt.ext hE,h.own,h.len⟩
theorem kJ.next{w:World}{rb p:Nat}{v:Value}{zs:List Int}(h:kJ w rb v zs p)(q:Nat):kJ (w.setCell ⟨rb,1,none⟩ (.int .i64 q)) rb v zs q∧Kp (·=rb) w (w.setCell ⟨rb,1,none⟩ (.int .i64 q)):=by
 have hk:Kp (·=rb) w (w.setCell ⟨rb,1,none⟩ (.int .i64 q)):=(Kp.refl (·=rb) w).setCell (p:=⟨rb,1,none⟩) (fun _=>rfl) _;exact⟨⟨h.blk.bE 1 _,h.byt.kp hk (fun h0 a n c e=>h.own h0 a n c e),h.own,h.len⟩,hk⟩
def ZF(n:Int)(e:Ending):Prop:=∃k:Nat,e=.returned (.int .i64 k)∧(k=0∨(k:Int)<n)
theorem PM{a b:Int}(ha:0≤a)(LP:a<9223372036854775808)(hb:0≤b)(nM:b<9223372036854775808):0≤bits .xor .i64 a b:=by
 obtain⟨x,rfl⟩:∃x:Nat,a=x:=⟨a.toNat,by omega⟩;obtain⟨y,rfl⟩:∃y:Nat,b=y:=⟨b.toNat,by omega⟩;have hx:x ^^^ y<2 ^ 63:=Nat.xor_lt_two_pow Wg Wg;have h1:(BitVec.ofInt 64 (x:Int)).toNat=x:=by
  rw[BitVec.ofInt_natCast,BitVec.toNat_ofNat];exact Nat.mod_eq_of_lt Wg
 have h2:(BitVec.ofInt 64 (y:Int)).toNat=y:=by
  rw[BitVec.ofInt_natCast,BitVec.toNat_ofNat];exact Nat.mod_eq_of_lt Wg
 have h3:bits .xor .i64 (x:Int) (y:Int)=IntKind.i64.wrap (((BitVec.ofInt 64 (x:Int)^^^ BitVec.ofInt 64 (y:Int)).toNat:Nat):Int):=rfl;rw[h3,BitVec.toNat_xor,h1,h2];simp only[IntKind.wrap,IntKind.bits,IntKind.signed];have:((2:Int)^ 63)=9223372036854775808:=by decide
 simp;omega
theorem MR{n r:Int}(h0:0≤r)(h:r<n):ZF n (.returned (.int .i64 r)):=⟨r.toNat,by rw[Int.toNat_of_nonneg h0],.inr Wg⟩
theorem dJ(w:World)(rb p:Nat)(v:Value)(zs:List Int)(n:Int)(h:kJ w rb v zs p)(hp:p≤1000000)(hn:n≤1000000000):
    Calls Tryz.prog 35 #[.pointer (some ⟨rb,0,none⟩),.int .i64 n] w fun e w'=>ZF n e∧kJ w' rb v zs (p+1)∧Kp (·=rb) w w':=by
 obtain⟨va,vc,rfl⟩:=h.byt.form;obtain⟨cz,c0,c1, -⟩:=h.blk.ca;have f1:=h.blk.frozen 1;have Qq:=h.next (p+1);have⟨HN,HR⟩:=aJ Qq h;have hlen:=h.len;clear Qq h;by_cases h1:n<1
 · go_enter Tryz.func35,Tryz.ntmps35;go_wp2_with fail;go_ret;exact⟨⟨0,rfl,.inl rfl⟩,HN.o⟩
 by_cases h0:zs.length=0
 · obtain rfl:=List.length_eq_zero_iff.1 h0;go_enter Tryz.func35,Tryz.ntmps35;go_wp2_with fail;go_ret;exact⟨⟨0,rfl,.inl rfl⟩,HN.o⟩
 have X9:((zs.length:Int)==0)=false:=beq_eq_false_iff_ne.2 Wg;rcases HR.o.byt with⟨-,e⟩|⟨a,cap,e1,dm,hc,hb⟩
 · subst e;simp at h0
 cases e1;have hcW:∀i,i<zs.length→(w.setCell ⟨rb,1,none⟩ (.int .i64 ((p:Int)+1))).cell? (a.add i)=some (.int .u8 (zs.getD i 0)):=fun i hi=>by
  have hk:Kp (·=rb) w (w.setCell ⟨rb,1,none⟩ (.int .i64 ((p:Int)+1))):=(Kp.refl (·=rb) w).setCell (p:=⟨rb,1,none⟩) (fun _=>rfl) _;exact(World.cell?_of_block (hk.block _ (xM (hc i hi)) (by rw[add_block];exact HR.o.own h0 a _ _ rfl))).trans (hc i hi)
 by_cases hk:p<zs.length
 · have ci:=hcW p hk;have hbi:=BO hb hk;obtain⟨x,hx⟩:∃x,zs.getD p 0=x:=⟨_,rfl⟩;rw[hx]at ci hbi;obtain⟨wZ,Er⟩:=hbi;clear hcW hc hb hx;go_enter Tryz.func35,Tryz.ntmps35;go_wp2_with fail;go_ret;exact⟨MR (Int.emod_nonneg _ Wg) (Int.emod_lt_of_pos _ Wg),HN.o⟩
 · obtain⟨i,hi⟩:∃i,p % zs.length=i:=⟨_,rfl⟩;obtain⟨j,hj⟩:∃j,(p*7+3)% zs.length=j:=⟨_,rfl⟩;obtain⟨q,hq⟩:∃q,p / zs.length=q:=⟨_,rfl⟩;have hil:i<zs.length:=by rw[←hi];exact Nat.mod_lt _ Wg
   have hjl:j<zs.length:=by rw[←hj];exact Nat.mod_lt _ Wg
   have hqp:q≤p:=by rw[←hq];exact Nat.div_le_self _ _
   have ci:=hcW i hil;have cj:=hcW j hjl;have hbi:=BO hb hil;have hbj:=BO hb hjl;obtain⟨x,hx⟩:∃x,zs.getD i 0=x:=⟨_,rfl⟩;obtain⟨y,hy⟩:∃y,zs.getD j 0=y:=⟨_,rfl⟩;rw[hx]at ci hbi;rw[hy]at cj hbj;have e1:(p:Int)% (zs.length:Int)=i:=by rw[←hi];simp
   have e2:((p:Int)*7+3)% (zs.length:Int)=j:=by rw[←hj];simp
   have e3:(p:Int)/ (zs.length:Int)=q:=by rw[←hq];simp
   obtain⟨wZ,Er⟩:=hbi;obtain⟨hy0,hy1⟩:=hbj;clear hcW hc hb hx hy hi hj hq;go_enter Tryz.func35,Tryz.ntmps35;go_wp2_with fail;go_quiet (fail);go_wp2_with fail;have hX:0≤bits BinOp.xor IntKind.i64 (x*131+y*1117+p*29+q*53) ((x*131+y*1117+p*29+q*53)/ 64):=PM Wg Wg Wg Wg;go_ret;exact⟨MR (Int.tmod_nonneg _ hX) (Int.tmod_lt_of_pos _ Wg),HN.o.1.ext (Kp.rr.drewN _),HN.o.2.drewN _⟩
def acn(e:Ending):Prop:=∃b,e=.returned (.bool b)
theorem Wd(w:World)(rb p:Nat)(v:Value)(zs:List Int)(n:Int)(h:kJ w rb v zs p)(hp:p≤1000000)(hn:n≤1000000000)(IV: -1000000000≤n):
    Calls Tryz.prog 32 #[.pointer (some ⟨rb,0,none⟩),.int .i64 n] w fun e w'=>acn e∧kJ w' rb v zs (p+1)∧Kp (·=rb) w w':=by
 have HP:=Z3 (dJ w rb p v zs n h hp hn);clear h;go_enter Tryz.func32,Tryz.ntmps32;go_wp2_with fail;refine HP.o.mono ?_;rintro e w1 ⟨⟨k,rfl, -⟩,hR⟩;have HR:=Z3 hR;clear hR;go_wp2_with fail;go_ret;exact⟨⟨_,rfl⟩,HR.o⟩
theorem Y2(w:World)(v:Value)(zs:List Int)(h:BytesAt w v zs):
    Calls Tryz.prog 14 #[v] w fun e w'=>(∃rb v' zs',e=.returned (.pointer (some ⟨rb,0,none⟩))∧w.heap.size≤rb∧kJ w' rb v' zs' 0)∧Ext w w':=by
 obtain⟨va,vc,rfl⟩:=h.form;by_cases hl:2000<zs.length
 · rcases h with⟨-,rfl⟩|⟨a,cap,e1,dm,hc,hb⟩
   · simp at hl
   cases e1;have HB:Zs (BytesAt w (.slice (some a) 2000 vc) (zs.take 2000)):=Z3 (.inr ⟨a,vc,by rw[List.length_take,Nat.min_eq_left Wg],by rw[List.length_take];omega,fun i hi=>by
    rw[List.length_take]at hi;rw[hc i Wg];simp only[List.getD,List.getElem?_take];rw[if_pos Wg],fun n hn=>hb n (List.mem_of_mem_take hn)⟩)
   have HZ:Zs (a.block<w.heap.size):=Z3 (by have:=xM (hc 0 Wg);rwa[add_block]at this);clear hc hb;go_enter Tryz.func14,Tryz.ntmps14;go_wp2_with fail;go_ret;refine⟨⟨w.heap.size,_,zs.take 2000,rfl,Nat.le_refl _,ay.new _ _ _,HB.o.ext (Kp.rr.alloc _),fun _ a' n c e=>?_,by rw[List.length_take];omega⟩,kx⟩;cases e;have:=HZ.o;omega
 · have HB:=Z3 h;have HZ:Zs (∀a n c,Value.slice va zs.length vc=.slice (some a) n c→zs.length≠0→a.block<w.heap.size):=Z3 (fun a n c e h0=>by
    rcases h with⟨-,rfl⟩|⟨a',cap,e1,dm,hc,hb⟩
    · simp at h0
    · cases e;cases e1;have:=xM (hc 0 Wg);rwa[add_block]at this)
   clear h;go_enter Tryz.func14,Tryz.ntmps14;go_wp2_with fail;go_ret;exact⟨⟨w.heap.size,_,zs,rfl,Nat.le_refl _,ay.new _ _ _,HB.o.ext (Kp.rr.alloc _),fun h0 a n c e=>Nat.ne_of_lt (HZ.o a n c e h0),by omega⟩,kx⟩
def Ea(t k:Nat):Prop:=∃fs,Tryz.prog.underlying t=some (.struct fs)∧(Tryz.prog.info? t).map (·.size)=some k
theorem Ea.is{t k:Nat}(h:Ea t k)(w:World):(isAgg t).run Tryz.prog w=.ok true w∧(sizeOf t).run Tryz.prog w=.ok k w:=by
 obtain⟨fs,h1,h2⟩:=h;cases hq:Tryz.prog.info? t with
 |none=>rw[hq]at h2;cases h2
 |some i=>
  rw[hq]at h2;have Hn:i.size=k:=by simpa using h2
  subst Hn;constructor
  · unfold isAgg;rw[Sem.run_bind,run_underlying h1 w];simp
  · simp[sizeOf,typeInfo,hq]
theorem pI{t k:Nat}(h:Ea t k){w:World}{b o:Nat}{cs:List Value}(hc:ae w b o cs)(hl:cs.length=k):(loadVar t ⟨b,o,none⟩).run Tryz.prog w=.ok (.agg cs.toArray) w:=by
 subst hl;obtain⟨h1,h2⟩:=h.is w;have h3:=run_loadCells_list (P:=Tryz.prog) w ⟨b,o,none⟩ cs (fun j v hv=>by
  have:=hc j v hv;unfold Addr.add;split
  · rename_i h0;subst h0;simpa using this
  · exact this)
 simp[loadVar,Sem.run_bind,h1,h2,h3]
theorem aY{t k:Nat}(h:Ea t k){fn:Func}{p:Tmp}(hf:fn.results=#[.cell p t])(tmps:Array Value)(w:World)(b:Nat)(hp:tmps.getD p undef=.pointer (some ⟨b,0,none⟩))(cs:List Value)(hc:ae w b 0 cs)(hl:cs.length=k):
    (results fn tmps).run Tryz.prog w=.ok (.agg cs.toArray) w:=by
 have hp':tmps[p]?.getD undef=.pointer (some ⟨b,0,none⟩):=by simpa using hp
 simp[results,hf,hp',asAddr,pI h hc hl]
theorem au{t k:Nat}(h:Ea t k){fn:Func}{p q:Tmp}(hf:fn.results=#[.cell p t,.tmp q])(tmps:Array Value)(w:World)(b:Nat)(hp:tmps.getD p undef=.pointer (some ⟨b,0,none⟩))(cs:List Value)(hc:ae w b 0 cs)(hl:cs.length=k):
    (results fn tmps).run Tryz.prog w=.ok (.tuple #[.agg cs.toArray,tmps.getD q undef]) w:=by
 have hp':tmps[p]?.getD undef=.pointer (some ⟨b,0,none⟩):=by simpa using hp
 simp[results,hf,hp',asAddr,pI h hc hl]
theorem PY:Ea 70 2:=⟨_,Tryz.underlying70,by kernel_rfl⟩
theorem Oa:Ea 106 8:=⟨_,Tryz.underlying106,by kernel_rfl⟩
theorem Ae:Ea 94 3:=⟨_,Tryz.underlying94,by kernel_rfl⟩
theorem sD:Ea 164 5:=⟨_,Tryz.underlying164,by kernel_rfl⟩
theorem Af:Ea 38 2:=⟨_,Tryz.underlying38,by kernel_rfl⟩
theorem fG:Ea 40 6:=⟨_,Tryz.underlying40,by kernel_rfl⟩
theorem BI(w:World)(x:Int)(h0:0≤x)(h1:x<256):
    (convert 22 9 (.slice (some ⟨w.heap.size,0,none⟩) 1 1)).run Tryz.prog (w.alloc (.cells #[.int .u8 x] 5))=.ok (.string (M.bs [UInt8.ofNat x.toNat])) (w.alloc (.cells #[.int .u8 x] 5)):=by
 refine Lib.run_convert_whole (P:=Tryz.prog) _ 22 5 9 Tryz.underlying22 Tryz.underlying5 Tryz.underlying9 w.heap.size 0 (M.bs [UInt8.ofNat x.toNat]) ?_ 1;intro i hi;have hi0:i=0:=by
  have:(M.bs [UInt8.ofNat x.toNat]).size=1:=rfl;omega
 subst hi0;rw[(ay.new w 5 #[.int .u8 x]).cell];have hm:x.toNat % 256=x.toNat:=Nat.mod_eq_of_lt Wg;have hx:((x.toNat:Nat):Int)=x:=Int.toNat_of_nonneg h0;have e:(M.bs [UInt8.ofNat x.toNat])[0]=UInt8.ofNat x.toNat:=rfl;simp[e,UInt8.toNat_ofNat',hm,hx]
theorem Eh(l:List UInt8):(M.bs l).size=l.length:=by simp[M.bs,ByteArray.size]
theorem M3(n:Int)(w:World)(h0: -9223372036854775808≤n)(h1:n≤9223372036854775807):
    Calls Tryz.prog 140 #[.int .i64 n] w fun e w'=>(∃t,e=.returned (.string t)∧(0≤n→n≤2→t=M.bs (M.digit n))∧9*(t.size:Int)≤n.natAbs+18)∧Ext w w':=by
 go_enter Tryz.func140,Tryz.ntmps140;go_wp2;go_loopw [0,3] (fun i o wr=>∃(k:Int) (t:ByteArray),i=.int .i64 k∧o=.string t∧k≤n∧((k=n∧t.size=0)∨0≤k∧9*(t.size:Int)+k≤n)∧Zs (n≤2→k=n∧t=⟨#[]⟩)∧Ext w wr) (fun i _ _=>(intOf i).toNat)
 case atStart=>exact⟨n,⟨#[]⟩,rfl,rfl,Int.le_refl _,.inl ⟨rfl,rfl⟩,Z3 (fun _=>⟨rfl,rfl⟩),Kp.rr⟩
 case round=>
  obtain⟨k,t,rfl,rfl,hk,zB,HT,hE⟩:=hrel;have HE:=Z3 hE;clear hE;have ht:t.size≤1030000000000000000:=by omega
  by_cases h9:9<k
  · have c1:=BI wr (48+k % 10) Wg Wg;have hz:=Eh [UInt8.ofNat (48+k % 10).toNat];simp only[List.length_singleton]at hz;go_wp2_with fail;go_round
    case rel=>exact⟨k / 10,_,rfl,rfl,by omega,.inr ⟨by omega,by rw[ByteArray.size_append,hz];omega⟩,Z3 (fun _=>by omega),HE.o.trans (Kp.rr.alloc _)⟩
    case measure=>simp[intOf];omega
  · have c1:=BI wr ((48+k)% 256) Wg Wg;have hz:=Eh [UInt8.ofNat ((48+k)% 256).toNat];simp only[List.length_singleton]at hz;go_wp2_with fail;go_ret;refine⟨⟨_,rfl,fun g0 g2=>?_,by rw[ByteArray.size_append,hz];omega⟩,HE.o.trans (Kp.rr.alloc _)⟩;obtain⟨rfl,rfl⟩:=HT.o g2;have:k=0∨k=1∨k=2:=by omega
    rcases this with rfl|rfl|rfl<;>rfl
theorem Pw(n:Int)(w:World)(h0: -9223372036854775807≤n)(h1:n≤9223372036854775807):
    Calls Tryz.prog 117 #[.int .i64 n] w fun e w'=>(∃t,e=.returned (.string t)∧(0≤n→n≤2→t=M.bs (M.digit n))∧9*(t.size:Int)≤n.natAbs+27)∧Ext w w':=by
 by_cases h:n<0
 · have hz:(ByteArray.mk #[45]).size=1:=rfl;go_enter Tryz.func117,Tryz.ntmps117;go_wp2_with fail;refine(M3 _ _ Wg Wg).mono ?_;rintro e w1 ⟨⟨t,rfl, -,ht⟩,hE⟩;go_wp2_with fail;go_ret;exact⟨⟨_,rfl,fun g _=>by omega,by rw[ByteArray.size_append,hz];omega⟩,hE⟩
 · go_enter Tryz.func117,Tryz.ntmps117;go_wp2_with fail;refine(M3 _ _ Wg Wg).mono ?_;rintro e w1 ⟨⟨t,rfl,ht,hs⟩,hE⟩;go_wp2_with fail;go_ret;exact⟨⟨_,rfl,ht,by omega⟩,hE⟩
def PW(m:Nat)(e:Ending):Prop:=∃t:ByteArray,e=.returned (.string t)∧t.size≤m
theorem Y1(w:World)(rb p:Nat)(v:Value)(zs:List Int)(s:ByteArray)(h:kJ w rb v zs p)(hp:p≤900000)(hs:s.size≤100000000):
    Calls Tryz.prog 79 #[.pointer (some ⟨rb,0,none⟩),.string s] w fun e w'=>PW (s.size+1) e∧(∃q,q≤p+4∧kJ w' rb v zs q)∧Kp (·=rb) w w':=by
 have BA:=Z3 (dJ w rb p v zs (s.size+1) h Wg Wg);clear h;go_enter Tryz.func79,Tryz.ntmps79;go_wp2_with fail;refine BA.o.mono ?_;rintro e w1 ⟨⟨k,rfl,hk⟩,hR1,lI⟩;have qy:k≤s.size:=by omega
 have⟨K6,Ab⟩:=aJ (dJ w1 rb (p+1) v zs 256 hR1 Wg Wg) lI;clear hR1 lI hk;go_wp2_with fail;refine K6.o.mono ?_;rintro e w2 ⟨⟨c,rfl,hc⟩,DR,ag⟩;obtain⟨w3,jD⟩:∃w3,w3=w2.alloc (.cells #[.int .i64 32,.int .i64 48,.int .i64 49,.int .i64 57,.int .i64 45,.int .i64 97,.int .i64 35,.int .i64 63,.int .i64 33,.int .i64 47,.int .i64 c] 3):=⟨_,rfl⟩;have dK:Ext w2 w3:=by rw[jD];exact kx
 have gN:Zs (ay w3 w2.heap.size 3 #[.int .i64 32,.int .i64 48,.int .i64 49,.int .i64 57,.int .i64 45,.int .i64 97,.int .i64 35,.int .i64 63,.int .i64 33,.int .i64 47,.int .i64 c]):=Z3 (by rw[jD];exact ay.new _ _ _);have⟨HP3,mg⟩:=aJ (dJ w3 rb (p+1+1) v zs 11 (DR.ext dK) Wg Wg) ((Ab.o.trans ag).trans dK.any);have HZ:Zs (rb<w2.heap.size):=Z3 DR.blk.lt;have mV:=Z3 jD;clear DR ag dK jD;go_wp2_with fail;rw[←mV.o];refine HP3.o.mono ?_;rintro e w4 ⟨⟨j,rfl,hj⟩,UU,nQ⟩;have hj2:j<11:=by omega
 have BQ:=gN.o.kp nQ (by have:=HZ.o;omega);obtain⟨d,hd,hd0,Ql⟩:∃d:Int,w4.cell? ⟨w2.heap.size,j,none⟩=some (.int .i64 d)∧0≤d∧d<256:=by
  have wU:=BQ.cell j;have:j=0∨j=1∨j=2∨j=3∨j=4∨j=5∨j=6∨j=7∨j=8∨j=9∨j=10:=by omega
  rcases this with rfl|rfl|rfl|rfl|rfl|rfl|rfl|rfl|rfl|rfl|rfl
  all_goals first|exact⟨_,wU,by omega,by omega⟩|skip
 have⟨zi,zS⟩:=aJ UU (mg.o.trans nQ);have hdz:=aF hd;clear UU nQ BQ hj hc;have KV:=BI w4 d hd0 Ql;obtain⟨w5,iA⟩:∃w5,w5=w4.alloc (.cells #[.int .u8 d] 5):=⟨_,rfl⟩;have cZ:Ext w4 w5:=by rw[iA];exact kx
 have⟨HP4,oW,tN⟩:=bg (dJ w5 rb (p+1+1+1) v zs 3 (zi.o.ext cZ) Wg Wg) (zS.o.trans cZ.any) iA;clear cZ iA;go_wp2_with fail;rw[←tN.o];refine HP4.o.mono ?_;rintro e w6 ⟨⟨m,rfl,hm⟩,hR6,zV⟩;have Ee:Zs (∃q,q≤p+4∧kJ w6 rb v zs q):=Z3 ⟨_,by omega,hR6⟩;have Bg:=Z3 (oW.o.trans zV);clear hR6 zV hdz hd BA K6 HP3 HP4 KV;obtain⟨u,hu⟩:∃u,M.bs [UInt8.ofNat d.toNat]=u:=⟨_,rfl⟩;have huz:u.size=1:=by rw[←hu];rfl
 rw[hu];have z1:(s.extract 0 k).size=k:=by rw[ByteArray.size_extract];omega
 have z2:(s.extract k s.size).size=s.size - k:=by rw[ByteArray.size_extract];omega
 have z3:(s.extract (k+1) s.size).size=s.size - (k+1):=by rw[ByteArray.size_extract];omega
 have hm3:m=0∨m=1∨m=2:=by omega
 clear hm hu hd0 Ql;rcases hm3 with rfl|rfl|rfl
 · go_wp2_with fail;go_quiet (fail);go_wp2_with fail;go_ret;refine⟨⟨_,rfl,?_⟩,?_,Bg.o.drewN _⟩
   · simp only[ByteArray.size_append,huz,z1,z2,z3];omega
   · obtain⟨q,hq,hr⟩:=Ee.o;exact⟨q,hq,hr.ext (Kp.rr.drewN _)⟩
 · by_cases Yy:k<s.size
   · go_wp2_with fail;go_quiet (fail);go_wp2_with fail;go_ret;refine⟨⟨_,rfl,?_⟩,?_,Bg.o.drewN _⟩
     · simp only[ByteArray.size_append,huz,z1,z2,z3];omega
     · obtain⟨q,hq,hr⟩:=Ee.o;exact⟨q,hq,hr.ext (Kp.rr.drewN _)⟩
   · go_wp2_with fail;go_ret;exact⟨⟨_,rfl,by omega⟩,Ee.o,Bg.o⟩
 · by_cases Yy:k<s.size
   · go_wp2_with fail;go_quiet (fail);go_wp2_with fail;go_ret;refine⟨⟨_,rfl,?_⟩,?_,Bg.o.drewN _⟩
     · simp only[ByteArray.size_append,huz,z1,z2,z3];omega
     · obtain⟨q,hq,hr⟩:=Ee.o;exact⟨q,hq,hr.ext (Kp.rr.drewN _)⟩
   · go_wp2_with fail;go_ret;exact⟨⟨_,rfl,by omega⟩,Ee.o,Bg.o⟩
theorem xI{a b:ByteArray}(h:(a.toList==b.toList)=true):a=b:=by
 have h2:=beq_iff_eq.1 h;rw[ByteArray.toList_eq,ByteArray.toList_eq]at h2;exact ByteArray.ext (Array.toList_inj.1 h2)
def ada(s:ByteArray)(e:Ending):Prop:=∃n b,e=.returned (.tuple #[.int .i64 n,.bool b])∧(b=true→0≤n→n≤2→s=M.bs (M.digit n))∧ -100000≤n∧n≤100000
theorem mP(s:ByteArray)(w:World)(hs:s.size≤4000000000):
    Calls Tryz.prog 135 #[.string s] w fun e w'=>ada s e∧Ext w w':=by
 by_cases hz:s.size=0
 · go_enter Tryz.func135,Tryz.ntmps135;go_wp2_with fail;go_ret2;exact⟨⟨_,_,rfl,fun h=>by(cases h),by omega,by omega⟩,Kp.rr⟩
 by_cases hm:((s[0]'Wg).toNat:Int)=45
 · skip;by_cases hb:s.size=1∨5<s.size
   · go_enter Tryz.func135,Tryz.ntmps135;go_wp2_with fail
     all_goals (go_ret2;exact⟨⟨_,_,rfl,fun h=>by(cases h),by omega,by omega⟩,Kp.rr⟩)
   have vZ:((s.size:Int)==1)=false:=beq_eq_false_iff_ne.2 Wg;have nM:decide ((5:Int)<s.size)=false:=decide_eq_false Wg;go_enter Tryz.func135,Tryz.ntmps135;go_wp2_with fail;go_loopw [4,6] (fun n i wr=>∃(k:Nat) (x:Int) (p:Int),1≤k∧k≤s.size∧i=.int .i64 k∧n=.int .i64 x∧0≤x∧x+1≤p∧Zs (p=10 ^ (k - 1))∧Ext w wr) (fun _ i _=>s.size - (intOf i).toNat)
   case atStart=>exact⟨1,0,1,by omega,by omega,rfl,rfl,by omega,by omega,Z3 Wf,Kp.rr⟩
   case round=>
    obtain⟨k,x,p,Xf,Yy,rfl,rfl,wZ,hxp,HP,hE⟩:=hrel;have HE:=Z3 hE;clear hE;have hp:p≤10000:=by
     rw[HP.o];have h1:(10 ^ (k - 1):Nat)≤10 ^ 4:=Nat.pow_le_pow_right Wg Wg;have h2:((10 ^ (k - 1):Nat):Int)≤((10 ^ 4:Nat):Int):=Int.ofNat_le.2 h1;simpa using h2
    by_cases bY:k<s.size
    · go_wp2_with fail
      all_goals first
       |(go_ret2;exact⟨⟨_,_,rfl,fun h=>by(cases h),by omega,by omega⟩,HE.o⟩)
       |skip
      go_round
      case rel=>
       refine⟨k+1,_,p*10,by omega,by omega,by go_num,rfl,by omega,by omega,Z3 ?_,HE.o⟩;rw[HP.o,show k+1 - 1=(k - 1)+1 by omega,Int.pow_succ]
      case measure=>simp[intOf];omega
    · go_wp2_with fail;refine(Pw _ _ Wg Wg).mono ?_;rintro e w1 ⟨⟨t,rfl,ht, -⟩,bH⟩;have HT:=Z3 ht;clear ht;cases hb:(t.toList==s.toList)
      · go_wp2_with fail;go_ret2;exact⟨⟨_,_,rfl,fun h=>by(cases h),by omega,by omega⟩,HE.o.trans bH⟩
      · have HTS:=Z3 (xI hb);go_wp2_with fail;go_ret2;exact⟨⟨_,_,rfl,fun _ g0 g2=>by rw[←HTS.o];exact HT.o g0 g2,by omega,by omega⟩,HE.o.trans bH⟩
 · have Rm:(((s[0]'Wg).toNat:Int)==45)=false:=beq_eq_false_iff_ne.2 hm;by_cases hb:s.size=0∨4<s.size
   · go_enter Tryz.func135,Tryz.ntmps135;go_wp2_with fail
     all_goals (go_ret2;exact⟨⟨_,_,rfl,fun h=>by(cases h),by omega,by omega⟩,Kp.rr⟩)
   have vZ:((s.size:Int)==0)=false:=beq_eq_false_iff_ne.2 Wg;have nM:decide ((4:Int)<s.size)=false:=decide_eq_false Wg;go_enter Tryz.func135,Tryz.ntmps135;go_wp2_with fail;go_loopw [4,6] (fun n i wr=>∃(k:Nat) (x:Int) (p:Int),0≤k∧k≤s.size∧i=.int .i64 k∧n=.int .i64 x∧0≤x∧x+1≤p∧Zs (p=10 ^ (k - 0))∧Ext w wr) (fun _ i _=>s.size - (intOf i).toNat)
   case atStart=>exact⟨0,0,1,by omega,by omega,rfl,rfl,by omega,by omega,Z3 Wf,Kp.rr⟩
   case round=>
    obtain⟨k,x,p,Xf,Yy,rfl,rfl,wZ,hxp,HP,hE⟩:=hrel;have HE:=Z3 hE;clear hE;have hp:p≤10000:=by
     rw[HP.o];have h1:(10 ^ (k - 0):Nat)≤10 ^ 4:=Nat.pow_le_pow_right Wg Wg;have h2:((10 ^ (k - 0):Nat):Int)≤((10 ^ 4:Nat):Int):=Int.ofNat_le.2 h1;simpa using h2
    by_cases bY:k<s.size
    · go_wp2_with fail
      all_goals first
       |(go_ret2;exact⟨⟨_,_,rfl,fun h=>by(cases h),by omega,by omega⟩,HE.o⟩)
       |skip
      go_round
      case rel=>
       refine⟨k+1,_,p*10,by omega,by omega,by go_num,rfl,by omega,by omega,Z3 ?_,HE.o⟩;rw[HP.o,show k+1 - 0=(k - 0)+1 by omega,Int.pow_succ]
      case measure=>simp[intOf];omega
    · go_wp2_with fail;refine(Pw _ _ Wg Wg).mono ?_;rintro e w1 ⟨⟨t,rfl,ht, -⟩,bH⟩;have HT:=Z3 ht;clear ht;cases hb:(t.toList==s.toList)
      · go_wp2_with fail;go_ret2;exact⟨⟨_,_,rfl,fun h=>by(cases h),by omega,by omega⟩,HE.o.trans bH⟩
      · have HTS:=Z3 (xI hb);go_wp2_with fail;go_ret2;exact⟨⟨_,_,rfl,fun _ g0 g2=>by rw[←HTS.o];exact HT.o g0 g2,by omega,by omega⟩,HE.o.trans bH⟩
end Go.Proofs.YtkmclfpjpajjeaaGreat
namespace Go.Proofs.YtkmclfpjpajjeaaGreat.M
structure kI where
 of:Ref
 at_:Int
def jU(p:ax)(n:ByteArray):List Ref→Option kI
 |[]=>none
 |c::r=>match lM (cls p c) n with
  |some i=>some ⟨c,i⟩
  |none=>jU p n r
def pick(p:ax)(r:Ref)(n:ByteArray):Option kI:=if bu p r then jU p n (chain p r)else none
def aS(p:ax)(k:Int)(n m:ByteArray):Ref×Int:=
 if has p k&&aT n&&aT m then
  (if(find p k n).2=1 then(if bu p (find p k n).1 then((find p k n).1,1)else(qg,4))else(qg,2))
 else(qg,2)
end Go.Proofs.YtkmclfpjpajjeaaGreat.M
